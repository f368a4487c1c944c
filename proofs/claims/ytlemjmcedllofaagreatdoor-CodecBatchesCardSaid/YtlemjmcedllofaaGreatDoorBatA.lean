/- Helpers for the proof: no statement of its own. -/
import Derived.Test.YtlemjmcedllofaaGreatDoorNumB
import Derived.Test.YtlemjmcedllofaaGreatDoorVseB
import Derived.Test.YtlemjmcedllofaaGreatDoorBack
set_option linter.unusedVariables false
set_option linter.unusedSimpArgs false
set_option linter.unnecessarySimpa false
set_option linter.deprecated false
set_option maxRecDepth 100000
namespace Go.Vse
open Go.Proofs

/-! ### Reports and exchanges -/
structure Rep where
  a : Int
  b : Int
  c : Int
  d : Int
  e : Int
  f : Int
  g : Int
  k : Bool
instance : Inhabited Rep := ⟨⟨0, 0, 0, 0, 0, 0, 0, false⟩⟩
def Rep.iv (r : Rep) : List IV := [.v (.int .i64 r.a), .v (.int .i64 r.b), .v (.int .i64 r.c), .v (.int .i64 r.d), .v (.int .i64 r.e), .v (.int .i64 r.f), .v (.int .i64 r.g), .v (.bool r.k)]
def Rep.ok (r : Rep) : Bool := rangeB r.a && rangeB r.b && rangeB r.c && rangeB r.d && rangeB r.e && rangeB r.f && rangeB r.g
def repOf : List IV → Rep
  | [.v (.int _ a), .v (.int _ b), .v (.int _ c), .v (.int _ d), .v (.int _ e), .v (.int _ f), .v (.int _ g), .v (.bool k)] => ⟨a, b, c, d, e, f, g, k⟩
  | _ => ⟨0, 0, 0, 0, 0, 0, 0, false⟩
def isRep : List IV → Bool
  | [.v (.int .i64 a), .v (.int .i64 b), .v (.int .i64 c), .v (.int .i64 d), .v (.int .i64 e), .v (.int .i64 f), .v (.int .i64 g), .v (.bool k)] => rangeB a && rangeB b && rangeB c && rangeB d && rangeB e && rangeB f && rangeB g
  | _ => false
def flag (k : Bool) : Int := bif k then 1 else 0
def Rep.bytes (r : Rep) : List UInt8 := leb (zig r.a) ++ leb (zig r.b) ++ leb (zig r.c) ++ leb (zig r.d) ++ leb (zig r.e) ++ leb (zig r.f) ++ leb (zig r.g) ++ leb (zig (flag r.k))
structure Exc where
  a : Int
  b : Int
  c : Int
  d : Int
  e : Int
instance : Inhabited Exc := ⟨⟨0, 0, 0, 0, 0⟩⟩
def Exc.iv (r : Exc) : List IV := [.v (.int .i64 r.a), .v (.int .i64 r.b), .v (.int .i64 r.c), .v (.int .i64 r.d), .v (.int .i64 r.e)]
def Exc.ok (r : Exc) : Bool := rangeB r.a && rangeB r.b && rangeB r.c && rangeB r.d && rangeB r.e
def excOf : List IV → Exc
  | [.v (.int _ a), .v (.int _ b), .v (.int _ c), .v (.int _ d), .v (.int _ e)] => ⟨a, b, c, d, e⟩
  | _ => ⟨0, 0, 0, 0, 0⟩
def isExc : List IV → Bool
  | [.v (.int .i64 a), .v (.int .i64 b), .v (.int .i64 c), .v (.int .i64 d), .v (.int .i64 e)] => rangeB a && rangeB b && rangeB c && rangeB d && rangeB e
  | _ => false
def Exc.bytes (r : Exc) : List UInt8 := leb (zig r.a) ++ leb (zig r.b) ++ leb (zig r.c) ++ leb (zig r.d) ++ leb (zig r.e)

theorem isRep_iv {l : List IV} (h : isRep l = true) : l = (repOf l).iv ∧ (repOf l).ok = true := by
  unfold isRep at h
  split at h
  · exact ⟨rfl, h⟩
  · cases h
theorem isExc_iv {l : List IV} (h : isExc l = true) : l = (excOf l).iv ∧ (excOf l).ok = true := by
  unfold isExc at h
  split at h
  · exact ⟨rfl, h⟩
  · cases h
theorem isRep_mk {r : Rep} (h : r.ok = true) : isRep r.iv = true := h
theorem isExc_mk {r : Exc} (h : r.ok = true) : isExc r.iv = true := h
theorem repOf_iv (r : Rep) : repOf r.iv = r := rfl
theorem excOf_iv (r : Exc) : excOf r.iv = r := rfl

/-- rows of them -/
def repEl (l : List Rep) : Nat → List IV := fun k => (l.getD k default).iv
def excEl (l : List Exc) : Nat → List IV := fun k => (l.getD k default).iv
def repsOf (n : Nat) (el : Nat → List IV) : List Rep := (List.range n).map fun k => repOf (el k)
def excsOf (n : Nat) (el : Nat → List IV) : List Exc := (List.range n).map fun k => excOf (el k)
def isReps (n : Nat) (el : Nat → List IV) : Bool := (List.range n).all fun k => isRep (el k)
def isExcs (n : Nat) (el : Nat → List IV) : Bool := (List.range n).all fun k => isExc (el k)
def repsB (l : List Rep) : List UInt8 := l.flatMap Rep.bytes
def excsB (l : List Exc) : List UInt8 := l.flatMap Exc.bytes
def repsOk (l : List Rep) : Bool := l.all Rep.ok
def excsOk (l : List Exc) : Bool := l.all Exc.ok

theorem repsOf_len (n : Nat) (el : Nat → List IV) : (repsOf n el).length = n := by simp [repsOf]
theorem excsOf_len (n : Nat) (el : Nat → List IV) : (excsOf n el).length = n := by simp [excsOf]
theorem isReps_el {n : Nat} {el : Nat → List IV} (h : isReps n el = true) : (∀ k, k < n → el k = repEl (repsOf n el) k) ∧ repsOk (repsOf n el) = true := by
  have h1 := List.all_eq_true.1 h
  refine ⟨fun k hk => ?_, List.all_eq_true.2 fun r hr => ?_⟩
  · have := (isRep_iv (h1 k (List.mem_range.2 hk))).1
    have e : (repsOf n el).getD k default = repOf (el k) := by simp [repsOf, List.getD_eq_getElem?_getD, hk]
    unfold repEl
    rw [e]; exact this
  · unfold repsOf at hr
    obtain ⟨k, hk, rfl⟩ := List.mem_map.1 hr
    exact (isRep_iv (h1 k hk)).2
theorem isExcs_el {n : Nat} {el : Nat → List IV} (h : isExcs n el = true) : (∀ k, k < n → el k = excEl (excsOf n el) k) ∧ excsOk (excsOf n el) = true := by
  have h1 := List.all_eq_true.1 h
  refine ⟨fun k hk => ?_, List.all_eq_true.2 fun r hr => ?_⟩
  · have := (isExc_iv (h1 k (List.mem_range.2 hk))).1
    have e : (excsOf n el).getD k default = excOf (el k) := by simp [excsOf, List.getD_eq_getElem?_getD, hk]
    unfold excEl
    rw [e]; exact this
  · unfold excsOf at hr
    obtain ⟨k, hk, rfl⟩ := List.mem_map.1 hr
    exact (isExc_iv (h1 k hk)).2
theorem repsOf_el (l : List Rep) : repsOf l.length (repEl l) = l := by
  apply List.ext_getElem
  · simp [repsOf]
  · intro i h1 h2
    simp only [repsOf, repEl, List.getElem_map, List.getElem_range, repOf_iv]
    simp [List.getD_eq_getElem?_getD, h2]
theorem excsOf_el (l : List Exc) : excsOf l.length (excEl l) = l := by
  apply List.ext_getElem
  · simp [excsOf]
  · intro i h1 h2
    simp only [excsOf, excEl, List.getElem_map, List.getElem_range, excOf_iv]
    simp [List.getD_eq_getElem?_getD, h2]
theorem getD_ok {l : List Rep} (h : repsOk l = true) {k : Nat} (hk : k < l.length) : (l.getD k default).ok = true := by
  have := List.all_eq_true.1 h (l.getD k default) (by simp [List.getD_eq_getElem?_getD, hk])
  exact this
theorem getD_okE {l : List Exc} (h : excsOk l = true) {k : Nat} (hk : k < l.length) : (l.getD k default).ok = true := by
  have := List.all_eq_true.1 h (l.getD k default) (by simp [List.getD_eq_getElem?_getD, hk])
  exact this
theorem isReps_mk {l : List Rep} (h : repsOk l = true) : isReps l.length (repEl l) = true :=
  List.all_eq_true.2 fun k hk => isRep_mk (getD_ok h (List.mem_range.1 hk))
theorem isExcs_mk {l : List Exc} (h : excsOk l = true) : isExcs l.length (excEl l) = true :=
  List.all_eq_true.2 fun k hk => isExc_mk (getD_okE h (List.mem_range.1 hk))

theorem leb_len10 (u : Nat) : (leb u).length ≤ 11 := by
  unfold leb
  have := lebInit_len 10 u
  simp
  omega
theorem leb_pos (u : Nat) : 1 ≤ (leb u).length := by
  unfold leb
  simp
theorem repB_len (r : Rep) : r.bytes.length ≤ 88 ∧ 8 ≤ r.bytes.length := by
  have := leb_len10 (zig r.a); have := leb_len10 (zig r.b); have := leb_len10 (zig r.c); have := leb_len10 (zig r.d)
  have := leb_len10 (zig r.e); have := leb_len10 (zig r.f); have := leb_len10 (zig r.g); have := leb_len10 (zig (flag r.k))
  have := leb_pos (zig r.a); have := leb_pos (zig r.b); have := leb_pos (zig r.c); have := leb_pos (zig r.d)
  have := leb_pos (zig r.e); have := leb_pos (zig r.f); have := leb_pos (zig r.g); have := leb_pos (zig (flag r.k))
  simp only [Rep.bytes, List.length_append]
  omega
theorem excB_len (r : Exc) : r.bytes.length ≤ 55 ∧ 5 ≤ r.bytes.length := by
  have := leb_len10 (zig r.a); have := leb_len10 (zig r.b); have := leb_len10 (zig r.c); have := leb_len10 (zig r.d)
  have := leb_len10 (zig r.e)
  have := leb_pos (zig r.a); have := leb_pos (zig r.b); have := leb_pos (zig r.c); have := leb_pos (zig r.d)
  have := leb_pos (zig r.e)
  simp only [Exc.bytes, List.length_append]
  omega
theorem repsB_len (l : List Rep) : (repsB l).length ≤ 88 * l.length ∧ 8 * l.length ≤ (repsB l).length := by
  induction l with
  | nil => simp [repsB]
  | cons r l ih =>
    have := repB_len r
    simp only [repsB, List.flatMap_cons, List.length_append, List.length_cons] at ih ⊢
    omega
theorem excsB_len (l : List Exc) : (excsB l).length ≤ 55 * l.length ∧ 5 * l.length ≤ (excsB l).length := by
  induction l with
  | nil => simp [excsB]
  | cons r l ih =>
    have := excB_len r
    simp only [excsB, List.flatMap_cons, List.length_append, List.length_cons] at ih ⊢
    omega

/-! ### writing -/
def K19 : MSpec
  | [some (.cells [.msl 1 m 1] 43), some (.arr m' 1 el 5)], [.ptr 0 0, .c (.v (.bool b))] => some { wOut2 (bytesOf m el ++ leb (zig (flag b))) with conds := [decide (m = m'), isBytes m el, decide (m ≤ 1099511627776)] }
  | _, _ => none
def K18 : MSpec
  | [some (.cells [.msl 1 m 1] 43), some (.arr m' 1 el 5)], [.agg [.c (.v (.int .i64 a)), .c (.v (.int .i64 b)), .c (.v (.int .i64 c)), .c (.v (.int .i64 d)), .c (.v (.int .i64 e)), .c (.v (.int .i64 f)), .c (.v (.int .i64 g)), .c (.v (.bool k))], .ptr 0 0] =>
    some { wOut2 (bytesOf m el ++ (Rep.mk a b c d e f g k).bytes) with conds := [(Rep.mk a b c d e f g k).ok, decide (m = m'), isBytes m el, decide (m ≤ 1099511627000)] }
  | _, _ => none
def K21 : MSpec
  | [some (.cells [.msl 1 m 1] 43), some (.arr m' 1 el 5)], [.agg [.c (.v (.int .i64 a)), .c (.v (.int .i64 b)), .c (.v (.int .i64 c)), .c (.v (.int .i64 d)), .c (.v (.int .i64 e))], .ptr 0 0] =>
    some { wOut2 (bytesOf m el ++ (Exc.mk a b c d e).bytes) with conds := [(Exc.mk a b c d e).ok, decide (m = m'), isBytes m el, decide (m ≤ 1099511627000)] }
  | _, _ => none
/-- the buffer before: a writer with bytes in it -/
def went (l : List UInt8) : List (Option Ent) := [some (.cells [.msl 1 l.length 1] 43), some (.arr l.length 1 (byteEl l) 5)]
def Γ13 : FuncId → Option Spec := fun f => bif Nat.beq f 13 then some (memSpec K13) else none
def Γ18 : FuncId → Option Spec := fun f => bif Nat.beq f 13 then some (memSpec K13) else bif Nat.beq f 19 then some (memSpec K19) else none
end Go.Vse

set_option maxRecDepth 100000
namespace Go.Vse
open Go.Proofs
def M19 (l : List UInt8) (b : Bool) : Tr MemOut :=
let x1 : List UInt8 := bytesOf l.length (byteEl l)
let x2 : List UInt8 := x1 ++ leb (zig 1)
let x3 : Nat := x2.length
let x4 : List (Option Ent) := [none]
let x5 : List UInt8 := x1 ++ leb (zig 0)
let x6 : Nat := x5.length
Tr.ite b
  (Tr.need true
    (Tr.need (decide (l.length = l.length))
      (Tr.need (isBytes l.length (byteEl l))
        (Tr.need (decide (l.length ≤ 1099511627776))
          (Tr.ret { val := AV.tup [], outs := some (Ent.cells [AV.msl 2 x3 1] 43) :: x4, new := some (Ent.arr x3 1 (byteEl x2) 5) })))))
  (Tr.need true
    (Tr.need (decide (l.length = l.length))
      (Tr.need (isBytes l.length (byteEl l))
        (Tr.need (decide (l.length ≤ 1099511627776))
          (Tr.ret { val := AV.tup [], outs := some (Ent.cells [AV.msl 2 x6 1] 43) :: x4, new := some (Ent.arr x6 1 (byteEl x5) 5) })))))
def M18 (l : List UInt8) (r : Rep) : Tr MemOut :=
let x1 : List UInt8 := bytesOf l.length (byteEl l)
let x2 : List UInt8 := x1 ++ leb (zig r.a)
let x3 : Nat := x2.length
let x4 : List UInt8 := bytesOf x3 (byteEl x2)
let x5 : List UInt8 := x4 ++ leb (zig r.b)
let x6 : Nat := x5.length
let x7 : List UInt8 := bytesOf x6 (byteEl x5)
let x8 : List UInt8 := x7 ++ leb (zig r.c)
let x9 : Nat := x8.length
let x10 : List UInt8 := bytesOf x9 (byteEl x8)
let x11 : List UInt8 := x10 ++ leb (zig r.d)
let x12 : Nat := x11.length
let x13 : List UInt8 := bytesOf x12 (byteEl x11)
let x14 : List UInt8 := x13 ++ leb (zig r.e)
let x15 : Nat := x14.length
let x16 : List UInt8 := bytesOf x15 (byteEl x14)
let x17 : List UInt8 := x16 ++ leb (zig r.f)
let x18 : Nat := x17.length
let x19 : List UInt8 := bytesOf x18 (byteEl x17)
let x20 : List UInt8 := x19 ++ leb (zig r.g)
let x21 : Nat := x20.length
let x22 : List UInt8 := leb (zig (flag r.k))
let x23 : List UInt8 := bytesOf x21 (byteEl x20) ++ x22
let x24 : Nat := x23.length
let x25 : List (Option Ent) := [none]
let x26 : List UInt8 := x19 ++ x22
let x27 : Nat := x26.length
let x28 : List UInt8 := x16 ++ x22
let x29 : Nat := x28.length
let x30 : List UInt8 := x13 ++ x22
let x31 : Nat := x30.length
let x32 : List UInt8 := x10 ++ x22
let x33 : Nat := x32.length
let x34 : List UInt8 := x7 ++ x22
let x35 : Nat := x34.length
let x36 : List UInt8 := x4 ++ x22
let x37 : Nat := x36.length
let x38 : List UInt8 := x1 ++ x22
let x39 : Nat := x38.length
Tr.ite true
  (Tr.need true
    (Tr.need true
      (Tr.need (rangeB r.a)
        (Tr.need (decide (l.length = l.length))
          (Tr.need (isBytes l.length (byteEl l))
            (Tr.need (decide (l.length ≤ 1099511627776))
              (Tr.ite true
                (Tr.need true
                  (Tr.need true
                    (Tr.need (rangeB r.b)
                      (Tr.need (decide (x3 = x3))
                        (Tr.need (isBytes x3 (byteEl x2))
                          (Tr.need (decide (x3 ≤ 1099511627776))
                            (Tr.ite true
                              (Tr.need true
                                (Tr.need true
                                  (Tr.need (rangeB r.c)
                                    (Tr.need (decide (x6 = x6))
                                      (Tr.need (isBytes x6 (byteEl x5))
                                        (Tr.need (decide (x6 ≤ 1099511627776))
                                          (Tr.ite true
                                            (Tr.need true
                                              (Tr.need true
                                                (Tr.need (rangeB r.d)
                                                  (Tr.need (decide (x9 = x9))
                                                    (Tr.need (isBytes x9 (byteEl x8))
                                                      (Tr.need (decide (x9 ≤ 1099511627776))
                                                        (Tr.ite true
                                                          (Tr.need true
                                                            (Tr.need true
                                                              (Tr.need (rangeB r.e)
                                                                (Tr.need (decide (x12 = x12))
                                                                  (Tr.need (isBytes x12 (byteEl x11))
                                                                    (Tr.need (decide (x12 ≤ 1099511627776))
                                                                      (Tr.ite true
                                                                        (Tr.need true
                                                                          (Tr.need true
                                                                            (Tr.need (rangeB r.f)
                                                                              (Tr.need (decide (x15 = x15))
                                                                                (Tr.need (isBytes x15 (byteEl x14))
                                                                                  (Tr.need (decide (x15 ≤ 1099511627776))
                                                                                    (Tr.ite true
                                                                                      (Tr.need true
                                                                                        (Tr.need true
                                                                                          (Tr.need (rangeB r.g)
                                                                                            (Tr.need (decide (x18 = x18))
                                                                                              (Tr.need (isBytes x18 (byteEl x17))
                                                                                                (Tr.need (decide (x18 ≤ 1099511627776))
                                                                                                  (Tr.ite false (Tr.need false (Tr.fail "codec.go:424"))
                                                                                                    (Tr.need (decide (x21 = x21))
                                                                                                      (Tr.need (isBytes x21 (byteEl x20))
                                                                                                        (Tr.need (decide (x21 ≤ 1099511627776))
                                                                                                          (Tr.ret
                                                                                                            { val := AV.tup [],
                                                                                                              outs :=
                                                                                                                some (Ent.cells [AV.msl 2 x24 1] 43) :: x25,
                                                                                                              new :=
                                                                                                                some (Ent.arr x24 1 (byteEl x23) 5) })))))))))))
                                                                                      (Tr.need (decide (x18 = x18))
                                                                                        (Tr.need (isBytes x18 (byteEl x17))
                                                                                          (Tr.need (decide (x18 ≤ 1099511627776))
                                                                                            (Tr.ret
                                                                                              { val := AV.tup [],
                                                                                                outs := some (Ent.cells [AV.msl 2 x27 1] 43) :: x25,
                                                                                                new := some (Ent.arr x27 1 (byteEl x26) 5) })))))))))))
                                                                        (Tr.need (decide (x15 = x15))
                                                                          (Tr.need (isBytes x15 (byteEl x14))
                                                                            (Tr.need (decide (x15 ≤ 1099511627776))
                                                                              (Tr.ret
                                                                                { val := AV.tup [], outs := some (Ent.cells [AV.msl 2 x29 1] 43) :: x25,
                                                                                  new := some (Ent.arr x29 1 (byteEl x28) 5) })))))))))))
                                                          (Tr.need (decide (x12 = x12))
                                                            (Tr.need (isBytes x12 (byteEl x11))
                                                              (Tr.need (decide (x12 ≤ 1099511627776))
                                                                (Tr.ret
                                                                  { val := AV.tup [], outs := some (Ent.cells [AV.msl 2 x31 1] 43) :: x25,
                                                                    new := some (Ent.arr x31 1 (byteEl x30) 5) })))))))))))
                                            (Tr.need (decide (x9 = x9))
                                              (Tr.need (isBytes x9 (byteEl x8))
                                                (Tr.need (decide (x9 ≤ 1099511627776))
                                                  (Tr.ret
                                                    { val := AV.tup [], outs := some (Ent.cells [AV.msl 2 x33 1] 43) :: x25,
                                                      new := some (Ent.arr x33 1 (byteEl x32) 5) })))))))))))
                              (Tr.need (decide (x6 = x6))
                                (Tr.need (isBytes x6 (byteEl x5))
                                  (Tr.need (decide (x6 ≤ 1099511627776))
                                    (Tr.ret
                                      { val := AV.tup [], outs := some (Ent.cells [AV.msl 2 x35 1] 43) :: x25,
                                        new := some (Ent.arr x35 1 (byteEl x34) 5) })))))))))))
                (Tr.need (decide (x3 = x3))
                  (Tr.need (isBytes x3 (byteEl x2))
                    (Tr.need (decide (x3 ≤ 1099511627776))
                      (Tr.ret { val := AV.tup [], outs := some (Ent.cells [AV.msl 2 x37 1] 43) :: x25, new := some (Ent.arr x37 1 (byteEl x36) 5) })))))))))))
  (Tr.need (decide (l.length = l.length))
    (Tr.need (isBytes l.length (byteEl l))
      (Tr.need (decide (l.length ≤ 1099511627776))
        (Tr.ret { val := AV.tup [], outs := some (Ent.cells [AV.msl 2 x39 1] 43) :: x25, new := some (Ent.arr x39 1 (byteEl x38) 5) }))))
def M21 (l : List UInt8) (r : Exc) : Tr MemOut :=
let x1 : List UInt8 := bytesOf l.length (byteEl l) ++ leb (zig r.a)
let x2 : Nat := x1.length
let x3 : List UInt8 := bytesOf x2 (byteEl x1) ++ leb (zig r.b)
let x4 : Nat := x3.length
let x5 : List UInt8 := bytesOf x4 (byteEl x3) ++ leb (zig r.c)
let x6 : Nat := x5.length
let x7 : List UInt8 := bytesOf x6 (byteEl x5) ++ leb (zig r.d)
let x8 : Nat := x7.length
let x9 : List UInt8 := bytesOf x8 (byteEl x7) ++ leb (zig r.e)
let x10 : Nat := x9.length
let x11 : List (Option Ent) := [none]
Tr.ite true
  (Tr.need true
    (Tr.need true
      (Tr.need (rangeB r.a)
        (Tr.need (decide (l.length = l.length))
          (Tr.need (isBytes l.length (byteEl l))
            (Tr.need (decide (l.length ≤ 1099511627776))
              (Tr.ite true
                (Tr.need true
                  (Tr.need true
                    (Tr.need (rangeB r.b)
                      (Tr.need (decide (x2 = x2))
                        (Tr.need (isBytes x2 (byteEl x1))
                          (Tr.need (decide (x2 ≤ 1099511627776))
                            (Tr.ite true
                              (Tr.need true
                                (Tr.need true
                                  (Tr.need (rangeB r.c)
                                    (Tr.need (decide (x4 = x4))
                                      (Tr.need (isBytes x4 (byteEl x3))
                                        (Tr.need (decide (x4 ≤ 1099511627776))
                                          (Tr.ite true
                                            (Tr.need true
                                              (Tr.need true
                                                (Tr.need (rangeB r.d)
                                                  (Tr.need (decide (x6 = x6))
                                                    (Tr.need (isBytes x6 (byteEl x5))
                                                      (Tr.need (decide (x6 ≤ 1099511627776))
                                                        (Tr.ite true
                                                          (Tr.need true
                                                            (Tr.need true
                                                              (Tr.need (rangeB r.e)
                                                                (Tr.need (decide (x8 = x8))
                                                                  (Tr.need (isBytes x8 (byteEl x7))
                                                                    (Tr.need (decide (x8 ≤ 1099511627776))
                                                                      (Tr.ite false (Tr.need false (Tr.fail "codec.go:430"))
                                                                        (Tr.ret
                                                                          { val := AV.tup [], outs := some (Ent.cells [AV.msl 2 x10 1] 43) :: x11,
                                                                            new := some (Ent.arr x10 1 (byteEl x9) 5) }))))))))
                                                          (Tr.ret
                                                            { val := AV.tup [], outs := some (Ent.cells [AV.msl 2 x8 1] 43) :: x11,
                                                              new := some (Ent.arr x8 1 (byteEl x7) 5) }))))))))
                                            (Tr.ret
                                              { val := AV.tup [], outs := some (Ent.cells [AV.msl 2 x6 1] 43) :: x11,
                                                new := some (Ent.arr x6 1 (byteEl x5) 5) }))))))))
                              (Tr.ret { val := AV.tup [], outs := some (Ent.cells [AV.msl 2 x4 1] 43) :: x11, new := some (Ent.arr x4 1 (byteEl x3) 5) }))))))))
                (Tr.ret { val := AV.tup [], outs := some (Ent.cells [AV.msl 2 x2 1] 43) :: x11, new := some (Ent.arr x2 1 (byteEl x1) 5) }))))))))
  (Tr.ret { val := AV.tup [], outs := [some (Ent.cells [AV.msl 1 l.length 1] 43), some (Ent.arr l.length 1 (byteEl l) 5)] })

theorem M19_eq (l : List UInt8) (b : Bool) : execM Tryz.prog Γ13 noL 1010 false Tryz.f19 (went l) [.ptr 0 0, boolA b] = M19 l b := by kernel_rfl
theorem M18_eq (l : List UInt8) (r : Rep) : execM Tryz.prog Γ18 noL 1008 false Tryz.f18 (went l) [.agg (r.iv.map .c), .ptr 0 0] = M18 l r := by kernel_rfl
theorem M21_eq (l : List UInt8) (r : Exc) : execM Tryz.prog Γ13 noL 1006 false Tryz.f21 (went l) [.agg (r.iv.map .c), .ptr 0 0] = M21 l r := by kernel_rfl

theorem M18_eq' (l : List UInt8) (a b c d e f g : Int) (k : Bool) : execM Tryz.prog Γ18 noL 1008 false Tryz.f18 (went l) [.agg [.c (.v (.int .i64 a)), .c (.v (.int .i64 b)), .c (.v (.int .i64 c)), .c (.v (.int .i64 d)), .c (.v (.int .i64 e)), .c (.v (.int .i64 f)), .c (.v (.int .i64 g)), .c (.v (.bool k))], .ptr 0 0] = M18 l ⟨a, b, c, d, e, f, g, k⟩ := M18_eq l ⟨a, b, c, d, e, f, g, k⟩
theorem M21_eq' (l : List UInt8) (a b c d e : Int) : execM Tryz.prog Γ13 noL 1006 false Tryz.f21 (went l) [.agg [.c (.v (.int .i64 a)), .c (.v (.int .i64 b)), .c (.v (.int .i64 c)), .c (.v (.int .i64 d)), .c (.v (.int .i64 e))], .ptr 0 0] = M21 l ⟨a, b, c, d, e⟩ := M21_eq l ⟨a, b, c, d, e⟩
/-- what is left of a call, by its result -/
def Out (o : MemOut) (p : MemOut) : Prop := Sees p.val o.val ∧ EntsEqv (p.outs ++ [p.new]) (o.outs ++ [o.new])
theorem Out.refl (o : MemOut) : Out o o := ⟨Sees.refl _, EntsEqv.refl _⟩
theorem Out.of_eq {o p : MemOut} (h : p = o) : Out o p := h ▸ Out.refl _

theorem M19_sat (l : List UInt8) (b : Bool) (hl : l.length ≤ 1099511627776) : (M19 l b).sat (Out (wOut2 (l ++ leb (zig (flag b))))) := by
  unfold M19
  simp only [bytesOf_byteEl]
  refine sat_ite (fun h => ?_) (fun h => ?_)
  · subst h
    exact sat_need rfl (sat_need (by simp) (sat_need (isBytes_byteEl _ _) (sat_need (decide_eq_true hl) (sat_ret (Out.refl _)))))
  · subst h
    exact sat_need rfl (sat_need (by simp) (sat_need (isBytes_byteEl _ _) (sat_need (decide_eq_true hl) (sat_ret (Out.refl _)))))

theorem M18_sat (l : List UInt8) (r : Rep) (hr : r.ok = true) (hl : l.length ≤ 1099511627000) : (M18 l r).sat (Out (wOut2 (l ++ r.bytes))) := by
  have h1 := leb_len10 (zig r.a); have h2 := leb_len10 (zig r.b); have h3 := leb_len10 (zig r.c); have h4 := leb_len10 (zig r.d)
  have h5 := leb_len10 (zig r.e); have h6 := leb_len10 (zig r.f); have h7 := leb_len10 (zig r.g)
  simp only [Rep.ok, Bool.and_eq_true] at hr
  obtain ⟨⟨⟨⟨⟨⟨ra, rb⟩, rc⟩, rd⟩, re⟩, rf⟩, rg⟩ := hr
  unfold M18
  simp only [bytesOf_byteEl]
  repeat
    first
      | refine sat_need (by first | rfl | exact isBytes_byteEl _ _ | (simp; done) | assumption | (apply decide_eq_true; (try simp only [List.length_append]); omega)) ?_
      | refine sat_ite (fun _ => ?_) (fun h => Bool.noConfusion h)
      | refine sat_ite (fun h => Bool.noConfusion h) (fun _ => ?_)
  refine sat_ret (Out.of_eq ?_)
  simp only [wOut2, Rep.bytes, List.append_assoc]
theorem M21_sat (l : List UInt8) (r : Exc) (hr : r.ok = true) (hl : l.length ≤ 1099511627000) : (M21 l r).sat (Out (wOut2 (l ++ r.bytes))) := by
  have h1 := leb_len10 (zig r.a); have h2 := leb_len10 (zig r.b); have h3 := leb_len10 (zig r.c); have h4 := leb_len10 (zig r.d)
  have h5 := leb_len10 (zig r.e)
  simp only [Exc.ok, Bool.and_eq_true] at hr
  obtain ⟨⟨⟨⟨ra, rb⟩, rc⟩, rd⟩, re⟩ := hr
  unfold M21
  simp only [bytesOf_byteEl]
  repeat
    first
      | refine sat_need (by first | rfl | exact isBytes_byteEl _ _ | (simp; done) | assumption | (apply decide_eq_true; (try simp only [List.length_append]); omega)) ?_
      | refine sat_ite (fun _ => ?_) (fun h => Bool.noConfusion h)
      | refine sat_ite (fun h => Bool.noConfusion h) (fun _ => ?_)
  refine sat_ret (Out.of_eq ?_)
  simp only [wOut2, Exc.bytes, List.append_assoc]

theorem went_eqv {m m' : Nat} {el : Nat → List IV} (h : m = m') (hb : isBytes m el = true) : EntsEqv [some (.cells [.msl 1 m 1] 43), some (.arr m' 1 el 5)] (went (bytesOf m el)) := by
  subst h
  unfold went
  rw [bytesOf_len]
  exact .cons (.refl _) (.cons (.arr _ _ _ _ _ (byteEl_of_bytes hb)) .nil)

theorem Γ13_ok : ∀ f s, Γ13 f = some s → SpecOk Tryz.prog f s := one_ok f13_ok.spec
theorem f19_ok : MemOk Tryz.prog 19 K19 := by
  refine memOk_of_exec_c (L := fun _ => noL) prog_mixed Γ13_ok (fn := Tryz.f19) (c := codeOf Tryz.f19) (by kernel_rfl) (by kernel_rfl) (callFunc_enter (fn := Tryz.f19) (c := codeOf Tryz.f19) (by kernel_rfl) (by kernel_rfl) (by kernel_rfl)) (N := 1010) (frz := false) (fun ents args o _ => blocksOk_none _ _) ?_
  intro ents args o h hc
  unfold K19 at h
  split at h
  · rename_i m m' el b
    cases h
    have h1 : m = m' := dec (hc (decide (m = m')) (by simp))
    have h2 : isBytes m el = true := hc (isBytes m el) (by simp)
    have h3 : m ≤ 1099511627776 := dec (hc (decide (m ≤ 1099511627776)) (by simp))
    refine ⟨_, _, went_eqv h1 h2, SeesL.refl _, ?_⟩
    have hs := M19_sat (bytesOf m el) b (by rw [bytesOf_len]; exact h3)
    rw [← M19_eq] at hs
    exact Tr.sat_mono (fun _ ho => ho) hs
  · cases h
theorem Γ18_ok : ∀ f s, Γ18 f = some s → SpecOk Tryz.prog f s := by
  intro f s h
  unfold Γ18 at h
  cases h1 : Nat.beq f 13 with
  | true =>
    obtain rfl : f = 13 := by simpa using h1
    rw [h1] at h; cases h; exact f13_ok.spec
  | false =>
    rw [h1] at h
    exact one_ok f19_ok.spec f s h
theorem f18_ok : MemOk Tryz.prog 18 K18 := by
  refine memOk_of_exec_c (L := fun _ => noL) prog_mixed Γ18_ok (fn := Tryz.f18) (c := codeOf Tryz.f18) (by kernel_rfl) (by kernel_rfl) (callFunc_enter (fn := Tryz.f18) (c := codeOf Tryz.f18) (by kernel_rfl) (by kernel_rfl) (by kernel_rfl)) (N := 1008) (frz := false) (fun ents args o _ => blocksOk_none _ _) ?_
  intro ents args o h hc
  unfold K18 at h
  split at h
  · rename_i m m' el a b c d e f g k
    cases h
    have h0 : (Rep.mk a b c d e f g k).ok = true := hc (Rep.mk a b c d e f g k).ok (by simp)
    have h1 : m = m' := dec (hc (decide (m = m')) (by simp))
    have h2 : isBytes m el = true := hc (isBytes m el) (by simp)
    have h3 : m ≤ 1099511627000 := dec (hc (decide (m ≤ 1099511627000)) (by simp))
    refine ⟨_, _, went_eqv h1 h2, SeesL.refl _, ?_⟩
    have hs := M18_sat (bytesOf m el) (Rep.mk a b c d e f g k) h0 (by rw [bytesOf_len]; exact h3)
    rw [← M18_eq'] at hs
    generalize execM Tryz.prog Γ18 noL 1008 false Tryz.f18 (went (bytesOf m el)) [.agg [.c (.v (.int .i64 a)), .c (.v (.int .i64 b)), .c (.v (.int .i64 c)), .c (.v (.int .i64 d)), .c (.v (.int .i64 e)), .c (.v (.int .i64 f)), .c (.v (.int .i64 g)), .c (.v (.bool k))], .ptr 0 0] = T at hs ⊢
    generalize (Rep.mk a b c d e f g k).bytes = l at hs ⊢
    exact hs
  · cases h
theorem f21_ok : MemOk Tryz.prog 21 K21 := by
  refine memOk_of_exec_c (L := fun _ => noL) prog_mixed Γ13_ok (fn := Tryz.f21) (c := codeOf Tryz.f21) (by kernel_rfl) (by kernel_rfl) (callFunc_enter (fn := Tryz.f21) (c := codeOf Tryz.f21) (by kernel_rfl) (by kernel_rfl) (by kernel_rfl)) (N := 1006) (frz := false) (fun ents args o _ => blocksOk_none _ _) ?_
  intro ents args o h hc
  unfold K21 at h
  split at h
  · rename_i m m' el a b c d e
    cases h
    have h0 : (Exc.mk a b c d e).ok = true := hc (Exc.mk a b c d e).ok (by simp)
    have h1 : m = m' := dec (hc (decide (m = m')) (by simp))
    have h2 : isBytes m el = true := hc (isBytes m el) (by simp)
    have h3 : m ≤ 1099511627000 := dec (hc (decide (m ≤ 1099511627000)) (by simp))
    refine ⟨_, _, went_eqv h1 h2, SeesL.refl _, ?_⟩
    have hs := M21_sat (bytesOf m el) (Exc.mk a b c d e) h0 (by rw [bytesOf_len]; exact h3)
    rw [← M21_eq'] at hs
    generalize execM Tryz.prog Γ13 noL 1006 false Tryz.f21 (went (bytesOf m el)) [.agg [.c (.v (.int .i64 a)), .c (.v (.int .i64 b)), .c (.v (.int .i64 c)), .c (.v (.int .i64 d)), .c (.v (.int .i64 e))], .ptr 0 0] = T at hs ⊢
    generalize (Exc.mk a b c d e).bytes = l at hs ⊢
    exact hs
  · cases h
end Go.Vse

set_option maxRecDepth 100000
namespace Go.Vse
open Go.Proofs

/-! ### list: the writer of a list -/
structure WSt (X : Type) where
  rs : List X
  i : Int
  l : List UInt8
def Γ17 : FuncId → Option Spec := fun f => bif Nat.beq f 13 then some (memSpec K13) else bif Nat.beq f 18 then some (memSpec K18) else none
def Γ20 : FuncId → Option Spec := fun f => bif Nat.beq f 13 then some (memSpec K13) else bif Nat.beq f 21 then some (memSpec K21) else none
def head17 (x : WSt Rep) : List AV × List (Option Ent) := ([.fn 18 [.ptr 0 0], .c (.sl x.rs.length 8 (repEl x.rs)), intA .i64 (x.rs.length : Nat), intA .i64 x.i], wents 1 x.l)
def head20 (x : WSt Exc) : List AV × List (Option Ent) := ([.fn 21 [.ptr 0 0], .c (.sl x.rs.length 5 (excEl x.rs)), intA .i64 (x.rs.length : Nat), intA .i64 x.i], wents 2 x.l)
def take17 : List AV × List (Option Ent) → Option (WSt Rep × List Bool)
  | ([.fn 18 [.ptr 0 0], .c (.sl n 8 el), .c (.v (.int .i64 n')), .c (.v (.int .i64 i))], [some (.cells [.msl 1 m 1] 43), some (.arr m' 1 bl 5)]) =>
    some (⟨repsOf n el, i, bytesOf m bl⟩, [decide (n' = (n : Int)), isReps n el, decide (m = m'), isBytes m bl])
  | _ => none
def take20 : List AV × List (Option Ent) → Option (WSt Exc × List Bool)
  | ([.fn 21 [.ptr 0 0], .c (.sl n 5 el), .c (.v (.int .i64 n')), .c (.v (.int .i64 i))], [some (.cells [.msl 2 m 1] 43), none, some (.arr m' 1 bl 5)]) =>
    some (⟨excsOf n el, i, bytesOf m bl⟩, [decide (n' = (n : Int)), isExcs n el, decide (m = m'), isBytes m bl])
  | _ => none
/-- what is done with a state -/
structure Way (X : Type) where
  res : X → X
  pre : X → Bool
def lp17 (w : Way (WSt Rep)) : LoopSt (WSt Rep) (WSt Rep) where
  nIn := { nt := 22, live := [2, 12, 13, 14] }
  nOut := { nt := 22, live := [2, 12, 13, 14] }
  head := head17
  take := take17
  out := fun r => (.normal, head17 r)
  takeR := fun q => match q with | (.normal, q) => take17 q | _ => none
  res := w.res
  pre := w.pre
def lp20 (w : Way (WSt Exc)) : LoopSt (WSt Exc) (WSt Exc) where
  nIn := { nt := 22, live := [2, 12, 13, 14] }
  nOut := { nt := 22, live := [2, 12, 13, 14] }
  head := head20
  take := take20
  out := fun r => (.normal, head20 r)
  takeR := fun q => match q with | (.normal, q) => take20 q | _ => none
  res := w.res
  pre := w.pre
def w17 : Way (WSt Rep) := ⟨fun x => x, fun _ => true⟩
def w20 : Way (WSt Exc) := ⟨fun x => x, fun _ => true⟩
end Go.Vse

set_option maxRecDepth 100000
namespace Go.Vse
open Go.Proofs
def step17 (rs : List Rep) (i : Int) (l : List UInt8) : Tr (WSt Rep ⊕ WSt Rep) :=
let x1 : Int := ↑rs.length
let x2 : List UInt8 := bytesOf l.length (byteEl l)
let x3 : List UInt8 := x2 ++
  (rs.getD i.toNat default).bytes
let x4 : Nat := x3.length
let x5 : List Rep := repsOf rs.length (repEl rs)
Tr.ite (decide (i < x1))
  (Tr.need (decide (0 ≤ i ∧ i < x1))
    (Tr.need
      (rs.getD i.toNat default).ok
      (Tr.need (decide (l.length = l.length))
        (Tr.need (isBytes l.length (byteEl l))
          (Tr.need (decide (l.length ≤ 1099511627000))
            (Tr.need (decide (x1 = x1))
              (Tr.need (isReps rs.length (repEl rs))
                (Tr.need (decide (x4 = x4))
                  (Tr.need (isBytes x4 (byteEl x3)) (Tr.ret (Sum.inl { rs := x5, i := IntKind.i64.wrap (i + 1), l := bytesOf x4 (byteEl x3) })))))))))))
  (Tr.need (decide (x1 = x1))
    (Tr.need (isReps rs.length (repEl rs))
      (Tr.need (decide (l.length = l.length)) (Tr.need (isBytes l.length (byteEl l)) (Tr.ret (Sum.inr { rs := x5, i := i, l := x2 }))))))
def step20 (rs : List Exc) (i : Int) (l : List UInt8) : Tr (WSt Exc ⊕ WSt Exc) :=
let x1 : Int := ↑rs.length
let x2 : List UInt8 := bytesOf l.length (byteEl l)
let x3 : List UInt8 := x2 ++
  (rs.getD i.toNat default).bytes
let x4 : Nat := x3.length
let x5 : List Exc := excsOf rs.length (excEl rs)
Tr.ite (decide (i < x1))
  (Tr.need (decide (0 ≤ i ∧ i < x1))
    (Tr.need
      (rs.getD i.toNat default).ok
      (Tr.need (decide (l.length = l.length))
        (Tr.need (isBytes l.length (byteEl l))
          (Tr.need (decide (l.length ≤ 1099511627000))
            (Tr.need (decide (x1 = x1))
              (Tr.need (isExcs rs.length (excEl rs))
                (Tr.need (decide (x4 = x4))
                  (Tr.need (isBytes x4 (byteEl x3)) (Tr.ret (Sum.inl { rs := x5, i := IntKind.i64.wrap (i + 1), l := bytesOf x4 (byteEl x3) })))))))))))
  (Tr.need (decide (x1 = x1))
    (Tr.need (isExcs rs.length (excEl rs))
      (Tr.need (decide (l.length = l.length)) (Tr.need (isBytes l.length (byteEl l)) (Tr.ret (Sum.inr { rs := x5, i := i, l := x2 }))))))

theorem step17_eq (w : Way (WSt Rep)) (x : WSt Rep) : (exec Tryz.prog Γ17 noL 1010 (loopOf 0 (codeOf Tryz.f17)) (mkSt (lp17 w).nIn ((lp17 w).head x))).bind ((lp17 w).fin 1 0) = step17 x.rs x.i x.l := by
  obtain ⟨rs, i, l⟩ := x
  kernel_rfl
theorem step20_eq (w : Way (WSt Exc)) (x : WSt Exc) : (exec Tryz.prog Γ20 noL 1010 (loopOf 0 (codeOf Tryz.f20)) (mkSt (lp20 w).nIn ((lp20 w).head x))).bind ((lp20 w).fin 2 0) = step20 x.rs x.i x.l := by
  obtain ⟨rs, i, l⟩ := x
  kernel_rfl
def way17 : Way (WSt Rep) := ⟨fun x => ⟨x.rs, (x.rs.length : Nat), x.l ++ repsB (x.rs.drop x.i.toNat)⟩,
  fun x => decide (0 ≤ x.i) && decide (x.i ≤ (x.rs.length : Nat)) && repsOk x.rs && decide (x.rs.length ≤ 1000) && decide (x.l.length + 88 * (x.rs.length - x.i.toNat) ≤ 1099511627000)⟩
def way20 : Way (WSt Exc) := ⟨fun x => ⟨x.rs, (x.rs.length : Nat), x.l ++ excsB (x.rs.drop x.i.toNat)⟩,
  fun x => decide (0 ≤ x.i) && decide (x.i ≤ (x.rs.length : Nat)) && excsOk x.rs && decide (x.rs.length ≤ 1000) && decide (x.l.length + 88 * (x.rs.length - x.i.toNat) ≤ 1099511627000)⟩

theorem drop_repsB {rs : List Rep} {i : Nat} (h : i < rs.length) : repsB (rs.drop i) = (rs.getD i default).bytes ++ repsB (rs.drop (i + 1)) := by
  unfold repsB
  rw [List.drop_eq_getElem_cons h, List.flatMap_cons]
  congr 2
  simp [List.getD_eq_getElem?_getD, h]
theorem drop_excsB {rs : List Exc} {i : Nat} (h : i < rs.length) : excsB (rs.drop i) = (rs.getD i default).bytes ++ excsB (rs.drop (i + 1)) := by
  unfold excsB
  rw [List.drop_eq_getElem_cons h, List.flatMap_cons]
  congr 2
  simp [List.getD_eq_getElem?_getD, h]

theorem step17_in (rs : List Rep) (hok : repsOk rs = true) (hn : rs.length ≤ 1000) (i : Nat) (l : List UInt8) (hlt : i < rs.length) (hl : l.length ≤ 1099511627000) {R : WSt Rep ⊕ WSt Rep → Prop}
    (hin : R (.inl ⟨rs, ((i + 1 : Nat) : Int), l ++ (rs.getD i default).bytes⟩)) : (step17 rs (i : Nat) l).sat R := by
  have hw : IntKind.i64.wrap ((i : Int) + 1) = ((i + 1 : Nat) : Int) := by rw [wrap_i64 (by omega)]; omega
  unfold step17
  simp only [bytesOf_byteEl, repsOf_el, Int.toNat_natCast, hw]
  exact sat_ite (fun _ => sat_need (decide_eq_true (by omega)) (sat_need (getD_ok hok hlt) (sat_need (by simp) (sat_need (isBytes_byteEl _ _) (sat_need (decide_eq_true (by omega)) (sat_need (by simp) (sat_need (isReps_mk hok) (sat_need (by simp) (sat_need (isBytes_byteEl _ _) (sat_ret hin))))))))))
    (fun h => absurd (show (i : Int) < (rs.length : Nat) by omega) (of_decide_eq_false h))
theorem runs17 (rs : List Rep) (hok : repsOk rs = true) (hn : rs.length ≤ 1000) (Q : WSt Rep → Prop) : ∀ (k i : Nat) (l : List UInt8), i + k = rs.length → l.length + 88 * k ≤ 1099511627000 →
    Q ⟨rs, (rs.length : Nat), l ++ repsB (rs.drop i)⟩ → RunsX (fun x : WSt Rep => step17 x.rs x.i x.l) Q (k + 1) ⟨rs, (i : Nat), l⟩
  | 0, i, l, hi, hl, hq => by
    obtain rfl : i = rs.length := by omega
    unfold RunsX
    change Tr.sat _ (step17 rs ((rs.length : Nat) : Int) l)
    unfold step17
    simp only [bytesOf_byteEl, repsOf_el, List.drop_length] at hq ⊢
    refine sat_ite (fun h => absurd (of_decide_eq_true h) (Int.lt_irrefl _)) (fun _ => sat_need (by simp) (sat_need (isReps_mk hok) (sat_need (by simp) (sat_need (isBytes_byteEl _ _) (sat_ret ?_)))))
    simpa [repsB] using hq
  | k + 1, i, l, hi, hl, hq => by
    have hlt : i < rs.length := by omega
    have hb := repB_len (rs.getD i default)
    have ih := runs17 rs hok hn Q k (i + 1) (l ++ (rs.getD i default).bytes) (by omega) (by rw [List.length_append]; omega) (by rw [List.append_assoc, ← drop_repsB hlt]; exact hq)
    exact step17_in rs hok hn i l hlt (by omega) ih
theorem step20_in (rs : List Exc) (hok : excsOk rs = true) (hn : rs.length ≤ 1000) (i : Nat) (l : List UInt8) (hlt : i < rs.length) (hl : l.length ≤ 1099511627000) {R : WSt Exc ⊕ WSt Exc → Prop}
    (hin : R (.inl ⟨rs, ((i + 1 : Nat) : Int), l ++ (rs.getD i default).bytes⟩)) : (step20 rs (i : Nat) l).sat R := by
  have hw : IntKind.i64.wrap ((i : Int) + 1) = ((i + 1 : Nat) : Int) := by rw [wrap_i64 (by omega)]; omega
  unfold step20
  simp only [bytesOf_byteEl, excsOf_el, Int.toNat_natCast, hw]
  exact sat_ite (fun _ => sat_need (decide_eq_true (by omega)) (sat_need (getD_okE hok hlt) (sat_need (by simp) (sat_need (isBytes_byteEl _ _) (sat_need (decide_eq_true (by omega)) (sat_need (by simp) (sat_need (isExcs_mk hok) (sat_need (by simp) (sat_need (isBytes_byteEl _ _) (sat_ret hin))))))))))
    (fun h => absurd (show (i : Int) < (rs.length : Nat) by omega) (of_decide_eq_false h))
theorem runs20 (rs : List Exc) (hok : excsOk rs = true) (hn : rs.length ≤ 1000) (Q : WSt Exc → Prop) : ∀ (k i : Nat) (l : List UInt8), i + k = rs.length → l.length + 88 * k ≤ 1099511627000 →
    Q ⟨rs, (rs.length : Nat), l ++ excsB (rs.drop i)⟩ → RunsX (fun x : WSt Exc => step20 x.rs x.i x.l) Q (k + 1) ⟨rs, (i : Nat), l⟩
  | 0, i, l, hi, hl, hq => by
    obtain rfl : i = rs.length := by omega
    unfold RunsX
    change Tr.sat _ (step20 rs ((rs.length : Nat) : Int) l)
    unfold step20
    simp only [bytesOf_byteEl, excsOf_el, List.drop_length] at hq ⊢
    refine sat_ite (fun h => absurd (of_decide_eq_true h) (Int.lt_irrefl _)) (fun _ => sat_need (by simp) (sat_need (isExcs_mk hok) (sat_need (by simp) (sat_need (isBytes_byteEl _ _) (sat_ret ?_)))))
    simpa [excsB] using hq
  | k + 1, i, l, hi, hl, hq => by
    have hlt : i < rs.length := by omega
    have hb := excB_len (rs.getD i default)
    have ih := runs20 rs hok hn Q k (i + 1) (l ++ (rs.getD i default).bytes) (by omega) (by rw [List.length_append]; omega) (by rw [List.append_assoc, ← drop_excsB hlt]; exact hq)
    exact step20_in rs hok hn i l hlt (by omega) ih

theorem take17_ok (q : List AV × List (Option Ent)) (x : WSt Rep) (cs : List Bool) (h : take17 q = some (x, cs)) (hc : ∀ p ∈ cs, p) : SeesL q.1 (head17 x).1 ∧ EntsEqv q.2 (head17 x).2 := by
  unfold take17 at h
  split at h
  · rename_i n el n' i m m' bl
    simp only [Option.some.injEq, Prod.mk.injEq] at h
    obtain ⟨rfl, rfl⟩ := h
    have h0 : n' = (n : Int) := dec (hc _ (by simp))
    have h1 : isReps n el = true := hc _ (by simp)
    have h2 : m = m' := dec (hc (decide (m = m')) (by simp))
    have h3 : isBytes m bl = true := hc (isBytes m bl) (by simp)
    subst h0
    subst h2
    have e := (isReps_el h1).1
    refine ⟨?_, ?_⟩
    · simp only [head17, repsOf_len]
      exact .cons (Sees.refl _) (.cons (Sees.sl e) (.cons (Sees.refl _) (.cons (Sees.refl _) .nil)))
    · simp only [head17, wents, bytesOf_len]
      exact .cons (.refl _) (.cons (.arr _ _ _ _ _ (byteEl_of_bytes h3)) .nil)
  · cases h
theorem take20_ok (q : List AV × List (Option Ent)) (x : WSt Exc) (cs : List Bool) (h : take20 q = some (x, cs)) (hc : ∀ p ∈ cs, p) : SeesL q.1 (head20 x).1 ∧ EntsEqv q.2 (head20 x).2 := by
  unfold take20 at h
  split at h
  · rename_i n el n' i m m' bl
    simp only [Option.some.injEq, Prod.mk.injEq] at h
    obtain ⟨rfl, rfl⟩ := h
    have h0 : n' = (n : Int) := dec (hc _ (by simp))
    have h1 : isExcs n el = true := hc _ (by simp)
    have h2 : m = m' := dec (hc (decide (m = m')) (by simp))
    have h3 : isBytes m bl = true := hc (isBytes m bl) (by simp)
    subst h0
    subst h2
    have e := (isExcs_el h1).1
    refine ⟨?_, ?_⟩
    · simp only [head20, excsOf_len]
      exact .cons (Sees.refl _) (.cons (Sees.sl e) (.cons (Sees.refl _) (.cons (Sees.refl _) .nil)))
    · simp only [head20, wents, bytesOf_len]
      exact .cons (.refl _) (.cons (.refl _) (.cons (.arr _ _ _ _ _ (byteEl_of_bytes h3)) .nil))
  · cases h
def L17 : Nat → Option (St → Tr (Ex × St)) := fun id => bif Nat.beq id 0 then some ((lp17 way17).g 1) else none
def L20 : Nat → Option (St → Tr (Ex × St)) := fun id => bif Nat.beq id 0 then some ((lp20 way20).g 2) else none

theorem lp17_good (w : Way (WSt Rep)) : (lp17 w).Good2 where
  take := take17_ok
  takeR := by
    intro e q r cs h hc
    cases e with
    | normal => obtain ⟨h1, h2⟩ := take17_ok q r cs h hc; exact ⟨rfl, h1, h2⟩
    | exit j => cases h
    | ret => cases h
  split := fun r Q h => h
theorem lp20_good (w : Way (WSt Exc)) : (lp20 w).Good2 where
  take := take20_ok
  takeR := by
    intro e q r cs h hc
    cases e with
    | normal => obtain ⟨h1, h2⟩ := take20_ok q r cs h hc; exact ⟨rfl, h1, h2⟩
    | exit j => cases h
    | ret => cases h
  split := fun r Q h => h
theorem Γ17_ok : ∀ f s, Γ17 f = some s → SpecOk Tryz.prog f s := by
  intro f s h
  unfold Γ17 at h
  cases h1 : Nat.beq f 13 with
  | true =>
    obtain rfl : f = 13 := by simpa using h1
    rw [h1] at h; cases h; exact f13_ok.spec
  | false =>
    rw [h1] at h
    exact one_ok f18_ok.spec f s h
theorem Γ20_ok : ∀ f s, Γ20 f = some s → SpecOk Tryz.prog f s := by
  intro f s h
  unfold Γ20 at h
  cases h1 : Nat.beq f 13 with
  | true =>
    obtain rfl : f = 13 := by simpa using h1
    rw [h1] at h; cases h; exact f13_ok.spec
  | false =>
    rw [h1] at h
    exact one_ok f21_ok.spec f s h
theorem f17_loops : BlocksOk Tryz.prog 1 L17 (codeOf Tryz.f17) := by
  refine blocksOk_of (d := fun id => Nat.beq id 0) (fun id => by unfold L17; cases Nat.beq id 0 <;> rfl) _ ?_
  have hb : blocksOf (fun id => Nat.beq id 0) (codeOf Tryz.f17) = [(0, .loop (loopOf 0 (codeOf Tryz.f17)))] := by kernel_rfl
  rw [hb]
  intro p hp g hg
  simp only [List.mem_singleton] at hp
  subst hp
  have hh : L17 0 = some ((lp17 way17).g 1) := rfl
  rw [hh] at hg
  obtain rfl : g = (lp17 way17).g 1 := (Option.some.inj hg).symm
  refine LoopSt.ok2 (N := 1010) prog_mixed Γ17_ok (L := noL) (blocksOk_none 1 _) (lp17_good _) (step17_eq way17) ?_
  rintro ⟨rs, i, l⟩ hx
  have hx : way17.pre ⟨rs, i, l⟩ = true := hx
  simp only [way17, Bool.and_eq_true, decide_eq_true_eq] at hx
  obtain ⟨⟨⟨⟨h1, h2⟩, h3⟩, h4⟩, h5⟩ := hx
  obtain ⟨i, rfl⟩ : ∃ n : Nat, i = n := ⟨i.toNat, by omega⟩
  rw [Int.toNat_natCast] at h5
  exact ⟨_, runs17 rs h3 h4 (· = way17.res ⟨rs, i, l⟩) (rs.length - i) i l (by omega) h5 (by simp [way17])⟩
theorem f20_loops : BlocksOk Tryz.prog 2 L20 (codeOf Tryz.f20) := by
  refine blocksOk_of (d := fun id => Nat.beq id 0) (fun id => by unfold L20; cases Nat.beq id 0 <;> rfl) _ ?_
  have hb : blocksOf (fun id => Nat.beq id 0) (codeOf Tryz.f20) = [(0, .loop (loopOf 0 (codeOf Tryz.f20)))] := by kernel_rfl
  rw [hb]
  intro p hp g hg
  simp only [List.mem_singleton] at hp
  subst hp
  have hh : L20 0 = some ((lp20 way20).g 2) := rfl
  rw [hh] at hg
  obtain rfl : g = (lp20 way20).g 2 := (Option.some.inj hg).symm
  refine LoopSt.ok2 (N := 1010) prog_mixed Γ20_ok (L := noL) (blocksOk_none 2 _) (lp20_good _) (step20_eq way20) ?_
  rintro ⟨rs, i, l⟩ hx
  have hx : way20.pre ⟨rs, i, l⟩ = true := hx
  simp only [way20, Bool.and_eq_true, decide_eq_true_eq] at hx
  obtain ⟨⟨⟨⟨h1, h2⟩, h3⟩, h4⟩, h5⟩ := hx
  obtain ⟨i, rfl⟩ : ∃ n : Nat, i = n := ⟨i.toNat, by omega⟩
  rw [Int.toNat_natCast] at h5
  exact ⟨_, runs20 rs h3 h4 (· = way20.res ⟨rs, i, l⟩) (rs.length - i) i l (by omega) h5 (by simp [way20])⟩

def K17 : MSpec
  | [some (.cells [.c (.v (.slice none 0 0))] 43)], [.ptr 0 0, .c (.sl n 8 el), .fn 18 [.ptr 0 0]] =>
    some { wOut (leb (zig (n : Int)) ++ repsB (repsOf n el)) with conds := [isReps n el, decide (n ≤ 1000)] }
  | _, _ => none
def K20 : MSpec
  | [some (.cells [.msl 1 m 1] 43), some (.arr m' 1 bl 5)], [.ptr 0 0, .c (.sl n 5 el), .fn 21 [.ptr 0 0]] =>
    some { wOut2 (bytesOf m bl ++ leb (zig (n : Int)) ++ excsB (excsOf n el)) with conds := [isExcs n el, decide (n ≤ 1000), decide (m = m'), isBytes m bl, decide (m ≤ 1000000000)] }
  | _, _ => none
end Go.Vse

set_option maxRecDepth 100000
namespace Go.Vse
open Go.Proofs
def Γ10 : FuncId → Option Spec := fun f => bif Nat.beq f 17 then some (memSpec K17) else bif Nat.beq f 20 then some (memSpec K20) else none
def M17 (rs : List Rep) : Tr MemOut :=
let x1 : Int := ↑rs.length
let x2 : List UInt8 := leb (zig x1)
let x3 : Nat := x2.length
let x4 : List Rep := repsOf rs.length (repEl rs)
let x5 : Nat := x4.length
let x6 : Int := ↑x5
let x7 : List UInt8 := bytesOf x3 (byteEl x2)
let x8 : Nat := x7.length + 88 * (x5 - Int.toNat 0)
let x9 : List UInt8 := x7 ++ repsB (List.drop (Int.toNat 0) x4)
let x10 : Nat := x9.length
Tr.need (rangeB x1)
  (Tr.need (decide (x1 = x1))
    (Tr.need (isReps rs.length (repEl rs))
      (Tr.need (decide (x3 = x3))
        (Tr.need (isBytes x3 (byteEl x2))
          (Tr.need (decide (0 ≤ 0) && decide (0 ≤ x6) && repsOk x4 && decide (x5 ≤ 1000) && decide (x8 ≤ 1099511627000))
            (Tr.ret { val := AV.tup [], outs := [some (Ent.cells [AV.msl 1 x10 1] 43)], new := some (Ent.arr x10 1 (byteEl x9) 5) }))))))
def M20 (l : List UInt8) (rs : List Exc) : Tr MemOut :=
let x1 : Int := ↑rs.length
let x2 : List UInt8 := bytesOf l.length (byteEl l) ++ leb (zig x1)
let x3 : Nat := x2.length
let x4 : List Exc := excsOf rs.length (excEl rs)
let x5 : Nat := x4.length
let x6 : Int := ↑x5
let x7 : List UInt8 := bytesOf x3 (byteEl x2)
let x8 : Nat := x7.length + 88 * (x5 - Int.toNat 0)
let x9 : List UInt8 := x7 ++ excsB (List.drop (Int.toNat 0) x4)
let x10 : Nat := x9.length
Tr.need (rangeB x1)
  (Tr.need (decide (l.length = l.length))
    (Tr.need (isBytes l.length (byteEl l))
      (Tr.need (decide (l.length ≤ 1099511627776))
        (Tr.need (decide (x1 = x1))
          (Tr.need (isExcs rs.length (excEl rs))
            (Tr.need (decide (x3 = x3))
              (Tr.need (isBytes x3 (byteEl x2))
                (Tr.need (decide (0 ≤ 0) && decide (0 ≤ x6) && excsOk x4 && decide (x5 ≤ 1000) && decide (x8 ≤ 1099511627000))
                  (Tr.ret { val := AV.tup [], outs := [some (Ent.cells [AV.msl 2 x10 1] 43), none], new := some (Ent.arr x10 1 (byteEl x9) 5) })))))))))
def M10 (rs : List Rep) (es : List Exc) : Tr AV :=
let x1 : List UInt8 := leb (zig ↑rs.length) ++ repsB (repsOf rs.length (repEl rs))
let x2 : Nat := x1.length
let x3 : List UInt8 := bytesOf x2 (byteEl x1) ++ leb (zig ↑es.length) ++ excsB (excsOf es.length (excEl es))
let x4 : Nat := x3.length
Tr.need (isReps rs.length (repEl rs))
  (Tr.need (decide (rs.length ≤ 1000))
    (Tr.need (isExcs es.length (excEl es))
      (Tr.need (decide (es.length ≤ 1000))
        (Tr.need (decide (x2 = x2))
          (Tr.need (isBytes x2 (byteEl x1))
            (Tr.need (decide (x2 ≤ 1000000000))
              (Tr.need (decide (x4 ≤ x4))
                (Tr.need (isBytes x4 (byteEl x3)) (Tr.ret (AV.c (IV.v (Value.string { data := { toList := bytesOf x4 (byteEl x3) } }))))))))))))

theorem M17_eq (rs : List Rep) : execM Tryz.prog Γ17 L17 1010 false Tryz.f17 [some (.cells [.c (.v (.slice none 0 0))] 43)] [.ptr 0 0, .c (.sl rs.length 8 (repEl rs)), .fn 18 [.ptr 0 0]] = M17 rs := by kernel_rfl
theorem M20_eq (l : List UInt8) (rs : List Exc) : execM Tryz.prog Γ20 L20 1010 false Tryz.f20 (went l) [.ptr 0 0, .c (.sl rs.length 5 (excEl rs)), .fn 21 [.ptr 0 0]] = M20 l rs := by kernel_rfl
theorem M10_eq (rs : List Rep) (es : List Exc) : execFn Tryz.prog Γ10 noL 1010 Tryz.f10 [.agg [.c (.sl rs.length 8 (repEl rs)), .c (.sl es.length 5 (excEl es))]] = M10 rs es := by kernel_rfl

theorem rangeB_nat {n : Nat} (h : n ≤ 1000) : rangeB (n : Int) = true := by
  simp only [rangeB, Bool.and_eq_true, decide_eq_true_eq]; omega
theorem drop0 {X : Type} (l : List X) : List.drop (Int.toNat 0) l = l := rfl
theorem M17_sat (rs : List Rep) (hok : repsOk rs = true) (hn : rs.length ≤ 1000) : (M17 rs).sat (Out (wOut (leb (zig (rs.length : Int)) ++ repsB rs))) := by
  have h1 := leb_len10 (zig (rs.length : Int))
  unfold M17
  simp only [bytesOf_byteEl, repsOf_el, drop0]
  refine sat_need (rangeB_nat hn) (sat_need (by simp) (sat_need (isReps_mk hok) (sat_need (by simp) (sat_need (isBytes_byteEl _ _) (sat_need ?_ (sat_ret (Out.refl _)))))))
  simp only [hok, Bool.and_true, Bool.and_eq_true, decide_eq_true_eq]
  have : Int.toNat 0 = 0 := rfl
  omega
theorem M20_sat (l : List UInt8) (rs : List Exc) (hl : l.length ≤ 1000000000) (hok : excsOk rs = true) (hn : rs.length ≤ 1000) : (M20 l rs).sat (Out (wOut2 (l ++ leb (zig (rs.length : Int)) ++ excsB rs))) := by
  have h1 := leb_len10 (zig (rs.length : Int))
  unfold M20
  simp only [bytesOf_byteEl, excsOf_el, drop0]
  refine sat_need (rangeB_nat hn) (sat_need (by simp) (sat_need (isBytes_byteEl _ _) (sat_need (decide_eq_true (by omega)) (sat_need (by simp) (sat_need (isExcs_mk hok) (sat_need (by simp) (sat_need (isBytes_byteEl _ _) (sat_need ?_ (sat_ret (Out.refl _))))))))))
  simp only [hok, Bool.and_true, Bool.and_eq_true, decide_eq_true_eq, List.length_append]
  have : Int.toNat 0 = 0 := rfl
  omega
/-- the form of a batch -/
def batB (rs : List Rep) (es : List Exc) : List UInt8 := leb (zig (rs.length : Int)) ++ repsB rs ++ leb (zig (es.length : Int)) ++ excsB es
theorem M10_sat (rs : List Rep) (es : List Exc) (hr : repsOk rs = true) (he : excsOk es = true) (hn : rs.length ≤ 1000) (hm : es.length ≤ 1000) : (M10 rs es).sat fun r => r = strA (batB rs es) := by
  have h1 := leb_len10 (zig (rs.length : Int))
  have h2 := repsB_len rs
  unfold M10
  simp only [bytesOf_byteEl, excsOf_el, repsOf_el]
  exact sat_need (isReps_mk hr) (sat_need (decide_eq_true hn) (sat_need (isExcs_mk he) (sat_need (decide_eq_true hm) (sat_need (by simp) (sat_need (isBytes_byteEl _ _) (sat_need (decide_eq_true (by rw [List.length_append]; omega)) (sat_need (by simp) (sat_need (isBytes_byteEl _ _) (sat_ret rfl)))))))))

theorem f17_ok : MemOk Tryz.prog 17 K17 := by
  refine memOk_of_exec_c (L := fun _ => L17) prog_mixed Γ17_ok (fn := Tryz.f17) (c := codeOf Tryz.f17) (by kernel_rfl) (by kernel_rfl) (callFunc_enter (fn := Tryz.f17) (c := codeOf Tryz.f17) (by kernel_rfl) (by kernel_rfl) (by kernel_rfl)) (N := 1010) (frz := false) ?_ ?_
  · intro ents args o h
    unfold K17 at h
    split at h
    · exact f17_loops
    · cases h
  · intro ents args o h hc
    unfold K17 at h
    split at h
    · rename_i n el
      cases h
      have h1 : isReps n el = true := hc (isReps n el) (by simp)
      have h2 : n ≤ 1000 := dec (hc (decide (n ≤ 1000)) (by simp))
      obtain ⟨e1, e2⟩ := isReps_el h1
      have hlen := repsOf_len n el
      generalize repsOf n el = rs at e1 e2 hlen ⊢
      subst hlen
      refine ⟨_, [.ptr 0 0, .c (.sl rs.length 8 (repEl rs)), .fn 18 [.ptr 0 0]], EntsEqv.refl _, .cons (Sees.refl _) (.cons (Sees.sl e1) (.cons (Sees.refl _) .nil)), ?_⟩
      have hs := M17_sat rs e2 h2
      rw [← M17_eq] at hs
      generalize execM Tryz.prog Γ17 L17 1010 false Tryz.f17 [some (.cells [.c (.v (.slice none 0 0))] 43)] [.ptr 0 0, .c (.sl rs.length 8 (repEl rs)), .fn 18 [.ptr 0 0]] = T at hs ⊢
      generalize leb (zig (rs.length : Int)) ++ repsB rs = l at hs ⊢
      exact hs
    · cases h
theorem f20_ok : MemOk Tryz.prog 20 K20 := by
  refine memOk_of_exec_c (L := fun _ => L20) prog_mixed Γ20_ok (fn := Tryz.f20) (c := codeOf Tryz.f20) (by kernel_rfl) (by kernel_rfl) (callFunc_enter (fn := Tryz.f20) (c := codeOf Tryz.f20) (by kernel_rfl) (by kernel_rfl) (by kernel_rfl)) (N := 1010) (frz := false) ?_ ?_
  · intro ents args o h
    unfold K20 at h
    split at h
    · exact f20_loops
    · cases h
  · intro ents args o h hc
    unfold K20 at h
    split at h
    · rename_i m m' bl n el
      cases h
      have h1 : isExcs n el = true := hc (isExcs n el) (by simp)
      have h2 : n ≤ 1000 := dec (hc (decide (n ≤ 1000)) (by simp))
      have h3 : m = m' := dec (hc (decide (m = m')) (by simp))
      have h4 : isBytes m bl = true := hc (isBytes m bl) (by simp)
      have h5 : m ≤ 1000000000 := dec (hc (decide (m ≤ 1000000000)) (by simp))
      obtain ⟨e1, e2⟩ := isExcs_el h1
      have hlen := excsOf_len n el
      generalize excsOf n el = rs at e1 e2 hlen ⊢
      subst hlen
      have hb := bytesOf_len m bl
      have hw := went_eqv h3 h4
      generalize bytesOf m bl = b at hb hw ⊢
      refine ⟨_, [.ptr 0 0, .c (.sl rs.length 5 (excEl rs)), .fn 21 [.ptr 0 0]], hw, .cons (Sees.refl _) (.cons (Sees.sl e1) (.cons (Sees.refl _) .nil)), ?_⟩
      have hs := M20_sat b rs (by omega) e2 h2
      rw [← M20_eq] at hs
      generalize execM Tryz.prog Γ20 L20 1010 false Tryz.f20 (went b) [.ptr 0 0, .c (.sl rs.length 5 (excEl rs)), .fn 21 [.ptr 0 0]] = T at hs ⊢
      generalize b ++ leb (zig (rs.length : Int)) ++ excsB rs = l at hs ⊢
      exact hs
    · cases h

def K10 : List AV → Option (AV × List Bool)
  | [.agg [.c (.sl n 8 el), .c (.sl m 5 ee)]] => some (strA (batB (repsOf n el) (excsOf m ee)), [isReps n el, isExcs m ee, decide (n ≤ 1000), decide (m ≤ 1000)])
  | _ => none
theorem Γ10_ok : ∀ f s, Γ10 f = some s → SpecOk Tryz.prog f s := by
  intro f s h
  unfold Γ10 at h
  cases h1 : Nat.beq f 17 with
  | true =>
    obtain rfl : f = 17 := by simpa using h1
    rw [h1] at h; cases h; exact f17_ok.spec
  | false =>
    rw [h1] at h
    exact one_ok f20_ok.spec f s h
theorem f10_ok : PureOk Tryz.prog 10 K10 := by
  refine pureOk_of_exec_c (L := noL) prog_mixed Γ10_ok (fn := Tryz.f10) (c := codeOf Tryz.f10) (by kernel_rfl) (by kernel_rfl) (callFunc_enter (fn := Tryz.f10) (c := codeOf Tryz.f10) (by kernel_rfl) (by kernel_rfl) (by kernel_rfl)) (N := 1010) (blocksOk_none _ _) ?_ ?_
  · intro args v cs h
    unfold K10 at h
    split at h
    · cases h; rfl
    · cases h
  · intro args v cs h hc
    unfold K10 at h
    split at h
    · rename_i n el m ee
      cases h
      have h1 : isReps n el = true := hc (isReps n el) (by simp)
      have h2 : isExcs m ee = true := hc (isExcs m ee) (by simp)
      have h3 : n ≤ 1000 := dec (hc (decide (n ≤ 1000)) (by simp))
      have h4 : m ≤ 1000 := dec (hc (decide (m ≤ 1000)) (by simp))
      obtain ⟨e1, e2⟩ := isReps_el h1
      obtain ⟨e3, e4⟩ := isExcs_el h2
      have hlen := repsOf_len n el
      have hlen2 := excsOf_len m ee
      generalize repsOf n el = rs at e1 e2 hlen ⊢
      generalize excsOf m ee = es at e3 e4 hlen2 ⊢
      subst hlen
      subst hlen2
      refine ⟨[.agg [.c (.sl rs.length 8 (repEl rs)), .c (.sl es.length 5 (excEl es))]], .cons (Sees.agg (.cons (Sees.sl e1) (.cons (Sees.sl e3) .nil))) .nil, ?_⟩
      have hs := M10_sat rs es e2 e4 h3 h4
      rw [← M10_eq] at hs
      generalize execFn Tryz.prog Γ10 noL 1010 Tryz.f10 [.agg [.c (.sl rs.length 8 (repEl rs)), .c (.sl es.length 5 (excEl es))]] = T at hs ⊢
      generalize batB rs es = l at hs ⊢
      exact Tr.sat_mono (fun r hr => ⟨by subst hr; rfl, Sees.of_eq hr⟩) hs
    · cases h
end Go.Vse

set_option maxRecDepth 100000
namespace Go.Vse
open Go.Proofs

/-! ### reading -/
def rdV (s : ByteArray) (p : Int) : Int := (rdAll s p).1.getD 0
def rdP (s : ByteArray) (p : Int) : Int := ((rdAll s p).2.1 : Nat)
def rdG (s : ByteArray) (p : Int) : Bool := (rdAll s p).1.isSome
def is01 (n : Int) : Bool := decide (n = 0) || decide (n = 1)
def short (s : ByteArray) : Bool := decide (s.data.toList.length ≤ 4611686018427387904)
def K24 : MSpec
  | [some (.cells [.c (.v (.string s)), .c (.v (.int .i64 p)), .c (.v (.int .i64 e))] 66)], [.ptr 0 0] =>
    some { val := boolA (rdV s p == 1), outs := rent s (rdP s p) 0, conds := [decide (e = 0), decide (0 ≤ p), short s, rdG s p, is01 (rdV s p)] }
  | _, _ => none
def K32 : MSpec
  | [some (.cells [.c (.v (.string s)), .c (.v (.int .i64 p)), .c (.v (.int .i64 e))] 66)], [.ptr 0 0] =>
    some { val := intA .i64 (rdV s p), outs := rent s (rdP s p) 0, conds := [decide (e = 0), decide (0 ≤ p), short s, rdG s p, decide (0 ≤ rdV s p), decide (rdV s p ≤ (s.data.toList.length : Nat) - rdP s p), decide (rdP s p ≤ (s.data.toList.length : Nat))] }
  | _, _ => none
def K27 : MSpec
  | [some (.cells [.c (.v (.string s)), .c (.v (.int .i64 p)), .c (.v (.int .i64 e))] 66)], [.ptr 0 0] =>
    some { val := intA .i64 (if e = 0 ∧ p < (s.data.toList.length : Nat) then 5 else e), outs := rent s p e, conds := [] }
  | _, _ => none
/-- the offsets of the numbers that stand there -/
def posN (s : ByteArray) (p : Int) : Nat → Int
  | 0 => p
  | k + 1 => rdP s (posN s p k)
def rdRep (s : ByteArray) (p : Int) : Rep := ⟨rdV s (posN s p 0), rdV s (posN s p 1), rdV s (posN s p 2), rdV s (posN s p 3), rdV s (posN s p 4), rdV s (posN s p 5), rdV s (posN s p 6), rdV s (posN s p 7) == 1⟩
def rdExc (s : ByteArray) (p : Int) : Exc := ⟨rdV s (posN s p 0), rdV s (posN s p 1), rdV s (posN s p 2), rdV s (posN s p 3), rdV s (posN s p 4)⟩
def goodN (s : ByteArray) (p : Int) (n : Nat) : Bool := (List.range n).all fun k => rdG s (posN s p k) && decide (0 ≤ posN s p k)
def rcent (s : ByteArray) (p e : Int) : List (Option Ent) := [some (.cells [.ptr 1 0] 64), some (.cells [.c (.v (.string s)), intA .i64 p, intA .i64 e] 66)]
def K23 : MSpec
  | [some (.cells [.ptr 1 0] 64), some (.cells [.c (.v (.string s)), .c (.v (.int .i64 p)), .c (.v (.int .i64 e))] 66)], [.ptr 0 0] =>
    some { val := .agg ((rdRep s p).iv.map .c), outs := rcent s (posN s p 8) 0, conds := [decide (e = 0), short s, goodN s p 8, is01 (rdV s (posN s p 7))] }
  | _, _ => none
def K26 : MSpec
  | [some (.cells [.ptr 1 0] 64), some (.cells [.c (.v (.string s)), .c (.v (.int .i64 p)), .c (.v (.int .i64 e))] 66)], [.ptr 0 0] =>
    some { val := .agg ((rdExc s p).iv.map .c), outs := rcent s (posN s p 5) 0, conds := [decide (e = 0), short s, goodN s p 5] }
  | _, _ => none
def Γ24 : FuncId → Option Spec := fun f => bif Nat.beq f 16 then some (memSpec K16) else bif Nat.beq f 31 then some (memSpec K31) else none
def Γ23 : FuncId → Option Spec := fun f => bif Nat.beq f 16 then some (memSpec K16) else bif Nat.beq f 24 then some (memSpec K24) else none
def Γ16a : FuncId → Option Spec := fun f => bif Nat.beq f 16 then some (memSpec K16) else none

/-! ### read: the reader of a list -/
structure LSt (X : Type) where
  s : ByteArray
  p : Int
  n : Int
  i : Int
  out : List X
def Γ22 : FuncId → Option Spec := fun f => bif Nat.beq f 32 then some (memSpec K32) else bif Nat.beq f 23 then some (memSpec K23) else none
def Γ25 : FuncId → Option Spec := fun f => bif Nat.beq f 32 then some (memSpec K32) else bif Nat.beq f 26 then some (memSpec K26) else none
def head22 (x : LSt Rep) : List AV × List (Option Ent) := ([.ptr 0 0, .fn 23 [.ptr 1 0], .msl 2 x.out.length 8, intA .i64 x.n, intA .i64 x.i],
  [some (.cells [.c (.v (.string x.s)), intA .i64 x.p, intA .i64 0] 66), some (.cells [.ptr 0 0] 64), some (.arr x.out.length 8 (repEl x.out) 37)])
def head25 (x : LSt Exc) : List AV × List (Option Ent) := ([.ptr 0 0, .fn 26 [.ptr 1 0], .msl 2 x.out.length 5, intA .i64 x.n, intA .i64 x.i],
  [some (.cells [.c (.v (.string x.s)), intA .i64 x.p, intA .i64 0] 66), some (.cells [.ptr 0 0] 64), some (.arr x.out.length 5 (excEl x.out) 39)])
def take22 : List AV × List (Option Ent) → Option (LSt Rep × List Bool)
  | ([.ptr 0 0, .fn 23 [.ptr 1 0], .msl 2 m 8, .c (.v (.int .i64 n)), .c (.v (.int .i64 i))], [some (.cells [.c (.v (.string s)), .c (.v (.int .i64 p)), .c (.v (.int .i64 e))] 66), some (.cells [.ptr 0 0] 64), some (.arr m' 8 el 37)]) =>
    some (⟨s, p, n, i, repsOf m el⟩, [decide (e = 0), decide (m = m'), isReps m el])
  | _ => none
def take25 : List AV × List (Option Ent) → Option (LSt Exc × List Bool)
  | ([.ptr 0 0, .fn 26 [.ptr 1 0], .msl 2 m 5, .c (.v (.int .i64 n)), .c (.v (.int .i64 i))], [some (.cells [.c (.v (.string s)), .c (.v (.int .i64 p)), .c (.v (.int .i64 e))] 66), some (.cells [.ptr 0 0] 64), some (.arr m' 5 el 39)]) =>
    some (⟨s, p, n, i, excsOf m el⟩, [decide (e = 0), decide (m = m'), isExcs m el])
  | _ => none
def lp22 (w : Way (LSt Rep)) : LoopSt (LSt Rep) (LSt Rep) where
  nIn := { nt := 24, live := [0, 1, 5, 8, 9], lifts := [(5, 8, 37)] }
  nOut := { nt := 24, live := [0, 1, 5, 8, 9], lifts := [(5, 8, 37)] }
  head := head22
  take := take22
  out := fun r => (.normal, head22 r)
  takeR := fun q => match q with | (.normal, q) => take22 q | _ => none
  res := w.res
  pre := w.pre
def lp25 (w : Way (LSt Exc)) : LoopSt (LSt Exc) (LSt Exc) where
  nIn := { nt := 24, live := [0, 1, 5, 8, 9], lifts := [(5, 5, 39)] }
  nOut := { nt := 24, live := [0, 1, 5, 8, 9], lifts := [(5, 5, 39)] }
  head := head25
  take := take25
  out := fun r => (.normal, head25 r)
  takeR := fun q => match q with | (.normal, q) => take25 q | _ => none
  res := w.res
  pre := w.pre
def w22 : Way (LSt Rep) := ⟨fun x => x, fun _ => true⟩
def w25 : Way (LSt Exc) := ⟨fun x => x, fun _ => true⟩
end Go.Vse

set_option maxRecDepth 100000
namespace Go.Vse
open Go.Proofs
def M24 (s : ByteArray) (p : Int) : Tr MemOut :=
let x1 : Int := (rdAll s p).fst.getD 0
let x2 : Int := rdErr (rdAll s p)
Tr.need true
  (Tr.need (decide (0 ≤ p))
    (Tr.need (decide (s.data.toList.length ≤ 4611686018427387904))
      (Tr.need (bif x1 != 0 then true else true)
        (Tr.ite (bif x1 != 0 then bif true then x1 != 1 else false else false)
          (Tr.ret
            { val := AV.c (IV.v (Value.bool (x1 == 1))),
              outs :=
                [some
                    (Ent.cells
                      [AV.c (IV.v (Value.string s)), AV.c (IV.v (Value.int IntKind.i64 ↑(rdAll s p).snd.fst)),
                        AV.c (IV.v (Value.int IntKind.i64 (if x2 = 0 then 5 else x2)))]
                      66)] })
          (Tr.ret
            { val := AV.c (IV.v (Value.bool (x1 == 1))),
              outs :=
                [some
                    (Ent.cells [AV.c (IV.v (Value.string s)), AV.c (IV.v (Value.int IntKind.i64 ↑(rdAll s p).snd.fst)), AV.c (IV.v (Value.int IntKind.i64 x2))]
                      66)] })))))
def M32 (s : ByteArray) (p : Int) : Tr MemOut :=
let x1 : Int := (rdAll s p).fst.getD 0
let x2 : Int := rdErr (rdAll s p)
let x3 : Int := if x2 = 0 then 5 else x2
let x4 : Int := ↑(rdAll s p).snd.fst
let x5 : List (Option Ent) := [some (Ent.cells [AV.c (IV.v (Value.string s)), AV.c (IV.v (Value.int IntKind.i64 x4)), AV.c (IV.v (Value.int IntKind.i64 x3))] 66)]
let x6 : Int := IntKind.i64.wrap (↑s.data.toList.length - x4)
let x7 : Int := if x2 = 0 then 22 else x2
let x8 : List (Option Ent) := [some (Ent.cells [AV.c (IV.v (Value.string s)), AV.c (IV.v (Value.int IntKind.i64 x4)), AV.c (IV.v (Value.int IntKind.i64 x7))] 66)]
let x9 : List (Option Ent) := [some (Ent.cells [AV.c (IV.v (Value.string s)), AV.c (IV.v (Value.int IntKind.i64 x4)), AV.c (IV.v (Value.int IntKind.i64 x2))] 66)]
Tr.need true
  (Tr.need (decide (0 ≤ p))
    (Tr.need (decide (s.data.toList.length ≤ 4611686018427387904))
      (Tr.ite (decide (x1 < 0))
        (Tr.ite (x3 != 0) (Tr.ret { val := AV.c (IV.v (Value.int IntKind.i64 0)), outs := x5 })
          (Tr.ret { val := AV.c (IV.v (Value.int IntKind.i64 x1)), outs := x5 }))
        (Tr.ite (decide (x1 > x6))
          (Tr.ite (x7 != 0) (Tr.ret { val := AV.c (IV.v (Value.int IntKind.i64 0)), outs := x8 })
            (Tr.ret { val := AV.c (IV.v (Value.int IntKind.i64 x1)), outs := x8 }))
          (Tr.ite (x2 != 0) (Tr.ret { val := AV.c (IV.v (Value.int IntKind.i64 0)), outs := x9 })
            (Tr.ret { val := AV.c (IV.v (Value.int IntKind.i64 x1)), outs := x9 }))))))
def M27 (s : ByteArray) (p : Int) (e : Int) : Tr MemOut :=
let x1 : Int := ↑s.data.toList.length
let x2 : List (Option Ent) := [some (Ent.cells [AV.c (IV.v (Value.string s)), AV.c (IV.v (Value.int IntKind.i64 p)), AV.c (IV.v (Value.int IntKind.i64 e))] 66)]
Tr.need (bif e == 0 then true else true)
  (Tr.ite (bif e == 0 then bif true then decide (p < x1) else false else false) (Tr.ret { val := AV.c (IV.v (Value.int IntKind.i64 5)), outs := x2 })
    (Tr.ret { val := AV.c (IV.v (Value.int IntKind.i64 e)), outs := x2 }))
def M26 (s : ByteArray) (p : Int) : Tr MemOut :=
let x1 : Int := rdErr (rdAll s p)
let x2 : Int := ↑(rdAll s p).snd.fst
let x3 : Int := rdErr (rdAll s x2)
let x4 : Int := ↑(rdAll s x2).snd.fst
let x5 : Int := rdErr (rdAll s x4)
let x6 : Int := ↑(rdAll s x4).snd.fst
let x7 : Int := rdErr (rdAll s x6)
let x8 : Int := ↑(rdAll s x6).snd.fst
let x9 : Int := rdErr (rdAll s x8)
let x10 : List AV := [AV.c (IV.v (Value.int IntKind.i64 0))]
let x11 : List AV := AV.c (IV.v (Value.int IntKind.i64 0)) :: x10
let x12 : List AV := AV.c (IV.v (Value.int IntKind.i64 0)) :: x11
let x13 : List AV := AV.c (IV.v (Value.int IntKind.i64 0)) :: x12
Tr.ite true
  (Tr.need true
    (Tr.need (decide (0 ≤ p))
      (Tr.need (decide (s.data.toList.length ≤ 4611686018427387904))
        (Tr.need true
          (Tr.ite true
            (Tr.need (decide (x1 = 0))
              (Tr.need true
                (Tr.need (decide (s.data.toList.length ≤ 4611686018427387904))
                  (Tr.need true
                    (Tr.ite true
                      (Tr.need (decide (x3 = 0))
                        (Tr.need true
                          (Tr.need (decide (s.data.toList.length ≤ 4611686018427387904))
                            (Tr.need true
                              (Tr.ite true
                                (Tr.need (decide (x5 = 0))
                                  (Tr.need true
                                    (Tr.need (decide (s.data.toList.length ≤ 4611686018427387904))
                                      (Tr.need true
                                        (Tr.ite true
                                          (Tr.need (decide (x7 = 0))
                                            (Tr.need true
                                              (Tr.need (decide (s.data.toList.length ≤ 4611686018427387904))
                                                (Tr.need true
                                                  (Tr.ite false
                                                    (Tr.need (decide (x9 = 0))
                                                      (Tr.need true
                                                        (Tr.need (decide (s.data.toList.length ≤ 4611686018427387904))
                                                          (Tr.need false (Tr.fail "codec.go:449")))))
                                                    (Tr.need true
                                                      (Tr.need true
                                                        (Tr.need true
                                                          (Tr.need true
                                                            (Tr.need true
                                                              (Tr.ret
                                                                {
                                                                  val :=
                                                                    AV.agg
                                                                      [AV.c (IV.v (Value.int IntKind.i64 ((rdAll s p).fst.getD 0))),
                                                                        AV.c (IV.v (Value.int IntKind.i64 ((rdAll s x2).fst.getD 0))),
                                                                        AV.c (IV.v (Value.int IntKind.i64 ((rdAll s x4).fst.getD 0))),
                                                                        AV.c (IV.v (Value.int IntKind.i64 ((rdAll s x6).fst.getD 0))),
                                                                        AV.c (IV.v (Value.int IntKind.i64 ((rdAll s x8).fst.getD 0)))],
                                                                  outs :=
                                                                    [some (Ent.cells [AV.ptr 1 0] 64),
                                                                      some
                                                                        (Ent.cells
                                                                          [AV.c (IV.v (Value.string s)),
                                                                            AV.c (IV.v (Value.int IntKind.i64 ↑(rdAll s x8).snd.fst)),
                                                                            AV.c (IV.v (Value.int IntKind.i64 x9))]
                                                                          66)] })))))))))))
                                          (Tr.need true
                                            (Tr.need true
                                              (Tr.need true
                                                (Tr.need true
                                                  (Tr.need true
                                                    (Tr.ret
                                                      {
                                                        val :=
                                                          AV.agg
                                                            (AV.c (IV.v (Value.int IntKind.i64 ((rdAll s p).fst.getD 0))) ::
                                                              AV.c (IV.v (Value.int IntKind.i64 ((rdAll s x2).fst.getD 0))) ::
                                                                AV.c (IV.v (Value.int IntKind.i64 ((rdAll s x4).fst.getD 0))) ::
                                                                  AV.c (IV.v (Value.int IntKind.i64 ((rdAll s x6).fst.getD 0))) :: x10),
                                                        outs :=
                                                          [some (Ent.cells [AV.ptr 1 0] 64),
                                                            some
                                                              (Ent.cells
                                                                [AV.c (IV.v (Value.string s)), AV.c (IV.v (Value.int IntKind.i64 x8)),
                                                                  AV.c (IV.v (Value.int IntKind.i64 x7))]
                                                                66)] })))))))))))
                                (Tr.need true
                                  (Tr.need true
                                    (Tr.need true
                                      (Tr.need true
                                        (Tr.need true
                                          (Tr.ret
                                            {
                                              val :=
                                                AV.agg
                                                  (AV.c (IV.v (Value.int IntKind.i64 ((rdAll s p).fst.getD 0))) ::
                                                    AV.c (IV.v (Value.int IntKind.i64 ((rdAll s x2).fst.getD 0))) ::
                                                      AV.c (IV.v (Value.int IntKind.i64 ((rdAll s x4).fst.getD 0))) :: x11),
                                              outs :=
                                                [some (Ent.cells [AV.ptr 1 0] 64),
                                                  some
                                                    (Ent.cells
                                                      [AV.c (IV.v (Value.string s)), AV.c (IV.v (Value.int IntKind.i64 x6)),
                                                        AV.c (IV.v (Value.int IntKind.i64 x5))]
                                                      66)] })))))))))))
                      (Tr.need true
                        (Tr.need true
                          (Tr.need true
                            (Tr.need true
                              (Tr.need true
                                (Tr.ret
                                  {
                                    val :=
                                      AV.agg
                                        (AV.c (IV.v (Value.int IntKind.i64 ((rdAll s p).fst.getD 0))) ::
                                          AV.c (IV.v (Value.int IntKind.i64 ((rdAll s x2).fst.getD 0))) :: x12),
                                    outs :=
                                      [some (Ent.cells [AV.ptr 1 0] 64),
                                        some
                                          (Ent.cells
                                            [AV.c (IV.v (Value.string s)), AV.c (IV.v (Value.int IntKind.i64 x4)), AV.c (IV.v (Value.int IntKind.i64 x3))]
                                            66)] })))))))))))
            (Tr.need true
              (Tr.need true
                (Tr.need true
                  (Tr.need true
                    (Tr.need true
                      (Tr.ret
                        { val := AV.agg (AV.c (IV.v (Value.int IntKind.i64 ((rdAll s p).fst.getD 0))) :: x13),
                          outs :=
                            [some (Ent.cells [AV.ptr 1 0] 64),
                              some
                                (Ent.cells [AV.c (IV.v (Value.string s)), AV.c (IV.v (Value.int IntKind.i64 x2)), AV.c (IV.v (Value.int IntKind.i64 x1))]
                                  66)] })))))))))))
  (Tr.need true
    (Tr.need true
      (Tr.need true
        (Tr.need true
          (Tr.need true
            (Tr.ret
              { val := AV.agg (AV.c (IV.v (Value.int IntKind.i64 0)) :: x13),
                outs :=
                  [some (Ent.cells [AV.ptr 1 0] 64), some (Ent.cells (AV.c (IV.v (Value.string s)) :: AV.c (IV.v (Value.int IntKind.i64 p)) :: x10) 66)] }))))))
def M23 (s : ByteArray) (p : Int) : Tr MemOut :=
let x1 : Int := rdErr (rdAll s p)
let x2 : Int := ↑(rdAll s p).snd.fst
let x3 : Int := rdErr (rdAll s x2)
let x4 : Int := ↑(rdAll s x2).snd.fst
let x5 : Int := rdErr (rdAll s x4)
let x6 : Int := ↑(rdAll s x4).snd.fst
let x7 : Int := rdErr (rdAll s x6)
let x8 : Int := ↑(rdAll s x6).snd.fst
let x9 : Int := rdErr (rdAll s x8)
let x10 : Int := ↑(rdAll s x8).snd.fst
let x11 : Int := rdErr (rdAll s x10)
let x12 : Int := ↑(rdAll s x10).snd.fst
let x13 : Int := rdErr (rdAll s x12)
let x14 : Int := ↑(rdAll s x12).snd.fst
let x15 : Int := rdV s x14
let x16 : List AV := [AV.c (IV.v (Value.int IntKind.i64 0))]
let x17 : Int := rdV s x12
let x18 : Int := rdV s x10
let x19 : Int := rdV s x8
let x20 : Int := rdV s x6
let x21 : Int := rdV s x4
let x22 : Int := rdV s x2
Tr.ite true
  (Tr.need true
    (Tr.need (decide (0 ≤ p))
      (Tr.need (decide (s.data.toList.length ≤ 4611686018427387904))
        (Tr.need true
          (Tr.ite true
            (Tr.need (decide (x1 = 0))
              (Tr.need true
                (Tr.need (decide (s.data.toList.length ≤ 4611686018427387904))
                  (Tr.need true
                    (Tr.ite true
                      (Tr.need (decide (x3 = 0))
                        (Tr.need true
                          (Tr.need (decide (s.data.toList.length ≤ 4611686018427387904))
                            (Tr.need true
                              (Tr.ite true
                                (Tr.need (decide (x5 = 0))
                                  (Tr.need true
                                    (Tr.need (decide (s.data.toList.length ≤ 4611686018427387904))
                                      (Tr.need true
                                        (Tr.ite true
                                          (Tr.need (decide (x7 = 0))
                                            (Tr.need true
                                              (Tr.need (decide (s.data.toList.length ≤ 4611686018427387904))
                                                (Tr.need true
                                                  (Tr.ite true
                                                    (Tr.need (decide (x9 = 0))
                                                      (Tr.need true
                                                        (Tr.need (decide (s.data.toList.length ≤ 4611686018427387904))
                                                          (Tr.need true
                                                            (Tr.ite true
                                                              (Tr.need (decide (x11 = 0))
                                                                (Tr.need true
                                                                  (Tr.need (decide (s.data.toList.length ≤ 4611686018427387904))
                                                                    (Tr.need true
                                                                      (Tr.ite false
                                                                        (Tr.need (decide (x13 = 0))
                                                                          (Tr.need true
                                                                            (Tr.need (decide (s.data.toList.length ≤ 4611686018427387904))
                                                                              (Tr.need false (Tr.fail "codec.go:442")))))
                                                                        (Tr.need true
                                                                          (Tr.need true
                                                                            (Tr.need true
                                                                              (Tr.need true
                                                                                (Tr.need true
                                                                                  (Tr.need true
                                                                                    (Tr.need true
                                                                                      (Tr.need (decide (x13 = 0))
                                                                                        (Tr.need true
                                                                                          (Tr.need (short s)
                                                                                            (Tr.need (rdG s x14)
                                                                                              (Tr.need (is01 x15)
                                                                                                (Tr.ret
                                                                                                  {
                                                                                                    val :=
                                                                                                      AV.agg
                                                                                                        [AV.c
                                                                                                            (IV.v
                                                                                                              (Value.int IntKind.i64 ((rdAll s p).fst.getD 0))),
                                                                                                          AV.c
                                                                                                            (IV.v
                                                                                                              (Value.int IntKind.i64
                                                                                                                ((rdAll s x2).fst.getD 0))),
                                                                                                          AV.c
                                                                                                            (IV.v
                                                                                                              (Value.int IntKind.i64
                                                                                                                ((rdAll s x4).fst.getD 0))),
                                                                                                          AV.c
                                                                                                            (IV.v
                                                                                                              (Value.int IntKind.i64
                                                                                                                ((rdAll s x6).fst.getD 0))),
                                                                                                          AV.c
                                                                                                            (IV.v
                                                                                                              (Value.int IntKind.i64
                                                                                                                ((rdAll s x8).fst.getD 0))),
                                                                                                          AV.c
                                                                                                            (IV.v
                                                                                                              (Value.int IntKind.i64
                                                                                                                ((rdAll s x10).fst.getD 0))),
                                                                                                          AV.c
                                                                                                            (IV.v
                                                                                                              (Value.int IntKind.i64
                                                                                                                ((rdAll s x12).fst.getD 0))),
                                                                                                          AV.c (IV.v (Value.bool (x15 == 1)))],
                                                                                                    outs :=
                                                                                                      [some (Ent.cells [AV.ptr 1 0] 64),
                                                                                                        some
                                                                                                          (Ent.cells
                                                                                                            (AV.c (IV.v (Value.string s)) ::
                                                                                                              AV.c (IV.v (Value.int IntKind.i64 (rdP s x14))) ::
                                                                                                                x16)
                                                                                                            66)] }))))))))))))))))))
                                                              (Tr.need true
                                                                (Tr.need true
                                                                  (Tr.need true
                                                                    (Tr.need true
                                                                      (Tr.need true
                                                                        (Tr.need true
                                                                          (Tr.need true
                                                                            (Tr.need (decide (x11 = 0))
                                                                              (Tr.need true
                                                                                (Tr.need (short s)
                                                                                  (Tr.need (rdG s x12)
                                                                                    (Tr.need (is01 x17)
                                                                                      (Tr.ret
                                                                                        {
                                                                                          val :=
                                                                                            AV.agg
                                                                                              [AV.c (IV.v (Value.int IntKind.i64 ((rdAll s p).fst.getD 0))),
                                                                                                AV.c (IV.v (Value.int IntKind.i64 ((rdAll s x2).fst.getD 0))),
                                                                                                AV.c (IV.v (Value.int IntKind.i64 ((rdAll s x4).fst.getD 0))),
                                                                                                AV.c (IV.v (Value.int IntKind.i64 ((rdAll s x6).fst.getD 0))),
                                                                                                AV.c (IV.v (Value.int IntKind.i64 ((rdAll s x8).fst.getD 0))),
                                                                                                AV.c (IV.v (Value.int IntKind.i64 ((rdAll s x10).fst.getD 0))),
                                                                                                AV.c (IV.v (Value.int IntKind.i64 0)),
                                                                                                AV.c (IV.v (Value.bool (x17 == 1)))],
                                                                                          outs :=
                                                                                            [some (Ent.cells [AV.ptr 1 0] 64),
                                                                                              some
                                                                                                (Ent.cells
                                                                                                  (AV.c (IV.v (Value.string s)) ::
                                                                                                    AV.c (IV.v (Value.int IntKind.i64 (rdP s x12))) :: x16)
                                                                                                  66)] }))))))))))))))))))
                                                    (Tr.need true
                                                      (Tr.need true
                                                        (Tr.need true
                                                          (Tr.need true
                                                            (Tr.need true
                                                              (Tr.need true
                                                                (Tr.need true
                                                                  (Tr.need (decide (x9 = 0))
                                                                    (Tr.need true
                                                                      (Tr.need (short s)
                                                                        (Tr.need (rdG s x10)
                                                                          (Tr.need (is01 x18)
                                                                            (Tr.ret
                                                                              {
                                                                                val :=
                                                                                  AV.agg
                                                                                    [AV.c (IV.v (Value.int IntKind.i64 ((rdAll s p).fst.getD 0))),
                                                                                      AV.c (IV.v (Value.int IntKind.i64 ((rdAll s x2).fst.getD 0))),
                                                                                      AV.c (IV.v (Value.int IntKind.i64 ((rdAll s x4).fst.getD 0))),
                                                                                      AV.c (IV.v (Value.int IntKind.i64 ((rdAll s x6).fst.getD 0))),
                                                                                      AV.c (IV.v (Value.int IntKind.i64 ((rdAll s x8).fst.getD 0))),
                                                                                      AV.c (IV.v (Value.int IntKind.i64 0)),
                                                                                      AV.c (IV.v (Value.int IntKind.i64 0)),
                                                                                      AV.c (IV.v (Value.bool (x18 == 1)))],
                                                                                outs :=
                                                                                  [some (Ent.cells [AV.ptr 1 0] 64),
                                                                                    some
                                                                                      (Ent.cells
                                                                                        (AV.c (IV.v (Value.string s)) ::
                                                                                          AV.c (IV.v (Value.int IntKind.i64 (rdP s x10))) :: x16)
                                                                                        66)] }))))))))))))))))))
                                          (Tr.need true
                                            (Tr.need true
                                              (Tr.need true
                                                (Tr.need true
                                                  (Tr.need true
                                                    (Tr.need true
                                                      (Tr.need true
                                                        (Tr.need (decide (x7 = 0))
                                                          (Tr.need true
                                                            (Tr.need (short s)
                                                              (Tr.need (rdG s x8)
                                                                (Tr.need (is01 x19)
                                                                  (Tr.ret
                                                                    {
                                                                      val :=
                                                                        AV.agg
                                                                          [AV.c (IV.v (Value.int IntKind.i64 ((rdAll s p).fst.getD 0))),
                                                                            AV.c (IV.v (Value.int IntKind.i64 ((rdAll s x2).fst.getD 0))),
                                                                            AV.c (IV.v (Value.int IntKind.i64 ((rdAll s x4).fst.getD 0))),
                                                                            AV.c (IV.v (Value.int IntKind.i64 ((rdAll s x6).fst.getD 0))),
                                                                            AV.c (IV.v (Value.int IntKind.i64 0)), AV.c (IV.v (Value.int IntKind.i64 0)),
                                                                            AV.c (IV.v (Value.int IntKind.i64 0)), AV.c (IV.v (Value.bool (x19 == 1)))],
                                                                      outs :=
                                                                        [some (Ent.cells [AV.ptr 1 0] 64),
                                                                          some
                                                                            (Ent.cells
                                                                              (AV.c (IV.v (Value.string s)) ::
                                                                                AV.c (IV.v (Value.int IntKind.i64 (rdP s x8))) :: x16)
                                                                              66)] }))))))))))))))))))
                                (Tr.need true
                                  (Tr.need true
                                    (Tr.need true
                                      (Tr.need true
                                        (Tr.need true
                                          (Tr.need true
                                            (Tr.need true
                                              (Tr.need (decide (x5 = 0))
                                                (Tr.need true
                                                  (Tr.need (short s)
                                                    (Tr.need (rdG s x6)
                                                      (Tr.need (is01 x20)
                                                        (Tr.ret
                                                          {
                                                            val :=
                                                              AV.agg
                                                                [AV.c (IV.v (Value.int IntKind.i64 ((rdAll s p).fst.getD 0))),
                                                                  AV.c (IV.v (Value.int IntKind.i64 ((rdAll s x2).fst.getD 0))),
                                                                  AV.c (IV.v (Value.int IntKind.i64 ((rdAll s x4).fst.getD 0))),
                                                                  AV.c (IV.v (Value.int IntKind.i64 0)), AV.c (IV.v (Value.int IntKind.i64 0)),
                                                                  AV.c (IV.v (Value.int IntKind.i64 0)), AV.c (IV.v (Value.int IntKind.i64 0)),
                                                                  AV.c (IV.v (Value.bool (x20 == 1)))],
                                                            outs :=
                                                              [some (Ent.cells [AV.ptr 1 0] 64),
                                                                some
                                                                  (Ent.cells
                                                                    (AV.c (IV.v (Value.string s)) :: AV.c (IV.v (Value.int IntKind.i64 (rdP s x6))) :: x16)
                                                                    66)] }))))))))))))))))))
                      (Tr.need true
                        (Tr.need true
                          (Tr.need true
                            (Tr.need true
                              (Tr.need true
                                (Tr.need true
                                  (Tr.need true
                                    (Tr.need (decide (x3 = 0))
                                      (Tr.need true
                                        (Tr.need (short s)
                                          (Tr.need (rdG s x4)
                                            (Tr.need (is01 x21)
                                              (Tr.ret
                                                {
                                                  val :=
                                                    AV.agg
                                                      [AV.c (IV.v (Value.int IntKind.i64 ((rdAll s p).fst.getD 0))),
                                                        AV.c (IV.v (Value.int IntKind.i64 ((rdAll s x2).fst.getD 0))), AV.c (IV.v (Value.int IntKind.i64 0)),
                                                        AV.c (IV.v (Value.int IntKind.i64 0)), AV.c (IV.v (Value.int IntKind.i64 0)),
                                                        AV.c (IV.v (Value.int IntKind.i64 0)), AV.c (IV.v (Value.int IntKind.i64 0)),
                                                        AV.c (IV.v (Value.bool (x21 == 1)))],
                                                  outs :=
                                                    [some (Ent.cells [AV.ptr 1 0] 64),
                                                      some
                                                        (Ent.cells (AV.c (IV.v (Value.string s)) :: AV.c (IV.v (Value.int IntKind.i64 (rdP s x4))) :: x16)
                                                          66)] }))))))))))))))))))
            (Tr.need true
              (Tr.need true
                (Tr.need true
                  (Tr.need true
                    (Tr.need true
                      (Tr.need true
                        (Tr.need true
                          (Tr.need (decide (x1 = 0))
                            (Tr.need true
                              (Tr.need (short s)
                                (Tr.need (rdG s x2)
                                  (Tr.need (is01 x22)
                                    (Tr.ret
                                      {
                                        val :=
                                          AV.agg
                                            [AV.c (IV.v (Value.int IntKind.i64 ((rdAll s p).fst.getD 0))), AV.c (IV.v (Value.int IntKind.i64 0)),
                                              AV.c (IV.v (Value.int IntKind.i64 0)), AV.c (IV.v (Value.int IntKind.i64 0)),
                                              AV.c (IV.v (Value.int IntKind.i64 0)), AV.c (IV.v (Value.int IntKind.i64 0)),
                                              AV.c (IV.v (Value.int IntKind.i64 0)), AV.c (IV.v (Value.bool (x22 == 1)))],
                                        outs :=
                                          [some (Ent.cells [AV.ptr 1 0] 64),
                                            some
                                              (Ent.cells (AV.c (IV.v (Value.string s)) :: AV.c (IV.v (Value.int IntKind.i64 (rdP s x2))) :: x16)
                                                66)] }))))))))))))))))))
  (Tr.need true
    (Tr.need true
      (Tr.need true
        (Tr.need true
          (Tr.need true
            (Tr.need true
              (Tr.need true
                (Tr.need true
                  (Tr.need (decide (0 ≤ p))
                    (Tr.need (short s)
                      (Tr.need (rdG s p)
                        (Tr.need (is01 (rdV s p))
                          (Tr.ret
                            {
                              val :=
                                AV.agg
                                  [AV.c (IV.v (Value.int IntKind.i64 0)), AV.c (IV.v (Value.int IntKind.i64 0)), AV.c (IV.v (Value.int IntKind.i64 0)),
                                    AV.c (IV.v (Value.int IntKind.i64 0)), AV.c (IV.v (Value.int IntKind.i64 0)), AV.c (IV.v (Value.int IntKind.i64 0)),
                                    AV.c (IV.v (Value.int IntKind.i64 0)), AV.c (IV.v (Value.bool (rdV s p == 1)))],
                              outs :=
                                [some (Ent.cells [AV.ptr 1 0] 64),
                                  some (Ent.cells (AV.c (IV.v (Value.string s)) :: AV.c (IV.v (Value.int IntKind.i64 (rdP s p))) :: x16) 66)] })))))))))))))
def step22 (s : ByteArray) (p : Int) (n : Int) (i : Int) (out : List Rep) : Tr (LSt Rep ⊕ LSt Rep) :=
let x1 : Int := rdV s (posN s p 7)
let x2 : Nat := out.length + 1
let x3 : Nat := x2 * 64
let x4 : Nat := 7 + 1
Tr.ite (decide (i < n))
  (Tr.need true
    (Tr.need (short s)
      (Tr.need (goodN s p 8)
        (Tr.need (is01 x1)
          (Tr.ite false (Tr.fail "out")
            (Tr.need (decide (out.length ≤ out.length))
              (Tr.need true
                (Tr.need (decide (x2 ≤ 9223372036854775807))
                  (Tr.need (decide (x3 ≤ 140737488355328))
                    (Tr.need true
                      (Tr.need (decide (x2 = x2))
                        (Tr.need
                          (isReps x2
                            (joinE out.length (repEl out) fun k =>
                              List.take x4
                                (List.drop (k * x4)
                                  [IV.v (Value.bool (x1 == 1)), IV.v (Value.int IntKind.i64 (rdV s (posN s p 6))),
                                      IV.v (Value.int IntKind.i64 (rdV s (posN s p 5))), IV.v (Value.int IntKind.i64 (rdV s (posN s p 4))),
                                      IV.v (Value.int IntKind.i64 (rdV s (posN s p 3))), IV.v (Value.int IntKind.i64 (rdV s (posN s p 2))),
                                      IV.v (Value.int IntKind.i64 (rdV s (posN s p 1))), IV.v (Value.int IntKind.i64 (rdV s (posN s p 0)))].reverse)))
                          (Tr.ret
                            (Sum.inl
                              { s := s, p := posN s p 8, n := n, i := IntKind.i64.wrap (i + 1),
                                out :=
                                  repsOf x2
                                    (joinE out.length (repEl out) fun k =>
                                      List.take x4
                                        (List.drop (k * x4)
                                          [IV.v (Value.bool (x1 == 1)), IV.v (Value.int IntKind.i64 (rdV s (posN s p 6))),
                                              IV.v (Value.int IntKind.i64 (rdV s (posN s p 5))), IV.v (Value.int IntKind.i64 (rdV s (posN s p 4))),
                                              IV.v (Value.int IntKind.i64 (rdV s (posN s p 3))), IV.v (Value.int IntKind.i64 (rdV s (posN s p 2))),
                                              IV.v (Value.int IntKind.i64 (rdV s (posN s p 1))),
                                              IV.v (Value.int IntKind.i64 (rdV s (posN s p 0)))].reverse)) }))))))))))))))
  (Tr.need true
    (Tr.need (decide (out.length = out.length))
      (Tr.need (isReps out.length (repEl out)) (Tr.ret (Sum.inr { s := s, p := p, n := n, i := i, out := repsOf out.length (repEl out) })))))
def step25 (s : ByteArray) (p : Int) (n : Int) (i : Int) (out : List Exc) : Tr (LSt Exc ⊕ LSt Exc) :=
let x1 : Nat := out.length + 1
let x2 : Nat := x1 * 40
let x3 : Nat := 4 + 1
Tr.ite (decide (i < n))
  (Tr.need true
    (Tr.need (short s)
      (Tr.need (goodN s p 5)
        (Tr.ite false (Tr.fail "out")
          (Tr.need (decide (out.length ≤ out.length))
            (Tr.need true
              (Tr.need (decide (x1 ≤ 9223372036854775807))
                (Tr.need (decide (x2 ≤ 140737488355328))
                  (Tr.need true
                    (Tr.need (decide (x1 = x1))
                      (Tr.need
                        (isExcs x1
                          (joinE out.length (excEl out) fun k =>
                            List.take x3
                              (List.drop (k * x3)
                                [IV.v (Value.int IntKind.i64 (rdV s (posN s p 4))), IV.v (Value.int IntKind.i64 (rdV s (posN s p 3))),
                                    IV.v (Value.int IntKind.i64 (rdV s (posN s p 2))), IV.v (Value.int IntKind.i64 (rdV s (posN s p 1))),
                                    IV.v (Value.int IntKind.i64 (rdV s (posN s p 0)))].reverse)))
                        (Tr.ret
                          (Sum.inl
                            { s := s, p := posN s p 5, n := n, i := IntKind.i64.wrap (i + 1),
                              out :=
                                excsOf x1
                                  (joinE out.length (excEl out) fun k =>
                                    List.take x3
                                      (List.drop (k * x3)
                                        [IV.v (Value.int IntKind.i64 (rdV s (posN s p 4))), IV.v (Value.int IntKind.i64 (rdV s (posN s p 3))),
                                            IV.v (Value.int IntKind.i64 (rdV s (posN s p 2))), IV.v (Value.int IntKind.i64 (rdV s (posN s p 1))),
                                            IV.v (Value.int IntKind.i64 (rdV s (posN s p 0)))].reverse)) })))))))))))))
  (Tr.need true
    (Tr.need (decide (out.length = out.length))
      (Tr.need (isExcs out.length (excEl out)) (Tr.ret (Sum.inr { s := s, p := p, n := n, i := i, out := excsOf out.length (excEl out) })))))

theorem M24_eq (s : ByteArray) (p : Int) : execM Tryz.prog Γ24 noL 1010 false Tryz.f24 (rent s p 0) [.ptr 0 0] = M24 s p := by kernel_rfl
theorem M32_eq (s : ByteArray) (p : Int) : execM Tryz.prog Γ24 noL 1010 false Tryz.f32 (rent s p 0) [.ptr 0 0] = M32 s p := by kernel_rfl
theorem M27_eq (s : ByteArray) (p e : Int) : execM Tryz.prog (fun _ => none) noL 1010 false Tryz.f27 (rent s p e) [.ptr 0 0] = M27 s p e := by kernel_rfl
theorem M26_eq (s : ByteArray) (p : Int) : execM Tryz.prog Γ16a noL 1006 false Tryz.f26 (rcent s p 0) [.ptr 0 0] = M26 s p := by kernel_rfl
theorem M23_eq (s : ByteArray) (p : Int) : execM Tryz.prog Γ23 noL 1008 false Tryz.f23 (rcent s p 0) [.ptr 0 0] = M23 s p := by kernel_rfl
theorem step22_eq (w : Way (LSt Rep)) (x : LSt Rep) : (exec Tryz.prog Γ22 noL 1010 (loopOf 0 (codeOf Tryz.f22)) (mkSt (lp22 w).nIn ((lp22 w).head x))).bind ((lp22 w).fin 2 0) = step22 x.s x.p x.n x.i x.out := by
  obtain ⟨s, p, n, i, out⟩ := x
  kernel_rfl
theorem step25_eq (w : Way (LSt Exc)) (x : LSt Exc) : (exec Tryz.prog Γ25 noL 1010 (loopOf 0 (codeOf Tryz.f25)) (mkSt (lp25 w).nIn ((lp25 w).head x))).bind ((lp25 w).fin 2 0) = step25 x.s x.p x.n x.i x.out := by
  obtain ⟨s, p, n, i, out⟩ := x
  kernel_rfl

theorem rdErr_of_good {s : ByteArray} {p : Int} (h : rdG s p = true) : rdErr (rdAll s p) = 0 := by
  unfold rdG at h
  unfold rdErr
  split
  · rfl
  · rename_i h2
    rw [h2] at h; cases h
theorem M24_sat (s : ByteArray) (p : Int) (h0 : 0 ≤ p) (hs : short s = true) (hg : rdG s p = true) (h1 : is01 (rdV s p) = true) : (M24 s p).sat (Out { val := boolA (rdV s p == 1), outs := rent s (rdP s p) 0 }) := by
  unfold M24
  simp only [rdErr_of_good hg]
  refine sat_need rfl (sat_need (decide_eq_true h0) (sat_need hs (sat_need (by simp) (sat_ite (fun h => ?_) (fun _ => sat_ret (Out.refl _))))))
  exfalso
  have hv : (rdAll s p).1.getD 0 = rdV s p := rfl
  rw [hv] at h
  simp only [is01, Bool.or_eq_true, decide_eq_true_eq] at h1
  rcases h1 with h1 | h1 <;> rw [h1] at h <;> cases h
theorem M32_sat (s : ByteArray) (p : Int) (h0 : 0 ≤ p) (hs : short s = true) (hg : rdG s p = true) (h1 : 0 ≤ rdV s p) (h2 : rdV s p ≤ (s.data.toList.length : Nat) - rdP s p) (h3 : rdP s p ≤ (s.data.toList.length : Nat)) : (M32 s p).sat (Out { val := intA .i64 (rdV s p), outs := rent s (rdP s p) 0 }) := by
  have hl : s.data.toList.length ≤ 4611686018427387904 := of_decide_eq_true hs
  have hp : 0 ≤ rdP s p := by unfold rdP; omega
  have hw : IntKind.i64.wrap (((s.data.toList.length : Nat) : Int) - rdP s p) = ((s.data.toList.length : Nat) : Int) - rdP s p := wrap_i64 (by omega)
  unfold M32
  simp only [rdErr_of_good hg]
  refine sat_need rfl (sat_need (decide_eq_true h0) (sat_need hs (sat_ite (fun h => ?_) (fun _ => sat_ite (fun h => ?_) (fun _ => sat_ite (fun h => ?_) (fun _ => sat_ret (Out.refl _)))))))
  · have h : rdV s p < 0 := of_decide_eq_true h
    omega
  · have h : rdV s p > IntKind.i64.wrap (((s.data.toList.length : Nat) : Int) - rdP s p) := of_decide_eq_true h
    rw [hw] at h
    omega
  · cases h
theorem M27_sat (s : ByteArray) (p e : Int) : (M27 s p e).sat (Out { val := intA .i64 (if e = 0 ∧ p < (s.data.toList.length : Nat) then 5 else e), outs := rent s p e }) := by
  unfold M27
  by_cases he : e = 0
  · subst he
    by_cases hp : p < (s.data.toList.length : Nat)
    · rw [if_pos ⟨rfl, hp⟩]
      simp only [hp, decide_true]
      exact sat_need rfl (sat_ite (fun _ => sat_ret (Out.refl _)) (fun h => by cases h))
    · rw [if_neg (fun h => hp h.2)]
      simp only [hp, decide_false]
      exact sat_need rfl (sat_ite (fun h => by cases h) (fun _ => sat_ret (Out.refl _)))
  · rw [if_neg (fun h => he h.1)]
    have hb : (e == 0) = false := by simpa using he
    simp only [hb]
    exact sat_need rfl (sat_ite (fun h => by cases h) (fun _ => sat_ret (Out.refl _)))
theorem goodN_get {s : ByteArray} {p : Int} {n : Nat} (h : goodN s p n = true) {k : Nat} (hk : k < n) : rdG s (posN s p k) = true ∧ 0 ≤ posN s p k := by
  have := List.all_eq_true.1 h k (List.mem_range.2 hk)
  simpa using this
theorem M26_sat (s : ByteArray) (p : Int) (hs : short s = true) (hg : goodN s p 5 = true) : (M26 s p).sat (Out { val := .agg ((rdExc s p).iv.map .c), outs := rcent s (posN s p 5) 0 }) := by
  have hp : decide (0 ≤ p) = true := decide_eq_true (goodN_get hg (k := 0) (by omega)).2
  have hs' : decide (s.data.toList.length ≤ 4611686018427387904) = true := hs
  have g0 := rdErr_of_good (goodN_get hg (k := 0) (by omega)).1
  have g1 := rdErr_of_good (goodN_get hg (k := 1) (by omega)).1
  have g2 := rdErr_of_good (goodN_get hg (k := 2) (by omega)).1
  have g3 := rdErr_of_good (goodN_get hg (k := 3) (by omega)).1
  have g4 := rdErr_of_good (goodN_get hg (k := 4) (by omega)).1
  unfold M26
  repeat
    first
      | refine sat_need (by first | rfl | assumption | exact decide_eq_true g0 | exact decide_eq_true g1 | exact decide_eq_true g2 | exact decide_eq_true g3 | exact decide_eq_true g4) ?_
      | refine sat_ite (fun _ => ?_) (fun h => Bool.noConfusion h)
      | refine sat_ite (fun h => Bool.noConfusion h) (fun _ => ?_)
  refine sat_ret (Out.of_eq ?_)
  have g4' : rdErr (rdAll s (((rdAll s (((rdAll s (((rdAll s (((rdAll s p).2.1 : Nat) : Int)).2.1 : Nat) : Int)).2.1 : Nat) : Int)).2.1 : Nat) : Int)) = 0 := g4
  simp only [g4']
  rfl
theorem M23_sat (s : ByteArray) (p : Int) (hs : short s = true) (hg : goodN s p 8 = true) (h1 : is01 (rdV s (posN s p 7)) = true) : (M23 s p).sat (Out { val := .agg ((rdRep s p).iv.map .c), outs := rcent s (posN s p 8) 0 }) := by
  have hp : decide (0 ≤ p) = true := decide_eq_true (goodN_get hg (k := 0) (by omega)).2
  have hs' : decide (s.data.toList.length ≤ 4611686018427387904) = true := hs
  have g0 := rdErr_of_good (goodN_get hg (k := 0) (by omega)).1
  have g1 := rdErr_of_good (goodN_get hg (k := 1) (by omega)).1
  have g2 := rdErr_of_good (goodN_get hg (k := 2) (by omega)).1
  have g3 := rdErr_of_good (goodN_get hg (k := 3) (by omega)).1
  have g4 := rdErr_of_good (goodN_get hg (k := 4) (by omega)).1
  have g5 := rdErr_of_good (goodN_get hg (k := 5) (by omega)).1
  have g6 := rdErr_of_good (goodN_get hg (k := 6) (by omega)).1
  have g7 := (goodN_get hg (k := 7) (by omega)).1
  unfold M23
  repeat
    first
      | refine sat_need (by first | rfl | assumption | exact decide_eq_true g0 | exact decide_eq_true g1 | exact decide_eq_true g2 | exact decide_eq_true g3 | exact decide_eq_true g4 | exact decide_eq_true g5 | exact decide_eq_true g6 | exact g7 | exact h1) ?_
      | refine sat_ite (fun _ => ?_) (fun h => Bool.noConfusion h)
      | refine sat_ite (fun h => Bool.noConfusion h) (fun _ => ?_)
  exact sat_ret (Out.refl _)
end Go.Vse

set_option maxRecDepth 100000
namespace Go.Vse
open Go.Proofs
theorem step_ok {P : Program} {a : FuncId} {A : Spec} {Γ' : FuncId → Option Spec} (h : SpecOk P a A) (k : ∀ f s, Γ' f = some s → SpecOk P f s) : ∀ f s, (bif Nat.beq f a then some A else Γ' f) = some s → SpecOk P f s := by
  intro f s hf
  cases h1 : Nat.beq f a with
  | true =>
    obtain rfl : f = a := Nat.eq_of_beq_eq_true h1
    rw [h1] at hf; cases hf; exact h
  | false =>
    rw [h1] at hf
    exact k f s hf
theorem Γ16a_ok : ∀ f s, Γ16a f = some s → SpecOk Tryz.prog f s := one_ok f16_ok.spec
theorem Γ24_ok : ∀ f s, Γ24 f = some s → SpecOk Tryz.prog f s := step_ok f16_ok.spec (one_ok f31_ok.spec)
theorem f24_ok : MemOk Tryz.prog 24 K24 := by
  refine memOk_of_exec_c (L := fun _ => noL) prog_mixed Γ24_ok (fn := Tryz.f24) (c := codeOf Tryz.f24) (by kernel_rfl) (by kernel_rfl) (callFunc_enter (fn := Tryz.f24) (c := codeOf Tryz.f24) (by kernel_rfl) (by kernel_rfl) (by kernel_rfl)) (N := 1010) (frz := false) (fun ents args o _ => blocksOk_none _ _) ?_
  intro ents args o h hc
  unfold K24 at h
  split at h
  · rename_i s p e
    cases h
    have h0 : e = 0 := dec (hc (decide (e = 0)) (by simp))
    have h1 : 0 ≤ p := dec (hc (decide (0 ≤ p)) (by simp))
    have h2 : short s = true := hc (short s) (by simp)
    have h3 : rdG s p = true := hc (rdG s p) (by simp)
    have h4 : is01 (rdV s p) = true := hc (is01 (rdV s p)) (by simp)
    subst h0
    refine ⟨rent s p 0, [.ptr 0 0], EntsEqv.refl _, SeesL.refl _, ?_⟩
    have hs := M24_sat s p h1 h2 h3 h4
    rw [← M24_eq] at hs
    generalize execM Tryz.prog Γ24 noL 1010 false Tryz.f24 (rent s p 0) [.ptr 0 0] = T at hs ⊢
    exact hs
  · cases h
theorem f32_ok : MemOk Tryz.prog 32 K32 := by
  refine memOk_of_exec_c (L := fun _ => noL) prog_mixed Γ24_ok (fn := Tryz.f32) (c := codeOf Tryz.f32) (by kernel_rfl) (by kernel_rfl) (callFunc_enter (fn := Tryz.f32) (c := codeOf Tryz.f32) (by kernel_rfl) (by kernel_rfl) (by kernel_rfl)) (N := 1010) (frz := false) (fun ents args o _ => blocksOk_none _ _) ?_
  intro ents args o h hc
  unfold K32 at h
  split at h
  · rename_i s p e
    cases h
    have h0 : e = 0 := dec (hc (decide (e = 0)) (by simp))
    have h1 : 0 ≤ p := dec (hc (decide (0 ≤ p)) (by simp))
    have h2 : short s = true := hc (short s) (by simp)
    have h3 : rdG s p = true := hc (rdG s p) (by simp)
    have h4 : 0 ≤ rdV s p := dec (hc (decide (0 ≤ rdV s p)) (by simp))
    have h5 : rdV s p ≤ (s.data.toList.length : Nat) - rdP s p := dec (hc (decide (rdV s p ≤ (s.data.toList.length : Nat) - rdP s p)) (by simp))
    have h6 : rdP s p ≤ (s.data.toList.length : Nat) := dec (hc (decide (rdP s p ≤ (s.data.toList.length : Nat))) (by simp))
    subst h0
    refine ⟨rent s p 0, [.ptr 0 0], EntsEqv.refl _, SeesL.refl _, ?_⟩
    have hs := M32_sat s p h1 h2 h3 h4 h5 h6
    rw [← M32_eq] at hs
    generalize execM Tryz.prog Γ24 noL 1010 false Tryz.f32 (rent s p 0) [.ptr 0 0] = T at hs ⊢
    exact hs
  · cases h
theorem f27_ok : MemOk Tryz.prog 27 K27 := by
  refine memOk_of_exec_c (L := fun _ => noL) prog_mixed noΓ_ok (fn := Tryz.f27) (c := codeOf Tryz.f27) (by kernel_rfl) (by kernel_rfl) (callFunc_enter (fn := Tryz.f27) (c := codeOf Tryz.f27) (by kernel_rfl) (by kernel_rfl) (by kernel_rfl)) (N := 1010) (frz := false) (fun ents args o _ => blocksOk_none _ _) ?_
  intro ents args o h hc
  unfold K27 at h
  split at h
  · rename_i s p e
    cases h
    refine ⟨rent s p e, [.ptr 0 0], EntsEqv.refl _, SeesL.refl _, ?_⟩
    have hs := M27_sat s p e
    rw [← M27_eq] at hs
    generalize execM Tryz.prog (fun _ => none) noL 1010 false Tryz.f27 (rent s p e) [.ptr 0 0] = T at hs ⊢
    exact hs
  · cases h
theorem Γ23_ok : ∀ f s, Γ23 f = some s → SpecOk Tryz.prog f s := step_ok f16_ok.spec (one_ok f24_ok.spec)
theorem f26_ok : MemOk Tryz.prog 26 K26 := by
  refine memOk_of_exec_c (L := fun _ => noL) prog_mixed Γ16a_ok (fn := Tryz.f26) (c := codeOf Tryz.f26) (by kernel_rfl) (by kernel_rfl) (callFunc_enter (fn := Tryz.f26) (c := codeOf Tryz.f26) (by kernel_rfl) (by kernel_rfl) (by kernel_rfl)) (N := 1006) (frz := false) (fun ents args o _ => blocksOk_none _ _) ?_
  intro ents args o h hc
  unfold K26 at h
  split at h
  · rename_i s p e
    cases h
    have h0 : e = 0 := dec (hc (decide (e = 0)) (by simp))
    have h1 : short s = true := hc (short s) (by simp)
    have h2 : goodN s p 5 = true := hc (goodN s p 5) (by simp)
    subst h0
    refine ⟨rcent s p 0, [.ptr 0 0], EntsEqv.refl _, SeesL.refl _, ?_⟩
    have hs := M26_sat s p h1 h2
    rw [← M26_eq] at hs
    generalize execM Tryz.prog Γ16a noL 1006 false Tryz.f26 (rcent s p 0) [.ptr 0 0] = T at hs ⊢
    exact hs
  · cases h
theorem f23_ok : MemOk Tryz.prog 23 K23 := by
  refine memOk_of_exec_c (L := fun _ => noL) prog_mixed Γ23_ok (fn := Tryz.f23) (c := codeOf Tryz.f23) (by kernel_rfl) (by kernel_rfl) (callFunc_enter (fn := Tryz.f23) (c := codeOf Tryz.f23) (by kernel_rfl) (by kernel_rfl) (by kernel_rfl)) (N := 1008) (frz := false) (fun ents args o _ => blocksOk_none _ _) ?_
  intro ents args o h hc
  unfold K23 at h
  split at h
  · rename_i s p e
    cases h
    have h0 : e = 0 := dec (hc (decide (e = 0)) (by simp))
    have h1 : short s = true := hc (short s) (by simp)
    have h2 : goodN s p 8 = true := hc (goodN s p 8) (by simp)
    have h3 : is01 (rdV s (posN s p 7)) = true := hc (is01 (rdV s (posN s p 7))) (by simp)
    subst h0
    refine ⟨rcent s p 0, [.ptr 0 0], EntsEqv.refl _, SeesL.refl _, ?_⟩
    have hs := M23_sat s p h1 h2 h3
    rw [← M23_eq] at hs
    generalize execM Tryz.prog Γ23 noL 1008 false Tryz.f23 (rcent s p 0) [.ptr 0 0] = T at hs ⊢
    exact hs
  · cases h
theorem Γ22_ok : ∀ f s, Γ22 f = some s → SpecOk Tryz.prog f s := step_ok f32_ok.spec (one_ok f23_ok.spec)
theorem Γ25_ok : ∀ f s, Γ25 f = some s → SpecOk Tryz.prog f s := step_ok f32_ok.spec (one_ok f26_ok.spec)

/-! ### lists that are read -/
def rdReps (s : ByteArray) (p : Int) : Nat → List Rep
  | 0 => []
  | k + 1 => rdRep s p :: rdReps s (posN s p 8) k
def posReps (s : ByteArray) (p : Int) : Nat → Int
  | 0 => p
  | k + 1 => posReps s (posN s p 8) k
def goodReps (s : ByteArray) (p : Int) : Nat → Bool
  | 0 => true
  | k + 1 => goodN s p 8 && is01 (rdV s (posN s p 7)) && goodReps s (posN s p 8) k
def rdExcs (s : ByteArray) (p : Int) : Nat → List Exc
  | 0 => []
  | k + 1 => rdExc s p :: rdExcs s (posN s p 5) k
def posExcs (s : ByteArray) (p : Int) : Nat → Int
  | 0 => p
  | k + 1 => posExcs s (posN s p 5) k
def goodExcs (s : ByteArray) (p : Int) : Nat → Bool
  | 0 => true
  | k + 1 => goodN s p 5 && goodExcs s (posN s p 5) k
theorem rangeB_rdV {s : ByteArray} {p : Int} (h : rdG s p = true) : rangeB (rdV s p) = true := by
  unfold rdG rdAll at h
  unfold rdV rdAll
  rcases hr : rdN s.data.toList 10 0 0 p.toNat with ⟨o, q, e⟩
  rw [hr] at h
  cases o with
  | none => cases h
  | some v =>
    obtain ⟨x, hv, hb, _⟩ := rdN_some s.data.toList 10 0 0 p.toNat v q e (by omega) hr
    simp only [Nat.pow_zero, Nat.mul_one, Nat.zero_add] at hv hb
    simp only [Option.getD_some, rangeB, Bool.and_eq_true, decide_eq_true_eq]
    subst hv; unfold unzig; split <;> omega
theorem rdRep_ok {s : ByteArray} {p : Int} (h : goodN s p 8 = true) : (rdRep s p).ok = true := by
  have g := fun k hk => rangeB_rdV (goodN_get h (k := k) hk).1
  have g0 := g 0 (by omega); have g1 := g 1 (by omega); have g2 := g 2 (by omega); have g3 := g 3 (by omega)
  have g4 := g 4 (by omega); have g5 := g 5 (by omega); have g6 := g 6 (by omega)
  simp only [Rep.ok, rdRep, g0, g1, g2, g3, g4, g5, g6, Bool.and_self]
theorem rdExc_ok {s : ByteArray} {p : Int} (h : goodN s p 5 = true) : (rdExc s p).ok = true := by
  have g := fun k hk => rangeB_rdV (goodN_get h (k := k) hk).1
  have g0 := g 0 (by omega); have g1 := g 1 (by omega); have g2 := g 2 (by omega); have g3 := g 3 (by omega)
  have g4 := g 4 (by omega)
  simp only [Exc.ok, rdExc, g0, g1, g2, g3, g4, Bool.and_self]
theorem rdReps_len (s : ByteArray) : ∀ (k : Nat) (p : Int), (rdReps s p k).length = k
  | 0, p => rfl
  | k + 1, p => by simp [rdReps, rdReps_len s k]
theorem rdExcs_len (s : ByteArray) : ∀ (k : Nat) (p : Int), (rdExcs s p k).length = k
  | 0, p => rfl
  | k + 1, p => by simp [rdExcs, rdExcs_len s k]

theorem repsOf_join (n m : Nat) (el el' : Nat → List IV) : repsOf (n + m) (joinE n el el') = repsOf n el ++ repsOf m el' := by
  apply List.ext_getElem
  · simp [repsOf]
  · intro i h1 h2
    simp only [repsOf, List.length_map, List.length_range] at h1
    by_cases hi : i < n
    · rw [List.getElem_append_left (by simpa [repsOf] using hi)]
      simp [repsOf, joinE, hi]
    · rw [List.getElem_append_right (by simp [repsOf]; omega)]
      simp [repsOf, joinE, hi]
theorem excsOf_join (n m : Nat) (el el' : Nat → List IV) : excsOf (n + m) (joinE n el el') = excsOf n el ++ excsOf m el' := by
  apply List.ext_getElem
  · simp [excsOf]
  · intro i h1 h2
    simp only [excsOf, List.length_map, List.length_range] at h1
    by_cases hi : i < n
    · rw [List.getElem_append_left (by simpa [excsOf] using hi)]
      simp [excsOf, joinE, hi]
    · rw [List.getElem_append_right (by simp [excsOf]; omega)]
      simp [excsOf, joinE, hi]
theorem isReps_join (n m : Nat) (el el' : Nat → List IV) (h : isReps n el = true) (h' : isReps m el' = true) : isReps (n + m) (joinE n el el') = true := by
  refine List.all_eq_true.2 fun k hk => ?_
  have hk := List.mem_range.1 hk
  unfold joinE
  by_cases hn : k < n
  · simp only [hn, if_true]
    exact List.all_eq_true.1 h k (List.mem_range.2 hn)
  · simp only [hn, if_false]
    exact List.all_eq_true.1 h' (k - n) (List.mem_range.2 (by omega))
theorem isExcs_join (n m : Nat) (el el' : Nat → List IV) (h : isExcs n el = true) (h' : isExcs m el' = true) : isExcs (n + m) (joinE n el el') = true := by
  refine List.all_eq_true.2 fun k hk => ?_
  have hk := List.mem_range.1 hk
  unfold joinE
  by_cases hn : k < n
  · simp only [hn, if_true]
    exact List.all_eq_true.1 h k (List.mem_range.2 hn)
  · simp only [hn, if_false]
    exact List.all_eq_true.1 h' (k - n) (List.mem_range.2 (by omega))
theorem repsOf_snoc (out : List Rep) (r : Rep) : repsOf (out.length + 1) (joinE out.length (repEl out) fun k => List.take (7 + 1) (List.drop (k * (7 + 1)) [IV.v (.bool r.k), .v (.int .i64 r.g), .v (.int .i64 r.f), .v (.int .i64 r.e), .v (.int .i64 r.d), .v (.int .i64 r.c), .v (.int .i64 r.b), .v (.int .i64 r.a)].reverse)) = out ++ [r] := by
  rw [repsOf_join, repsOf_el]; rfl
theorem isReps_snoc (out : List Rep) (r : Rep) (h : repsOk out = true) (hr : r.ok = true) : isReps (out.length + 1) (joinE out.length (repEl out) fun k => List.take (7 + 1) (List.drop (k * (7 + 1)) [IV.v (.bool r.k), .v (.int .i64 r.g), .v (.int .i64 r.f), .v (.int .i64 r.e), .v (.int .i64 r.d), .v (.int .i64 r.c), .v (.int .i64 r.b), .v (.int .i64 r.a)].reverse)) = true := by
  refine isReps_join _ _ _ _ (isReps_mk h) ?_
  have : isRep r.iv = true := hr
  simp only [isReps, List.range_succ, List.range_zero, List.nil_append, List.all_cons, List.all_nil, Bool.and_true]
  exact this
theorem excsOf_snoc (out : List Exc) (r : Exc) : excsOf (out.length + 1) (joinE out.length (excEl out) fun k => List.take (4 + 1) (List.drop (k * (4 + 1)) [IV.v (.int .i64 r.e), .v (.int .i64 r.d), .v (.int .i64 r.c), .v (.int .i64 r.b), .v (.int .i64 r.a)].reverse)) = out ++ [r] := by
  rw [excsOf_join, excsOf_el]; rfl
theorem isExcs_snoc (out : List Exc) (r : Exc) (h : excsOk out = true) (hr : r.ok = true) : isExcs (out.length + 1) (joinE out.length (excEl out) fun k => List.take (4 + 1) (List.drop (k * (4 + 1)) [IV.v (.int .i64 r.e), .v (.int .i64 r.d), .v (.int .i64 r.c), .v (.int .i64 r.b), .v (.int .i64 r.a)].reverse)) = true := by
  refine isExcs_join _ _ _ _ (isExcs_mk h) ?_
  have : isExc r.iv = true := hr
  simp only [isExcs, List.range_succ, List.range_zero, List.nil_append, List.all_cons, List.all_nil, Bool.and_true]
  exact this
theorem step22_in (s : ByteArray) (p : Int) (n i : Nat) (out : List Rep) (hs : short s = true) (hg : goodN s p 8 = true) (h01 : is01 (rdV s (posN s p 7)) = true) (hok : repsOk out = true) (hi : i < n) (hn : n ≤ 1000) (hl : out.length = i) {R : LSt Rep ⊕ LSt Rep → Prop}
    (hin : R (.inl ⟨s, posN s p 8, (n : Nat), ((i + 1 : Nat) : Int), out ++ [rdRep s p]⟩)) : (step22 s p (n : Nat) (i : Nat) out).sat R := by
  have hw : IntKind.i64.wrap ((i : Int) + 1) = ((i + 1 : Nat) : Int) := by rw [wrap_i64 (by omega)]; omega
  unfold step22
  refine sat_ite (fun _ => sat_need rfl (sat_need hs (sat_need hg (sat_need h01 (sat_ite (fun h => Bool.noConfusion h) (fun _ => sat_need (by simp) (sat_need rfl (sat_need (decide_eq_true (by omega)) (sat_need (decide_eq_true (by omega)) (sat_need rfl (sat_need (by simp) (sat_need (isReps_snoc out (rdRep s p) hok (rdRep_ok hg)) (sat_ret ?_))))))))))))) (fun h => absurd (show (i : Int) < (n : Nat) by omega) (of_decide_eq_false h))
  rw [hw]
  exact (congrArg (fun l => R (.inl ⟨s, posN s p 8, (n : Nat), ((i + 1 : Nat) : Int), l⟩)) (repsOf_snoc out (rdRep s p))).mpr hin
theorem step22_out (s : ByteArray) (p : Int) (n : Nat) (out : List Rep) (hok : repsOk out = true) {R : LSt Rep ⊕ LSt Rep → Prop}
    (hin : R (.inr ⟨s, p, (n : Nat), (n : Nat), out⟩)) : (step22 s p (n : Nat) (n : Nat) out).sat R := by
  unfold step22
  refine sat_ite (fun h => absurd (of_decide_eq_true h) (Int.lt_irrefl _)) (fun _ => sat_need rfl (sat_need (by simp) (sat_need (isReps_mk hok) (sat_ret ?_))))
  rw [repsOf_el]
  exact hin
theorem runs22 (s : ByteArray) (n : Nat) (hs : short s = true) (hn : n ≤ 1000) (Q : LSt Rep → Prop) : ∀ (k i : Nat) (p : Int) (out : List Rep), i + k = n → out.length = i → repsOk out = true → goodReps s p k = true →
    Q ⟨s, posReps s p k, (n : Nat), (n : Nat), out ++ rdReps s p k⟩ → RunsX (fun x : LSt Rep => step22 x.s x.p x.n x.i x.out) Q (k + 1) ⟨s, p, (n : Nat), (i : Nat), out⟩
  | 0, i, p, out, hi, hl, hok, hg, hq => by
    obtain rfl : i = n := by omega
    simp only [posReps, rdReps, List.append_nil] at hq
    exact step22_out s p i out hok hq
  | k + 1, i, p, out, hi, hl, hok, hg, hq => by
    simp only [goodReps, Bool.and_eq_true] at hg
    obtain ⟨⟨g1, g2⟩, g3⟩ := hg
    have hr := rdRep_ok g1
    have ih := runs22 s n hs hn Q k (i + 1) (posN s p 8) (out ++ [rdRep s p]) (by omega) (by simp [hl]) (by simp only [repsOk, List.all_append, List.all_cons, List.all_nil, Bool.and_true, Bool.and_eq_true]; exact ⟨hok, hr⟩) g3 (by rw [List.append_assoc]; exact hq)
    exact step22_in s p n i out hs g1 g2 hok (by omega) hn hl ih
theorem step25_in (s : ByteArray) (p : Int) (n i : Nat) (out : List Exc) (hs : short s = true) (hg : goodN s p 5 = true) (hok : excsOk out = true) (hi : i < n) (hn : n ≤ 1000) (hl : out.length = i) {R : LSt Exc ⊕ LSt Exc → Prop}
    (hin : R (.inl ⟨s, posN s p 5, (n : Nat), ((i + 1 : Nat) : Int), out ++ [rdExc s p]⟩)) : (step25 s p (n : Nat) (i : Nat) out).sat R := by
  have hw : IntKind.i64.wrap ((i : Int) + 1) = ((i + 1 : Nat) : Int) := by rw [wrap_i64 (by omega)]; omega
  unfold step25
  refine sat_ite (fun _ => sat_need rfl (sat_need hs (sat_need hg (sat_ite (fun h => Bool.noConfusion h) (fun _ => sat_need (by simp) (sat_need rfl (sat_need (decide_eq_true (by omega)) (sat_need (decide_eq_true (by omega)) (sat_need rfl (sat_need (by simp) (sat_need (isExcs_snoc out (rdExc s p) hok (rdExc_ok hg)) (sat_ret ?_)))))))))))) (fun h => absurd (show (i : Int) < (n : Nat) by omega) (of_decide_eq_false h))
  rw [hw]
  exact (congrArg (fun l => R (.inl ⟨s, posN s p 5, (n : Nat), ((i + 1 : Nat) : Int), l⟩)) (excsOf_snoc out (rdExc s p))).mpr hin
theorem step25_out (s : ByteArray) (p : Int) (n : Nat) (out : List Exc) (hok : excsOk out = true) {R : LSt Exc ⊕ LSt Exc → Prop}
    (hin : R (.inr ⟨s, p, (n : Nat), (n : Nat), out⟩)) : (step25 s p (n : Nat) (n : Nat) out).sat R := by
  unfold step25
  refine sat_ite (fun h => absurd (of_decide_eq_true h) (Int.lt_irrefl _)) (fun _ => sat_need rfl (sat_need (by simp) (sat_need (isExcs_mk hok) (sat_ret ?_))))
  rw [excsOf_el]
  exact hin
theorem runs25 (s : ByteArray) (n : Nat) (hs : short s = true) (hn : n ≤ 1000) (Q : LSt Exc → Prop) : ∀ (k i : Nat) (p : Int) (out : List Exc), i + k = n → out.length = i → excsOk out = true → goodExcs s p k = true →
    Q ⟨s, posExcs s p k, (n : Nat), (n : Nat), out ++ rdExcs s p k⟩ → RunsX (fun x : LSt Exc => step25 x.s x.p x.n x.i x.out) Q (k + 1) ⟨s, p, (n : Nat), (i : Nat), out⟩
  | 0, i, p, out, hi, hl, hok, hg, hq => by
    obtain rfl : i = n := by omega
    simp only [posExcs, rdExcs, List.append_nil] at hq
    exact step25_out s p i out hok hq
  | k + 1, i, p, out, hi, hl, hok, hg, hq => by
    simp only [goodExcs, Bool.and_eq_true] at hg
    obtain ⟨g1, g3⟩ := hg
    have hr := rdExc_ok g1
    have ih := runs25 s n hs hn Q k (i + 1) (posN s p 5) (out ++ [rdExc s p]) (by omega) (by simp [hl]) (by simp only [excsOk, List.all_append, List.all_cons, List.all_nil, Bool.and_true, Bool.and_eq_true]; exact ⟨hok, hr⟩) g3 (by rw [List.append_assoc]; exact hq)
    exact step25_in s p n i out hs g1  hok (by omega) hn hl ih
end Go.Vse

set_option maxRecDepth 100000
namespace Go.Vse
open Go.Proofs
theorem take22_ok (q : List AV × List (Option Ent)) (x : LSt Rep) (cs : List Bool) (h : take22 q = some (x, cs)) (hc : ∀ p ∈ cs, p) : SeesL q.1 (head22 x).1 ∧ EntsEqv q.2 (head22 x).2 := by
  unfold take22 at h
  split at h
  · rename_i m n i s p e m' el
    simp only [Option.some.injEq, Prod.mk.injEq] at h
    obtain ⟨rfl, rfl⟩ := h
    have h0 : e = 0 := dec (hc (decide (e = 0)) (by simp))
    have h1 : isReps m el = true := hc (isReps m el) (by simp)
    have h2 : m = m' := dec (hc (decide (m = m')) (by simp))
    subst h0
    subst h2
    have e := (isReps_el h1).1
    refine ⟨?_, ?_⟩
    · simp only [head22, repsOf_len]
      exact SeesL.refl _
    · simp only [head22, repsOf_len]
      exact .cons (.refl _) (.cons (.refl _) (.cons (.arr _ _ _ _ _ e) .nil))
  · cases h
theorem lp22_good (w : Way (LSt Rep)) : (lp22 w).Good2 where
  take := take22_ok
  takeR := by
    intro e q r cs h hc
    cases e with
    | normal => obtain ⟨h1, h2⟩ := take22_ok q r cs h hc; exact ⟨rfl, h1, h2⟩
    | exit j => cases h
    | ret => cases h
  split := fun r Q h => h
def way22 : Way (LSt Rep) := ⟨fun x => ⟨x.s, posReps x.s x.p (x.n - x.i).toNat, x.n, x.n, x.out ++ rdReps x.s x.p (x.n - x.i).toNat⟩,
  fun x => decide (0 ≤ x.i) && decide (x.i ≤ x.n) && decide (x.n ≤ 1000) && decide (x.out.length = x.i.toNat) && repsOk x.out && short x.s && goodReps x.s x.p (x.n - x.i).toNat⟩
def L22 : Nat → Option (St → Tr (Ex × St)) := fun id => bif Nat.beq id 0 then some ((lp22 way22).g 2) else none
theorem f22_loops : BlocksOk Tryz.prog 2 L22 (codeOf Tryz.f22) := by
  refine blocksOk_of (d := fun id => Nat.beq id 0) (fun id => by unfold L22; cases Nat.beq id 0 <;> rfl) _ ?_
  have hb : blocksOf (fun id => Nat.beq id 0) (codeOf Tryz.f22) = [(0, .loop (loopOf 0 (codeOf Tryz.f22)))] := by kernel_rfl
  rw [hb]
  intro p hp g hg
  simp only [List.mem_singleton] at hp
  subst hp
  have hh : L22 0 = some ((lp22 way22).g 2) := rfl
  rw [hh] at hg
  obtain rfl : g = (lp22 way22).g 2 := (Option.some.inj hg).symm
  refine LoopSt.ok2 (N := 1010) prog_mixed Γ22_ok (L := noL) (blocksOk_none 2 _) (lp22_good _) (step22_eq way22) ?_
  rintro ⟨s, p, n, i, out⟩ hx
  have hx : way22.pre ⟨s, p, n, i, out⟩ = true := hx
  simp only [way22, Bool.and_eq_true, decide_eq_true_eq] at hx
  obtain ⟨⟨⟨⟨⟨⟨h1, h2⟩, h3⟩, h4⟩, h5⟩, h6⟩, h7⟩ := hx
  obtain ⟨i, rfl⟩ : ∃ m : Nat, i = m := ⟨i.toNat, by omega⟩
  obtain ⟨n, rfl⟩ : ∃ m : Nat, n = m := ⟨n.toNat, by omega⟩
  have hk : ((n : Int) - (i : Int)).toNat = n - i := by omega
  rw [hk] at h7
  exact ⟨_, runs22 s n h6 (by omega) (· = way22.res ⟨s, p, n, i, out⟩) (n - i) i p out (by omega) (by omega) h5 h7 (by simp only [way22, hk])⟩
def K22 : MSpec
  | [some (.cells [.c (.v (.string s)), .c (.v (.int .i64 p)), .c (.v (.int .i64 e))] 66), some (.cells [.ptr 0 0] 64)], [.ptr 0 0, .fn 23 [.ptr 1 0]] =>
    some { val := .c (.sl (rdV s p).toNat 8 (repEl (rdReps s (rdP s p) (rdV s p).toNat))),
           outs := [some (.cells [.c (.v (.string s)), intA .i64 (posReps s (rdP s p) (rdV s p).toNat), intA .i64 0] 66), some (.cells [.ptr 0 0] 64)],
           conds := [decide (e = 0), decide (0 ≤ p), short s, rdG s p, decide (0 ≤ rdV s p), decide (rdV s p ≤ (s.data.toList.length : Nat) - rdP s p), decide (rdP s p ≤ (s.data.toList.length : Nat)), decide (rdV s p ≤ 1000), goodReps s (rdP s p) (rdV s p).toNat] }
  | _, _ => none
def ents22 (s : ByteArray) (p : Int) : List (Option Ent) := [some (.cells [.c (.v (.string s)), intA .i64 p, intA .i64 0] 66), some (.cells [.ptr 0 0] 64)]
theorem take25_ok (q : List AV × List (Option Ent)) (x : LSt Exc) (cs : List Bool) (h : take25 q = some (x, cs)) (hc : ∀ p ∈ cs, p) : SeesL q.1 (head25 x).1 ∧ EntsEqv q.2 (head25 x).2 := by
  unfold take25 at h
  split at h
  · rename_i m n i s p e m' el
    simp only [Option.some.injEq, Prod.mk.injEq] at h
    obtain ⟨rfl, rfl⟩ := h
    have h0 : e = 0 := dec (hc (decide (e = 0)) (by simp))
    have h1 : isExcs m el = true := hc (isExcs m el) (by simp)
    have h2 : m = m' := dec (hc (decide (m = m')) (by simp))
    subst h0
    subst h2
    have e := (isExcs_el h1).1
    refine ⟨?_, ?_⟩
    · simp only [head25, excsOf_len]
      exact SeesL.refl _
    · simp only [head25, excsOf_len]
      exact .cons (.refl _) (.cons (.refl _) (.cons (.arr _ _ _ _ _ e) .nil))
  · cases h
theorem lp25_good (w : Way (LSt Exc)) : (lp25 w).Good2 where
  take := take25_ok
  takeR := by
    intro e q r cs h hc
    cases e with
    | normal => obtain ⟨h1, h2⟩ := take25_ok q r cs h hc; exact ⟨rfl, h1, h2⟩
    | exit j => cases h
    | ret => cases h
  split := fun r Q h => h
def way25 : Way (LSt Exc) := ⟨fun x => ⟨x.s, posExcs x.s x.p (x.n - x.i).toNat, x.n, x.n, x.out ++ rdExcs x.s x.p (x.n - x.i).toNat⟩,
  fun x => decide (0 ≤ x.i) && decide (x.i ≤ x.n) && decide (x.n ≤ 1000) && decide (x.out.length = x.i.toNat) && excsOk x.out && short x.s && goodExcs x.s x.p (x.n - x.i).toNat⟩
def L25 : Nat → Option (St → Tr (Ex × St)) := fun id => bif Nat.beq id 0 then some ((lp25 way25).g 2) else none
theorem f25_loops : BlocksOk Tryz.prog 2 L25 (codeOf Tryz.f25) := by
  refine blocksOk_of (d := fun id => Nat.beq id 0) (fun id => by unfold L25; cases Nat.beq id 0 <;> rfl) _ ?_
  have hb : blocksOf (fun id => Nat.beq id 0) (codeOf Tryz.f25) = [(0, .loop (loopOf 0 (codeOf Tryz.f25)))] := by kernel_rfl
  rw [hb]
  intro p hp g hg
  simp only [List.mem_singleton] at hp
  subst hp
  have hh : L25 0 = some ((lp25 way25).g 2) := rfl
  rw [hh] at hg
  obtain rfl : g = (lp25 way25).g 2 := (Option.some.inj hg).symm
  refine LoopSt.ok2 (N := 1010) prog_mixed Γ25_ok (L := noL) (blocksOk_none 2 _) (lp25_good _) (step25_eq way25) ?_
  rintro ⟨s, p, n, i, out⟩ hx
  have hx : way25.pre ⟨s, p, n, i, out⟩ = true := hx
  simp only [way25, Bool.and_eq_true, decide_eq_true_eq] at hx
  obtain ⟨⟨⟨⟨⟨⟨h1, h2⟩, h3⟩, h4⟩, h5⟩, h6⟩, h7⟩ := hx
  obtain ⟨i, rfl⟩ : ∃ m : Nat, i = m := ⟨i.toNat, by omega⟩
  obtain ⟨n, rfl⟩ : ∃ m : Nat, n = m := ⟨n.toNat, by omega⟩
  have hk : ((n : Int) - (i : Int)).toNat = n - i := by omega
  rw [hk] at h7
  exact ⟨_, runs25 s n h6 (by omega) (· = way25.res ⟨s, p, n, i, out⟩) (n - i) i p out (by omega) (by omega) h5 h7 (by simp only [way25, hk])⟩
def K25 : MSpec
  | [some (.cells [.c (.v (.string s)), .c (.v (.int .i64 p)), .c (.v (.int .i64 e))] 66), some (.cells [.ptr 0 0] 64)], [.ptr 0 0, .fn 26 [.ptr 1 0]] =>
    some { val := .c (.sl (rdV s p).toNat 5 (excEl (rdExcs s (rdP s p) (rdV s p).toNat))),
           outs := [some (.cells [.c (.v (.string s)), intA .i64 (posExcs s (rdP s p) (rdV s p).toNat), intA .i64 0] 66), some (.cells [.ptr 0 0] 64)],
           conds := [decide (e = 0), decide (0 ≤ p), short s, rdG s p, decide (0 ≤ rdV s p), decide (rdV s p ≤ (s.data.toList.length : Nat) - rdP s p), decide (rdP s p ≤ (s.data.toList.length : Nat)), decide (rdV s p ≤ 1000), goodExcs s (rdP s p) (rdV s p).toNat] }
  | _, _ => none
def ents25 (s : ByteArray) (p : Int) : List (Option Ent) := [some (.cells [.c (.v (.string s)), intA .i64 p, intA .i64 0] 66), some (.cells [.ptr 0 0] 64)]
end Go.Vse

set_option maxRecDepth 100000
namespace Go.Vse
open Go.Proofs
def Γ11 : FuncId → Option Spec := fun f => bif Nat.beq f 22 then some (memSpec K22) else bif Nat.beq f 25 then some (memSpec K25) else bif Nat.beq f 27 then some (memSpec K27) else none
def Γ8 : FuncId → Option Spec := fun f => bif Nat.beq f 8 then some (pureSpec numK) else none
def M22 (s : ByteArray) (p : Int) : Tr MemOut :=
let x1 : Int := ↑s.data.toList.length
let x2 : Int := x1 - rdP s p
let x3 : List Rep := repsOf 0 fun x => []
let x4 : Nat := x3.length
let x5 : Nat := (rdV s p - 0).toNat
let x6 : List Rep := x3 ++ rdReps s (rdP s p) x5
let x7 : Nat := x6.length
Tr.need true
  (Tr.need (decide (0 ≤ p))
    (Tr.need (short s)
      (Tr.need (rdG s p)
        (Tr.need (decide (0 ≤ rdV s p))
          (Tr.need (decide (rdV s p ≤ x2))
            (Tr.need (decide (rdP s p ≤ x1))
              (Tr.need true
                (Tr.need true
                  (Tr.need true
                    (Tr.need
                      (decide (0 ≤ 0) && decide (0 ≤ rdV s p) && decide (rdV s p ≤ 1000) && decide (x4 = Int.toNat 0) && repsOk x3 && short s &&
                        goodReps s (rdP s p) x5)
                      (Tr.need (decide (x7 ≤ x7))
                        (Tr.ret
                          { val := AV.c (IV.sl x7 8 (repEl x6)),
                            outs :=
                              [some
                                  (Ent.cells
                                    [AV.c (IV.v (Value.string s)), AV.c (IV.v (Value.int IntKind.i64 (posReps s (rdP s p) x5))),
                                      AV.c (IV.v (Value.int IntKind.i64 0))]
                                    66),
                                some (Ent.cells [AV.ptr 0 0] 64)] }))))))))))))
def M25 (s : ByteArray) (p : Int) : Tr MemOut :=
let x1 : Int := ↑s.data.toList.length
let x2 : Int := x1 - rdP s p
let x3 : List Exc := excsOf 0 fun x => []
let x4 : Nat := x3.length
let x5 : Nat := (rdV s p - 0).toNat
let x6 : List Exc := x3 ++ rdExcs s (rdP s p) x5
let x7 : Nat := x6.length
Tr.need true
  (Tr.need (decide (0 ≤ p))
    (Tr.need (short s)
      (Tr.need (rdG s p)
        (Tr.need (decide (0 ≤ rdV s p))
          (Tr.need (decide (rdV s p ≤ x2))
            (Tr.need (decide (rdP s p ≤ x1))
              (Tr.need true
                (Tr.need true
                  (Tr.need true
                    (Tr.need
                      (decide (0 ≤ 0) && decide (0 ≤ rdV s p) && decide (rdV s p ≤ 1000) && decide (x4 = Int.toNat 0) && excsOk x3 && short s &&
                        goodExcs s (rdP s p) x5)
                      (Tr.need (decide (x7 ≤ x7))
                        (Tr.ret
                          { val := AV.c (IV.sl x7 5 (excEl x6)),
                            outs :=
                              [some
                                  (Ent.cells
                                    [AV.c (IV.v (Value.string s)), AV.c (IV.v (Value.int IntKind.i64 (posExcs s (rdP s p) x5))),
                                      AV.c (IV.v (Value.int IntKind.i64 0))]
                                    66),
                                some (Ent.cells [AV.ptr 0 0] 64)] }))))))))))))
def M11 (s : ByteArray) : Tr AV :=
let x1 : Int := rdV s 0
let x2 : Int := ↑s.data.toList.length
let x3 : Int := rdP s 0
let x4 : Int := x2 - x3
let x5 : Nat := x1.toNat
let x6 : Int := posReps s x3 x5
let x7 : Int := rdV s x6
let x8 : Int := rdP s x6
let x9 : Int := x2 - x8
let x10 : Nat := x7.toNat
let x11 : Int := posExcs s x8 x10
let x12 : Int := if (0 : Int) = 0 ∧ x11 < x2 then 5 else 0
Tr.need true
  (Tr.need true
    (Tr.need (short s)
      (Tr.need (rdG s 0)
        (Tr.need (decide (0 ≤ x1))
          (Tr.need (decide (x1 ≤ x4))
            (Tr.need (decide (x3 ≤ x2))
              (Tr.need (decide (x1 ≤ 1000))
                (Tr.need (goodReps s x3 x5)
                  (Tr.need true
                    (Tr.need (decide (0 ≤ x6))
                      (Tr.need (short s)
                        (Tr.need (rdG s x6)
                          (Tr.need (decide (0 ≤ x7))
                            (Tr.need (decide (x7 ≤ x9))
                              (Tr.need (decide (x8 ≤ x2))
                                (Tr.need (decide (x7 ≤ 1000))
                                  (Tr.need (goodExcs s x8 x10)
                                    (Tr.ite (x12 != 0)
                                      (Tr.ret
                                        (AV.tup
                                          [AV.agg [AV.c (IV.v (Value.slice none 0 0)), AV.c (IV.v (Value.slice none 0 0))],
                                            AV.c (IV.v (Value.int IntKind.i64 x12))]))
                                      (Tr.ret
                                        (AV.tup
                                          [AV.agg [AV.c (IV.sl x5 8 (repEl (rdReps s x3 x5))), AV.c (IV.sl x10 5 (excEl (rdExcs s x8 x10)))],
                                            AV.c (IV.v (Value.int IntKind.i64 0))]))))))))))))))))))))
def M28 (b : Bool) : Tr AV :=
Tr.ite b (Tr.need true (Tr.ret (AV.c (IV.v (Value.string { data := { toList := leb (zig 1) } })))))
  (Tr.need true (Tr.ret (AV.c (IV.v (Value.string { data := { toList := leb (zig 0) } })))))

theorem M22_eq (s : ByteArray) (p : Int) : execM Tryz.prog Γ22 L22 1010 true Tryz.f22 (ents22 s p) [.ptr 0 0, .fn 23 [.ptr 1 0]] = M22 s p := by kernel_rfl
theorem M25_eq (s : ByteArray) (p : Int) : execM Tryz.prog Γ25 L25 1010 true Tryz.f25 (ents25 s p) [.ptr 0 0, .fn 26 [.ptr 1 0]] = M25 s p := by kernel_rfl
theorem M11_eq (s : ByteArray) : execFn Tryz.prog Γ11 noL 1010 Tryz.f11 [.c (.v (.string s))] = M11 s := by kernel_rfl
theorem M28_eq (b : Bool) : execFn Tryz.prog Γ8 noL 1010 Tryz.f28 [boolA b] = M28 b := by kernel_rfl
theorem M22_sat (s : ByteArray) (p : Int) (h0 : 0 ≤ p) (hs : short s = true) (hg : rdG s p = true) (h1 : 0 ≤ rdV s p) (h2 : rdV s p ≤ (s.data.toList.length : Nat) - rdP s p) (h3 : rdP s p ≤ (s.data.toList.length : Nat)) (h4 : rdV s p ≤ 1000)
    (h5 : goodReps s (rdP s p) (rdV s p).toNat = true) : (M22 s p).sat (Out { val := .c (.sl (rdV s p).toNat 8 (repEl (rdReps s (rdP s p) (rdV s p).toNat))), outs := [some (.cells [.c (.v (.string s)), intA .i64 (posReps s (rdP s p) (rdV s p).toNat), intA .i64 0] 66), some (.cells [.ptr 0 0] 64)] }) := by
  have e0 : repsOf 0 (fun _ => []) = [] := rfl
  have e1 : (rdV s p - 0).toNat = (rdV s p).toNat := by rw [Int.sub_zero]
  unfold M22
  simp only [e0, e1, List.nil_append, rdReps_len, List.length_nil]
  refine sat_need rfl (sat_need (decide_eq_true h0) (sat_need hs (sat_need hg (sat_need (decide_eq_true h1) (sat_need (decide_eq_true h2) (sat_need (decide_eq_true h3) (sat_need rfl (sat_need rfl (sat_need rfl (sat_need ?_ (sat_need (by simp) (sat_ret (Out.refl _)))))))))))))
  simp only [hs, h5, h1, h4, Bool.and_true, Bool.and_eq_true, decide_eq_true_eq]
  exact ⟨⟨⟨⟨Nat.le_refl _, trivial⟩, trivial⟩, rfl⟩, rfl⟩
theorem f22_ok : MemOk Tryz.prog 22 K22 := by
  refine memOk_of_exec_c (L := fun _ => L22) prog_mixed Γ22_ok (fn := Tryz.f22) (c := codeOf Tryz.f22) (by kernel_rfl) (by kernel_rfl) (callFunc_enter (fn := Tryz.f22) (c := codeOf Tryz.f22) (by kernel_rfl) (by kernel_rfl) (by kernel_rfl)) (N := 1010) (frz := true) ?_ ?_
  · intro ents args o h
    unfold K22 at h
    split at h
    · exact f22_loops
    · cases h
  · intro ents args o h hc
    unfold K22 at h
    split at h
    · rename_i s p e
      cases h
      have h0 : e = 0 := dec (hc (decide (e = 0)) (by simp))
      have h1 : 0 ≤ p := dec (hc (decide (0 ≤ p)) (by simp))
      have h2 : short s = true := hc (short s) (by simp)
      have h3 : rdG s p = true := hc (rdG s p) (by simp)
      have h4 : 0 ≤ rdV s p := dec (hc (decide (0 ≤ rdV s p)) (by simp))
      have h5 : rdV s p ≤ (s.data.toList.length : Nat) - rdP s p := dec (hc (decide (rdV s p ≤ (s.data.toList.length : Nat) - rdP s p)) (by simp))
      have h6 : rdP s p ≤ (s.data.toList.length : Nat) := dec (hc (decide (rdP s p ≤ (s.data.toList.length : Nat))) (by simp))
      have h7 : rdV s p ≤ 1000 := dec (hc (decide (rdV s p ≤ 1000)) (by simp))
      have h8 : goodReps s (rdP s p) (rdV s p).toNat = true := hc (goodReps s (rdP s p) (rdV s p).toNat) (by simp)
      subst h0
      refine ⟨ents22 s p, [.ptr 0 0, .fn 23 [.ptr 1 0]], EntsEqv.refl _, SeesL.refl _, ?_⟩
      have hs := M22_sat s p h1 h2 h3 h4 h5 h6 h7 h8
      rw [← M22_eq] at hs
      generalize execM Tryz.prog Γ22 L22 1010 true Tryz.f22 (ents22 s p) [.ptr 0 0, .fn 23 [.ptr 1 0]] = T at hs ⊢
      exact hs
    · cases h
theorem M25_sat (s : ByteArray) (p : Int) (h0 : 0 ≤ p) (hs : short s = true) (hg : rdG s p = true) (h1 : 0 ≤ rdV s p) (h2 : rdV s p ≤ (s.data.toList.length : Nat) - rdP s p) (h3 : rdP s p ≤ (s.data.toList.length : Nat)) (h4 : rdV s p ≤ 1000)
    (h5 : goodExcs s (rdP s p) (rdV s p).toNat = true) : (M25 s p).sat (Out { val := .c (.sl (rdV s p).toNat 5 (excEl (rdExcs s (rdP s p) (rdV s p).toNat))), outs := [some (.cells [.c (.v (.string s)), intA .i64 (posExcs s (rdP s p) (rdV s p).toNat), intA .i64 0] 66), some (.cells [.ptr 0 0] 64)] }) := by
  have e0 : excsOf 0 (fun _ => []) = [] := rfl
  have e1 : (rdV s p - 0).toNat = (rdV s p).toNat := by rw [Int.sub_zero]
  unfold M25
  simp only [e0, e1, List.nil_append, rdExcs_len, List.length_nil]
  refine sat_need rfl (sat_need (decide_eq_true h0) (sat_need hs (sat_need hg (sat_need (decide_eq_true h1) (sat_need (decide_eq_true h2) (sat_need (decide_eq_true h3) (sat_need rfl (sat_need rfl (sat_need rfl (sat_need ?_ (sat_need (by simp) (sat_ret (Out.refl _)))))))))))))
  simp only [hs, h5, h1, h4, Bool.and_true, Bool.and_eq_true, decide_eq_true_eq]
  exact ⟨⟨⟨⟨Nat.le_refl _, trivial⟩, trivial⟩, rfl⟩, rfl⟩
theorem f25_ok : MemOk Tryz.prog 25 K25 := by
  refine memOk_of_exec_c (L := fun _ => L25) prog_mixed Γ25_ok (fn := Tryz.f25) (c := codeOf Tryz.f25) (by kernel_rfl) (by kernel_rfl) (callFunc_enter (fn := Tryz.f25) (c := codeOf Tryz.f25) (by kernel_rfl) (by kernel_rfl) (by kernel_rfl)) (N := 1010) (frz := true) ?_ ?_
  · intro ents args o h
    unfold K25 at h
    split at h
    · exact f25_loops
    · cases h
  · intro ents args o h hc
    unfold K25 at h
    split at h
    · rename_i s p e
      cases h
      have h0 : e = 0 := dec (hc (decide (e = 0)) (by simp))
      have h1 : 0 ≤ p := dec (hc (decide (0 ≤ p)) (by simp))
      have h2 : short s = true := hc (short s) (by simp)
      have h3 : rdG s p = true := hc (rdG s p) (by simp)
      have h4 : 0 ≤ rdV s p := dec (hc (decide (0 ≤ rdV s p)) (by simp))
      have h5 : rdV s p ≤ (s.data.toList.length : Nat) - rdP s p := dec (hc (decide (rdV s p ≤ (s.data.toList.length : Nat) - rdP s p)) (by simp))
      have h6 : rdP s p ≤ (s.data.toList.length : Nat) := dec (hc (decide (rdP s p ≤ (s.data.toList.length : Nat))) (by simp))
      have h7 : rdV s p ≤ 1000 := dec (hc (decide (rdV s p ≤ 1000)) (by simp))
      have h8 : goodExcs s (rdP s p) (rdV s p).toNat = true := hc (goodExcs s (rdP s p) (rdV s p).toNat) (by simp)
      subst h0
      refine ⟨ents25 s p, [.ptr 0 0, .fn 26 [.ptr 1 0]], EntsEqv.refl _, SeesL.refl _, ?_⟩
      have hs := M25_sat s p h1 h2 h3 h4 h5 h6 h7 h8
      rw [← M25_eq] at hs
      generalize execM Tryz.prog Γ25 L25 1010 true Tryz.f25 (ents25 s p) [.ptr 0 0, .fn 26 [.ptr 1 0]] = T at hs ⊢
      exact hs
    · cases h

/-! ### a batch that is read -/
def p2 (s : ByteArray) : Int := posReps s (rdP s 0) (rdV s 0).toNat
def p3 (s : ByteArray) : Int := posExcs s (rdP s (p2 s)) (rdV s (p2 s)).toNat
def rs11 (s : ByteArray) : List Rep := rdReps s (rdP s 0) (rdV s 0).toNat
def es11 (s : ByteArray) : List Exc := rdExcs s (rdP s (p2 s)) (rdV s (p2 s)).toNat
def conds11 (s : ByteArray) : List Bool := [short s, rdG s 0, decide (0 ≤ rdV s 0), decide (rdV s 0 ≤ (s.data.toList.length : Nat) - rdP s 0), decide (rdP s 0 ≤ (s.data.toList.length : Nat)), decide (rdV s 0 ≤ 1000), goodReps s (rdP s 0) (rdV s 0).toNat, decide (0 ≤ p2 s),
  rdG s (p2 s), decide (0 ≤ rdV s (p2 s)), decide (rdV s (p2 s) ≤ (s.data.toList.length : Nat) - rdP s (p2 s)), decide (rdP s (p2 s) ≤ (s.data.toList.length : Nat)), decide (rdV s (p2 s) ≤ 1000), goodExcs s (rdP s (p2 s)) (rdV s (p2 s)).toNat, decide (p3 s = (s.data.toList.length : Nat))]
def K11 : List AV → Option (AV × List Bool)
  | [.c (.v (.string s))] => some (.tup [.agg [.c (.sl (rdV s 0).toNat 8 (repEl (rs11 s))), .c (.sl (rdV s (p2 s)).toNat 5 (excEl (es11 s)))], intA .i64 0], conds11 s)
  | _ => none
theorem M11_sat (s : ByteArray) (h : ∀ p ∈ conds11 s, p) : (M11 s).sat fun r => r = .tup [.agg [.c (.sl (rdV s 0).toNat 8 (repEl (rs11 s))), .c (.sl (rdV s (p2 s)).toNat 5 (excEl (es11 s)))], intA .i64 0] := by
  simp only [conds11, List.mem_cons, List.not_mem_nil, or_false, forall_eq_or_imp, forall_eq] at h
  obtain ⟨h1, h2, h3, h4, h5, h6, h7, h8, h9, h10, h11, h12, h13, h14, h15⟩ := h
  have e : ¬ ((0 : Int) = 0 ∧ p3 s < (s.data.toList.length : Nat)) := by
    have := of_decide_eq_true h15
    omega
  unfold M11
  refine sat_need rfl (sat_need rfl (sat_need h1 (sat_need h2 (sat_need h3 (sat_need h4 (sat_need h5 (sat_need h6 (sat_need h7 (sat_need rfl (sat_need h8 (sat_need h1 (sat_need h9 (sat_need h10 (sat_need h11 (sat_need h12 (sat_need h13 (sat_need h14 (sat_ite (fun hh => ?_) (fun _ => sat_ret rfl)))))))))))))))))))
  exfalso
  have hh : ((if (0 : Int) = 0 ∧ p3 s < (s.data.toList.length : Nat) then (5 : Int) else 0) != 0) = true := hh
  rw [if_neg e] at hh
  cases hh
theorem Γ11_ok : ∀ f s, Γ11 f = some s → SpecOk Tryz.prog f s := step_ok f22_ok.spec (step_ok f25_ok.spec (one_ok f27_ok.spec))
theorem f11_ok : PureOk Tryz.prog 11 K11 := by
  refine pureOk_of_exec prog_mixed Γ11_ok (fn := Tryz.f11) (c := codeOf Tryz.f11) (by kernel_rfl) (by kernel_rfl) (callFunc_enter (fn := Tryz.f11) (c := codeOf Tryz.f11) (by kernel_rfl) (by kernel_rfl) (by kernel_rfl)) (L := noL) (N := 1010) (blocksOk_none _ _) ?_ ?_
  · intro args v cs h
    unfold K11 at h
    split at h
    · cases h; rfl
    · cases h
  · intro args v cs h hc
    unfold K11 at h
    split at h
    · rename_i s
      cases h
      have hs := M11_sat s hc
      rw [← M11_eq] at hs
      generalize execFn Tryz.prog Γ11 noL 1010 Tryz.f11 [.c (.v (.string s))] = T at hs ⊢
      exact Tr.sat_mono (fun r hr => ⟨by subst hr; rfl, Sees.of_eq hr⟩) hs
    · cases h
def K28 : List AV → Option (AV × List Bool)
  | [.c (.v (.bool b))] => some (strA (leb (zig (flag b))), [])
  | _ => none
theorem Γ8_ok : ∀ f s, Γ8 f = some s → SpecOk Tryz.prog f s := one_ok f8_ok.spec
theorem f28_ok : PureOk Tryz.prog 28 K28 := by
  refine pureOk_of_exec prog_mixed Γ8_ok (fn := Tryz.f28) (c := codeOf Tryz.f28) (by kernel_rfl) (by kernel_rfl) (callFunc_enter (fn := Tryz.f28) (c := codeOf Tryz.f28) (by kernel_rfl) (by kernel_rfl) (by kernel_rfl)) (L := noL) (N := 1010) (blocksOk_none _ _) ?_ ?_
  · intro args v cs h
    unfold K28 at h
    split at h
    · cases h; rfl
    · cases h
  · intro args v cs h hc
    unfold K28 at h
    split at h
    · rename_i b
      cases h
      have hs : (M28 b).sat fun r => r = strA (leb (zig (flag b))) := sat_ite (fun h => by subst h; exact sat_need rfl rfl) (fun h => by subst h; exact sat_need rfl rfl)
      rw [← M28_eq] at hs
      have hs : (execFn Tryz.prog Γ8 noL 1010 Tryz.f28 [.c (.v (.bool b))]).sat fun r => r = strA (leb (zig (flag b))) := hs
      generalize execFn Tryz.prog Γ8 noL 1010 Tryz.f28 [.c (.v (.bool b))] = T at hs ⊢
      exact Tr.sat_mono (fun r hr => ⟨by subst hr; rfl, Sees.of_eq hr⟩) hs
    · cases h
end Go.Vse
