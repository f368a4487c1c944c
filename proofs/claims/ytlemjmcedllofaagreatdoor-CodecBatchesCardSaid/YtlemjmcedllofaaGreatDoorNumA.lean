/- Helpers for the proof: no statement of its own. -/
import Derived.Test.YtlemjmcedllofaaGreatDoorVseB
import Derived.Test.YtlemjmcedllofaaGreatDoorProg
set_option linter.unusedVariables false
set_option linter.unusedSimpArgs false
set_option linter.unnecessarySimpa false
set_option linter.deprecated false
namespace Go.Vse

/-! ### The form of a number, in plain Lean -/
/-- all bytes but the last, and what is left -/
def lebInit : Nat → Nat → List UInt8
  | 0, _ => []
  | f + 1, u => if u < 128 then [] else UInt8.ofNat (u % 128 + 128) :: lebInit f (u / 128)
def lebLast : Nat → Nat → Nat
  | 0, u => u
  | f + 1, u => if u < 128 then u else lebLast f (u / 128)
def leb (u : Nat) : List UInt8 := lebInit 10 u ++ [UInt8.ofNat (lebLast 10 u)]
/-- the sign goes into the lowest bit -/
def zig (n : Int) : Nat := if n < 0 then 2 * (-n - 1).toNat + 1 else 2 * n.toNat

theorem lebLast_lt : ∀ (f u : Nat), u < 128 ^ (f + 1) → lebLast f u < 128
  | 0, u, h => by simpa [lebLast] using h
  | f + 1, u, h => by
    unfold lebLast
    split
    · assumption
    · refine lebLast_lt f (u / 128) ?_
      rw [Nat.div_lt_iff_lt_mul (by omega)]
      rw [Nat.pow_succ] at h
      exact h
theorem lebInit_len : ∀ (f u : Nat), (lebInit f u).length ≤ f
  | 0, u => by simp [lebInit]
  | f + 1, u => by
    unfold lebInit
    split
    · simp
    · have := lebInit_len f (u / 128)
      simp; omega
theorem leb_len (u : Nat) : (leb u).length ≤ 11 := by
  have := lebInit_len 10 u
  simp [leb]; omega

end Go.Vse

set_option maxRecDepth 100000
namespace Go.Vse
open Go.Proofs
def strA (l : List UInt8) : AV := .c (.v (.string ⟨⟨l⟩⟩))
def nums8 : Norm := { nt := 33, live := [3, 4], lifts := [(4, 1, 5)] }
def take8 : List AV × List (Option Ent) → Option ((Int × List UInt8) × List Bool)
  | ([.c (.v (.int .u64 u)), .msl 0 n 1], [some (.arr n' 1 el 5)]) => some ((u, bytesOf n el), [decide (n = n'), isBytes n el])
  | _ => none
def head8 (x : Int × List UInt8) : List AV × List (Option Ent) := ([intA .u64 x.1, .msl 0 x.2.length 1], [some (.arr x.2.length 1 (byteEl x.2) 5)])
def lp8 : LoopSt (Int × List UInt8) (Int × List UInt8) where
  nIn := nums8
  nOut := nums8
  head := head8
  take := take8
  out := fun x => (.normal, head8 x)
  takeR := fun q => match q with | (.normal, q) => take8 q | _ => none
  res := fun x => ((lebLast 10 x.1.toNat : Nat), x.2 ++ lebInit 10 x.1.toNat)
  pre := fun x => decide (0 ≤ x.1) && decide (x.1 < 18446744073709551616) && decide (x.2.length ≤ 1000000)

theorem take8_ok (q : List AV × List (Option Ent)) (x : Int × List UInt8) (cs : List Bool) (h : take8 q = some (x, cs)) (hc : ∀ p ∈ cs, p) : q.1 = (head8 x).1 ∧ EntsEqv q.2 (head8 x).2 := by
  unfold take8 at h
  split at h
  · rename_i u n n' el
    simp only [Option.some.injEq, Prod.mk.injEq] at h
    obtain ⟨rfl, rfl⟩ := h
    have h1 : n = n' := dec (hc _ (by simp))
    have h2 : isBytes n el = true := hc _ (by simp)
    subst h1
    refine ⟨?_, ?_⟩
    · simp [head8, intA, bytesOf_len]
    · simp only [head8, bytesOf_len]
      exact .cons (.arr _ _ _ _ _ (byteEl_of_bytes h2)) .nil
  · cases h

theorem lp8_good : lp8.Good where
  take := take8_ok
  takeR := by
    intro e q r cs h hc
    cases e with
    | normal => obtain ⟨h1, h2⟩ := take8_ok q r cs h hc; exact ⟨rfl, h1, h2⟩
    | exit j => cases h
    | ret => cases h
  split := fun r Q h => h

def step8 (x : Int × List UInt8) : Tr ((Int × List UInt8) ⊕ (Int × List UInt8)) :=
  .ite (decide (x.1 ≥ 128))
    (.need true (.need (decide (x.2.length ≤ x.2.length)) (.need true (.need (decide (x.2.length + 1 ≤ 9223372036854775807)) (.need (decide ((x.2.length + 1) * 1 ≤ 140737488355328)) (.need true (.need (decide (x.2.length + 1 = x.2.length + 1))
      (.need (isBytes (x.2.length + 1) (joinE x.2.length (byteEl x.2) fun k => List.take (0 + 1) (List.drop (k * (0 + 1)) [IV.v (.int .u8 (IntKind.u8.wrap (IntKind.u64.wrap (x.1.tmod 128 + 128))))].reverse)))
        (.ret (.inl (IntKind.u64.wrap (x.1.tdiv 128), bytesOf (x.2.length + 1) (joinE x.2.length (byteEl x.2) fun k => List.take (0 + 1) (List.drop (k * (0 + 1)) [IV.v (.int .u8 (IntKind.u8.wrap (IntKind.u64.wrap (x.1.tmod 128 + 128))))].reverse)))))))))))))
    (.need (decide (x.2.length = x.2.length)) (.need (isBytes x.2.length (byteEl x.2)) (.ret (.inr (x.1, bytesOf x.2.length (byteEl x.2))))))

theorem step8_eq (P : Program) (hP : P = Tryz.prog) (x : Int × List UInt8) : (exec Tryz.prog (fun _ => none) noL 10 (loopOf 0 (codeOf Tryz.f8)) (mkSt lp8.nIn (lp8.head x))).bind (lp8.fin 0 0) = step8 x := by
  obtain ⟨u, l⟩ := x
  kernel_rfl

theorem runs8 (Q : Int × List UInt8 → Prop) : ∀ (f u : Nat) (l : List UInt8), u < 128 ^ (f + 1) → u < 18446744073709551616 → l.length + f ≤ 2000000 → Q ((lebLast f u : Nat), l ++ lebInit f u) → RunsX step8 Q (f + 1) ((u : Int), l)
  | f, u, l, hu, hu2, hl, hq => by
    unfold RunsX
    simp only [step8, Tr.sat, decide_eq_true_eq, decide_eq_false_iff_not, true_and, forall_const, isBytes_join, isBytes_byteEl, isBytes_one, bytesOf_join, bytesOf_one, bytesOf_byteEl, Nat.le_refl, Bool.true_and, Bool.and_eq_true]
    refine ⟨fun h => ?_, fun h => ?_⟩
    · refine ⟨by omega, fun _ => ⟨by omega, fun _ => ⟨?_, fun _ => ?_⟩⟩⟩
      · rw [wrap_u8]; omega
      · cases f with
        | zero => simp at hu; omega
        | succ f =>
          have e1 : IntKind.u64.wrap ((u : Int).tdiv 128) = ((u / 128 : Nat) : Int) := by
            rw [wrap_u64, Int.tdiv_eq_ediv_of_nonneg (by omega)]
            omega
          have e2 : UInt8.ofNat (IntKind.u8.wrap (IntKind.u64.wrap ((u : Int).tmod 128 + 128))).toNat = UInt8.ofNat (u % 128 + 128) := by
            rw [wrap_u8, wrap_u64, Int.tmod_eq_emod_of_nonneg (by omega)]
            congr 1
            omega
          have hnot : ¬ u < 128 := by omega
          rw [e1, e2]
          refine runs8 Q f (u / 128) (l ++ [UInt8.ofNat (u % 128 + 128)]) ?_ (by omega) (by simp; omega) ?_
          · rw [Nat.div_lt_iff_lt_mul (by omega)]
            rw [Nat.pow_succ] at hu
            exact hu
          · simp only [lebLast, lebInit, hnot, if_false] at hq
            simpa using hq
    · have hlt : u < 128 := by omega
      cases f with
      | zero => simpa [lebLast, lebInit] using hq
      | succ f => simpa [lebLast, lebInit, hlt] using hq

end Go.Vse

set_option maxRecDepth 100000
namespace Go.Vse
open Go.Proofs
def L8 : Nat → Option (St → Tr (Ex × St)) := fun id => bif Nat.beq id 0 then some (lp8.g 0) else none
def M8 (n : Int) : Tr AV :=
let x1 : Int := IntKind.u64.wrap (IntKind.u64.wrap (IntKind.u64.wrap (IntKind.i64.wrap (0 - IntKind.i64.wrap (n + 1))) * 2) + 1)
let x2 : List UInt8 := bytesOf 0 fun x => []
let x3 : Nat := x2.length
let x4 : Nat := x1.toNat
let x5 : List UInt8 := x2 ++ lebInit 10 x4
let x6 : Nat := x5.length
let x7 : Nat := x6 + 1
let x8 : Nat := x7 * 1
let x9 : Nat := 0 + 1
let x10 : Int := IntKind.u64.wrap (IntKind.u64.wrap n * 2)
let x11 : Nat := x10.toNat
let x12 : List UInt8 := x2 ++ lebInit 10 x11
let x13 : Nat := x12.length
let x14 : Nat := x13 + 1
let x15 : Nat := x14 * 1
Tr.ite (decide (n < 0))
  (Tr.need true
    (Tr.need true
      (Tr.need (decide (0 ≤ x1) && decide (x1 < 18446744073709551616) && decide (x3 ≤ 1000000))
        (Tr.need (decide (x6 ≤ x6))
          (Tr.need true
            (Tr.need (decide (x7 ≤ 9223372036854775807))
              (Tr.need (decide (x8 ≤ 140737488355328))
                (Tr.need (decide (x7 ≤ x7))
                  (Tr.need
                    (isBytes x7
                      (joinE x6 (byteEl x5) fun k =>
                        List.take x9 (List.drop (k * x9) [IV.v (Value.int IntKind.u8 (IntKind.u8.wrap ↑(lebLast 10 x4)))].reverse)))
                    (Tr.ret
                      (AV.c
                        (IV.v
                          (Value.string
                            {
                              data :=
                                {
                                  toList :=
                                    bytesOf x7
                                      (joinE x6 (byteEl x5) fun k =>
                                        List.take x9
                                          (List.drop (k * x9) [IV.v (Value.int IntKind.u8 (IntKind.u8.wrap ↑(lebLast 10 x4)))].reverse)) } })))))))))))))
  (Tr.need true
    (Tr.need true
      (Tr.need (decide (0 ≤ x10) && decide (x10 < 18446744073709551616) && decide (x3 ≤ 1000000))
        (Tr.need (decide (x13 ≤ x13))
          (Tr.need true
            (Tr.need (decide (x14 ≤ 9223372036854775807))
              (Tr.need (decide (x15 ≤ 140737488355328))
                (Tr.need (decide (x14 ≤ x14))
                  (Tr.need
                    (isBytes x14
                      (joinE x13 (byteEl x12) fun k =>
                        List.take x9 (List.drop (k * x9) [IV.v (Value.int IntKind.u8 (IntKind.u8.wrap ↑(lebLast 10 x11)))].reverse)))
                    (Tr.ret
                      (AV.c
                        (IV.v
                          (Value.string
                            {
                              data :=
                                {
                                  toList :=
                                    bytesOf x14
                                      (joinE x13 (byteEl x12) fun k =>
                                        List.take x9
                                          (List.drop (k * x9) [IV.v (Value.int IntKind.u8 (IntKind.u8.wrap ↑(lebLast 10 x11)))].reverse)) } })))))))))))))
theorem M8_eq (n : Int) : execFn Tryz.prog (fun _ => none) L8 10 Tryz.f8 [intA .i64 n] = M8 n := by kernel_rfl

def numK : List AV → Option (AV × List Bool)
  | [.c (.v (.int .i64 n))] => some (strA (leb (zig n)), [decide (-9223372036854775808 ≤ n) && decide (n ≤ 9223372036854775807)])
  | _ => none

theorem leb_built (u : Nat) (hu : u < 18446744073709551616) (l : List UInt8) (hl : l = lebInit 10 u) :
    (isBytes (l.length + 1) (joinE l.length (byteEl l) fun k => List.take (0 + 1) (List.drop (k * (0 + 1)) [IV.v (.int .u8 (IntKind.u8.wrap (lebLast 10 u : Nat)))].reverse)) = true) ∧
    bytesOf (l.length + 1) (joinE l.length (byteEl l) fun k => List.take (0 + 1) (List.drop (k * (0 + 1)) [IV.v (.int .u8 (IntKind.u8.wrap (lebLast 10 u : Nat)))].reverse)) = leb u := by
  subst hl
  have h := lebLast_lt 10 u (by omega)
  rw [isBytes_join, bytesOf_join, isBytes_byteEl, bytesOf_byteEl, isBytes_one, bytesOf_one, wrap_u8]
  constructor
  · simp; omega
  · unfold leb
    congr 2
    rw [Int.emod_eq_of_lt (by omega) (by omega)]
    simp

theorem zig_lt {n : Int} (h : -9223372036854775808 ≤ n ∧ n ≤ 9223372036854775807) : zig n < 18446744073709551616 := by
  unfold zig; split <;> omega

theorem M8_sat (n : Int) (h : -9223372036854775808 ≤ n ∧ n ≤ 9223372036854775807) : (M8 n).sat fun r => r = strA (leb (zig n)) := by
  have hz := zig_lt h
  have k1 : n < 0 → IntKind.u64.wrap (IntKind.u64.wrap (IntKind.u64.wrap (IntKind.i64.wrap (0 - IntKind.i64.wrap (n + 1))) * 2) + 1) = (zig n : Nat) := by
    intro hn
    unfold zig
    rw [if_pos hn, wrap_i64 (x := n + 1) (by omega), wrap_i64 (by omega), wrap_u64, wrap_u64, wrap_u64]
    omega
  have k2 : ¬ n < 0 → IntKind.u64.wrap (IntKind.u64.wrap n * 2) = (zig n : Nat) := by
    intro hn
    unfold zig
    rw [if_neg hn, wrap_u64, wrap_u64]
    omega
  have hb := leb_built (zig n) hz _ rfl
  have hl := lebInit_len 10 (zig n)
  unfold M8
  dsimp only
  rw [bytesOf_zero, List.nil_append, List.nil_append]
  refine sat_ite (fun hn => ?_) (fun hn => ?_)
  · have hn := of_decide_eq_true hn
    rw [k1 hn, Int.toNat_natCast, hb.1, hb.2]
    refine sat_need rfl (sat_need rfl (sat_need ?_ (sat_need ?_ (sat_need rfl (sat_need ?_ (sat_need ?_ (sat_need ?_ (sat_need rfl (sat_ret rfl)))))))))
    · simp only [Bool.and_eq_true, decide_eq_true_eq, List.length_nil]; omega
    · exact decide_eq_true (Nat.le_refl _)
    · exact decide_eq_true (by omega)
    · exact decide_eq_true (by omega)
    · exact decide_eq_true (Nat.le_refl _)
  · have hn := of_decide_eq_false hn
    rw [k2 hn, Int.toNat_natCast, hb.1, hb.2]
    refine sat_need rfl (sat_need rfl (sat_need ?_ (sat_need ?_ (sat_need rfl (sat_need ?_ (sat_need ?_ (sat_need ?_ (sat_need rfl (sat_ret rfl)))))))))
    · simp only [Bool.and_eq_true, decide_eq_true_eq, List.length_nil]; omega
    · exact decide_eq_true (Nat.le_refl _)
    · exact decide_eq_true (by omega)
    · exact decide_eq_true (by omega)
    · exact decide_eq_true (Nat.le_refl _)

/-- no contracts -/
theorem noΓ_ok {P : Program} : ∀ f s, (fun _ => none : FuncId → Option Spec) f = some s → SpecOk P f s := fun _ _ h => by cases h
theorem prog_mixed : Tryz.prog.follows .mixedOrders = true := by kernel_rfl

theorem f8_loops : BlocksOk Tryz.prog 0 L8 (codeOf Tryz.f8) := by
  refine blocksOk_of (d := fun id => Nat.beq id 0) (fun id => by unfold L8; cases Nat.beq id 0 <;> rfl) _ ?_
  have hb : blocksOf (fun id => Nat.beq id 0) (codeOf Tryz.f8) = [(0, .loop (loopOf 0 (codeOf Tryz.f8)))] := by kernel_rfl
  rw [hb]
  intro p hp g hg
  simp only [List.mem_singleton] at hp
  subst hp
  have : g = lp8.g 0 := by
    have : L8 0 = some (lp8.g 0) := rfl
    rw [this] at hg
    exact (Option.some.inj hg).symm
  subst this
  refine LoopSt.ok (N := 10) prog_mixed noΓ_ok (L := noL) (blocksOk_none 0 _) lp8_good (step := step8) (fun x => step8_eq _ rfl x) fun x hx => ?_
  obtain ⟨u, l⟩ := x
  simp only [lp8, Bool.and_eq_true, decide_eq_true_eq] at hx
  obtain ⟨⟨h0, h1⟩, h2⟩ := hx
  have := runs8 (· = lp8.res (u, l)) 10 u.toNat l (by omega) (by omega) (by omega) (by simp [lp8])
  rw [Int.toNat_of_nonneg h0] at this
  exact ⟨11, this⟩

theorem f8_ok : PureOk Tryz.prog 8 numK := by
  refine pureOk_of_exec prog_mixed noΓ_ok (fn := Tryz.f8) (c := codeOf Tryz.f8) (by kernel_rfl) (by kernel_rfl) (callFunc_enter (fn := Tryz.f8) (c := codeOf Tryz.f8) (by kernel_rfl) (by kernel_rfl) (by kernel_rfl)) (L := L8) (N := 10) f8_loops ?_ ?_
  · intro args v cs h
    unfold numK at h
    split at h
    · cases h; rfl
    · cases h
  · intro args v cs h hc
    unfold numK at h
    split at h
    · rename_i n
      cases h
      have hr := hc (decide (-9223372036854775808 ≤ n) && decide (n ≤ 9223372036854775807)) (List.mem_singleton.2 rfl)
      simp only [Bool.and_eq_true, decide_eq_true_eq] at hr
      have hs := M8_sat n hr
      rw [← M8_eq] at hs
      exact Tr.sat_mono (fun r hr => by subst hr; exact ⟨rfl, Sees.refl _⟩) hs
    · cases h
end Go.Vse

set_option maxRecDepth 100000
namespace Go.Vse
open Go.Proofs

/-! ### (writer).number: its buffer is nothing (k = 1), or a row of bytes (k = 2) -/
def wents (k : Nat) (l : List UInt8) : List (Option Ent) :=
  match k with
  | 1 => [some (.cells [.msl 1 l.length 1] 43), some (.arr l.length 1 (byteEl l) 5)]
  | _ => [some (.cells [.msl 2 l.length 1] 43), none, some (.arr l.length 1 (byteEl l) 5)]
def nums13 : Norm := { nt := 39, live := [0, 4], cells := [(0, 0, 1, 5)] }
def head13 (k : Nat) (x : Int × List UInt8) : List AV × List (Option Ent) := ([.ptr 0 0, intA .u64 x.1], wents k x.2)
def take13 (k : Nat) : List AV × List (Option Ent) → Option ((Int × List UInt8) × List Bool)
  | ([.ptr 0 0, .c (.v (.int .u64 u))], [some (.cells [.msl 1 n 1] 43), some (.arr n' 1 el 5)]) => bif Nat.beq k 1 then some ((u, bytesOf n el), [decide (n = n'), isBytes n el]) else none
  | ([.ptr 0 0, .c (.v (.int .u64 u))], [some (.cells [.msl 2 n 1] 43), none, some (.arr n' 1 el 5)]) => bif Nat.beq k 2 then some ((u, bytesOf n el), [decide (n = n'), isBytes n el]) else none
  | _ => none
def lp13 (k : Nat) : LoopSt (Int × List UInt8) (Int × List UInt8) where
  nIn := nums13
  nOut := nums13
  head := head13 k
  take := take13 k
  out := fun x => (.normal, head13 k x)
  takeR := fun q => match q with | (.normal, q) => take13 k q | _ => none
  res := fun x => ((lebLast 10 x.1.toNat : Nat), x.2 ++ lebInit 10 x.1.toNat)
  pre := fun x => decide (0 ≤ x.1) && decide (x.1 < 18446744073709551616) && decide (x.2.length ≤ 1099511627776)

theorem take13_ok (k : Nat) (q : List AV × List (Option Ent)) (x : Int × List UInt8) (cs : List Bool) (h : take13 k q = some (x, cs)) (hc : ∀ p ∈ cs, p) : q.1 = (head13 k x).1 ∧ EntsEqv q.2 (head13 k x).2 := by
  unfold take13 at h
  split at h
  · rename_i u n n' el
    cases hk : Nat.beq k 1 with
    | false => rw [hk] at h; cases h
    | true =>
      obtain rfl : k = 1 := by simpa using hk
      rw [hk] at h
      simp only [cond_true, Option.some.injEq, Prod.mk.injEq] at h
      obtain ⟨rfl, rfl⟩ := h
      have h1 : n = n' := dec (hc _ (by simp))
      have h2 : isBytes n el = true := hc _ (by simp)
      subst h1
      refine ⟨by simp [head13, intA], ?_⟩
      simp only [head13, wents, bytesOf_len]
      exact .cons (.refl _) (.cons (.arr _ _ _ _ _ (byteEl_of_bytes h2)) .nil)
  · rename_i u n n' el
    cases hk : Nat.beq k 2 with
    | false => rw [hk] at h; cases h
    | true =>
      obtain rfl : k = 2 := by simpa using hk
      rw [hk] at h
      simp only [cond_true, Option.some.injEq, Prod.mk.injEq] at h
      obtain ⟨rfl, rfl⟩ := h
      have h1 : n = n' := dec (hc _ (by simp))
      have h2 : isBytes n el = true := hc _ (by simp)
      subst h1
      refine ⟨by simp [head13, intA], ?_⟩
      simp only [head13, wents, bytesOf_len]
      exact .cons (.refl _) (.cons (.refl _) (.cons (.arr _ _ _ _ _ (byteEl_of_bytes h2)) .nil))
  · cases h

theorem lp13_good (k : Nat) : (lp13 k).Good where
  take := take13_ok k
  takeR := by
    intro e q r cs h hc
    cases e with
    | normal => obtain ⟨h1, h2⟩ := take13_ok k q r cs h hc; exact ⟨rfl, h1, h2⟩
    | exit j => cases h
    | ret => cases h
  split := fun r Q h => h
end Go.Vse

set_option maxRecDepth 100000
namespace Go.Vse
open Go.Proofs
def L13 (k : Nat) : Nat → Option (St → Tr (Ex × St)) := fun id => bif Nat.beq id 0 then some ((lp13 k).g k) else none
def step13 (u : Int) (l : List UInt8) : Tr (Int × List UInt8 ⊕ Int × List UInt8) :=
let x1 : Nat := l.length + 1
let x2 : Nat := x1 * 1
let x3 : Nat := 0 + 1
Tr.ite (decide (u ≥ 128))
  (Tr.need (decide (l.length ≤ l.length))
    (Tr.need true
      (Tr.need (decide (x1 ≤ 9223372036854775807))
        (Tr.need (decide (x2 ≤ 140737488355328))
          (Tr.need true
            (Tr.need (decide (x1 = x1))
              (Tr.need
                (isBytes x1
                  (joinE l.length (byteEl l) fun k =>
                    List.take x3
                      (List.drop (k * x3)
                        [IV.v
                              (Value.int IntKind.u8
                                (IntKind.u8.wrap ↑(BitVec.ofInt IntKind.u8.bits (IntKind.u8.wrap u) ||| BitVec.ofInt IntKind.u8.bits 128).toNat))].reverse)))
                (Tr.ret
                  (Sum.inl
                    (u.fdiv (2 ^ min (Int.toNat 7) IntKind.u64.bits),
                      bytesOf x1
                        (joinE l.length (byteEl l) fun k =>
                          List.take x3
                            (List.drop (k * x3)
                              [IV.v
                                    (Value.int IntKind.u8
                                      (IntKind.u8.wrap
                                        ↑(BitVec.ofInt IntKind.u8.bits (IntKind.u8.wrap u) ||| BitVec.ofInt IntKind.u8.bits 128).toNat))].reverse))))))))))))
  (Tr.need (decide (l.length = l.length)) (Tr.need (isBytes l.length (byteEl l)) (Tr.ret (Sum.inr (u, bytesOf l.length (byteEl l))))))
def M13a (n : Int) : Tr MemOut :=
let x1 : Int := IntKind.u64.wrap (IntKind.u64.wrap n * 2 ^ min (Int.toNat 1) IntKind.u64.bits)
let x2 : Int := IntKind.u64.wrap ↑(BitVec.ofInt IntKind.u64.bits (if IntKind.u64.signed = true then -1 else IntKind.u64.max) ^^^ BitVec.ofInt IntKind.u64.bits x1).toNat
let x3 : List UInt8 := bytesOf 0 fun x => []
let x4 : Nat := x3.length
let x5 : Nat := x2.toNat
let x6 : List UInt8 := x3 ++ lebInit 10 x5
let x7 : Nat := x6.length
let x8 : Nat := x7 + 1
let x9 : Nat := x8 * 1
let x10 : Nat := 0 + 1
let x11 : Nat := x1.toNat
let x12 : List UInt8 := x3 ++ lebInit 10 x11
let x13 : Nat := x12.length
let x14 : Nat := x13 + 1
let x15 : Nat := x14 * 1
Tr.need true
  (Tr.ite (decide (n < 0))
    (Tr.need true
      (Tr.need true
        (Tr.need (decide (0 ≤ x2) && decide (x2 < 18446744073709551616) && decide (x4 ≤ 1099511627776))
          (Tr.need (decide (x7 ≤ x7))
            (Tr.need true
              (Tr.need (decide (x8 ≤ 9223372036854775807))
                (Tr.need (decide (x9 ≤ 140737488355328))
                  (Tr.ret
                    { val := AV.tup [], outs := [some (Ent.cells [AV.msl 1 x8 1] 43)],
                      new :=
                        some
                          (Ent.arr x8 1
                            (joinE x7 (byteEl x6) fun k =>
                              List.take x10 (List.drop (k * x10) [IV.v (Value.int IntKind.u8 (IntKind.u8.wrap ↑(lebLast 10 x5)))].reverse))
                            5) }))))))))
    (Tr.need true
      (Tr.need true
        (Tr.need (decide (0 ≤ x1) && decide (x1 < 18446744073709551616) && decide (x4 ≤ 1099511627776))
          (Tr.need (decide (x13 ≤ x13))
            (Tr.need true
              (Tr.need (decide (x14 ≤ 9223372036854775807))
                (Tr.need (decide (x15 ≤ 140737488355328))
                  (Tr.ret
                    { val := AV.tup [], outs := [some (Ent.cells [AV.msl 1 x14 1] 43)],
                      new :=
                        some
                          (Ent.arr x14 1
                            (joinE x13 (byteEl x12) fun k =>
                              List.take x10 (List.drop (k * x10) [IV.v (Value.int IntKind.u8 (IntKind.u8.wrap ↑(lebLast 10 x11)))].reverse))
                            5) })))))))))
def M13b (n : Int) (m : Nat) (el : Nat → List IV) : Tr MemOut :=
let x1 : Int := IntKind.u64.wrap (IntKind.u64.wrap n * 2 ^ min (Int.toNat 1) IntKind.u64.bits)
let x2 : Int := IntKind.u64.wrap ↑(BitVec.ofInt IntKind.u64.bits (if IntKind.u64.signed = true then -1 else IntKind.u64.max) ^^^ BitVec.ofInt IntKind.u64.bits x1).toNat
let x3 : Nat := x2.toNat
let x4 : List UInt8 := bytesOf m el ++ lebInit 10 x3
let x5 : Nat := x4.length
let x6 : Nat := x5 + 1
let x7 : Nat := x6 * 1
let x8 : List (Option Ent) := [none]
let x9 : Nat := 0 + 1
let x10 : Nat := x1.toNat
let x11 : List UInt8 := bytesOf m el ++ lebInit 10 x10
let x12 : Nat := x11.length
let x13 : Nat := x12 + 1
let x14 : Nat := x13 * 1
Tr.need true
  (Tr.ite (decide (n < 0))
    (Tr.need (decide (m = m))
      (Tr.need (isBytes m el)
        (Tr.need (decide (0 ≤ x2) && decide (x2 < 18446744073709551616) && decide ((bytesOf m el).length ≤ 1099511627776))
          (Tr.need (decide (x5 ≤ x5))
            (Tr.need true
              (Tr.need (decide (x6 ≤ 9223372036854775807))
                (Tr.need (decide (x7 ≤ 140737488355328))
                  (Tr.ret
                    { val := AV.tup [], outs := some (Ent.cells [AV.msl 2 x6 1] 43) :: x8,
                      new :=
                        some
                          (Ent.arr x6 1
                            (joinE x5 (byteEl x4) fun k =>
                              List.take x9 (List.drop (k * x9) [IV.v (Value.int IntKind.u8 (IntKind.u8.wrap ↑(lebLast 10 x3)))].reverse))
                            5) }))))))))
    (Tr.need (decide (m = m))
      (Tr.need (isBytes m el)
        (Tr.need (decide (0 ≤ x1) && decide (x1 < 18446744073709551616) && decide ((bytesOf m el).length ≤ 1099511627776))
          (Tr.need (decide (x12 ≤ x12))
            (Tr.need true
              (Tr.need (decide (x13 ≤ 9223372036854775807))
                (Tr.need (decide (x14 ≤ 140737488355328))
                  (Tr.ret
                    { val := AV.tup [], outs := some (Ent.cells [AV.msl 2 x13 1] 43) :: x8,
                      new :=
                        some
                          (Ent.arr x13 1
                            (joinE x12 (byteEl x11) fun k =>
                              List.take x9 (List.drop (k * x9) [IV.v (Value.int IntKind.u8 (IntKind.u8.wrap ↑(lebLast 10 x10)))].reverse))
                            5) })))))))))

theorem step13_eq1 (x : Int × List UInt8) : (exec Tryz.prog (fun _ => none) noL 10 (loopOf 0 (codeOf Tryz.f13)) (mkSt (lp13 1).nIn ((lp13 1).head x))).bind ((lp13 1).fin 1 0) = step13 x.1 x.2 := by
  obtain ⟨u, l⟩ := x
  kernel_rfl
theorem step13_eq2 (x : Int × List UInt8) : (exec Tryz.prog (fun _ => none) noL 10 (loopOf 0 (codeOf Tryz.f13)) (mkSt (lp13 2).nIn ((lp13 2).head x))).bind ((lp13 2).fin 2 0) = step13 x.1 x.2 := by
  obtain ⟨u, l⟩ := x
  kernel_rfl
theorem M13a_eq (n : Int) : execM Tryz.prog (fun _ => none) (L13 1) 10 false Tryz.f13 [some (.cells [.c (.v (.slice none 0 0))] 43)] [.ptr 0 0, intA .i64 n] = M13a n := by kernel_rfl
theorem M13b_eq (n : Int) (m : Nat) (el : Nat → List IV) : execM Tryz.prog (fun _ => none) (L13 2) 10 false Tryz.f13 [some (.cells [.msl 1 m 1] 43), some (.arr m 1 el 5)] [.ptr 0 0, intA .i64 n] = M13b n m el := by kernel_rfl
end Go.Vse

set_option maxRecDepth 100000
namespace Go.Vse
open Go.Proofs

theorem or128 : ∀ m : Nat, m < 256 → (m ||| 128) = m % 128 + 128 := by decide
theorem or_u8 (u : Nat) : IntKind.u8.wrap ((BitVec.ofInt IntKind.u8.bits (IntKind.u8.wrap (u : Int)) ||| BitVec.ofInt IntKind.u8.bits 128).toNat : Nat) = ((u % 128 + 128 : Nat) : Int) := by
  have h1 : (BitVec.ofInt IntKind.u8.bits (IntKind.u8.wrap (u : Int))).toNat = u % 256 := by
    rw [wrap_u8]
    show (BitVec.ofInt 8 _).toNat = _
    rw [BitVec.toNat_ofInt]
    omega
  have h2 : (BitVec.ofInt IntKind.u8.bits (128 : Int)).toNat = 128 := by rfl
  rw [BitVec.toNat_or, h1, h2, or128 _ (Nat.mod_lt _ (by omega)), wrap_u8]
  omega
theorem shr7 (u : Nat) : (u : Int).fdiv (2 ^ min (Int.toNat 7) IntKind.u64.bits) = ((u / 128 : Nat) : Int) := by
  show (u : Int).fdiv 128 = _
  rw [Int.fdiv_eq_ediv_of_nonneg _ (by omega)]
  omega

theorem runs13 (Q : Int × List UInt8 → Prop) : ∀ (f u : Nat) (l : List UInt8), u < 128 ^ (f + 1) → u < 18446744073709551616 → l.length + f ≤ 2199023255552 → Q ((lebLast f u : Nat), l ++ lebInit f u) → RunsX (fun x : Int × List UInt8 => step13 x.1 x.2) Q (f + 1) ((u : Int), l)
  | f, u, l, hu, hu2, hl, hq => by
    unfold RunsX
    change Tr.sat _ (step13 (u : Int) l)
    refine sat_ite (fun h => ?_) (fun h => ?_)
    · have h : (u : Int) ≥ 128 := of_decide_eq_true h
      refine sat_need (decide_eq_true (Nat.le_refl _)) (sat_need rfl (sat_need (decide_eq_true (by omega)) (sat_need (decide_eq_true (by omega)) (sat_need rfl (sat_need (decide_eq_true rfl) ?_)))))
      rw [isBytes_join, bytesOf_join, isBytes_byteEl, bytesOf_byteEl, or_u8, shr7, isBytes_one, bytesOf_one, Int.toNat_natCast]
      refine sat_need (by simp only [Bool.true_and, Bool.and_eq_true, decide_eq_true_eq]; omega) ?_
      cases f with
      | zero => simp at hu; omega
      | succ f =>
        have hnot : ¬ u < 128 := by omega
        refine runs13 Q f (u / 128) (l ++ [UInt8.ofNat (u % 128 + 128)]) ?_ (by omega) (by simp; omega) ?_
        · rw [Nat.div_lt_iff_lt_mul (by omega)]
          rw [Nat.pow_succ] at hu
          exact hu
        · simp only [lebLast, lebInit, hnot, if_false] at hq
          simpa using hq
    · have h : ¬ (u : Int) ≥ 128 := of_decide_eq_false h
      rw [isBytes_byteEl, bytesOf_byteEl]
      refine sat_need (decide_eq_true rfl) (sat_need rfl ?_)
      have hlt : u < 128 := by omega
      cases f with
      | zero => simpa [lebLast, lebInit, Tr.sat] using hq
      | succ f => simpa [lebLast, lebInit, hlt, Tr.sat] using hq

theorem f13_loops (k : Nat) (hk : k = 1 ∨ k = 2) : BlocksOk Tryz.prog k (L13 k) (codeOf Tryz.f13) := by
  refine blocksOk_of (d := fun id => Nat.beq id 0) (fun id => by unfold L13; cases Nat.beq id 0 <;> rfl) _ ?_
  have hb : blocksOf (fun id => Nat.beq id 0) (codeOf Tryz.f13) = [(0, .loop (loopOf 0 (codeOf Tryz.f13)))] := by kernel_rfl
  rw [hb]
  intro p hp g hg
  simp only [List.mem_singleton] at hp
  subst hp
  have hh : L13 k 0 = some ((lp13 k).g k) := rfl
  rw [hh] at hg
  have : g = (lp13 k).g k := (Option.some.inj hg).symm
  subst this
  have hr : ∀ x : Int × List UInt8, (lp13 k).pre x = true → ∃ n, RunsX (fun x : Int × List UInt8 => step13 x.1 x.2) (· = (lp13 k).res x) n x := by
    rintro ⟨u, l⟩ hx
    simp only [lp13, Bool.and_eq_true, decide_eq_true_eq] at hx
    obtain ⟨⟨h0, h1⟩, h2⟩ := hx
    have := runs13 (· = (lp13 k).res (u, l)) 10 u.toNat l (by omega) (by omega) (by omega) (by simp [lp13])
    rw [Int.toNat_of_nonneg h0] at this
    exact ⟨11, this⟩
  rcases hk with rfl | rfl
  · exact LoopSt.ok (N := 10) prog_mixed noΓ_ok (L := noL) (blocksOk_none 1 _) (lp13_good 1) step13_eq1 hr
  · exact LoopSt.ok (N := 10) prog_mixed noΓ_ok (L := noL) (blocksOk_none 2 _) (lp13_good 2) step13_eq2 hr

/-- what is written -/
def rangeB (n : Int) : Bool := decide (-9223372036854775808 ≤ n) && decide (n ≤ 9223372036854775807)
def wOut (l : List UInt8) : MemOut := { val := .tup [], outs := [some (.cells [.msl 1 l.length 1] 43)], new := some (.arr l.length 1 (byteEl l) 5) }
def wOut2 (l : List UInt8) : MemOut := { val := .tup [], outs := [some (.cells [.msl 2 l.length 1] 43), none], new := some (.arr l.length 1 (byteEl l) 5) }
def K13 : MSpec
  | [some (.cells [.c (.v (.slice none 0 0))] 43)], [.ptr 0 0, .c (.v (.int .i64 n))] => some { wOut (leb (zig n)) with conds := [rangeB n] }
  | [some (.cells [.msl 1 m 1] 43), some (.arr m' 1 el 5)], [.ptr 0 0, .c (.v (.int .i64 n))] => some { wOut2 (bytesOf m el ++ leb (zig n)) with conds := [rangeB n, decide (m = m'), isBytes m el, decide (m ≤ 1099511627776)] }
  | _, _ => none

theorem xor_u64 (x : Nat) (hx : x < 18446744073709551616) : IntKind.u64.wrap ((BitVec.ofInt IntKind.u64.bits (if IntKind.u64.signed = true then -1 else IntKind.u64.max) ^^^ BitVec.ofInt IntKind.u64.bits (x : Int)).toNat : Nat) = ((18446744073709551615 - x : Nat) : Int) := by
  change IntKind.u64.wrap ((BitVec.ofInt 64 (if IntKind.u64.signed = true then -1 else IntKind.u64.max) ^^^ BitVec.ofInt 64 (x : Int)).toNat : Nat) = _
  have h2 : BitVec.ofInt 64 (if IntKind.u64.signed = true then -1 else IntKind.u64.max) = BitVec.allOnes 64 := by rfl
  have h3 : BitVec.ofInt 64 (x : Int) = BitVec.ofNat 64 x := by
    apply BitVec.eq_of_toNat_eq
    rw [BitVec.toNat_ofInt, BitVec.toNat_ofNat]
    omega
  rw [h2, h3, BitVec.allOnes_xor, BitVec.toNat_not, BitVec.toNat_ofNat, wrap_u64]
  omega

theorem zig_neg {n : Int} (h : -9223372036854775808 ≤ n ∧ n ≤ 9223372036854775807) (hn : n < 0) :
    IntKind.u64.wrap ((BitVec.ofInt IntKind.u64.bits (if IntKind.u64.signed = true then -1 else IntKind.u64.max) ^^^ BitVec.ofInt IntKind.u64.bits (IntKind.u64.wrap (IntKind.u64.wrap n * 2 ^ min (Int.toNat 1) IntKind.u64.bits))).toNat : Nat) = ((zig n : Nat) : Int) := by
  have e : IntKind.u64.wrap (IntKind.u64.wrap n * 2 ^ min (Int.toNat 1) IntKind.u64.bits) = ((18446744073709551616 - 2 * (-n).toNat : Nat) : Int) := by
    show IntKind.u64.wrap (IntKind.u64.wrap n * 2) = _
    rw [wrap_u64, wrap_u64]
    omega
  rw [e, xor_u64 _ (by omega)]
  unfold zig
  rw [if_pos hn]
  omega
theorem zig_pos {n : Int} (h : -9223372036854775808 ≤ n ∧ n ≤ 9223372036854775807) (hn : ¬ n < 0) :
    IntKind.u64.wrap (IntKind.u64.wrap n * 2 ^ min (Int.toNat 1) IntKind.u64.bits) = ((zig n : Nat) : Int) := by
  show IntKind.u64.wrap (IntKind.u64.wrap n * 2) = _
  rw [wrap_u64, wrap_u64]
  unfold zig
  rw [if_neg hn]
  omega

theorem el_built (u : Nat) (hu : u < 18446744073709551616) (p l : List UInt8) (hl : l = p ++ lebInit 10 u) :
    l.length + 1 = (p ++ leb u).length ∧ ∀ k, k < l.length + 1 → (joinE l.length (byteEl l) fun k => List.take (0 + 1) (List.drop (k * (0 + 1)) [IV.v (.int .u8 (IntKind.u8.wrap (lebLast 10 u : Nat)))].reverse)) k = byteEl (p ++ leb u) k := by
  subst hl
  have h := lebLast_lt 10 u (by omega)
  have hb : isBytes ((p ++ lebInit 10 u).length + 1) (joinE (p ++ lebInit 10 u).length (byteEl (p ++ lebInit 10 u)) fun k => List.take (0 + 1) (List.drop (k * (0 + 1)) [IV.v (.int .u8 (IntKind.u8.wrap (lebLast 10 u : Nat)))].reverse)) = true := by
    rw [isBytes_join, isBytes_byteEl, isBytes_one, wrap_u8]
    simp; omega
  have e : bytesOf ((p ++ lebInit 10 u).length + 1) (joinE (p ++ lebInit 10 u).length (byteEl (p ++ lebInit 10 u)) fun k => List.take (0 + 1) (List.drop (k * (0 + 1)) [IV.v (.int .u8 (IntKind.u8.wrap (lebLast 10 u : Nat)))].reverse)) = p ++ leb u := by
    rw [bytesOf_join, bytesOf_byteEl, bytesOf_one, wrap_u8]
    unfold leb
    rw [List.append_assoc]
    congr 3
    rw [Int.emod_eq_of_lt (by omega) (by omega)]
    simp
  refine ⟨by simp [leb]; omega, fun k hk => ?_⟩
  rw [byteEl_of_bytes hb k hk, e]

end Go.Vse

set_option maxRecDepth 100000
namespace Go.Vse
open Go.Proofs

theorem rangeB_spec {n : Int} (h : rangeB n = true) : -9223372036854775808 ≤ n ∧ n ≤ 9223372036854775807 := by
  simpa [rangeB] using h

theorem M13a_sat (n : Int) (h : -9223372036854775808 ≤ n ∧ n ≤ 9223372036854775807) : (M13a n).sat fun o => Sees o.val (wOut (leb (zig n))).val ∧ EntsEqv (o.outs ++ [o.new]) ((wOut (leb (zig n))).outs ++ [(wOut (leb (zig n))).new]) := by
  have hz := zig_lt h
  have hl := lebInit_len 10 (zig n)
  obtain ⟨h1, h2⟩ := el_built (zig n) hz [] (lebInit 10 (zig n)) rfl
  simp only [List.nil_append] at h1 h2
  refine sat_need rfl (sat_ite (fun hn => ?_) (fun hn => ?_))
  · have hn := of_decide_eq_true hn
    rw [zig_neg h hn, bytesOf_zero, List.nil_append, Int.toNat_natCast]
    refine sat_need rfl (sat_need rfl (sat_need ?_ (sat_need (decide_eq_true (Nat.le_refl _)) (sat_need rfl (sat_need (decide_eq_true (by omega)) (sat_need (decide_eq_true (by omega)) (sat_ret ⟨Sees.refl _, ?_⟩)))))))
    · simp only [Bool.and_eq_true, decide_eq_true_eq, List.length_nil]; omega
    · rw [h1] at h2 ⊢
      exact .cons (.refl _) (.cons (.arr _ _ _ _ _ h2) .nil)
  · have hn := of_decide_eq_false hn
    rw [zig_pos h hn, bytesOf_zero, List.nil_append, Int.toNat_natCast]
    refine sat_need rfl (sat_need rfl (sat_need ?_ (sat_need (decide_eq_true (Nat.le_refl _)) (sat_need rfl (sat_need (decide_eq_true (by omega)) (sat_need (decide_eq_true (by omega)) (sat_ret ⟨Sees.refl _, ?_⟩)))))))
    · simp only [Bool.and_eq_true, decide_eq_true_eq, List.length_nil]; omega
    · rw [h1] at h2 ⊢
      exact .cons (.refl _) (.cons (.arr _ _ _ _ _ h2) .nil)

theorem M13b_sat (n : Int) (m : Nat) (el : Nat → List IV) (h : -9223372036854775808 ≤ n ∧ n ≤ 9223372036854775807) (hb : isBytes m el = true) (hm : m ≤ 1099511627776) :
    (M13b n m el).sat fun o => Sees o.val (wOut2 (bytesOf m el ++ leb (zig n))).val ∧ EntsEqv (o.outs ++ [o.new]) ((wOut2 (bytesOf m el ++ leb (zig n))).outs ++ [(wOut2 (bytesOf m el ++ leb (zig n))).new]) := by
  have hz := zig_lt h
  have hl := lebInit_len 10 (zig n)
  obtain ⟨h1, h2⟩ := el_built (zig n) hz (bytesOf m el) _ rfl
  have hlen : (bytesOf m el ++ lebInit 10 (zig n)).length ≤ m + 10 := by simp [bytesOf_len]; exact hl
  refine sat_need rfl (sat_ite (fun hn => ?_) (fun hn => ?_))
  · have hn := of_decide_eq_true hn
    rw [zig_neg h hn, Int.toNat_natCast]
    refine sat_need (decide_eq_true rfl) (sat_need hb (sat_need ?_ (sat_need (decide_eq_true (Nat.le_refl _)) (sat_need rfl (sat_need (decide_eq_true (by omega)) (sat_need (decide_eq_true (by omega)) (sat_ret ⟨Sees.refl _, ?_⟩)))))))
    · simp only [Bool.and_eq_true, decide_eq_true_eq, bytesOf_len]; omega
    · rw [h1] at h2 ⊢
      exact .cons (.refl _) (.cons (.refl _) (.cons (.arr _ _ _ _ _ h2) .nil))
  · have hn := of_decide_eq_false hn
    rw [zig_pos h hn, Int.toNat_natCast]
    refine sat_need (decide_eq_true rfl) (sat_need hb (sat_need ?_ (sat_need (decide_eq_true (Nat.le_refl _)) (sat_need rfl (sat_need (decide_eq_true (by omega)) (sat_need (decide_eq_true (by omega)) (sat_ret ⟨Sees.refl _, ?_⟩)))))))
    · simp only [Bool.and_eq_true, decide_eq_true_eq, bytesOf_len]; omega
    · rw [h1] at h2 ⊢
      exact .cons (.refl _) (.cons (.refl _) (.cons (.arr _ _ _ _ _ h2) .nil))

theorem f13_ok : MemOk Tryz.prog 13 K13 := by
  refine memOk_of_exec (L := L13) prog_mixed noΓ_ok (fn := Tryz.f13) (c := codeOf Tryz.f13) (by kernel_rfl) (by kernel_rfl) (callFunc_enter (fn := Tryz.f13) (c := codeOf Tryz.f13) (by kernel_rfl) (by kernel_rfl) (by kernel_rfl)) (N := 10) (frz := false) ?_ ?_
  · intro ents args o h
    unfold K13 at h
    split at h
    · exact f13_loops 1 (.inl rfl)
    · exact f13_loops 2 (.inr rfl)
    · cases h
  · intro ents args o h hc
    unfold K13 at h
    split at h
    · rename_i n
      cases h
      have hr := rangeB_spec (hc (rangeB n) (List.mem_singleton.2 rfl))
      have hs := M13a_sat n hr
      rw [← M13a_eq] at hs
      exact hs
    · rename_i m m' el n
      cases h
      have hr := rangeB_spec (hc (rangeB n) (by simp))
      have h1 : m = m' := dec (hc (decide (m = m')) (by simp))
      have h2 : isBytes m el = true := hc (isBytes m el) (by simp)
      have h3 : m ≤ 1099511627776 := dec (hc (decide (m ≤ 1099511627776)) (by simp))
      subst h1
      have hs := M13b_sat n m el hr h2 h3
      rw [← M13b_eq] at hs
      exact hs
    · cases h
end Go.Vse

set_option maxRecDepth 100000
namespace Go.Vse
open Go.Proofs

/-! ### (reader).fail and (reader).number -/
def rent (s : ByteArray) (at_ e : Int) : List (Option Ent) := [some (.cells [.c (.v (.string s)), intA .i64 at_, intA .i64 e] 66)]
def K31 : MSpec
  | [some (.cells [.c (.v (.string s)), .c (.v (.int .i64 at_)), .c (.v (.int .i64 e0))] 66)], [.ptr 0 0, .c (.v (.int .i64 e))] =>
    some { val := .tup [], outs := rent s at_ (if e0 = 0 then e else e0) }
  | _, _ => none
def Γ16 : FuncId → Option Spec := fun f => bif Nat.beq f 31 then some (memSpec K31) else none
/-- what the reader has come to -/
structure RSt where
  s : ByteArray
  z : Int
  u : Int
  sh : Int
  pos : Int
  e : Int
/-- how it ends: with a number, or without -/
structure REnd where
  s : ByteArray
  ret : Bool
  n : Int
  pos : Int
  e : Int
def takeR16 : Ex × (List AV × List (Option Ent)) → Option (REnd × List Bool)
  | (.normal, ([.ptr 0 0, .c (.v (.int .i64 n))], [some (.cells [.c (.v (.string s)), .c (.v (.int .i64 p)), .c (.v (.int .i64 e))] 66)])) => some (⟨s, false, n, p, e⟩, [])
  | (.ret, ([.ptr 0 0, .c (.v (.int .i64 n))], [some (.cells [.c (.v (.string s)), .c (.v (.int .i64 p)), .c (.v (.int .i64 e))] 66)])) => some (⟨s, true, n, p, e⟩, [])
  | _ => none
def take16 : List AV × List (Option Ent) → Option (RSt × List Bool)
  | ([.ptr 0 0, .c (.v (.int .i64 z)), .c (.v (.int .u64 u)), .c (.v (.int .i64 sh))], [some (.cells [.c (.v (.string s)), .c (.v (.int .i64 p)), .c (.v (.int .i64 e))] 66)]) => some (⟨s, z, u, sh, p, e⟩, [])
  | _ => none
def lp16 (res : RSt → REnd) (pre : RSt → Bool) : LoopSt RSt REnd where
  nIn := { nt := 76, live := [0, 2, 3, 4] }
  nOut := { nt := 76, live := [0, 2] }
  head := fun x => ([.ptr 0 0, intA .i64 x.z, intA .u64 x.u, intA .i64 x.sh], rent x.s x.pos x.e)
  take := take16
  out := fun r => (bif r.ret then .ret else .normal, ([.ptr 0 0, intA .i64 r.n], rent r.s r.pos r.e))
  takeR := takeR16
  res := res
  pre := pre
  split := fun r => .ite r.ret (.ret { r with ret := true }) (.ret { r with ret := false })
theorem lp16_good (res : RSt → REnd) (pre : RSt → Bool) : (lp16 res pre).Good where
  take := by
    intro q x cs h _
    have h : take16 q = some (x, cs) := h
    unfold take16 at h
    split at h
    · cases h; exact ⟨rfl, EntsEqv.refl _⟩
    · cases h
  takeR := by
    intro e q r cs h _
    have h : takeR16 (e, q) = some (r, cs) := h
    unfold takeR16 at h
    split at h
    · rename_i hq
      cases hq
      cases h; exact ⟨rfl, rfl, EntsEqv.refl _⟩
    · rename_i hq
      cases hq
      cases h; exact ⟨rfl, rfl, EntsEqv.refl _⟩
    · cases h
  split := by
    intro r Q h
    obtain ⟨s, b, n, p, e⟩ := r
    cases b with
    | true => exact h.1 rfl
    | false => exact h.2 rfl
def dres : RSt → REnd := fun x => ⟨x.s, false, 0, 0, 0⟩
def dpre : RSt → Bool := fun _ => true
end Go.Vse

set_option maxRecDepth 100000
namespace Go.Vse
open Go.Proofs
def step16 (s : ByteArray) (z : Int) (u : Int) (sh : Int) (pos : Int) (e : Int) : Tr (RSt ⊕ REnd) :=
let x1 : List UInt8 := s.data.toList
let x2 : Int := ↑x1.length
let x3 : Int := ↑(x1.getD pos.toNat 0).toNat
let x4 : Int := IntKind.i64.wrap (pos + 1)
let x5 : Int := IntKind.u64.wrap
  ↑(BitVec.ofInt IntKind.u64.bits u |||
        BitVec.ofInt IntKind.u64.bits
          (IntKind.u64.wrap
            (IntKind.u64.wrap (IntKind.u8.wrap ↑(BitVec.ofInt IntKind.u8.bits x3 &&& BitVec.ofInt IntKind.u8.bits 127).toNat) *
              2 ^ min sh.toNat IntKind.u64.bits))).toNat
let x6 : Int := IntKind.i64.wrap (x5.fdiv (2 ^ min (Int.toNat 1) IntKind.u64.bits))
Tr.ite (e == 0)
  (Tr.ite (decide (pos ≥ x2)) (Tr.ret (Sum.inr { s := s, ret := false, n := z, pos := pos, e := if e = 0 then 22 else e }))
    (Tr.need (decide (0 ≤ pos ∧ pos < x2))
      (Tr.ite (sh == 63)
        (Tr.ite (bif true then decide (x3 > 1) else false)
          (Tr.ite true (Tr.ret (Sum.inr { s := s, ret := false, n := z, pos := x4, e := if e = 0 then 5 else e }))
            (Tr.need (decide ¬sh < 0)
              (Tr.ite (decide (x3 < 128))
                (Tr.need true
                  (Tr.ite (IntKind.u64.wrap ↑(BitVec.ofInt IntKind.u64.bits x5 &&& BitVec.ofInt IntKind.u64.bits 1).toNat == 1)
                    (Tr.ret
                      (Sum.inr
                        { s := s, ret := true,
                          n :=
                            IntKind.i64.wrap
                              ↑(BitVec.ofInt IntKind.i64.bits (if IntKind.i64.signed = true then -1 else IntKind.i64.max) ^^^
                                    BitVec.ofInt IntKind.i64.bits x6).toNat,
                          pos := x4, e := e }))
                    (Tr.ret (Sum.inr { s := s, ret := true, n := x6, pos := x4, e := e }))))
                (Tr.ret (Sum.inl { s := s, z := z, u := x5, sh := IntKind.i64.wrap (sh + 7), pos := x4, e := e })))))
          (Tr.ite (decide (sh > 0))
            (Tr.ite (bif false then true else bif true then x3 == 0 else false)
              (Tr.ret (Sum.inr { s := s, ret := false, n := z, pos := x4, e := if e = 0 then 5 else e }))
              (Tr.need (decide ¬sh < 0)
                (Tr.ite (decide (x3 < 128))
                  (Tr.need true
                    (Tr.ite (IntKind.u64.wrap ↑(BitVec.ofInt IntKind.u64.bits x5 &&& BitVec.ofInt IntKind.u64.bits 1).toNat == 1)
                      (Tr.ret
                        (Sum.inr
                          { s := s, ret := true,
                            n :=
                              IntKind.i64.wrap
                                ↑(BitVec.ofInt IntKind.i64.bits (if IntKind.i64.signed = true then -1 else IntKind.i64.max) ^^^
                                      BitVec.ofInt IntKind.i64.bits x6).toNat,
                            pos := x4, e := e }))
                      (Tr.ret (Sum.inr { s := s, ret := true, n := x6, pos := x4, e := e }))))
                  (Tr.ret (Sum.inl { s := s, z := z, u := x5, sh := IntKind.i64.wrap (sh + 7), pos := x4, e := e })))))
            (Tr.ite false (Tr.ret (Sum.inr { s := s, ret := false, n := z, pos := x4, e := if e = 0 then 5 else e }))
              (Tr.need (decide ¬sh < 0)
                (Tr.ite (decide (x3 < 128))
                  (Tr.need true
                    (Tr.ite (IntKind.u64.wrap ↑(BitVec.ofInt IntKind.u64.bits x5 &&& BitVec.ofInt IntKind.u64.bits 1).toNat == 1)
                      (Tr.ret
                        (Sum.inr
                          { s := s, ret := true,
                            n :=
                              IntKind.i64.wrap
                                ↑(BitVec.ofInt IntKind.i64.bits (if IntKind.i64.signed = true then -1 else IntKind.i64.max) ^^^
                                      BitVec.ofInt IntKind.i64.bits x6).toNat,
                            pos := x4, e := e }))
                      (Tr.ret (Sum.inr { s := s, ret := true, n := x6, pos := x4, e := e }))))
                  (Tr.ret (Sum.inl { s := s, z := z, u := x5, sh := IntKind.i64.wrap (sh + 7), pos := x4, e := e })))))))
        (Tr.ite false
          (Tr.ite true (Tr.ret (Sum.inr { s := s, ret := false, n := z, pos := x4, e := if e = 0 then 5 else e }))
            (Tr.need (decide ¬sh < 0)
              (Tr.ite (decide (x3 < 128))
                (Tr.need true
                  (Tr.ite (IntKind.u64.wrap ↑(BitVec.ofInt IntKind.u64.bits x5 &&& BitVec.ofInt IntKind.u64.bits 1).toNat == 1)
                    (Tr.ret
                      (Sum.inr
                        { s := s, ret := true,
                          n :=
                            IntKind.i64.wrap
                              ↑(BitVec.ofInt IntKind.i64.bits (if IntKind.i64.signed = true then -1 else IntKind.i64.max) ^^^
                                    BitVec.ofInt IntKind.i64.bits x6).toNat,
                          pos := x4, e := e }))
                    (Tr.ret (Sum.inr { s := s, ret := true, n := x6, pos := x4, e := e }))))
                (Tr.ret (Sum.inl { s := s, z := z, u := x5, sh := IntKind.i64.wrap (sh + 7), pos := x4, e := e })))))
          (Tr.ite (decide (sh > 0))
            (Tr.ite (bif false then true else bif true then x3 == 0 else false)
              (Tr.ret (Sum.inr { s := s, ret := false, n := z, pos := x4, e := if e = 0 then 5 else e }))
              (Tr.need (decide ¬sh < 0)
                (Tr.ite (decide (x3 < 128))
                  (Tr.need true
                    (Tr.ite (IntKind.u64.wrap ↑(BitVec.ofInt IntKind.u64.bits x5 &&& BitVec.ofInt IntKind.u64.bits 1).toNat == 1)
                      (Tr.ret
                        (Sum.inr
                          { s := s, ret := true,
                            n :=
                              IntKind.i64.wrap
                                ↑(BitVec.ofInt IntKind.i64.bits (if IntKind.i64.signed = true then -1 else IntKind.i64.max) ^^^
                                      BitVec.ofInt IntKind.i64.bits x6).toNat,
                            pos := x4, e := e }))
                      (Tr.ret (Sum.inr { s := s, ret := true, n := x6, pos := x4, e := e }))))
                  (Tr.ret (Sum.inl { s := s, z := z, u := x5, sh := IntKind.i64.wrap (sh + 7), pos := x4, e := e })))))
            (Tr.ite false (Tr.ret (Sum.inr { s := s, ret := false, n := z, pos := x4, e := if e = 0 then 5 else e }))
              (Tr.need (decide ¬sh < 0)
                (Tr.ite (decide (x3 < 128))
                  (Tr.need true
                    (Tr.ite (IntKind.u64.wrap ↑(BitVec.ofInt IntKind.u64.bits x5 &&& BitVec.ofInt IntKind.u64.bits 1).toNat == 1)
                      (Tr.ret
                        (Sum.inr
                          { s := s, ret := true,
                            n :=
                              IntKind.i64.wrap
                                ↑(BitVec.ofInt IntKind.i64.bits (if IntKind.i64.signed = true then -1 else IntKind.i64.max) ^^^
                                      BitVec.ofInt IntKind.i64.bits x6).toNat,
                            pos := x4, e := e }))
                      (Tr.ret (Sum.inr { s := s, ret := true, n := x6, pos := x4, e := e }))))
                  (Tr.ret (Sum.inl { s := s, z := z, u := x5, sh := IntKind.i64.wrap (sh + 7), pos := x4, e := e }))))))))))
  (Tr.ret (Sum.inr { s := s, ret := false, n := z, pos := pos, e := e }))

theorem step16_eq (res : RSt → REnd) (pre : RSt → Bool) (x : RSt) : (exec Tryz.prog Γ16 noL 10 (loopOf 0 (codeOf Tryz.f16)) (mkSt (lp16 res pre).nIn ((lp16 res pre).head x))).bind ((lp16 res pre).fin 1 0) = step16 x.s x.z x.u x.sh x.pos x.e := by
  obtain ⟨s, z, u, sh, pos, e⟩ := x
  kernel_rfl

/-! ### What is read, in plain Lean -/
def unzig (u : Nat) : Int := if u % 2 = 1 then -((u / 2 : Nat) : Int) - 1 else ((u / 2 : Nat) : Int)
def rdN (l : List UInt8) : Nat → Nat → Nat → Nat → Option Int × Nat × Int
  | 0, _, _, p => (none, p, 5)
  | f + 1, u, sh, p =>
    if p ≥ l.length then (none, p, 22) else
    let c := (l.getD p 0).toNat
    if (sh = 63 ∧ c > 1) ∨ (sh > 0 ∧ c = 0) then (none, p + 1, 5) else
    if c < 128 then (some (unzig (u + c % 128 * 2 ^ sh)), p + 1, 0) else rdN l f (u + c % 128 * 2 ^ sh) (sh + 7) (p + 1)

theorem and127 : ∀ m : Nat, m < 256 → (m &&& 127) = m % 128 := by decide
theorem and_u8 (c : Nat) (hc : c < 256) : IntKind.u8.wrap ((BitVec.ofInt IntKind.u8.bits (c : Int) &&& BitVec.ofInt IntKind.u8.bits 127).toNat : Nat) = ((c % 128 : Nat) : Int) := by
  change IntKind.u8.wrap ((BitVec.ofInt 8 (c : Int) &&& BitVec.ofInt 8 127).toNat : Nat) = _
  have h1 : (BitVec.ofInt 8 (c : Int)).toNat = c := by
    rw [BitVec.toNat_ofInt]; omega
  have h2 : (BitVec.ofInt 8 (127 : Int)).toNat = 127 := by rfl
  rw [BitVec.toNat_and, h1, h2, and127 _ hc, wrap_u8]
  omega
theorem toNat_u64 (x : Nat) (hx : x < 18446744073709551616) : (BitVec.ofInt 64 (x : Int)).toNat = x := by
  rw [BitVec.toNat_ofInt]; omega
theorem acc_u64 (u c sh : Nat) (hc : c < 256) (hs : sh ≤ 63) (hu : u < 2 ^ sh) (hb : u + c % 128 * 2 ^ sh < 18446744073709551616) :
    IntKind.u64.wrap ((BitVec.ofInt IntKind.u64.bits (u : Int) ||| BitVec.ofInt IntKind.u64.bits (IntKind.u64.wrap (IntKind.u64.wrap (IntKind.u8.wrap ((BitVec.ofInt IntKind.u8.bits (c : Int) &&& BitVec.ofInt IntKind.u8.bits 127).toNat : Nat)) * 2 ^ min (sh : Int).toNat IntKind.u64.bits))).toNat : Nat) = ((u + c % 128 * 2 ^ sh : Nat) : Int) := by
  have e1 : min (sh : Int).toNat IntKind.u64.bits = sh := by
    change min (sh : Int).toNat 64 = sh
    omega
  rw [and_u8 c hc, e1]
  have e2 : IntKind.u64.wrap (IntKind.u64.wrap ((c % 128 : Nat) : Int) * 2 ^ sh) = ((c % 128 * 2 ^ sh : Nat) : Int) := by
    rw [wrap_u64, wrap_u64, Int.emod_eq_of_lt (a := ((c % 128 : Nat) : Int)) (by omega) (by omega)]
    have : (((c % 128 : Nat) : Int) * 2 ^ sh) = ((c % 128 * 2 ^ sh : Nat) : Int) := by simp
    rw [this]
    omega
  rw [e2]
  change IntKind.u64.wrap ((BitVec.ofInt 64 (u : Int) ||| BitVec.ofInt 64 ((c % 128 * 2 ^ sh : Nat) : Int)).toNat : Nat) = _
  rw [BitVec.toNat_or, toNat_u64 u (by omega), toNat_u64 _ (by omega)]
  have e3 : u ||| c % 128 * 2 ^ sh = u + c % 128 * 2 ^ sh := by
    have := Nat.two_pow_add_eq_or_of_lt hu (c % 128)
    rw [Nat.mul_comm (2 ^ sh)] at this
    rw [Nat.or_comm, ← this, Nat.add_comm]
  rw [e3, wrap_u64]
  omega

theorem half_i64 (x : Nat) (hx : x < 18446744073709551616) : IntKind.i64.wrap ((x : Int).fdiv (2 ^ min (Int.toNat 1) IntKind.u64.bits)) = ((x / 2 : Nat) : Int) := by
  change IntKind.i64.wrap ((x : Int).fdiv 2) = _
  rw [Int.fdiv_eq_ediv_of_nonneg _ (by omega), wrap_i64 (by omega)]
  omega
theorem odd_u64 (x : Nat) (hx : x < 18446744073709551616) : (IntKind.u64.wrap ((BitVec.ofInt IntKind.u64.bits (x : Int) &&& BitVec.ofInt IntKind.u64.bits 1).toNat : Nat) == 1) = decide (x % 2 = 1) := by
  change (IntKind.u64.wrap ((BitVec.ofInt 64 (x : Int) &&& BitVec.ofInt 64 1).toNat : Nat) == 1) = _
  have h2 : (BitVec.ofInt 64 (1 : Int)).toNat = 1 := by rfl
  rw [BitVec.toNat_and, toNat_u64 x hx, h2, Nat.and_one_is_mod, wrap_u64]
  rw [Bool.eq_iff_iff]
  simp only [beq_iff_eq, decide_eq_true_eq]
  omega
theorem not_i64 (x : Nat) (hx : x < 9223372036854775808) : IntKind.i64.wrap ((BitVec.ofInt IntKind.i64.bits (if IntKind.i64.signed = true then -1 else IntKind.i64.max) ^^^ BitVec.ofInt IntKind.i64.bits (x : Int)).toNat : Nat) = -(x : Int) - 1 := by
  change IntKind.i64.wrap ((BitVec.ofInt 64 (if IntKind.i64.signed = true then -1 else IntKind.i64.max) ^^^ BitVec.ofInt 64 (x : Int)).toNat : Nat) = _
  have h2 : BitVec.ofInt 64 (if IntKind.i64.signed = true then -1 else IntKind.i64.max) = BitVec.allOnes 64 := by rfl
  have h3 : BitVec.ofInt 64 (x : Int) = BitVec.ofNat 64 x := by
    apply BitVec.eq_of_toNat_eq
    rw [BitVec.toNat_ofInt, BitVec.toNat_ofNat]
    omega
  rw [h2, h3, BitVec.allOnes_xor, BitVec.toNat_not, BitVec.toNat_ofNat]
  have e : IntKind.i64.wrap (((2 ^ 64 - 1 - x % 2 ^ 64 : Nat) : Int)) = -(x : Int) - 1 := by
    simp only [IntKind.wrap, IntKind.bits, IntKind.signed]
    simp
    omega
  exact e
end Go.Vse

set_option maxRecDepth 100000
namespace Go.Vse
open Go.Proofs

def endOf (s : ByteArray) (z : Int) : Option Int × Nat × Int → REnd
  | (some n, p, _) => ⟨s, true, n, p, 0⟩
  | (none, p, e) => ⟨s, false, z, p, e⟩

theorem runs16 (s : ByteArray) (z : Int) (hlen : s.data.toList.length ≤ 4611686018427387904) (Q : REnd → Prop) : ∀ (f u sh p : Nat), u < 2 ^ sh → sh + 7 * (f + 1) = 70 → Q (endOf s z (rdN s.data.toList (f + 1) u sh p)) →
    RunsX (fun x : RSt => step16 x.s x.z x.u x.sh x.pos x.e) Q (f + 1) ⟨s, z, u, sh, p, 0⟩
  | f, u, sh, p, hu, hf, hq => by
    unfold RunsX
    change Tr.sat _ (step16 s z u sh p 0)
    unfold rdN at hq
    refine sat_ite (fun _ => ?_) (fun h => absurd h (by decide))
    refine sat_ite (fun h => ?_) (fun h => ?_)
    · have h : (p : Int) ≥ (s.data.toList.length : Nat) := of_decide_eq_true h
      rw [if_pos (show p ≥ s.data.toList.length by omega)] at hq
      exact hq
    · have h : ¬ (p : Int) ≥ (s.data.toList.length : Nat) := of_decide_eq_false h
      have hp : p < s.data.toList.length := by omega
      rw [if_neg (show ¬ p ≥ s.data.toList.length by omega)] at hq
      have hc : (s.data.toList.getD p 0).toNat < 256 := UInt8.toNat_lt _
      generalize hcc : (s.data.toList.getD p 0).toNat = c at hq hc
      dsimp only at hq
      have e3 : (((s.data.toList.getD (p : Int).toNat 0).toNat : Nat) : Int) = (c : Int) := by rw [Int.toNat_natCast, hcc]
      have e4 : IntKind.i64.wrap ((p : Int) + 1) = ((p + 1 : Nat) : Int) := by rw [wrap_i64 (by omega)]; omega
      have hs : sh ≤ 63 := by omega
      -- what comes behind the checks
      have tail : ¬ ((sh = 63 ∧ c > 1) ∨ (sh > 0 ∧ c = 0)) → ∀ R : RSt ⊕ REnd → Prop, (∀ x' f', f = f' + 1 → RunsX (fun x : RSt => step16 x.s x.z x.u x.sh x.pos x.e) Q (f' + 1) x' → R (.inl x')) → (∀ r, Q r → R (.inr r)) →
          (Tr.need (decide ¬ (sh : Int) < 0)
            (Tr.ite (decide ((c : Int) < 128))
              (Tr.need true
                (Tr.ite (IntKind.u64.wrap ((BitVec.ofInt IntKind.u64.bits (IntKind.u64.wrap ((BitVec.ofInt IntKind.u64.bits (u : Int) ||| BitVec.ofInt IntKind.u64.bits (IntKind.u64.wrap (IntKind.u64.wrap (IntKind.u8.wrap ((BitVec.ofInt IntKind.u8.bits (c : Int) &&& BitVec.ofInt IntKind.u8.bits 127).toNat : Nat)) * 2 ^ min (sh : Int).toNat IntKind.u64.bits))).toNat : Nat)) &&& BitVec.ofInt IntKind.u64.bits 1).toNat : Nat) == 1)
                  (Tr.ret (Sum.inr { s := s, ret := true, n := IntKind.i64.wrap ((BitVec.ofInt IntKind.i64.bits (if IntKind.i64.signed = true then -1 else IntKind.i64.max) ^^^ BitVec.ofInt IntKind.i64.bits (IntKind.i64.wrap ((IntKind.u64.wrap ((BitVec.ofInt IntKind.u64.bits (u : Int) ||| BitVec.ofInt IntKind.u64.bits (IntKind.u64.wrap (IntKind.u64.wrap (IntKind.u8.wrap ((BitVec.ofInt IntKind.u8.bits (c : Int) &&& BitVec.ofInt IntKind.u8.bits 127).toNat : Nat)) * 2 ^ min (sh : Int).toNat IntKind.u64.bits))).toNat : Nat)).fdiv (2 ^ min (Int.toNat 1) IntKind.u64.bits)))).toNat : Nat), pos := ((p + 1 : Nat) : Int), e := 0 }))
                  (Tr.ret (Sum.inr { s := s, ret := true, n := IntKind.i64.wrap ((IntKind.u64.wrap ((BitVec.ofInt IntKind.u64.bits (u : Int) ||| BitVec.ofInt IntKind.u64.bits (IntKind.u64.wrap (IntKind.u64.wrap (IntKind.u8.wrap ((BitVec.ofInt IntKind.u8.bits (c : Int) &&& BitVec.ofInt IntKind.u8.bits 127).toNat : Nat)) * 2 ^ min (sh : Int).toNat IntKind.u64.bits))).toNat : Nat)).fdiv (2 ^ min (Int.toNat 1) IntKind.u64.bits)), pos := ((p + 1 : Nat) : Int), e := 0 }))))
              (Tr.ret (Sum.inl { s := s, z := z, u := IntKind.u64.wrap ((BitVec.ofInt IntKind.u64.bits (u : Int) ||| BitVec.ofInt IntKind.u64.bits (IntKind.u64.wrap (IntKind.u64.wrap (IntKind.u8.wrap ((BitVec.ofInt IntKind.u8.bits (c : Int) &&& BitVec.ofInt IntKind.u8.bits 127).toNat : Nat)) * 2 ^ min (sh : Int).toNat IntKind.u64.bits))).toNat : Nat), sh := IntKind.i64.wrap ((sh : Int) + 7), pos := ((p + 1 : Nat) : Int), e := 0 })))).sat R := by
        intro hok R hin hend
        rw [if_neg hok] at hq
        have hpow : 2 ^ sh ≤ 2 ^ 63 := Nat.pow_le_pow_right (by omega) hs
        have hacc : u + c % 128 * 2 ^ sh < 2 ^ (sh + 7) := by
          have h1 : c % 128 + 1 ≤ 128 := by omega
          have h2 : (c % 128 + 1) * 2 ^ sh ≤ 128 * 2 ^ sh := Nat.mul_le_mul_right _ h1
          rw [Nat.add_mul, Nat.one_mul] at h2
          rw [Nat.pow_add, Nat.mul_comm (2 ^ sh)]
          omega
        have hb : u + c % 128 * 2 ^ sh < 18446744073709551616 := by
          rcases Nat.lt_or_ge sh 63 with h1 | h1
          · have h2 : 2 ^ (sh + 7) ≤ 2 ^ 63 := Nat.pow_le_pow_right (by omega) (by omega)
            omega
          · obtain rfl : sh = 63 := by omega
            have : c % 128 ≤ 1 := by omega
            have h2 : c % 128 * 2 ^ 63 ≤ 1 * 2 ^ 63 := Nat.mul_le_mul_right _ this
            omega
        rw [acc_u64 u c sh hc hs hu hb, odd_u64 _ hb, half_i64 _ hb, not_i64 _ (by omega)]
        refine sat_need (decide_eq_true (by omega)) (sat_ite (fun h => ?_) (fun h => ?_))
        · have h : (c : Int) < 128 := of_decide_eq_true h
          rw [if_pos (show c < 128 by omega)] at hq
          refine sat_need rfl (sat_ite (fun h => ?_) (fun h => ?_))
          · have h := of_decide_eq_true h
            refine hend _ ?_
            simp only [endOf, unzig, h, if_true] at hq
            exact hq
          · have h := of_decide_eq_false h
            refine hend _ ?_
            simp only [endOf, unzig, h, if_false] at hq
            exact hq
        · have h : ¬ (c : Int) < 128 := of_decide_eq_false h
          rw [if_neg (show ¬ c < 128 by omega)] at hq
          cases f with
          | zero => omega
          | succ f =>
            refine hin _ f rfl ?_
            have e7 : IntKind.i64.wrap ((sh : Int) + 7) = ((sh + 7 : Nat) : Int) := by rw [wrap_i64 (by omega)]; omega
            rw [e7]
            exact runs16 s z hlen Q f (u + c % 128 * 2 ^ sh) (sh + 7) (p + 1) hacc (by omega) hq
      refine sat_need (decide_eq_true (by omega)) ?_
      rw [e3, e4]
      refine sat_ite (fun h63 => ?_) (fun h63 => ?_)
      · have h63 : sh = 63 := by have := eq_of_beq h63; omega
        refine sat_ite (fun h => ?_) (fun h => ?_)
        · have h : (c : Int) > 1 := of_decide_eq_true h
          rw [if_pos (.inl ⟨h63, by omega⟩)] at hq
          exact sat_ite (fun _ => hq) (fun h => absurd h (by decide))
        · have h : ¬ (c : Int) > 1 := of_decide_eq_false h
          refine sat_ite (fun h0 => ?_) (fun h0 => ?_)
          · refine sat_ite (fun h1 => ?_) (fun h1 => ?_)
            · have h1 : (c : Int) = 0 := eq_of_beq h1
              rw [if_pos (.inr ⟨by omega, by omega⟩)] at hq
              exact hq
            · have h1 : ¬ (c : Int) = 0 := by intro hh; rw [hh] at h1; cases h1
              exact tail (by omega) _ (fun x' f' hf' hx => by subst hf'; exact hx) (fun r hr => hr)
          · have h0 : ¬ (sh : Int) > 0 := of_decide_eq_false h0
            omega
      · have h63 : ¬ sh = 63 := by intro hh; rw [hh] at h63; cases h63
        refine sat_ite (fun h => absurd h (by decide)) (fun _ => ?_)
        refine sat_ite (fun h0 => ?_) (fun h0 => ?_)
        · have h0 : (sh : Int) > 0 := of_decide_eq_true h0
          refine sat_ite (fun h1 => ?_) (fun h1 => ?_)
          · have h1 : (c : Int) = 0 := eq_of_beq h1
            rw [if_pos (.inr ⟨by omega, by omega⟩)] at hq
            exact hq
          · have h1 : ¬ (c : Int) = 0 := by intro hh; rw [hh] at h1; cases h1
            exact tail (by omega) _ (fun x' f' hf' hx => by subst hf'; exact hx) (fun r hr => hr)
        · have h0 : ¬ (sh : Int) > 0 := of_decide_eq_false h0
          refine sat_ite (fun h1 => absurd h1 (by decide)) (fun _ => ?_)
          exact tail (by omega) _ (fun x' f' hf' hx => by subst hf'; exact hx) (fun r hr => hr)
end Go.Vse

set_option maxRecDepth 100000
namespace Go.Vse
open Go.Proofs
def res16 : RSt → REnd := fun x => endOf x.s x.z (rdN x.s.data.toList 10 x.u.toNat x.sh.toNat x.pos.toNat)
def pre16 : RSt → Bool := fun x => decide (x.u = 0) && decide (x.sh = 0) && decide (0 ≤ x.pos) && decide (x.e = 0) && decide (x.s.data.toList.length ≤ 4611686018427387904)
def L16 : Nat → Option (St → Tr (Ex × St)) := fun id => bif Nat.beq id 0 then some ((lp16 res16 pre16).g 1) else none
def M16 (s : ByteArray) (p : Int) (e : Int) : Tr MemOut :=
let x1 : List (Option Ent) := [some
    (Ent.cells
      [AV.c (IV.v (Value.string (res16 { s := s, z := 0, u := 0, sh := 0, pos := p, e := e }).s)),
        AV.c (IV.v (Value.int IntKind.i64 (res16 { s := s, z := 0, u := 0, sh := 0, pos := p, e := e }).pos)),
        AV.c (IV.v (Value.int IntKind.i64 (res16 { s := s, z := 0, u := 0, sh := 0, pos := p, e := e }).e))]
      66)]
Tr.need (pre16 { s := s, z := 0, u := 0, sh := 0, pos := p, e := e })
  (Tr.ite (res16 { s := s, z := 0, u := 0, sh := 0, pos := p, e := e }).ret
    (Tr.ret { val := AV.c (IV.v (Value.int IntKind.i64 (res16 { s := s, z := 0, u := 0, sh := 0, pos := p, e := e }).n)), outs := x1 })
    (Tr.ret { val := AV.c (IV.v (Value.int IntKind.i64 0)), outs := x1 }))
def M31 (s : ByteArray) (p : Int) (e0 : Int) (e : Int) : Tr MemOut :=
Tr.ite (e0 == 0)
  (Tr.ret
    { val := AV.tup [],
      outs := [some (Ent.cells [AV.c (IV.v (Value.string s)), AV.c (IV.v (Value.int IntKind.i64 p)), AV.c (IV.v (Value.int IntKind.i64 e))] 66)] })
  (Tr.ret
    { val := AV.tup [],
      outs := [some (Ent.cells [AV.c (IV.v (Value.string s)), AV.c (IV.v (Value.int IntKind.i64 p)), AV.c (IV.v (Value.int IntKind.i64 e0))] 66)] })

theorem M16_eq (s : ByteArray) (p e : Int) : execM Tryz.prog Γ16 L16 10 false Tryz.f16 (rent s p e) [.ptr 0 0] = M16 s p e := by kernel_rfl
theorem M31_eq (s : ByteArray) (p e0 e : Int) : execM Tryz.prog (fun _ => none) noL 10 false Tryz.f31 (rent s p e0) [.ptr 0 0, intA .i64 e] = M31 s p e0 e := by kernel_rfl

theorem f31_ok : MemOk Tryz.prog 31 K31 := by
  refine memOk_of_exec (L := fun _ => noL) prog_mixed noΓ_ok (fn := Tryz.f31) (c := codeOf Tryz.f31) (by kernel_rfl) (by kernel_rfl) (callFunc_enter (fn := Tryz.f31) (c := codeOf Tryz.f31) (by kernel_rfl) (by kernel_rfl) (by kernel_rfl)) (N := 10) (frz := false) (fun ents args o _ => blocksOk_none _ _) ?_
  intro ents args o h hc
  unfold K31 at h
  split at h
  · rename_i s p e0 e
    cases h
    change Tr.sat _ (execM Tryz.prog (fun _ => none) noL 10 false Tryz.f31 (rent s p e0) [.ptr 0 0, intA .i64 e])
    rw [M31_eq]
    refine sat_ite (fun h => ?_) (fun h => ?_)
    · have h : e0 = 0 := eq_of_beq h
      subst h
      exact ⟨Sees.refl _, EntsEqv.refl _⟩
    · have h : ¬ e0 = 0 := by intro hh; rw [hh] at h; cases h
      simp only [h, if_false]
      exact ⟨Sees.refl _, EntsEqv.refl _⟩
  · cases h

theorem Γ16_ok : ∀ f s, Γ16 f = some s → SpecOk Tryz.prog f s := by
  intro f s h
  unfold Γ16 at h
  cases hf : Nat.beq f 31 with
  | true =>
    obtain rfl : f = 31 := by simpa using hf
    rw [hf] at h
    cases h
    exact f31_ok.spec
  | false => rw [hf] at h; cases h

theorem f16_loops : BlocksOk Tryz.prog 1 L16 (codeOf Tryz.f16) := by
  refine blocksOk_of (d := fun id => Nat.beq id 0) (fun id => by unfold L16; cases Nat.beq id 0 <;> rfl) _ ?_
  have hb : blocksOf (fun id => Nat.beq id 0) (codeOf Tryz.f16) = [(0, .loop (loopOf 0 (codeOf Tryz.f16)))] := by kernel_rfl
  rw [hb]
  intro p hp g hg
  simp only [List.mem_singleton] at hp
  subst hp
  have hh : L16 0 = some ((lp16 res16 pre16).g 1) := rfl
  rw [hh] at hg
  have : g = (lp16 res16 pre16).g 1 := (Option.some.inj hg).symm
  subst this
  refine LoopSt.ok (N := 10) prog_mixed Γ16_ok (L := noL) (blocksOk_none 1 _) (lp16_good _ _) (step16_eq res16 pre16) ?_
  rintro ⟨s, z, u, sh, p, e⟩ hx
  have hx : pre16 ⟨s, z, u, sh, p, e⟩ = true := hx
  simp only [pre16, Bool.and_eq_true, decide_eq_true_eq] at hx
  obtain ⟨⟨⟨⟨rfl, rfl⟩, hp⟩, rfl⟩, hl⟩ := hx
  have := runs16 s z hl (· = res16 ⟨s, z, 0, 0, p, 0⟩) 9 0 0 p.toNat (by decide) (by omega) (by simp [res16])
  rw [Int.toNat_of_nonneg hp] at this
  exact ⟨10, this⟩

/-- what a reader reads at an offset -/
def rdAll (s : ByteArray) (p : Int) : Option Int × Nat × Int := rdN s.data.toList 10 0 0 p.toNat
def rdErr (r : Option Int × Nat × Int) : Int := match r.1 with | some _ => 0 | none => r.2.2
def K16 : MSpec
  | [some (.cells [.c (.v (.string s)), .c (.v (.int .i64 p)), .c (.v (.int .i64 e))] 66)], [.ptr 0 0] =>
    some { val := intA .i64 ((rdAll s p).1.getD 0), outs := rent s ((rdAll s p).2.1 : Nat) (rdErr (rdAll s p)), conds := [decide (e = 0), decide (0 ≤ p), decide (s.data.toList.length ≤ 4611686018427387904)] }
  | _, _ => none

theorem f16_ok : MemOk Tryz.prog 16 K16 := by
  refine memOk_of_exec (L := fun _ => L16) prog_mixed Γ16_ok (fn := Tryz.f16) (c := codeOf Tryz.f16) (by kernel_rfl) (by kernel_rfl) (callFunc_enter (fn := Tryz.f16) (c := codeOf Tryz.f16) (by kernel_rfl) (by kernel_rfl) (by kernel_rfl)) (N := 10) (frz := false) ?_ ?_
  · intro ents args o h
    unfold K16 at h
    split at h
    · exact f16_loops
    · cases h
  · intro ents args o h hc
    unfold K16 at h
    split at h
    · rename_i s p e
      cases h
      have h1 : e = 0 := dec (hc (decide (e = 0)) (by simp))
      have h2 : 0 ≤ p := dec (hc (decide (0 ≤ p)) (by simp))
      have h3 : s.data.toList.length ≤ 4611686018427387904 := dec (hc (decide (s.data.toList.length ≤ 4611686018427387904)) (List.mem_cons_of_mem _ (List.mem_cons_of_mem _ (List.mem_singleton.2 rfl))))
      subst h1
      change Tr.sat _ (execM Tryz.prog Γ16 L16 10 false Tryz.f16 (rent s p 0) [.ptr 0 0])
      rw [M16_eq]
      refine sat_need (by simp [pre16, h2]; simpa using h3) ?_
      have hr : res16 ⟨s, 0, 0, 0, p, 0⟩ = endOf s 0 (rdAll s p) := rfl
      rw [hr]
      generalize rdAll s p = r
      obtain ⟨n, q, e⟩ := r
      cases n with
      | some n => exact sat_ite (fun _ => ⟨Sees.refl _, EntsEqv.refl _⟩) (fun h => by cases h)
      | none => exact sat_ite (fun h => by cases h) (fun _ => ⟨Sees.refl _, EntsEqv.refl _⟩)
    · cases h
end Go.Vse
