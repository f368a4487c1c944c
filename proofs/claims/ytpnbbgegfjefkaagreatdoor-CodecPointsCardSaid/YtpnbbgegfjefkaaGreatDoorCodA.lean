/- Helpers for the proof: no statement of its own. -/
import Derived.Test.YtpnbbgegfjefkaaGreatDoorNumG
import Derived.Test.YtpnbbgegfjefkaaGreatDoorProg
import Derived.Test.YtpnbbgegfjefkaaGreatDoorVseD
set_option linter.unusedVariables false
set_option linter.unusedSimpArgs false
set_option linter.unnecessarySimpa false
set_option linter.deprecated false
namespace Go.Vse
def lebInit : Nat → Nat → List UInt8
 | 0, _ => []
 | f + 1, u => if u < 128 then [] else UInt8.ofNat (u % 128 + 128) :: lebInit f (u / 128)
def lebLast : Nat → Nat → Nat
 | 0, u => u
 | f + 1, u => if u < 128 then u else lebLast f (u / 128)
def leb (u : Nat) : List UInt8 := lebInit 10 u ++ [UInt8.ofNat (lebLast 10 u)]
def zig (n : Int) : Nat := if n < 0 then 2 * (-n - 1).toNat + 1 else 2 * n.toNat
theorem lebLast_lt : ∀ (f u : Nat), u < 128 ^ (f + 1) → lebLast f u < 128
 | 0, u, h => by simpa [lebLast] using h
 | f + 1, u, h => by
   unfold lebLast
   split
   · assumption
   · refine lebLast_lt f (u / 128) ?_
     rw [Nat.div_lt_iff_lt_mul (by omega)]
     rw [Nat.pow_succ] at h
     exact h
theorem lebInit_len : ∀ (f u : Nat), (lebInit f u).length ≤ f
 | 0, u => by simp [lebInit]
 | f + 1, u => by
   unfold lebInit
   split
   · simp
   · have := lebInit_len f (u / 128)
     simp; omega
theorem leb_len (u : Nat) : (leb u).length ≤ 11 := by
 have := lebInit_len 10 u
 simp [leb]; omega
end Go.Vse
set_option maxRecDepth 100000
namespace Go.Vse
open Go.Proofs
def nums20 : Norm := { nt := 33, live := [3, 4], lifts := [(4, 1, 5)] }
def take20 : List AV × List (Option Ent) → Option ((Int × List UInt8) × List Bool)
 | ([.c (.v (.int .u64 u)), .msl 0 n 1], [some (.arr n' 1 el 5)]) => some ((u, bytesOf n el), [decide (n = n'), isBytes n el])
 | _ => none
def head20 (x : Int × List UInt8) : List AV × List (Option Ent) := ([intA .u64 x.1, .msl 0 x.2.length 1], [some (.arr x.2.length 1 (byteEl x.2) 5)])
def lp20 : LoopSt (Int × List UInt8) (Int × List UInt8) where
 nIn := nums20
 nOut := nums20
 head := head20
 take := take20
 out := fun x => (.normal, head20 x)
 takeR := fun q => match q with | (.normal, q) => take20 q | _ => none
 res := fun x => ((lebLast 10 x.1.toNat : Nat), x.2 ++ lebInit 10 x.1.toNat)
 pre := fun x => decide (0 ≤ x.1) && decide (x.1 < 18446744073709551616) && decide (x.2.length ≤ 1000000)
theorem take20_ok (q : List AV × List (Option Ent)) (x : Int × List UInt8) (cs : List Bool) (h : take20 q = some (x, cs)) (hc : ∀ p ∈ cs, p) : q.1 = (head20 x).1 ∧ EntsEqv q.2 (head20 x).2 := by
 unfold take20 at h
 split at h
 ·rename_i u n n' el
  simp only [Option.some.injEq, Prod.mk.injEq] at h
  obtain ⟨rfl, rfl⟩ := h
  have h1 : n = n' := dec (hc _ (by simp))
  have h2 : isBytes n el = true := hc _ (by simp)
  subst h1
  refine ⟨?_, ?_⟩
  ·simp [head20, intA, bytesOf_len]
  ·simp only [head20, bytesOf_len]
   exact .cons (.arr _ _ _ _ _ (byteEl_of_bytes h2)) .nil
 ·cases h
theorem lp20_good : lp20.Good where
 take := take20_ok
 takeR := by
  intro e q r cs h hc
  cases e with
  | normal => obtain ⟨h1, h2⟩ := take20_ok q r cs h hc; exact ⟨rfl, h1, h2⟩
  | exit j => cases h
  | ret => cases h
 split := fun r Q h => h
def step20 (x : Int × List UInt8) : Tr ((Int × List UInt8) ⊕ (Int × List UInt8)) := .ite (decide (x.1 ≥ 128)) (.need true (.need (decide (x.2.length ≤ x.2.length)) (.need true (.need (decide (x.2.length + 1 ≤ 9223372036854775807)) (.need (decide ((x.2.length + 1) * 1 ≤ 140737488355328)) (.need true (.need (decide (x.2.length + 1 = x.2.length + 1)) (.need (isBytes (x.2.length + 1) (joinE x.2.length (byteEl x.2) fun k => List.take (0 + 1) (List.drop (k * (0 + 1)) [IV.v (.int .u8 (IntKind.u8.wrap (IntKind.u64.wrap (x.1.tmod 128 + 128))))].reverse))) (.ret (.inl (IntKind.u64.wrap (x.1.tdiv 128), bytesOf (x.2.length + 1) (joinE x.2.length (byteEl x.2) fun k => List.take (0 + 1) (List.drop (k * (0 + 1)) [IV.v (.int .u8 (IntKind.u8.wrap (IntKind.u64.wrap (x.1.tmod 128 + 128))))].reverse))))))))))))) (.need (decide (x.2.length = x.2.length)) (.need (isBytes x.2.length (byteEl x.2)) (.ret (.inr (x.1, bytesOf x.2.length (byteEl x.2))))))
theorem step20_eq (P : Program) (hP : P = Tryz.prog) (x : Int × List UInt8) : (exec Tryz.prog (fun _ => none) noL 10 (loopOf 0 (codeOf Tryz.f20)) (mkSt lp20.nIn (lp20.head x))).bind (lp20.fin 0 0) = step20 x := by
 obtain ⟨u, l⟩ := x
 kernel_rfl
theorem runs20 (Q : Int × List UInt8 → Prop) : ∀ (f u : Nat) (l : List UInt8), u < 128 ^ (f + 1) → u < 18446744073709551616 → l.length + f ≤ 2000000 → Q ((lebLast f u : Nat), l ++ lebInit f u) → RunsX step20 Q (f + 1) ((u : Int), l)
 | f, u, l, hu, hu2, hl, hq => by
  unfold RunsX
  simp only [step20, Tr.sat, decide_eq_true_eq, decide_eq_false_iff_not, true_and, forall_const, isBytes_join, isBytes_byteEl, isBytes_one, bytesOf_join, bytesOf_one, bytesOf_byteEl, Nat.le_refl, Bool.true_and, Bool.and_eq_true]
  refine ⟨fun h => ?_, fun h => ?_⟩
  ·refine ⟨by omega, fun _ => ⟨by omega, fun _ => ⟨?_, fun _ => ?_⟩⟩⟩
   ·rw [wrap_u8]; omega
   ·cases f with
    | zero => simp at hu; omega
    | succ f =>
     have e1 : IntKind.u64.wrap ((u : Int).tdiv 128) = ((u / 128 : Nat) : Int) := by
      rw [wrap_u64, Int.tdiv_eq_ediv_of_nonneg (by omega)]
      omega
     have e2 : UInt8.ofNat (IntKind.u8.wrap (IntKind.u64.wrap ((u : Int).tmod 128 + 128))).toNat = UInt8.ofNat (u % 128 + 128) := by
      rw [wrap_u8, wrap_u64, Int.tmod_eq_emod_of_nonneg (by omega)]
      congr 1
      omega
     have hnot : ¬ u < 128 := by omega
     rw [e1, e2]
     refine runs20 Q f (u / 128) (l ++ [UInt8.ofNat (u % 128 + 128)]) ?_ (by omega) (by simp; omega) ?_
     ·rw [Nat.div_lt_iff_lt_mul (by omega)]
      rw [Nat.pow_succ] at hu
      exact hu
     ·simp only [lebLast, lebInit, hnot, if_false] at hq
      simpa using hq
  ·have hlt : u < 128 := by omega
   cases f with
   | zero => simpa [lebLast, lebInit] using hq
   | succ f => simpa [lebLast, lebInit, hlt] using hq
end Go.Vse
set_option maxRecDepth 100000
namespace Go.Vse
open Go.Proofs
def L20 : Nat → Option (St → Tr (Ex × St)) := fun id => bif Nat.beq id 0 then some (lp20.g 0) else none
def M20 (n : Int) : Tr AV :=
 let x1 : Int := IntKind.u64.wrap (IntKind.u64.wrap (IntKind.u64.wrap (IntKind.i64.wrap (0 - IntKind.i64.wrap (n + 1))) * 2) + 1)
 let x2 : List UInt8 := bytesOf 0 fun x => []
 let x3 : Nat := x2.length
 let x4 : Nat := x1.toNat
 let x5 : List UInt8 := x2 ++ lebInit 10 x4
 let x6 : Nat := x5.length
 let x7 : Nat := x6 + 1
 let x8 : Nat := x7 * 1
 let x9 : Nat := 0 + 1
 let x10 : Int := IntKind.u64.wrap (IntKind.u64.wrap n * 2)
 let x11 : Nat := x10.toNat
 let x12 : List UInt8 := x2 ++ lebInit 10 x11
 let x13 : Nat := x12.length
 let x14 : Nat := x13 + 1
 let x15 : Nat := x14 * 1
 .ite (decide (n < 0)) (.need true (.need true (.need (decide (0 ≤ x1) && decide (x1 < 18446744073709551616) && decide (x3 ≤ 1000000)) (.need (decide (x6 ≤ x6)) (.need true (.need (decide (x7 ≤ 9223372036854775807)) (.need (decide (x8 ≤ 140737488355328)) (.need (decide (x7 ≤ x7)) (.need (isBytes x7 (joinE x6 (byteEl x5) fun k => List.take x9 (List.drop (k * x9) [IV.v (Value.int IntKind.u8 (IntKind.u8.wrap ↑(lebLast 10 x4)))].reverse))) (.ret (.c (.v (.string ⟨⟨bytesOf x7 (joinE x6 (byteEl x5) fun k => List.take x9 (List.drop (k * x9) [IV.v (Value.int IntKind.u8 (IntKind.u8.wrap ↑(lebLast 10 x4)))].reverse))⟩⟩))))))))))))) (.need true (.need true (.need (decide (0 ≤ x10) && decide (x10 < 18446744073709551616) && decide (x3 ≤ 1000000)) (.need (decide (x13 ≤ x13)) (.need true (.need (decide (x14 ≤ 9223372036854775807)) (.need (decide (x15 ≤ 140737488355328)) (.need (decide (x14 ≤ x14)) (.need (isBytes x14 (joinE x13 (byteEl x12) fun k => List.take x9 (List.drop (k * x9) [IV.v (Value.int IntKind.u8 (IntKind.u8.wrap ↑(lebLast 10 x11)))].reverse))) (.ret (.c (.v (.string ⟨⟨bytesOf x14 (joinE x13 (byteEl x12) fun k => List.take x9 (List.drop (k * x9) [IV.v (Value.int IntKind.u8 (IntKind.u8.wrap ↑(lebLast 10 x11)))].reverse))⟩⟩)))))))))))))
theorem M20_eq (n : Int) : execFn Tryz.prog (fun _ => none) L20 10 Tryz.f20 [intA .i64 n] = M20 n := by kernel_rfl
def numK : List AV → Option (AV × List Bool)
 | [.c (.v (.int .i64 n))] => some (strA (leb (zig n)), [decide (-9223372036854775808 ≤ n) && decide (n ≤ 9223372036854775807)])
 | _ => none
theorem leb_built (u : Nat) (hu : u < 18446744073709551616) (l : List UInt8) (hl : l = lebInit 10 u) :
  (isBytes (l.length + 1) (joinE l.length (byteEl l) fun k => List.take (0 + 1) (List.drop (k * (0 + 1)) [IV.v (.int .u8 (IntKind.u8.wrap (lebLast 10 u : Nat)))].reverse)) = true) ∧
  bytesOf (l.length + 1) (joinE l.length (byteEl l) fun k => List.take (0 + 1) (List.drop (k * (0 + 1)) [IV.v (.int .u8 (IntKind.u8.wrap (lebLast 10 u : Nat)))].reverse)) = leb u := by
 subst hl
 have h := lebLast_lt 10 u (by omega)
 rw [isBytes_join, bytesOf_join, isBytes_byteEl, bytesOf_byteEl, isBytes_one, bytesOf_one, wrap_u8]
 constructor
 ·simp; omega
 ·unfold leb
  congr 2
  rw [Int.emod_eq_of_lt (by omega) (by omega)]
  simp
theorem zig_lt {n : Int} (h : -9223372036854775808 ≤ n ∧ n ≤ 9223372036854775807) : zig n < 18446744073709551616 := by
 unfold zig; split <;> omega
theorem M20_sat (n : Int) (h : -9223372036854775808 ≤ n ∧ n ≤ 9223372036854775807) : (M20 n).sat fun r => r = strA (leb (zig n)) := by
 have hz := zig_lt h
 have k1 : n < 0 → IntKind.u64.wrap (IntKind.u64.wrap (IntKind.u64.wrap (IntKind.i64.wrap (0 - IntKind.i64.wrap (n + 1))) * 2) + 1) = (zig n : Nat) := by
  intro hn
  unfold zig
  rw [if_pos hn, wrap_i64 (x := n + 1) (by omega), wrap_i64 (by omega), wrap_u64, wrap_u64, wrap_u64]
  omega
 have k2 : ¬ n < 0 → IntKind.u64.wrap (IntKind.u64.wrap n * 2) = (zig n : Nat) := by
  intro hn
  unfold zig
  rw [if_neg hn, wrap_u64, wrap_u64]
  omega
 have hb := leb_built (zig n) hz _ rfl
 have hl := lebInit_len 10 (zig n)
 unfold M20
 dsimp only
 rw [bytesOf_zero, List.nil_append, List.nil_append]
 refine sat_ite (fun hn => ?_) (fun hn => ?_)
 ·have hn := of_decide_eq_true hn
  rw [k1 hn, Int.toNat_natCast, hb.1, hb.2]
  refine sat_need rfl (sat_need rfl (sat_need ?_ (sat_need ?_ (sat_need rfl (sat_need ?_ (sat_need ?_ (sat_need ?_ (sat_need rfl (sat_ret rfl)))))))))
  ·simp only [Bool.and_eq_true, decide_eq_true_eq, List.length_nil]; omega
  ·exact decide_eq_true (Nat.le_refl _)
  ·exact decide_eq_true (by omega)
  ·exact decide_eq_true (by omega)
  ·exact decide_eq_true (Nat.le_refl _)
 ·have hn := of_decide_eq_false hn
  rw [k2 hn, Int.toNat_natCast, hb.1, hb.2]
  refine sat_need rfl (sat_need rfl (sat_need ?_ (sat_need ?_ (sat_need rfl (sat_need ?_ (sat_need ?_ (sat_need ?_ (sat_need rfl (sat_ret rfl)))))))))
  ·simp only [Bool.and_eq_true, decide_eq_true_eq, List.length_nil]; omega
  ·exact decide_eq_true (Nat.le_refl _)
  ·exact decide_eq_true (by omega)
  ·exact decide_eq_true (by omega)
  ·exact decide_eq_true (Nat.le_refl _)
theorem f20_loops : BlocksOk Tryz.prog 0 L20 (codeOf Tryz.f20) := by
 refine blocksOk_of (d := fun id => Nat.beq id 0) (fun id => by unfold L20; cases Nat.beq id 0 <;> rfl) _ ?_
 have hb : blocksOf (fun id => Nat.beq id 0) (codeOf Tryz.f20) = [(0, .loop (loopOf 0 (codeOf Tryz.f20)))] := by kernel_rfl
 rw [hb]
 intro p hp g hg
 simp only [List.mem_singleton] at hp
 subst hp
 have : g = lp20.g 0 := by
   have : L20 0 = some (lp20.g 0) := rfl
   rw [this] at hg
   exact (Option.some.inj hg).symm
 subst this
 refine LoopSt.ok (N := 10) prog_mixed noΓ_ok (L := noL) (blocksOk_none 0 _) lp20_good (step := step20) (fun x => step20_eq _ rfl x) fun x hx => ?_
 obtain ⟨u, l⟩ := x
 simp only [lp20, Bool.and_eq_true, decide_eq_true_eq] at hx
 obtain ⟨⟨h0, h1⟩, h2⟩ := hx
 have := runs20 (· = lp20.res (u, l)) 10 u.toNat l (by omega) (by omega) (by omega) (by simp [lp20])
 rw [Int.toNat_of_nonneg h0] at this
 exact ⟨11, this⟩
theorem f20_ok : PureOk Tryz.prog 20 numK := by
 refine pureOk_of_exec prog_mixed noΓ_ok (fn := Tryz.f20) (c := codeOf Tryz.f20) (by kernel_rfl) (by kernel_rfl) (callFunc_enter (fn := Tryz.f20) (c := codeOf Tryz.f20) (by kernel_rfl) (by kernel_rfl) (by kernel_rfl)) (L := L20) (N := 10) f20_loops ?_ ?_
 · intro args v cs h
   unfold numK at h
   split at h
   · cases h; rfl
   · cases h
 · intro args v cs h hc
   unfold numK at h
   split at h
   · rename_i n
     cases h
     have hr := hc (decide (-9223372036854775808 ≤ n) && decide (n ≤ 9223372036854775807)) (List.mem_singleton.2 rfl)
     simp only [Bool.and_eq_true, decide_eq_true_eq] at hr
     have hs := M20_sat n hr
     rw [← M20_eq] at hs
     exact Tr.sat_mono (fun r hr => by subst hr; exact ⟨rfl, Sees.refl _⟩) hs
   · cases h
end Go.Vse
set_option maxRecDepth 100000
namespace Go.Vse
open Go.Proofs
def wents (k : Nat) (l : List UInt8) : List (Option Ent) :=
 match k with
 | 1 => [some (.cells [.msl 1 l.length 1] 74), some (.arr l.length 1 (byteEl l) 5)]
 | _ => [some (.cells [.msl 2 l.length 1] 74), none, some (.arr l.length 1 (byteEl l) 5)]
def nums27 : Norm := { nt := 39, live := [0, 4], cells := [(0, 0, 1, 5)] }
def head27 (k : Nat) (x : Int × List UInt8) : List AV × List (Option Ent) := ([.ptr 0 0, intA .u64 x.1], wents k x.2)
def take27 (k : Nat) : List AV × List (Option Ent) → Option ((Int × List UInt8) × List Bool)
 | ([.ptr 0 0, .c (.v (.int .u64 u))], [some (.cells [.msl 1 n 1] 74), some (.arr n' 1 el 5)]) => bif Nat.beq k 1 then some ((u, bytesOf n el), [decide (n = n'), isBytes n el]) else none
 | ([.ptr 0 0, .c (.v (.int .u64 u))], [some (.cells [.msl 2 n 1] 74), none, some (.arr n' 1 el 5)]) => bif Nat.beq k 2 then some ((u, bytesOf n el), [decide (n = n'), isBytes n el]) else none
 | _ => none
def lp27 (k : Nat) : LoopSt (Int × List UInt8) (Int × List UInt8) where
 nIn := nums27
 nOut := nums27
 head := head27 k
 take := take27 k
 out := fun x => (.normal, head27 k x)
 takeR := fun q => match q with | (.normal, q) => take27 k q | _ => none
 res := fun x => ((lebLast 10 x.1.toNat : Nat), x.2 ++ lebInit 10 x.1.toNat)
 pre := fun x => decide (0 ≤ x.1) && decide (x.1 < 18446744073709551616) && decide (x.2.length ≤ 1099511627776)
theorem take27_ok (k : Nat) (q : List AV × List (Option Ent)) (x : Int × List UInt8) (cs : List Bool) (h : take27 k q = some (x, cs)) (hc : ∀ p ∈ cs, p) : q.1 = (head27 k x).1 ∧ EntsEqv q.2 (head27 k x).2 := by
 unfold take27 at h
 split at h
 ·rename_i u n n' el
  cases hk : Nat.beq k 1 with
  | false => rw [hk] at h; cases h
  | true =>
   obtain rfl : k = 1 := by simpa using hk
   rw [hk] at h
   simp only [cond_true, Option.some.injEq, Prod.mk.injEq] at h
   obtain ⟨rfl, rfl⟩ := h
   have h1 : n = n' := dec (hc _ (by simp))
   have h2 : isBytes n el = true := hc _ (by simp)
   subst h1
   refine ⟨by simp [head27, intA], ?_⟩
   simp only [head27, wents, bytesOf_len]
   exact .cons (.refl _) (.cons (.arr _ _ _ _ _ (byteEl_of_bytes h2)) .nil)
 ·rename_i u n n' el
  cases hk : Nat.beq k 2 with
  | false => rw [hk] at h; cases h
  | true =>
   obtain rfl : k = 2 := by simpa using hk
   rw [hk] at h
   simp only [cond_true, Option.some.injEq, Prod.mk.injEq] at h
   obtain ⟨rfl, rfl⟩ := h
   have h1 : n = n' := dec (hc _ (by simp))
   have h2 : isBytes n el = true := hc _ (by simp)
   subst h1
   refine ⟨by simp [head27, intA], ?_⟩
   simp only [head27, wents, bytesOf_len]
   exact .cons (.refl _) (.cons (.refl _) (.cons (.arr _ _ _ _ _ (byteEl_of_bytes h2)) .nil))
 ·cases h
theorem lp27_good (k : Nat) : (lp27 k).Good where
 take := take27_ok k
 takeR := by
  intro e q r cs h hc
  cases e with
  | normal => obtain ⟨h1, h2⟩ := take27_ok k q r cs h hc; exact ⟨rfl, h1, h2⟩
  | exit j => cases h
  | ret => cases h
 split := fun r Q h => h
end Go.Vse
set_option maxRecDepth 100000
namespace Go.Vse
open Go.Proofs
def L27 (k : Nat) : Nat → Option (St → Tr (Ex × St)) := fun id => bif Nat.beq id 0 then some ((lp27 k).g k) else none
def step27 (u : Int) (l : List UInt8) : Tr (Int × List UInt8 ⊕ Int × List UInt8) :=
 let x1 : Nat := l.length + 1
 let x2 : Nat := x1 * 1
 let x3 : Nat := 0 + 1
 .ite (decide (u ≥ 128)) (.need (decide (l.length ≤ l.length)) (.need true (.need (decide (x1 ≤ 9223372036854775807)) (.need (decide (x2 ≤ 140737488355328)) (.need true (.need (decide (x1 = x1)) (.need (isBytes x1 (joinE l.length (byteEl l) fun k => List.take x3 (List.drop (k * x3) [IV.v (Value.int IntKind.u8 (IntKind.u8.wrap ↑(BitVec.ofInt IntKind.u8.bits (IntKind.u8.wrap u) ||| BitVec.ofInt IntKind.u8.bits 128).toNat))].reverse))) (.ret (Sum.inl (u.fdiv (2 ^ min (Int.toNat 7) IntKind.u64.bits), bytesOf x1 (joinE l.length (byteEl l) fun k => List.take x3 (List.drop (k * x3) [IV.v (Value.int IntKind.u8 (IntKind.u8.wrap ↑(BitVec.ofInt IntKind.u8.bits (IntKind.u8.wrap u) ||| BitVec.ofInt IntKind.u8.bits 128).toNat))].reverse)))))))))))) (.need (decide (l.length = l.length)) (.need (isBytes l.length (byteEl l)) (.ret (Sum.inr (u, bytesOf l.length (byteEl l))))))
def M27a (n : Int) : Tr MemOut :=
 let x1 : Int := IntKind.u64.wrap (IntKind.u64.wrap n * 2 ^ min (Int.toNat 1) IntKind.u64.bits)
 let x2 : Int := IntKind.u64.wrap ↑(BitVec.ofInt IntKind.u64.bits (if IntKind.u64.signed = true then -1 else IntKind.u64.max) ^^^ BitVec.ofInt IntKind.u64.bits x1).toNat
 let x3 : List UInt8 := bytesOf 0 fun x => []
 let x4 : Nat := x3.length
 let x5 : Nat := x2.toNat
 let x6 : List UInt8 := x3 ++ lebInit 10 x5
 let x7 : Nat := x6.length
 let x8 : Nat := x7 + 1
 let x9 : Nat := x8 * 1
 let x10 : Nat := 0 + 1
 let x11 : Nat := x1.toNat
 let x12 : List UInt8 := x3 ++ lebInit 10 x11
 let x13 : Nat := x12.length
 let x14 : Nat := x13 + 1
 let x15 : Nat := x14 * 1
 .need true (.ite (decide (n < 0)) (.need true (.need true (.need (decide (0 ≤ x2) && decide (x2 < 18446744073709551616) && decide (x4 ≤ 1099511627776)) (.need (decide (x7 ≤ x7)) (.need true (.need (decide (x8 ≤ 9223372036854775807)) (.need (decide (x9 ≤ 140737488355328)) (.ret { val := AV.tup [], outs := [some (Ent.cells [AV.msl 1 x8 1] 74)], new := some (Ent.arr x8 1 (joinE x7 (byteEl x6) fun k => List.take x10 (List.drop (k * x10) [IV.v (Value.int IntKind.u8 (IntKind.u8.wrap ↑(lebLast 10 x5)))].reverse)) 5) })))))))) (.need true (.need true (.need (decide (0 ≤ x1) && decide (x1 < 18446744073709551616) && decide (x4 ≤ 1099511627776)) (.need (decide (x13 ≤ x13)) (.need true (.need (decide (x14 ≤ 9223372036854775807)) (.need (decide (x15 ≤ 140737488355328)) (.ret { val := AV.tup [], outs := [some (Ent.cells [AV.msl 1 x14 1] 74)], new := some (Ent.arr x14 1 (joinE x13 (byteEl x12) fun k => List.take x10 (List.drop (k * x10) [IV.v (Value.int IntKind.u8 (IntKind.u8.wrap ↑(lebLast 10 x11)))].reverse)) 5) })))))))))
def M27b (n : Int) (m : Nat) (el : Nat → List IV) : Tr MemOut :=
 let x1 : Int := IntKind.u64.wrap (IntKind.u64.wrap n * 2 ^ min (Int.toNat 1) IntKind.u64.bits)
 let x2 : Int := IntKind.u64.wrap ↑(BitVec.ofInt IntKind.u64.bits (if IntKind.u64.signed = true then -1 else IntKind.u64.max) ^^^ BitVec.ofInt IntKind.u64.bits x1).toNat
 let x3 : Nat := x2.toNat
 let x4 : List UInt8 := bytesOf m el ++ lebInit 10 x3
 let x5 : Nat := x4.length
 let x6 : Nat := x5 + 1
 let x7 : Nat := x6 * 1
 let x8 : List (Option Ent) := [none]
 let x9 : Nat := 0 + 1
 let x10 : Nat := x1.toNat
 let x11 : List UInt8 := bytesOf m el ++ lebInit 10 x10
 let x12 : Nat := x11.length
 let x13 : Nat := x12 + 1
 let x14 : Nat := x13 * 1
 .need true (.ite (decide (n < 0)) (.need (decide (m = m)) (.need (isBytes m el) (.need (decide (0 ≤ x2) && decide (x2 < 18446744073709551616) && decide ((bytesOf m el).length ≤ 1099511627776)) (.need (decide (x5 ≤ x5)) (.need true (.need (decide (x6 ≤ 9223372036854775807)) (.need (decide (x7 ≤ 140737488355328)) (.ret { val := AV.tup [], outs := some (Ent.cells [AV.msl 2 x6 1] 74) :: x8, new := some (Ent.arr x6 1 (joinE x5 (byteEl x4) fun k => List.take x9 (List.drop (k * x9) [IV.v (Value.int IntKind.u8 (IntKind.u8.wrap ↑(lebLast 10 x3)))].reverse)) 5) })))))))) (.need (decide (m = m)) (.need (isBytes m el) (.need (decide (0 ≤ x1) && decide (x1 < 18446744073709551616) && decide ((bytesOf m el).length ≤ 1099511627776)) (.need (decide (x12 ≤ x12)) (.need true (.need (decide (x13 ≤ 9223372036854775807)) (.need (decide (x14 ≤ 140737488355328)) (.ret { val := AV.tup [], outs := some (Ent.cells [AV.msl 2 x13 1] 74) :: x8, new := some (Ent.arr x13 1 (joinE x12 (byteEl x11) fun k => List.take x9 (List.drop (k * x9) [IV.v (Value.int IntKind.u8 (IntKind.u8.wrap ↑(lebLast 10 x10)))].reverse)) 5) })))))))))
theorem step27_eq1 (x : Int × List UInt8) : (exec Tryz.prog (fun _ => none) noL 10 (loopOf 0 (codeOf Tryz.f27)) (mkSt (lp27 1).nIn ((lp27 1).head x))).bind ((lp27 1).fin 1 0) = step27 x.1 x.2 := by
 obtain ⟨u, l⟩ := x
 kernel_rfl
theorem step27_eq2 (x : Int × List UInt8) : (exec Tryz.prog (fun _ => none) noL 10 (loopOf 0 (codeOf Tryz.f27)) (mkSt (lp27 2).nIn ((lp27 2).head x))).bind ((lp27 2).fin 2 0) = step27 x.1 x.2 := by
 obtain ⟨u, l⟩ := x
 kernel_rfl
theorem M27a_eq (n : Int) : execM Tryz.prog (fun _ => none) (L27 1) 10 false Tryz.f27 [some (.cells [.c (.v (.slice none 0 0))] 74)] [.ptr 0 0, intA .i64 n] = M27a n := by kernel_rfl
theorem M27b_eq (n : Int) (m : Nat) (el : Nat → List IV) : execM Tryz.prog (fun _ => none) (L27 2) 10 false Tryz.f27 [some (.cells [.msl 1 m 1] 74), some (.arr m 1 el 5)] [.ptr 0 0, intA .i64 n] = M27b n m el := by kernel_rfl
end Go.Vse
set_option maxRecDepth 100000
namespace Go.Vse
open Go.Proofs
theorem or128 : ∀ m : Nat, m < 256 → (m ||| 128) = m % 128 + 128 := by decide
theorem or_u8 (u : Nat) : IntKind.u8.wrap ((BitVec.ofInt IntKind.u8.bits (IntKind.u8.wrap (u : Int)) ||| BitVec.ofInt IntKind.u8.bits 128).toNat : Nat) = ((u % 128 + 128 : Nat) : Int) := by
 have h1 : (BitVec.ofInt IntKind.u8.bits (IntKind.u8.wrap (u : Int))).toNat = u % 256 := by
  rw [wrap_u8]
  show (BitVec.ofInt 8 _).toNat = _
  rw [BitVec.toNat_ofInt]
  omega
 have h2 : (BitVec.ofInt IntKind.u8.bits (128 : Int)).toNat = 128 := by rfl
 rw [BitVec.toNat_or, h1, h2, or128 _ (Nat.mod_lt _ (by omega)), wrap_u8]
 omega
theorem shr7 (u : Nat) : (u : Int).fdiv (2 ^ min (Int.toNat 7) IntKind.u64.bits) = ((u / 128 : Nat) : Int) := by
 show (u : Int).fdiv 128 = _
 rw [Int.fdiv_eq_ediv_of_nonneg _ (by omega)]
 omega
theorem runs27 (Q : Int × List UInt8 → Prop) : ∀ (f u : Nat) (l : List UInt8), u < 128 ^ (f + 1) → u < 18446744073709551616 → l.length + f ≤ 2199023255552 → Q ((lebLast f u : Nat), l ++ lebInit f u) → RunsX (fun x : Int × List UInt8 => step27 x.1 x.2) Q (f + 1) ((u : Int), l)
 | f, u, l, hu, hu2, hl, hq => by
   unfold RunsX
   change Tr.sat _ (step27 (u : Int) l)
   refine sat_ite (fun h => ?_) (fun h => ?_)
   · have h : (u : Int) ≥ 128 := of_decide_eq_true h
     refine sat_need (decide_eq_true (Nat.le_refl _)) (sat_need rfl (sat_need (decide_eq_true (by omega)) (sat_need (decide_eq_true (by omega)) (sat_need rfl (sat_need (decide_eq_true rfl) ?_)))))
     rw [isBytes_join, bytesOf_join, isBytes_byteEl, bytesOf_byteEl, or_u8, shr7, isBytes_one, bytesOf_one, Int.toNat_natCast]
     refine sat_need (by simp only [Bool.true_and, Bool.and_eq_true, decide_eq_true_eq]; omega) ?_
     cases f with
     | zero => simp at hu; omega
     | succ f =>
       have hnot : ¬ u < 128 := by omega
       refine runs27 Q f (u / 128) (l ++ [UInt8.ofNat (u % 128 + 128)]) ?_ (by omega) (by simp; omega) ?_
       · rw [Nat.div_lt_iff_lt_mul (by omega)]
         rw [Nat.pow_succ] at hu
         exact hu
       · simp only [lebLast, lebInit, hnot, if_false] at hq
         simpa using hq
   · have h : ¬ (u : Int) ≥ 128 := of_decide_eq_false h
     rw [isBytes_byteEl, bytesOf_byteEl]
     refine sat_need (decide_eq_true rfl) (sat_need rfl ?_)
     have hlt : u < 128 := by omega
     cases f with
     | zero => simpa [lebLast, lebInit, Tr.sat] using hq
     | succ f => simpa [lebLast, lebInit, hlt, Tr.sat] using hq
theorem f27_loops (k : Nat) (hk : k = 1 ∨ k = 2) : BlocksOk Tryz.prog k (L27 k) (codeOf Tryz.f27) := by
 refine blocksOk_of (d := fun id => Nat.beq id 0) (fun id => by unfold L27; cases Nat.beq id 0 <;> rfl) _ ?_
 have hb : blocksOf (fun id => Nat.beq id 0) (codeOf Tryz.f27) = [(0, .loop (loopOf 0 (codeOf Tryz.f27)))] := by kernel_rfl
 rw [hb]
 intro p hp g hg
 simp only [List.mem_singleton] at hp
 subst hp
 have hh : L27 k 0 = some ((lp27 k).g k) := rfl
 rw [hh] at hg
 have : g = (lp27 k).g k := (Option.some.inj hg).symm
 subst this
 have hr : ∀ x : Int × List UInt8, (lp27 k).pre x = true → ∃ n, RunsX (fun x : Int × List UInt8 => step27 x.1 x.2) (· = (lp27 k).res x) n x := by
   rintro ⟨u, l⟩ hx
   simp only [lp27, Bool.and_eq_true, decide_eq_true_eq] at hx
   obtain ⟨⟨h0, h1⟩, h2⟩ := hx
   have := runs27 (· = (lp27 k).res (u, l)) 10 u.toNat l (by omega) (by omega) (by omega) (by simp [lp27])
   rw [Int.toNat_of_nonneg h0] at this
   exact ⟨11, this⟩
 rcases hk with rfl | rfl
 · exact LoopSt.ok (N := 10) prog_mixed noΓ_ok (L := noL) (blocksOk_none 1 _) (lp27_good 1) step27_eq1 hr
 · exact LoopSt.ok (N := 10) prog_mixed noΓ_ok (L := noL) (blocksOk_none 2 _) (lp27_good 2) step27_eq2 hr
def rangeB (n : Int) : Bool := decide (-9223372036854775808 ≤ n) && decide (n ≤ 9223372036854775807)
def wOut (l : List UInt8) : MemOut := { val := .tup [], outs := [some (.cells [.msl 1 l.length 1] 74)], new := some (.arr l.length 1 (byteEl l) 5) }
def wOut2 (l : List UInt8) : MemOut := { val := .tup [], outs := [some (.cells [.msl 2 l.length 1] 74), none], new := some (.arr l.length 1 (byteEl l) 5) }
def K27 : MSpec
 | [some (.cells [.c (.v (.slice none 0 0))] 74)], [.ptr 0 0, .c (.v (.int .i64 n))] => some { wOut (leb (zig n)) with conds := [rangeB n] }
 | [some (.cells [.msl 1 m 1] 74), some (.arr m' 1 el 5)], [.ptr 0 0, .c (.v (.int .i64 n))] => some { wOut2 (bytesOf m el ++ leb (zig n)) with conds := [rangeB n, decide (m = m'), isBytes m el, decide (m ≤ 1099511627776)] }
 | _, _ => none
theorem xor_u64 (x : Nat) (hx : x < 18446744073709551616) : IntKind.u64.wrap ((BitVec.ofInt IntKind.u64.bits (if IntKind.u64.signed = true then -1 else IntKind.u64.max) ^^^ BitVec.ofInt IntKind.u64.bits (x : Int)).toNat : Nat) = ((18446744073709551615 - x : Nat) : Int) := by
 change IntKind.u64.wrap ((BitVec.ofInt 64 (if IntKind.u64.signed = true then -1 else IntKind.u64.max) ^^^ BitVec.ofInt 64 (x : Int)).toNat : Nat) = _
 have h2 : BitVec.ofInt 64 (if IntKind.u64.signed = true then -1 else IntKind.u64.max) = BitVec.allOnes 64 := by rfl
 have h3 : BitVec.ofInt 64 (x : Int) = BitVec.ofNat 64 x := by
  apply BitVec.eq_of_toNat_eq
  rw [BitVec.toNat_ofInt, BitVec.toNat_ofNat]
  omega
 rw [h2, h3, BitVec.allOnes_xor, BitVec.toNat_not, BitVec.toNat_ofNat, wrap_u64]
 omega
theorem zig_neg {n : Int} (h : -9223372036854775808 ≤ n ∧ n ≤ 9223372036854775807) (hn : n < 0) :
  IntKind.u64.wrap ((BitVec.ofInt IntKind.u64.bits (if IntKind.u64.signed = true then -1 else IntKind.u64.max) ^^^ BitVec.ofInt IntKind.u64.bits (IntKind.u64.wrap (IntKind.u64.wrap n * 2 ^ min (Int.toNat 1) IntKind.u64.bits))).toNat : Nat) = ((zig n : Nat) : Int) := by
 have e : IntKind.u64.wrap (IntKind.u64.wrap n * 2 ^ min (Int.toNat 1) IntKind.u64.bits) = ((18446744073709551616 - 2 * (-n).toNat : Nat) : Int) := by
  show IntKind.u64.wrap (IntKind.u64.wrap n * 2) = _
  rw [wrap_u64, wrap_u64]
  omega
 rw [e, xor_u64 _ (by omega)]
 unfold zig
 rw [if_pos hn]
 omega
theorem zig_pos {n : Int} (h : -9223372036854775808 ≤ n ∧ n ≤ 9223372036854775807) (hn : ¬ n < 0) :
  IntKind.u64.wrap (IntKind.u64.wrap n * 2 ^ min (Int.toNat 1) IntKind.u64.bits) = ((zig n : Nat) : Int) := by
 show IntKind.u64.wrap (IntKind.u64.wrap n * 2) = _
 rw [wrap_u64, wrap_u64]
 unfold zig
 rw [if_neg hn]
 omega
theorem el_built (u : Nat) (hu : u < 18446744073709551616) (p l : List UInt8) (hl : l = p ++ lebInit 10 u) :
  l.length + 1 = (p ++ leb u).length ∧ ∀ k, k < l.length + 1 → (joinE l.length (byteEl l) fun k => List.take (0 + 1) (List.drop (k * (0 + 1)) [IV.v (.int .u8 (IntKind.u8.wrap (lebLast 10 u : Nat)))].reverse)) k = byteEl (p ++ leb u) k := by
 subst hl
 have h := lebLast_lt 10 u (by omega)
 have hb : isBytes ((p ++ lebInit 10 u).length + 1) (joinE (p ++ lebInit 10 u).length (byteEl (p ++ lebInit 10 u)) fun k => List.take (0 + 1) (List.drop (k * (0 + 1)) [IV.v (.int .u8 (IntKind.u8.wrap (lebLast 10 u : Nat)))].reverse)) = true := by
  rw [isBytes_join, isBytes_byteEl, isBytes_one, wrap_u8]
  simp; omega
 have e : bytesOf ((p ++ lebInit 10 u).length + 1) (joinE (p ++ lebInit 10 u).length (byteEl (p ++ lebInit 10 u)) fun k => List.take (0 + 1) (List.drop (k * (0 + 1)) [IV.v (.int .u8 (IntKind.u8.wrap (lebLast 10 u : Nat)))].reverse)) = p ++ leb u := by
  rw [bytesOf_join, bytesOf_byteEl, bytesOf_one, wrap_u8]
  unfold leb
  rw [List.append_assoc]
  congr 3
  rw [Int.emod_eq_of_lt (by omega) (by omega)]
  simp
 refine ⟨by simp [leb]; omega, fun k hk => ?_⟩
 rw [byteEl_of_bytes hb k hk, e]
end Go.Vse
set_option maxRecDepth 100000
namespace Go.Vse
open Go.Proofs
theorem rangeB_spec {n : Int} (h : rangeB n = true) : -9223372036854775808 ≤ n ∧ n ≤ 9223372036854775807 := by
 simpa [rangeB] using h
theorem M27a_sat (n : Int) (h : -9223372036854775808 ≤ n ∧ n ≤ 9223372036854775807) : (M27a n).sat fun o => Sees o.val (wOut (leb (zig n))).val ∧ EntsEqv (o.outs ++ [o.new]) ((wOut (leb (zig n))).outs ++ [(wOut (leb (zig n))).new]) := by
 have hz := zig_lt h
 have hl := lebInit_len 10 (zig n)
 obtain ⟨h1, h2⟩ := el_built (zig n) hz [] (lebInit 10 (zig n)) rfl
 simp only [List.nil_append] at h1 h2
 refine sat_need rfl (sat_ite (fun hn => ?_) (fun hn => ?_))
 ·have hn := of_decide_eq_true hn
  rw [zig_neg h hn, bytesOf_zero, List.nil_append, Int.toNat_natCast]
  refine sat_need rfl (sat_need rfl (sat_need ?_ (sat_need (decide_eq_true (Nat.le_refl _)) (sat_need rfl (sat_need (decide_eq_true (by omega)) (sat_need (decide_eq_true (by omega)) (sat_ret ⟨Sees.refl _, ?_⟩)))))))
  ·simp only [Bool.and_eq_true, decide_eq_true_eq, List.length_nil]; omega
  ·rw [h1] at h2 ⊢
   exact .cons (.refl _) (.cons (.arr _ _ _ _ _ h2) .nil)
 ·have hn := of_decide_eq_false hn
  rw [zig_pos h hn, bytesOf_zero, List.nil_append, Int.toNat_natCast]
  refine sat_need rfl (sat_need rfl (sat_need ?_ (sat_need (decide_eq_true (Nat.le_refl _)) (sat_need rfl (sat_need (decide_eq_true (by omega)) (sat_need (decide_eq_true (by omega)) (sat_ret ⟨Sees.refl _, ?_⟩)))))))
  ·simp only [Bool.and_eq_true, decide_eq_true_eq, List.length_nil]; omega
  ·rw [h1] at h2 ⊢
   exact .cons (.refl _) (.cons (.arr _ _ _ _ _ h2) .nil)
theorem M27b_sat (n : Int) (m : Nat) (el : Nat → List IV) (h : -9223372036854775808 ≤ n ∧ n ≤ 9223372036854775807) (hb : isBytes m el = true) (hm : m ≤ 1099511627776) :
  (M27b n m el).sat fun o => Sees o.val (wOut2 (bytesOf m el ++ leb (zig n))).val ∧ EntsEqv (o.outs ++ [o.new]) ((wOut2 (bytesOf m el ++ leb (zig n))).outs ++ [(wOut2 (bytesOf m el ++ leb (zig n))).new]) := by
 have hz := zig_lt h
 have hl := lebInit_len 10 (zig n)
 obtain ⟨h1, h2⟩ := el_built (zig n) hz (bytesOf m el) _ rfl
 have hlen : (bytesOf m el ++ lebInit 10 (zig n)).length ≤ m + 10 := by simp [bytesOf_len]; exact hl
 refine sat_need rfl (sat_ite (fun hn => ?_) (fun hn => ?_))
 ·have hn := of_decide_eq_true hn
  rw [zig_neg h hn, Int.toNat_natCast]
  refine sat_need (decide_eq_true rfl) (sat_need hb (sat_need ?_ (sat_need (decide_eq_true (Nat.le_refl _)) (sat_need rfl (sat_need (decide_eq_true (by omega)) (sat_need (decide_eq_true (by omega)) (sat_ret ⟨Sees.refl _, ?_⟩)))))))
  ·simp only [Bool.and_eq_true, decide_eq_true_eq, bytesOf_len]; omega
  ·rw [h1] at h2 ⊢
   exact .cons (.refl _) (.cons (.refl _) (.cons (.arr _ _ _ _ _ h2) .nil))
 ·have hn := of_decide_eq_false hn
  rw [zig_pos h hn, Int.toNat_natCast]
  refine sat_need (decide_eq_true rfl) (sat_need hb (sat_need ?_ (sat_need (decide_eq_true (Nat.le_refl _)) (sat_need rfl (sat_need (decide_eq_true (by omega)) (sat_need (decide_eq_true (by omega)) (sat_ret ⟨Sees.refl _, ?_⟩)))))))
  ·simp only [Bool.and_eq_true, decide_eq_true_eq, bytesOf_len]; omega
  ·rw [h1] at h2 ⊢
   exact .cons (.refl _) (.cons (.refl _) (.cons (.arr _ _ _ _ _ h2) .nil))
theorem f27_ok : MemOk Tryz.prog 27 K27 := by
 refine memOk_of_exec (L := L27) prog_mixed noΓ_ok (fn := Tryz.f27) (c := codeOf Tryz.f27) (by kernel_rfl) (by kernel_rfl) (callFunc_enter (fn := Tryz.f27) (c := codeOf Tryz.f27) (by kernel_rfl) (by kernel_rfl) (by kernel_rfl)) (N := 10) (frz := false) ?_ ?_
 ·intro ents args o h
  unfold K27 at h
  split at h
  ·exact f27_loops 1 (.inl rfl)
  ·exact f27_loops 2 (.inr rfl)
  ·cases h
 ·intro ents args o h hc
  unfold K27 at h
  split at h
  ·rename_i n
   cases h
   have hr := rangeB_spec (hc (rangeB n) (List.mem_singleton.2 rfl))
   have hs := M27a_sat n hr
   rw [← M27a_eq] at hs
   exact hs
  ·rename_i m m' el n
   cases h
   have hr := rangeB_spec (hc (rangeB n) (by simp))
   have h1 : m = m' := dec (hc (decide (m = m')) (by simp))
   have h2 : isBytes m el = true := hc (isBytes m el) (by simp)
   have h3 : m ≤ 1099511627776 := dec (hc (decide (m ≤ 1099511627776)) (by simp))
   subst h1
   have hs := M27b_sat n m el hr h2 h3
   rw [← M27b_eq] at hs
   exact hs
  ·cases h
end Go.Vse
set_option maxRecDepth 100000
namespace Go.Vse
open Go.Proofs
def rent (s : ByteArray) (at_ e : Int) : List (Option Ent) := [some (.cells [.c (.v (.string s)), intA .i64 at_, intA .i64 e] 78)]
def K102 : MSpec
 | [some (.cells [.c (.v (.string s)), .c (.v (.int .i64 at_)), .c (.v (.int .i64 e0))] 78)], [.ptr 0 0, .c (.v (.int .i64 e))] =>
  some { val := .tup [], outs := rent s at_ (if e0 = 0 then e else e0) }
 | _, _ => none
def Γ29 : FuncId → Option Spec := fun f => bif Nat.beq f 102 then some (memSpec K102) else none
structure RSt where
 s : ByteArray
 z : Int
 u : Int
 sh : Int
 pos : Int
 e : Int
structure REnd where
 s : ByteArray
 ret : Bool
 n : Int
 pos : Int
 e : Int
def takeR29 : Ex × (List AV × List (Option Ent)) → Option (REnd × List Bool)
 | (.normal, ([.ptr 0 0, .c (.v (.int .i64 n))], [some (.cells [.c (.v (.string s)), .c (.v (.int .i64 p)), .c (.v (.int .i64 e))] 78)])) => some (⟨s, false, n, p, e⟩, [])
 | (.ret, ([.ptr 0 0, .c (.v (.int .i64 n))], [some (.cells [.c (.v (.string s)), .c (.v (.int .i64 p)), .c (.v (.int .i64 e))] 78)])) => some (⟨s, true, n, p, e⟩, [])
 | _ => none
def take29 : List AV × List (Option Ent) → Option (RSt × List Bool)
 | ([.ptr 0 0, .c (.v (.int .i64 z)), .c (.v (.int .u64 u)), .c (.v (.int .i64 sh))], [some (.cells [.c (.v (.string s)), .c (.v (.int .i64 p)), .c (.v (.int .i64 e))] 78)]) => some (⟨s, z, u, sh, p, e⟩, [])
 | _ => none
def lp29 (res : RSt → REnd) (pre : RSt → Bool) : LoopSt RSt REnd where
 nIn := { nt := 76, live := [0, 2, 3, 4] }
 nOut := { nt := 76, live := [0, 2] }
 head := fun x => ([.ptr 0 0, intA .i64 x.z, intA .u64 x.u, intA .i64 x.sh], rent x.s x.pos x.e)
 take := take29
 out := fun r => (bif r.ret then .ret else .normal, ([.ptr 0 0, intA .i64 r.n], rent r.s r.pos r.e))
 takeR := takeR29
 res := res
 pre := pre
 split := fun r => .ite r.ret (.ret { r with ret := true }) (.ret { r with ret := false })
theorem lp29_good (res : RSt → REnd) (pre : RSt → Bool) : (lp29 res pre).Good where
 take := by
  intro q x cs h _
  have h : take29 q = some (x, cs) := h
  unfold take29 at h
  split at h
  ·cases h; exact ⟨rfl, EntsEqv.refl _⟩
  ·cases h
 takeR := by
  intro e q r cs h _
  have h : takeR29 (e, q) = some (r, cs) := h
  unfold takeR29 at h
  split at h
  ·rename_i hq
   cases hq
   cases h; exact ⟨rfl, rfl, EntsEqv.refl _⟩
  ·rename_i hq
   cases hq
   cases h; exact ⟨rfl, rfl, EntsEqv.refl _⟩
  ·cases h
 split := by
  intro r Q h
  obtain ⟨s, b, n, p, e⟩ := r
  cases b with
  | true => exact h.1 rfl
  | false => exact h.2 rfl
end Go.Vse
set_option maxRecDepth 100000
namespace Go.Vse
open Go.Proofs
def step29 (s : ByteArray) (z : Int) (u : Int) (sh : Int) (pos : Int) (e : Int) : Tr (RSt ⊕ REnd) :=
 let x1 : List UInt8 := s.data.toList
 let x2 : Int := ↑x1.length
 let x3 : Int := ↑(x1.getD pos.toNat 0).toNat
 let x4 : Int := IntKind.i64.wrap (pos + 1)
 let x5 : Int := IntKind.u64.wrap ↑(BitVec.ofInt IntKind.u64.bits u ||| BitVec.ofInt IntKind.u64.bits (IntKind.u64.wrap (IntKind.u64.wrap (IntKind.u8.wrap ↑(BitVec.ofInt IntKind.u8.bits x3 &&& BitVec.ofInt IntKind.u8.bits 127).toNat) * 2 ^ min sh.toNat IntKind.u64.bits))).toNat
 let x6 : Int := IntKind.i64.wrap (x5.fdiv (2 ^ min (Int.toNat 1) IntKind.u64.bits))
 .ite (e == 0) (.ite (decide (pos ≥ x2)) (.ret (Sum.inr { s := s, ret := false, n := z, pos := pos, e := if e = 0 then 22 else e })) (.need (decide (0 ≤ pos ∧ pos < x2)) (.ite (sh == 63) (.ite (bif true then decide (x3 > 1) else false) (.ite true (.ret (Sum.inr { s := s, ret := false, n := z, pos := x4, e := if e = 0 then 5 else e })) (.need (decide ¬sh < 0) (.ite (decide (x3 < 128)) (.need true (.ite (IntKind.u64.wrap ↑(BitVec.ofInt IntKind.u64.bits x5 &&& BitVec.ofInt IntKind.u64.bits 1).toNat == 1) (.ret (Sum.inr { s := s, ret := true, n := IntKind.i64.wrap ↑(BitVec.ofInt IntKind.i64.bits (if IntKind.i64.signed = true then -1 else IntKind.i64.max) ^^^ BitVec.ofInt IntKind.i64.bits x6).toNat, pos := x4, e := e })) (.ret (Sum.inr { s := s, ret := true, n := x6, pos := x4, e := e })))) (.ret (Sum.inl { s := s, z := z, u := x5, sh := IntKind.i64.wrap (sh + 7), pos := x4, e := e }))))) (.ite (decide (sh > 0)) (.ite (bif false then true else bif true then x3 == 0 else false) (.ret (Sum.inr { s := s, ret := false, n := z, pos := x4, e := if e = 0 then 5 else e })) (.need (decide ¬sh < 0) (.ite (decide (x3 < 128)) (.need true (.ite (IntKind.u64.wrap ↑(BitVec.ofInt IntKind.u64.bits x5 &&& BitVec.ofInt IntKind.u64.bits 1).toNat == 1) (.ret (Sum.inr { s := s, ret := true, n := IntKind.i64.wrap ↑(BitVec.ofInt IntKind.i64.bits (if IntKind.i64.signed = true then -1 else IntKind.i64.max) ^^^ BitVec.ofInt IntKind.i64.bits x6).toNat, pos := x4, e := e })) (.ret (Sum.inr { s := s, ret := true, n := x6, pos := x4, e := e })))) (.ret (Sum.inl { s := s, z := z, u := x5, sh := IntKind.i64.wrap (sh + 7), pos := x4, e := e }))))) (.ite false (.ret (Sum.inr { s := s, ret := false, n := z, pos := x4, e := if e = 0 then 5 else e })) (.need (decide ¬sh < 0) (.ite (decide (x3 < 128)) (.need true (.ite (IntKind.u64.wrap ↑(BitVec.ofInt IntKind.u64.bits x5 &&& BitVec.ofInt IntKind.u64.bits 1).toNat == 1) (.ret (Sum.inr { s := s, ret := true, n := IntKind.i64.wrap ↑(BitVec.ofInt IntKind.i64.bits (if IntKind.i64.signed = true then -1 else IntKind.i64.max) ^^^ BitVec.ofInt IntKind.i64.bits x6).toNat, pos := x4, e := e })) (.ret (Sum.inr { s := s, ret := true, n := x6, pos := x4, e := e })))) (.ret (Sum.inl { s := s, z := z, u := x5, sh := IntKind.i64.wrap (sh + 7), pos := x4, e := e }))))))) (.ite false (.ite true (.ret (Sum.inr { s := s, ret := false, n := z, pos := x4, e := if e = 0 then 5 else e })) (.need (decide ¬sh < 0) (.ite (decide (x3 < 128)) (.need true (.ite (IntKind.u64.wrap ↑(BitVec.ofInt IntKind.u64.bits x5 &&& BitVec.ofInt IntKind.u64.bits 1).toNat == 1) (.ret (Sum.inr { s := s, ret := true, n := IntKind.i64.wrap ↑(BitVec.ofInt IntKind.i64.bits (if IntKind.i64.signed = true then -1 else IntKind.i64.max) ^^^ BitVec.ofInt IntKind.i64.bits x6).toNat, pos := x4, e := e })) (.ret (Sum.inr { s := s, ret := true, n := x6, pos := x4, e := e })))) (.ret (Sum.inl { s := s, z := z, u := x5, sh := IntKind.i64.wrap (sh + 7), pos := x4, e := e }))))) (.ite (decide (sh > 0)) (.ite (bif false then true else bif true then x3 == 0 else false) (.ret (Sum.inr { s := s, ret := false, n := z, pos := x4, e := if e = 0 then 5 else e })) (.need (decide ¬sh < 0) (.ite (decide (x3 < 128)) (.need true (.ite (IntKind.u64.wrap ↑(BitVec.ofInt IntKind.u64.bits x5 &&& BitVec.ofInt IntKind.u64.bits 1).toNat == 1) (.ret (Sum.inr { s := s, ret := true, n := IntKind.i64.wrap ↑(BitVec.ofInt IntKind.i64.bits (if IntKind.i64.signed = true then -1 else IntKind.i64.max) ^^^ BitVec.ofInt IntKind.i64.bits x6).toNat, pos := x4, e := e })) (.ret (Sum.inr { s := s, ret := true, n := x6, pos := x4, e := e })))) (.ret (Sum.inl { s := s, z := z, u := x5, sh := IntKind.i64.wrap (sh + 7), pos := x4, e := e }))))) (.ite false (.ret (Sum.inr { s := s, ret := false, n := z, pos := x4, e := if e = 0 then 5 else e })) (.need (decide ¬sh < 0) (.ite (decide (x3 < 128)) (.need true (.ite (IntKind.u64.wrap ↑(BitVec.ofInt IntKind.u64.bits x5 &&& BitVec.ofInt IntKind.u64.bits 1).toNat == 1) (.ret (Sum.inr { s := s, ret := true, n := IntKind.i64.wrap ↑(BitVec.ofInt IntKind.i64.bits (if IntKind.i64.signed = true then -1 else IntKind.i64.max) ^^^ BitVec.ofInt IntKind.i64.bits x6).toNat, pos := x4, e := e })) (.ret (Sum.inr { s := s, ret := true, n := x6, pos := x4, e := e })))) (.ret (Sum.inl { s := s, z := z, u := x5, sh := IntKind.i64.wrap (sh + 7), pos := x4, e := e })))))))))) (.ret (Sum.inr { s := s, ret := false, n := z, pos := pos, e := e }))
theorem step29_eq (res : RSt → REnd) (pre : RSt → Bool) (x : RSt) : (exec Tryz.prog Γ29 noL 10 (loopOf 0 (codeOf Tryz.f29)) (mkSt (lp29 res pre).nIn ((lp29 res pre).head x))).bind ((lp29 res pre).fin 1 0) = step29 x.s x.z x.u x.sh x.pos x.e := by
 obtain ⟨s, z, u, sh, pos, e⟩ := x
 kernel_rfl
def unzig (u : Nat) : Int := if u % 2 = 1 then -((u / 2 : Nat) : Int) - 1 else ((u / 2 : Nat) : Int)
def rdN (l : List UInt8) : Nat → Nat → Nat → Nat → Option Int × Nat × Int
 | 0, _, _, p => (none, p, 5)
 | f + 1, u, sh, p =>
  if p ≥ l.length then (none, p, 22) else
  let c := (l.getD p 0).toNat
  if (sh = 63 ∧ c > 1) ∨ (sh > 0 ∧ c = 0) then (none, p + 1, 5) else
  if c < 128 then (some (unzig (u + c % 128 * 2 ^ sh)), p + 1, 0) else rdN l f (u + c % 128 * 2 ^ sh) (sh + 7) (p + 1)
theorem and127 : ∀ m : Nat, m < 256 → (m &&& 127) = m % 128 := by decide
theorem and_u8 (c : Nat) (hc : c < 256) : IntKind.u8.wrap ((BitVec.ofInt IntKind.u8.bits (c : Int) &&& BitVec.ofInt IntKind.u8.bits 127).toNat : Nat) = ((c % 128 : Nat) : Int) := by
 change IntKind.u8.wrap ((BitVec.ofInt 8 (c : Int) &&& BitVec.ofInt 8 127).toNat : Nat) = _
 have h1 : (BitVec.ofInt 8 (c : Int)).toNat = c := by
  rw [BitVec.toNat_ofInt]; omega
 have h2 : (BitVec.ofInt 8 (127 : Int)).toNat = 127 := by rfl
 rw [BitVec.toNat_and, h1, h2, and127 _ hc, wrap_u8]
 omega
theorem toNat_u64 (x : Nat) (hx : x < 18446744073709551616) : (BitVec.ofInt 64 (x : Int)).toNat = x := by
 rw [BitVec.toNat_ofInt]; omega
theorem acc_u64 (u c sh : Nat) (hc : c < 256) (hs : sh ≤ 63) (hu : u < 2 ^ sh) (hb : u + c % 128 * 2 ^ sh < 18446744073709551616) :
  IntKind.u64.wrap ((BitVec.ofInt IntKind.u64.bits (u : Int) ||| BitVec.ofInt IntKind.u64.bits (IntKind.u64.wrap (IntKind.u64.wrap (IntKind.u8.wrap ((BitVec.ofInt IntKind.u8.bits (c : Int) &&& BitVec.ofInt IntKind.u8.bits 127).toNat : Nat)) * 2 ^ min (sh : Int).toNat IntKind.u64.bits))).toNat : Nat) = ((u + c % 128 * 2 ^ sh : Nat) : Int) := by
 have e1 : min (sh : Int).toNat IntKind.u64.bits = sh := by
  change min (sh : Int).toNat 64 = sh
  omega
 rw [and_u8 c hc, e1]
 have e2 : IntKind.u64.wrap (IntKind.u64.wrap ((c % 128 : Nat) : Int) * 2 ^ sh) = ((c % 128 * 2 ^ sh : Nat) : Int) := by
  rw [wrap_u64, wrap_u64, Int.emod_eq_of_lt (a := ((c % 128 : Nat) : Int)) (by omega) (by omega)]
  have : (((c % 128 : Nat) : Int) * 2 ^ sh) = ((c % 128 * 2 ^ sh : Nat) : Int) := by simp
  rw [this]
  omega
 rw [e2]
 change IntKind.u64.wrap ((BitVec.ofInt 64 (u : Int) ||| BitVec.ofInt 64 ((c % 128 * 2 ^ sh : Nat) : Int)).toNat : Nat) = _
 rw [BitVec.toNat_or, toNat_u64 u (by omega), toNat_u64 _ (by omega)]
 have e3 : u ||| c % 128 * 2 ^ sh = u + c % 128 * 2 ^ sh := by
  have := Nat.two_pow_add_eq_or_of_lt hu (c % 128)
  rw [Nat.mul_comm (2 ^ sh)] at this
  rw [Nat.or_comm, ← this, Nat.add_comm]
 rw [e3, wrap_u64]
 omega
theorem half_i64 (x : Nat) (hx : x < 18446744073709551616) : IntKind.i64.wrap ((x : Int).fdiv (2 ^ min (Int.toNat 1) IntKind.u64.bits)) = ((x / 2 : Nat) : Int) := by
 change IntKind.i64.wrap ((x : Int).fdiv 2) = _
 rw [Int.fdiv_eq_ediv_of_nonneg _ (by omega), wrap_i64 (by omega)]
 omega
theorem odd_u64 (x : Nat) (hx : x < 18446744073709551616) : (IntKind.u64.wrap ((BitVec.ofInt IntKind.u64.bits (x : Int) &&& BitVec.ofInt IntKind.u64.bits 1).toNat : Nat) == 1) = decide (x % 2 = 1) := by
 change (IntKind.u64.wrap ((BitVec.ofInt 64 (x : Int) &&& BitVec.ofInt 64 1).toNat : Nat) == 1) = _
 have h2 : (BitVec.ofInt 64 (1 : Int)).toNat = 1 := by rfl
 rw [BitVec.toNat_and, toNat_u64 x hx, h2, Nat.and_one_is_mod, wrap_u64]
 rw [Bool.eq_iff_iff]
 simp only [beq_iff_eq, decide_eq_true_eq]
 omega
theorem not_i64 (x : Nat) (hx : x < 9223372036854775808) : IntKind.i64.wrap ((BitVec.ofInt IntKind.i64.bits (if IntKind.i64.signed = true then -1 else IntKind.i64.max) ^^^ BitVec.ofInt IntKind.i64.bits (x : Int)).toNat : Nat) = -(x : Int) - 1 := by
 change IntKind.i64.wrap ((BitVec.ofInt 64 (if IntKind.i64.signed = true then -1 else IntKind.i64.max) ^^^ BitVec.ofInt 64 (x : Int)).toNat : Nat) = _
 have h2 : BitVec.ofInt 64 (if IntKind.i64.signed = true then -1 else IntKind.i64.max) = BitVec.allOnes 64 := by rfl
 have h3 : BitVec.ofInt 64 (x : Int) = BitVec.ofNat 64 x := by
  apply BitVec.eq_of_toNat_eq
  rw [BitVec.toNat_ofInt, BitVec.toNat_ofNat]
  omega
 rw [h2, h3, BitVec.allOnes_xor, BitVec.toNat_not, BitVec.toNat_ofNat]
 have e : IntKind.i64.wrap (((2 ^ 64 - 1 - x % 2 ^ 64 : Nat) : Int)) = -(x : Int) - 1 := by
  simp only [IntKind.wrap, IntKind.bits, IntKind.signed]
  simp
  omega
 exact e
end Go.Vse
set_option maxRecDepth 100000
namespace Go.Vse
open Go.Proofs
def endOf (s : ByteArray) (z : Int) : Option Int × Nat × Int → REnd
 | (some n, p, _) => ⟨s, true, n, p, 0⟩
 | (none, p, e) => ⟨s, false, z, p, e⟩
theorem runs29 (s : ByteArray) (z : Int) (hlen : s.data.toList.length ≤ 4611686018427387904) (Q : REnd → Prop) : ∀ (f u sh p : Nat), u < 2 ^ sh → sh + 7 * (f + 1) = 70 → Q (endOf s z (rdN s.data.toList (f + 1) u sh p)) →
   RunsX (fun x : RSt => step29 x.s x.z x.u x.sh x.pos x.e) Q (f + 1) ⟨s, z, u, sh, p, 0⟩
 | f, u, sh, p, hu, hf, hq => by
   unfold RunsX
   change Tr.sat _ (step29 s z u sh p 0)
   unfold rdN at hq
   refine sat_ite (fun _ => ?_) (fun h => absurd h (by decide))
   refine sat_ite (fun h => ?_) (fun h => ?_)
   · have h : (p : Int) ≥ (s.data.toList.length : Nat) := of_decide_eq_true h
     rw [if_pos (show p ≥ s.data.toList.length by omega)] at hq
     exact hq
   · have h : ¬ (p : Int) ≥ (s.data.toList.length : Nat) := of_decide_eq_false h
     have hp : p < s.data.toList.length := by omega
     rw [if_neg (show ¬ p ≥ s.data.toList.length by omega)] at hq
     have hc : (s.data.toList.getD p 0).toNat < 256 := UInt8.toNat_lt _
     generalize hcc : (s.data.toList.getD p 0).toNat = c at hq hc
     dsimp only at hq
     have e3 : (((s.data.toList.getD (p : Int).toNat 0).toNat : Nat) : Int) = (c : Int) := by rw [Int.toNat_natCast, hcc]
     have e4 : IntKind.i64.wrap ((p : Int) + 1) = ((p + 1 : Nat) : Int) := by rw [wrap_i64 (by omega)]; omega
     have hs : sh ≤ 63 := by omega
     -- what comes behind the checks
     have tail : ¬ ((sh = 63 ∧ c > 1) ∨ (sh > 0 ∧ c = 0)) → ∀ R : RSt ⊕ REnd → Prop, (∀ x' f', f = f' + 1 → RunsX (fun x : RSt => step29 x.s x.z x.u x.sh x.pos x.e) Q (f' + 1) x' → R (.inl x')) → (∀ r, Q r → R (.inr r)) →
         (Tr.need (decide ¬ (sh : Int) < 0)
           (Tr.ite (decide ((c : Int) < 128))
             (Tr.need true
               (Tr.ite (IntKind.u64.wrap ((BitVec.ofInt IntKind.u64.bits (IntKind.u64.wrap ((BitVec.ofInt IntKind.u64.bits (u : Int) ||| BitVec.ofInt IntKind.u64.bits (IntKind.u64.wrap (IntKind.u64.wrap (IntKind.u8.wrap ((BitVec.ofInt IntKind.u8.bits (c : Int) &&& BitVec.ofInt IntKind.u8.bits 127).toNat : Nat)) * 2 ^ min (sh : Int).toNat IntKind.u64.bits))).toNat : Nat)) &&& BitVec.ofInt IntKind.u64.bits 1).toNat : Nat) == 1)
                 (Tr.ret (Sum.inr { s := s, ret := true, n := IntKind.i64.wrap ((BitVec.ofInt IntKind.i64.bits (if IntKind.i64.signed = true then -1 else IntKind.i64.max) ^^^ BitVec.ofInt IntKind.i64.bits (IntKind.i64.wrap ((IntKind.u64.wrap ((BitVec.ofInt IntKind.u64.bits (u : Int) ||| BitVec.ofInt IntKind.u64.bits (IntKind.u64.wrap (IntKind.u64.wrap (IntKind.u8.wrap ((BitVec.ofInt IntKind.u8.bits (c : Int) &&& BitVec.ofInt IntKind.u8.bits 127).toNat : Nat)) * 2 ^ min (sh : Int).toNat IntKind.u64.bits))).toNat : Nat)).fdiv (2 ^ min (Int.toNat 1) IntKind.u64.bits)))).toNat : Nat), pos := ((p + 1 : Nat) : Int), e := 0 }))
                 (Tr.ret (Sum.inr { s := s, ret := true, n := IntKind.i64.wrap ((IntKind.u64.wrap ((BitVec.ofInt IntKind.u64.bits (u : Int) ||| BitVec.ofInt IntKind.u64.bits (IntKind.u64.wrap (IntKind.u64.wrap (IntKind.u8.wrap ((BitVec.ofInt IntKind.u8.bits (c : Int) &&& BitVec.ofInt IntKind.u8.bits 127).toNat : Nat)) * 2 ^ min (sh : Int).toNat IntKind.u64.bits))).toNat : Nat)).fdiv (2 ^ min (Int.toNat 1) IntKind.u64.bits)), pos := ((p + 1 : Nat) : Int), e := 0 }))))
             (Tr.ret (Sum.inl { s := s, z := z, u := IntKind.u64.wrap ((BitVec.ofInt IntKind.u64.bits (u : Int) ||| BitVec.ofInt IntKind.u64.bits (IntKind.u64.wrap (IntKind.u64.wrap (IntKind.u8.wrap ((BitVec.ofInt IntKind.u8.bits (c : Int) &&& BitVec.ofInt IntKind.u8.bits 127).toNat : Nat)) * 2 ^ min (sh : Int).toNat IntKind.u64.bits))).toNat : Nat), sh := IntKind.i64.wrap ((sh : Int) + 7), pos := ((p + 1 : Nat) : Int), e := 0 })))).sat R := by
       intro hok R hin hend
       rw [if_neg hok] at hq
       have hpow : 2 ^ sh ≤ 2 ^ 63 := Nat.pow_le_pow_right (by omega) hs
       have hacc : u + c % 128 * 2 ^ sh < 2 ^ (sh + 7) := by
         have h1 : c % 128 + 1 ≤ 128 := by omega
         have h2 : (c % 128 + 1) * 2 ^ sh ≤ 128 * 2 ^ sh := Nat.mul_le_mul_right _ h1
         rw [Nat.add_mul, Nat.one_mul] at h2
         rw [Nat.pow_add, Nat.mul_comm (2 ^ sh)]
         omega
       have hb : u + c % 128 * 2 ^ sh < 18446744073709551616 := by
         rcases Nat.lt_or_ge sh 63 with h1 | h1
         · have h2 : 2 ^ (sh + 7) ≤ 2 ^ 63 := Nat.pow_le_pow_right (by omega) (by omega)
           omega
         · obtain rfl : sh = 63 := by omega
           have : c % 128 ≤ 1 := by omega
           have h2 : c % 128 * 2 ^ 63 ≤ 1 * 2 ^ 63 := Nat.mul_le_mul_right _ this
           omega
       rw [acc_u64 u c sh hc hs hu hb, odd_u64 _ hb, half_i64 _ hb, not_i64 _ (by omega)]
       refine sat_need (decide_eq_true (by omega)) (sat_ite (fun h => ?_) (fun h => ?_))
       · have h : (c : Int) < 128 := of_decide_eq_true h
         rw [if_pos (show c < 128 by omega)] at hq
         refine sat_need rfl (sat_ite (fun h => ?_) (fun h => ?_))
         · have h := of_decide_eq_true h
           refine hend _ ?_
           simp only [endOf, unzig, h, if_true] at hq
           exact hq
         · have h := of_decide_eq_false h
           refine hend _ ?_
           simp only [endOf, unzig, h, if_false] at hq
           exact hq
       · have h : ¬ (c : Int) < 128 := of_decide_eq_false h
         rw [if_neg (show ¬ c < 128 by omega)] at hq
         cases f with
         | zero => omega
         | succ f =>
           refine hin _ f rfl ?_
           have e7 : IntKind.i64.wrap ((sh : Int) + 7) = ((sh + 7 : Nat) : Int) := by rw [wrap_i64 (by omega)]; omega
           rw [e7]
           exact runs29 s z hlen Q f (u + c % 128 * 2 ^ sh) (sh + 7) (p + 1) hacc (by omega) hq
     refine sat_need (decide_eq_true (by omega)) ?_
     rw [e3, e4]
     refine sat_ite (fun h63 => ?_) (fun h63 => ?_)
     · have h63 : sh = 63 := by have := eq_of_beq h63; omega
       refine sat_ite (fun h => ?_) (fun h => ?_)
       · have h : (c : Int) > 1 := of_decide_eq_true h
         rw [if_pos (.inl ⟨h63, by omega⟩)] at hq
         exact sat_ite (fun _ => hq) (fun h => absurd h (by decide))
       · have h : ¬ (c : Int) > 1 := of_decide_eq_false h
         refine sat_ite (fun h0 => ?_) (fun h0 => ?_)
         · refine sat_ite (fun h1 => ?_) (fun h1 => ?_)
           · have h1 : (c : Int) = 0 := eq_of_beq h1
             rw [if_pos (.inr ⟨by omega, by omega⟩)] at hq
             exact hq
           · have h1 : ¬ (c : Int) = 0 := by intro hh; rw [hh] at h1; cases h1
             exact tail (by omega) _ (fun x' f' hf' hx => by subst hf'; exact hx) (fun r hr => hr)
         · have h0 : ¬ (sh : Int) > 0 := of_decide_eq_false h0
           omega
     · have h63 : ¬ sh = 63 := by intro hh; rw [hh] at h63; cases h63
       refine sat_ite (fun h => absurd h (by decide)) (fun _ => ?_)
       refine sat_ite (fun h0 => ?_) (fun h0 => ?_)
       · have h0 : (sh : Int) > 0 := of_decide_eq_true h0
         refine sat_ite (fun h1 => ?_) (fun h1 => ?_)
         · have h1 : (c : Int) = 0 := eq_of_beq h1
           rw [if_pos (.inr ⟨by omega, by omega⟩)] at hq
           exact hq
         · have h1 : ¬ (c : Int) = 0 := by intro hh; rw [hh] at h1; cases h1
           exact tail (by omega) _ (fun x' f' hf' hx => by subst hf'; exact hx) (fun r hr => hr)
       · have h0 : ¬ (sh : Int) > 0 := of_decide_eq_false h0
         refine sat_ite (fun h1 => absurd h1 (by decide)) (fun _ => ?_)
         exact tail (by omega) _ (fun x' f' hf' hx => by subst hf'; exact hx) (fun r hr => hr)
end Go.Vse
set_option maxRecDepth 100000
namespace Go.Vse
open Go.Proofs
def res29 : RSt → REnd := fun x => endOf x.s x.z (rdN x.s.data.toList 10 x.u.toNat x.sh.toNat x.pos.toNat)
def pre29 : RSt → Bool := fun x => decide (x.u = 0) && decide (x.sh = 0) && decide (0 ≤ x.pos) && decide (x.e = 0) && decide (x.s.data.toList.length ≤ 4611686018427387904)
def L29 : Nat → Option (St → Tr (Ex × St)) := fun id => bif Nat.beq id 0 then some ((lp29 res29 pre29).g 1) else none
def M29 (s : ByteArray) (p : Int) (e : Int) : Tr MemOut :=
 let x1 : List (Option Ent) := [some (Ent.cells [.c (.v (.string (res29 { s := s, z := 0, u := 0, sh := 0, pos := p, e := e }).s)), .c (.v (.int IntKind.i64 (res29 { s := s, z := 0, u := 0, sh := 0, pos := p, e := e }).pos)), .c (.v (.int IntKind.i64 (res29 { s := s, z := 0, u := 0, sh := 0, pos := p, e := e }).e))] 78)]
 .need (pre29 { s := s, z := 0, u := 0, sh := 0, pos := p, e := e }) (.ite (res29 { s := s, z := 0, u := 0, sh := 0, pos := p, e := e }).ret (.ret { val := .c (.v (.int IntKind.i64 (res29 { s := s, z := 0, u := 0, sh := 0, pos := p, e := e }).n)), outs := x1 }) (.ret { val := .c (.v (.int IntKind.i64 0)), outs := x1 }))
def M102 (s : ByteArray) (p : Int) (e0 : Int) (e : Int) : Tr MemOut :=
 .ite (e0 == 0) (.ret { val := AV.tup [], outs := [some (Ent.cells [.c (.v (.string s)), .c (.v (.int IntKind.i64 p)), .c (.v (.int IntKind.i64 e))] 78)] }) (.ret { val := AV.tup [], outs := [some (Ent.cells [.c (.v (.string s)), .c (.v (.int IntKind.i64 p)), .c (.v (.int IntKind.i64 e0))] 78)] })
theorem M29_eq (s : ByteArray) (p e : Int) : execM Tryz.prog Γ29 L29 10 false Tryz.f29 (rent s p e) [.ptr 0 0] = M29 s p e := by kernel_rfl
theorem M102_eq (s : ByteArray) (p e0 e : Int) : execM Tryz.prog (fun _ => none) noL 10 false Tryz.f102 (rent s p e0) [.ptr 0 0, intA .i64 e] = M102 s p e0 e := by kernel_rfl
theorem f102_ok : MemOk Tryz.prog 102 K102 := by
 refine memOk_of_exec (L := fun _ => noL) prog_mixed noΓ_ok (fn := Tryz.f102) (c := codeOf Tryz.f102) (by kernel_rfl) (by kernel_rfl) (callFunc_enter (fn := Tryz.f102) (c := codeOf Tryz.f102) (by kernel_rfl) (by kernel_rfl) (by kernel_rfl)) (N := 10) (frz := false) (fun ents args o _ => blocksOk_none _ _) ?_
 intro ents args o h hc
 unfold K102 at h
 split at h
 · rename_i s p e0 e
   cases h
   change Tr.sat _ (execM Tryz.prog (fun _ => none) noL 10 false Tryz.f102 (rent s p e0) [.ptr 0 0, intA .i64 e])
   rw [M102_eq]
   refine sat_ite (fun h => ?_) (fun h => ?_)
   · have h : e0 = 0 := eq_of_beq h
     subst h
     exact ⟨Sees.refl _, EntsEqv.refl _⟩
   · have h : ¬ e0 = 0 := by intro hh; rw [hh] at h; cases h
     simp only [h, if_false]
     exact ⟨Sees.refl _, EntsEqv.refl _⟩
 · cases h
theorem Γ29_ok : ∀ f s, Γ29 f = some s → SpecOk Tryz.prog f s := by
 intro f s h
 unfold Γ29 at h
 cases hf : Nat.beq f 102 with
 | true =>
  obtain rfl : f = 102 := by simpa using hf
  rw [hf] at h
  cases h
  exact f102_ok.spec
 | false => rw [hf] at h; cases h
theorem f29_loops : BlocksOk Tryz.prog 1 L29 (codeOf Tryz.f29) := by
 refine blocksOk_of (d := fun id => Nat.beq id 0) (fun id => by unfold L29; cases Nat.beq id 0 <;> rfl) _ ?_
 have hb : blocksOf (fun id => Nat.beq id 0) (codeOf Tryz.f29) = [(0, .loop (loopOf 0 (codeOf Tryz.f29)))] := by kernel_rfl
 rw [hb]
 intro p hp g hg
 simp only [List.mem_singleton] at hp
 subst hp
 have hh : L29 0 = some ((lp29 res29 pre29).g 1) := rfl
 rw [hh] at hg
 have : g = (lp29 res29 pre29).g 1 := (Option.some.inj hg).symm
 subst this
 refine LoopSt.ok (N := 10) prog_mixed Γ29_ok (L := noL) (blocksOk_none 1 _) (lp29_good _ _) (step29_eq res29 pre29) ?_
 rintro ⟨s, z, u, sh, p, e⟩ hx
 have hx : pre29 ⟨s, z, u, sh, p, e⟩ = true := hx
 simp only [pre29, Bool.and_eq_true, decide_eq_true_eq] at hx
 obtain ⟨⟨⟨⟨rfl, rfl⟩, hp⟩, rfl⟩, hl⟩ := hx
 have := runs29 s z hl (· = res29 ⟨s, z, 0, 0, p, 0⟩) 9 0 0 p.toNat (by decide) (by omega) (by simp [res29])
 rw [Int.toNat_of_nonneg hp] at this
 exact ⟨10, this⟩
def rdAll (s : ByteArray) (p : Int) : Option Int × Nat × Int := rdN s.data.toList 10 0 0 p.toNat
def rdErr (r : Option Int × Nat × Int) : Int := match r.1 with | some _ => 0 | none => r.2.2
def K29 : MSpec
 | [some (.cells [.c (.v (.string s)), .c (.v (.int .i64 p)), .c (.v (.int .i64 e))] 78)], [.ptr 0 0] =>
  some { val := intA .i64 ((rdAll s p).1.getD 0), outs := rent s ((rdAll s p).2.1 : Nat) (rdErr (rdAll s p)), conds := [decide (e = 0), decide (0 ≤ p), decide (s.data.toList.length ≤ 4611686018427387904)] }
 | _, _ => none
theorem f29_ok : MemOk Tryz.prog 29 K29 := by
 refine memOk_of_exec (L := fun _ => L29) prog_mixed Γ29_ok (fn := Tryz.f29) (c := codeOf Tryz.f29) (by kernel_rfl) (by kernel_rfl) (callFunc_enter (fn := Tryz.f29) (c := codeOf Tryz.f29) (by kernel_rfl) (by kernel_rfl) (by kernel_rfl)) (N := 10) (frz := false) ?_ ?_
 · intro ents args o h
   unfold K29 at h
   split at h
   · exact f29_loops
   · cases h
 · intro ents args o h hc
   unfold K29 at h
   split at h
   · rename_i s p e
     cases h
     have h1 : e = 0 := dec (hc (decide (e = 0)) (by simp))
     have h2 : 0 ≤ p := dec (hc (decide (0 ≤ p)) (by simp))
     have h3 : s.data.toList.length ≤ 4611686018427387904 := dec (hc (decide (s.data.toList.length ≤ 4611686018427387904)) (List.mem_cons_of_mem _ (List.mem_cons_of_mem _ (List.mem_singleton.2 rfl))))
     subst h1
     change Tr.sat _ (execM Tryz.prog Γ29 L29 10 false Tryz.f29 (rent s p 0) [.ptr 0 0])
     rw [M29_eq]
     refine sat_need (by simp [pre29, h2]; simpa using h3) ?_
     have hr : res29 ⟨s, 0, 0, 0, p, 0⟩ = endOf s 0 (rdAll s p) := rfl
     rw [hr]
     generalize rdAll s p = r
     obtain ⟨n, q, e⟩ := r
     cases n with
     | some n => exact sat_ite (fun _ => ⟨Sees.refl _, EntsEqv.refl _⟩) (fun h => by cases h)
     | none => exact sat_ite (fun h => by cases h) (fun _ => ⟨Sees.refl _, EntsEqv.refl _⟩)
   · cases h
end Go.Vse
set_option maxRecDepth 100000
namespace Go.Vse
open Go.Proofs
theorem getD_mid (a b : List UInt8) (x : UInt8) : (a ++ x :: b).getD a.length 0 = x := by
 simp [List.getD_eq_getElem?_getD]
theorem rdN_leb : ∀ (f u acc sh : Nat) (a b : List UInt8), sh + 7 * (f + 1) = 70 → u * 2 ^ sh < 18446744073709551616 → (sh > 0 → u > 0) →
   rdN (a ++ (lebInit (f + 1) u ++ [UInt8.ofNat (lebLast (f + 1) u)]) ++ b) (f + 1) acc sh a.length = (some (unzig (acc + u * 2 ^ sh)), a.length + (lebInit (f + 1) u).length + 1, 0)
 | f, u, acc, sh, a, b, hf, hb, h0 => by
   have h63 : sh = 63 → u ≤ 1 := by
     rintro rfl
     omega
   by_cases hu : u < 128
   · have e1 : lebInit (f + 1) u = [] := by simp [lebInit, hu]
     have e2 : lebLast (f + 1) u = u := by simp [lebLast, hu]
     rw [e1, e2]
     simp only [List.nil_append, List.append_assoc, List.singleton_append, List.cons_append, rdN]
     have hl : ¬ a.length ≥ (a ++ UInt8.ofNat u :: b).length := by simp
     rw [if_neg hl, getD_mid]
     have hc : (UInt8.ofNat u).toNat = u := by simp only [UInt8.toNat_ofNat']; omega
     rw [hc, if_neg (by omega), if_pos hu, Nat.mod_eq_of_lt hu]
     simp
   · have e1 : lebInit (f + 1) u = UInt8.ofNat (u % 128 + 128) :: lebInit f (u / 128) := by simp [lebInit, hu]
     have e2 : lebLast (f + 1) u = lebLast f (u / 128) := by simp [lebLast, hu]
     rw [e1, e2]
     cases f with
     | zero =>
       have : sh = 63 := by omega
       have := h63 this
       omega
     | succ f =>
       have ih := rdN_leb f (u / 128) (acc + u % 128 * 2 ^ sh) (sh + 7) (a ++ [UInt8.ofNat (u % 128 + 128)]) b (by omega) (by
           have h1 : u / 128 * 2 ^ (sh + 7) ≤ u * 2 ^ sh := by
             rw [Nat.pow_add, Nat.mul_comm (2 ^ sh), ← Nat.mul_assoc]
             exact Nat.mul_le_mul_right _ (Nat.div_mul_le_self u 128)
           omega) (fun _ => by omega)
       have el : a ++ (UInt8.ofNat (u % 128 + 128) :: lebInit (f + 1) (u / 128) ++ [UInt8.ofNat (lebLast (f + 1) (u / 128))]) ++ b =
           (a ++ [UInt8.ofNat (u % 128 + 128)]) ++ (lebInit (f + 1) (u / 128) ++ [UInt8.ofNat (lebLast (f + 1) (u / 128))]) ++ b := by simp
       have el2 : a ++ (UInt8.ofNat (u % 128 + 128) :: lebInit (f + 1) (u / 128) ++ [UInt8.ofNat (lebLast (f + 1) (u / 128))]) ++ b =
           a ++ UInt8.ofNat (u % 128 + 128) :: (lebInit (f + 1) (u / 128) ++ [UInt8.ofNat (lebLast (f + 1) (u / 128))] ++ b) := by simp
       rw [rdN]
       have hl : ¬ a.length ≥ (a ++ (UInt8.ofNat (u % 128 + 128) :: lebInit (f + 1) (u / 128) ++ [UInt8.ofNat (lebLast (f + 1) (u / 128))]) ++ b).length := by simp
       rw [if_neg hl]
       have hg : (a ++ (UInt8.ofNat (u % 128 + 128) :: lebInit (f + 1) (u / 128) ++ [UInt8.ofNat (lebLast (f + 1) (u / 128))]) ++ b).getD a.length 0 = UInt8.ofNat (u % 128 + 128) := by
         rw [el2, getD_mid]
       have hc : (UInt8.ofNat (u % 128 + 128)).toNat = u % 128 + 128 := by simp only [UInt8.toNat_ofNat']; omega
       dsimp only
       rw [hg, hc, if_neg (by omega), if_neg (by omega)]
       have hm : (u % 128 + 128) % 128 = u % 128 := by omega
       rw [hm, el]
       have hp : (a ++ [UInt8.ofNat (u % 128 + 128)]).length = a.length + 1 := by simp
       rw [hp] at ih
       rw [ih]
       have ha : acc + u % 128 * 2 ^ sh + u / 128 * 2 ^ (sh + 7) = acc + u * 2 ^ sh := by
         have h1 : u / 128 * 2 ^ (sh + 7) = u / 128 * 128 * 2 ^ sh := by
           rw [Nat.pow_add, Nat.mul_comm (2 ^ sh), ← Nat.mul_assoc]
         have h2 : u % 128 * 2 ^ sh + u / 128 * 128 * 2 ^ sh = u * 2 ^ sh := by
           rw [← Nat.add_mul]
           congr 1
           omega
         omega
       rw [ha]
       simp only [List.length_cons]
       congr 2
       omega
theorem unzig_zig (n : Int) : unzig (zig n) = n := by
 unfold unzig zig
 split <;> split <;> omega
end Go.Vse
namespace Go.Vse
open Go.Proofs
set_option maxRecDepth 100000
def fnK (f : Nat) : Value := .func (.func f) #[] #[]
def kindsV : List (Int × Value) :=
 [(1, .agg #[fnK 54, fnK 55, fnK 56, fnK 58]), (2, .agg #[fnK 60, fnK 61, fnK 63, fnK 65]), (3, .agg #[fnK 67, fnK 68, fnK 70, fnK 71]), (4, .agg #[fnK 72, fnK 73, fnK 75, fnK 77]),
  (5, .agg #[fnK 79, fnK 80, fnK 82, fnK 83]), (6, .agg #[fnK 84, fnK 85, fnK 87, fnK 89]), (7, .agg #[fnK 91, fnK 92, fnK 93, fnK 94]), (8, .agg #[fnK 95, fnK 96, fnK 98, fnK 100])]
def kindsPure : List AV → Option (AV × List Bool)
 | [] => some (.c (.mp kindsV), [])
 | _ => none
instance : Inhabited Oper := ⟨{ dst := none, op := .move (.const undef) , type := 0, pos := "", after := #[], guard := none }⟩
theorem steps_value {P : Program} {ops : Array Oper} {i : Nat} {rest : List Nat} {Q : Exit → Act → World → Prop} {a : Act} {w w' : World} {v : Value} {d : Option Tmp}
  (ho : (ops.toList[i]?).isSome = true) (hg : (ops.toList.getD i default).guard = none) (hd : (ops.toList.getD i default).dst = d) (hrun : (execOp a.eval (ops.toList.getD i default)).run P w = .ok (.value v) w')
  (hk : wpOps P ops Q rest (a.put d v) w') : wpOps P ops Q (i :: rest) a w := by
 rw [wpOps_cons]
 obtain ⟨o, ho⟩ := Option.isSome_iff_exists.1 ho
 have h1 : ops.toList.getD i default = o := by rw [List.getD_eq_getElem?_getD, ho]; rfl
 rw [h1] at hg hd hrun
 exact step_value (o := o) (by simpa using ho) hg hrun (by rw [hd]; exact hk)
theorem steps_insert {P : Program} {ops : Array Oper} {i : Nat} {rest : List Nat} {Q : Exit → Act → World → Prop} {a : Act} {w : World} {es : Array MapEntry} {clock : Nat}
  {t : TypeId} {xm xk xv : Operand} {n : Int} {val : Value} (ho : (ops.toList[i]?).isSome = true) (hg : (ops.toList.getD i default).guard = none) (hd : (ops.toList.getD i default).dst = none) (hop : (ops.toList.getD i default).op = .insert t xm xk xv)
  (hm : a.eval xm = .map (some w.heap.size)) (hk : a.eval xk = .int .i64 n) (hv : a.eval xv = val) {k e : TypeId} (ht : P.underlying t = some (.map k e)) (hkt : P.underlying k = some (.int .i64))
  (hnew : Instr.findNow (.int .i64) (.int .i64 n) es.toList 0 = some none) (hK : wpOps P ops Q rest a (withMap w (es.push ⟨.int .i64 n, val, clock⟩) (clock + 1))) : wpOps P ops Q (i :: rest) a (withMap w es clock) := by
 rw [wpOps_cons]
 obtain ⟨o, ho⟩ := Option.isSome_iff_exists.1 ho
 have h1 : ops.toList.getD i default = o := by rw [List.getD_eq_getElem?_getD, ho]; rfl
 rw [h1] at hg hd hop
 refine step_skip (o := o) (by simpa using ho) hg (w' := withMap w (es.push ⟨.int .i64 n, val, clock⟩) (clock + 1)) ?_ (by rw [hd]; exact hK)
 simp only [execOp, hop, hm, hk, hv, Sem.run_bind, run_mapUpdate_new ht hkt hnew, Result.andThen_ok, Sem.run_pure]
theorem kinds_calls (w : World) : Calls Tryz.prog 28 #[] w fun e w' => ∃ entries, e = .returned (.map (some w.heap.size)) ∧ w' = withMap w entries 8 ∧ entries.toList.map (fun e => (e.key, e.val)) = kindsV.map fun p => (Value.int .i64 p.1, p.2) := by
 refine calls_of_wp (fn := Tryz.f28) (by kernel_rfl) rfl ?_
 refine wp_seq (wp_region ?_)
 show wpOps _ _ _ [0] _ _
 refine steps_value (d := some 0) (v := .map none) (w' := w) (by kernel_rfl) (by kernel_rfl) (by kernel_rfl) (by kernel_rfl) ?_
 show Code.wp _ _ _ _ _
 refine wp_seq (wp_region ?_)
 show wpOps _ _ _ [0, 1, 2, 3, 4, 5, 6, 7, 8, 9, 10, 11, 12, 13, 14, 15, 16, 17, 18] _ _
 refine steps_value (d := some 1) (v := .map (some w.heap.size)) (w' := withMap w #[] 0) (by kernel_rfl) (by kernel_rfl) (by kernel_rfl) (by kernel_rfl) ?_
 refine steps_value (d := some 2) (v := .agg #[fnK 54, fnK 55, fnK 56, fnK 58]) (w' := withMap w #[] 0) (by kernel_rfl) (by kernel_rfl) (by kernel_rfl) (by kernel_rfl) ?_
 refine steps_insert (t := 95) (xm := .tmp 1) (xk := .const (.int .i64 1)) (xv := .tmp 2) (n := 1) (val := .agg #[fnK 54, fnK 55, fnK 56, fnK 58]) (by kernel_rfl) (by kernel_rfl) (by kernel_rfl) (by kernel_rfl) (by kernel_rfl) (by kernel_rfl) (by kernel_rfl) (k := 3) (e := 94) (by kernel_rfl) (by kernel_rfl) (by kernel_rfl) ?_
 show wpOps _ _ _ _ _ (withMap w #[⟨.int .i64 1, .agg #[fnK 54, fnK 55, fnK 56, fnK 58], 0⟩] 1)
 refine steps_value (d := some 3) (v := .agg #[fnK 60, fnK 61, fnK 63, fnK 65]) (w' := withMap w #[⟨.int .i64 1, .agg #[fnK 54, fnK 55, fnK 56, fnK 58], 0⟩] 1) (by kernel_rfl) (by kernel_rfl) (by kernel_rfl) (by kernel_rfl) ?_
 refine steps_insert (t := 95) (xm := .tmp 1) (xk := .const (.int .i64 2)) (xv := .tmp 3) (n := 2) (val := .agg #[fnK 60, fnK 61, fnK 63, fnK 65]) (by kernel_rfl) (by kernel_rfl) (by kernel_rfl) (by kernel_rfl) (by kernel_rfl) (by kernel_rfl) (by kernel_rfl) (k := 3) (e := 94) (by kernel_rfl) (by kernel_rfl) (by kernel_rfl) ?_
 show wpOps _ _ _ _ _ (withMap w #[⟨.int .i64 1, .agg #[fnK 54, fnK 55, fnK 56, fnK 58], 0⟩, ⟨.int .i64 2, .agg #[fnK 60, fnK 61, fnK 63, fnK 65], 1⟩] 2)
 refine steps_value (d := some 4) (v := .agg #[fnK 67, fnK 68, fnK 70, fnK 71]) (w' := withMap w #[⟨.int .i64 1, .agg #[fnK 54, fnK 55, fnK 56, fnK 58], 0⟩, ⟨.int .i64 2, .agg #[fnK 60, fnK 61, fnK 63, fnK 65], 1⟩] 2) (by kernel_rfl) (by kernel_rfl) (by kernel_rfl) (by kernel_rfl) ?_
 refine steps_insert (t := 95) (xm := .tmp 1) (xk := .const (.int .i64 3)) (xv := .tmp 4) (n := 3) (val := .agg #[fnK 67, fnK 68, fnK 70, fnK 71]) (by kernel_rfl) (by kernel_rfl) (by kernel_rfl) (by kernel_rfl) (by kernel_rfl) (by kernel_rfl) (by kernel_rfl) (k := 3) (e := 94) (by kernel_rfl) (by kernel_rfl) (by kernel_rfl) ?_
 show wpOps _ _ _ _ _ (withMap w #[⟨.int .i64 1, .agg #[fnK 54, fnK 55, fnK 56, fnK 58], 0⟩, ⟨.int .i64 2, .agg #[fnK 60, fnK 61, fnK 63, fnK 65], 1⟩, ⟨.int .i64 3, .agg #[fnK 67, fnK 68, fnK 70, fnK 71], 2⟩] 3)
 refine steps_value (d := some 5) (v := .agg #[fnK 72, fnK 73, fnK 75, fnK 77]) (w' := withMap w #[⟨.int .i64 1, .agg #[fnK 54, fnK 55, fnK 56, fnK 58], 0⟩, ⟨.int .i64 2, .agg #[fnK 60, fnK 61, fnK 63, fnK 65], 1⟩, ⟨.int .i64 3, .agg #[fnK 67, fnK 68, fnK 70, fnK 71], 2⟩] 3) (by kernel_rfl) (by kernel_rfl) (by kernel_rfl) (by kernel_rfl) ?_
 refine steps_insert (t := 95) (xm := .tmp 1) (xk := .const (.int .i64 4)) (xv := .tmp 5) (n := 4) (val := .agg #[fnK 72, fnK 73, fnK 75, fnK 77]) (by kernel_rfl) (by kernel_rfl) (by kernel_rfl) (by kernel_rfl) (by kernel_rfl) (by kernel_rfl) (by kernel_rfl) (k := 3) (e := 94) (by kernel_rfl) (by kernel_rfl) (by kernel_rfl) ?_
 show wpOps _ _ _ _ _ (withMap w #[⟨.int .i64 1, .agg #[fnK 54, fnK 55, fnK 56, fnK 58], 0⟩, ⟨.int .i64 2, .agg #[fnK 60, fnK 61, fnK 63, fnK 65], 1⟩, ⟨.int .i64 3, .agg #[fnK 67, fnK 68, fnK 70, fnK 71], 2⟩, ⟨.int .i64 4, .agg #[fnK 72, fnK 73, fnK 75, fnK 77], 3⟩] 4)
 refine steps_value (d := some 6) (v := .agg #[fnK 79, fnK 80, fnK 82, fnK 83]) (w' := withMap w #[⟨.int .i64 1, .agg #[fnK 54, fnK 55, fnK 56, fnK 58], 0⟩, ⟨.int .i64 2, .agg #[fnK 60, fnK 61, fnK 63, fnK 65], 1⟩, ⟨.int .i64 3, .agg #[fnK 67, fnK 68, fnK 70, fnK 71], 2⟩, ⟨.int .i64 4, .agg #[fnK 72, fnK 73, fnK 75, fnK 77], 3⟩] 4) (by kernel_rfl) (by kernel_rfl) (by kernel_rfl) (by kernel_rfl) ?_
 refine steps_insert (t := 95) (xm := .tmp 1) (xk := .const (.int .i64 5)) (xv := .tmp 6) (n := 5) (val := .agg #[fnK 79, fnK 80, fnK 82, fnK 83]) (by kernel_rfl) (by kernel_rfl) (by kernel_rfl) (by kernel_rfl) (by kernel_rfl) (by kernel_rfl) (by kernel_rfl) (k := 3) (e := 94) (by kernel_rfl) (by kernel_rfl) (by kernel_rfl) ?_
 show wpOps _ _ _ _ _ (withMap w #[⟨.int .i64 1, .agg #[fnK 54, fnK 55, fnK 56, fnK 58], 0⟩, ⟨.int .i64 2, .agg #[fnK 60, fnK 61, fnK 63, fnK 65], 1⟩, ⟨.int .i64 3, .agg #[fnK 67, fnK 68, fnK 70, fnK 71], 2⟩, ⟨.int .i64 4, .agg #[fnK 72, fnK 73, fnK 75, fnK 77], 3⟩, ⟨.int .i64 5, .agg #[fnK 79, fnK 80, fnK 82, fnK 83], 4⟩] 5)
 refine steps_value (d := some 7) (v := .agg #[fnK 84, fnK 85, fnK 87, fnK 89]) (w' := withMap w #[⟨.int .i64 1, .agg #[fnK 54, fnK 55, fnK 56, fnK 58], 0⟩, ⟨.int .i64 2, .agg #[fnK 60, fnK 61, fnK 63, fnK 65], 1⟩, ⟨.int .i64 3, .agg #[fnK 67, fnK 68, fnK 70, fnK 71], 2⟩, ⟨.int .i64 4, .agg #[fnK 72, fnK 73, fnK 75, fnK 77], 3⟩, ⟨.int .i64 5, .agg #[fnK 79, fnK 80, fnK 82, fnK 83], 4⟩] 5) (by kernel_rfl) (by kernel_rfl) (by kernel_rfl) (by kernel_rfl) ?_
 refine steps_insert (t := 95) (xm := .tmp 1) (xk := .const (.int .i64 6)) (xv := .tmp 7) (n := 6) (val := .agg #[fnK 84, fnK 85, fnK 87, fnK 89]) (by kernel_rfl) (by kernel_rfl) (by kernel_rfl) (by kernel_rfl) (by kernel_rfl) (by kernel_rfl) (by kernel_rfl) (k := 3) (e := 94) (by kernel_rfl) (by kernel_rfl) (by kernel_rfl) ?_
 show wpOps _ _ _ _ _ (withMap w #[⟨.int .i64 1, .agg #[fnK 54, fnK 55, fnK 56, fnK 58], 0⟩, ⟨.int .i64 2, .agg #[fnK 60, fnK 61, fnK 63, fnK 65], 1⟩, ⟨.int .i64 3, .agg #[fnK 67, fnK 68, fnK 70, fnK 71], 2⟩, ⟨.int .i64 4, .agg #[fnK 72, fnK 73, fnK 75, fnK 77], 3⟩, ⟨.int .i64 5, .agg #[fnK 79, fnK 80, fnK 82, fnK 83], 4⟩, ⟨.int .i64 6, .agg #[fnK 84, fnK 85, fnK 87, fnK 89], 5⟩] 6)
 refine steps_value (d := some 8) (v := .agg #[fnK 91, fnK 92, fnK 93, fnK 94]) (w' := withMap w #[⟨.int .i64 1, .agg #[fnK 54, fnK 55, fnK 56, fnK 58], 0⟩, ⟨.int .i64 2, .agg #[fnK 60, fnK 61, fnK 63, fnK 65], 1⟩, ⟨.int .i64 3, .agg #[fnK 67, fnK 68, fnK 70, fnK 71], 2⟩, ⟨.int .i64 4, .agg #[fnK 72, fnK 73, fnK 75, fnK 77], 3⟩, ⟨.int .i64 5, .agg #[fnK 79, fnK 80, fnK 82, fnK 83], 4⟩, ⟨.int .i64 6, .agg #[fnK 84, fnK 85, fnK 87, fnK 89], 5⟩] 6) (by kernel_rfl) (by kernel_rfl) (by kernel_rfl) (by kernel_rfl) ?_
 refine steps_insert (t := 95) (xm := .tmp 1) (xk := .const (.int .i64 7)) (xv := .tmp 8) (n := 7) (val := .agg #[fnK 91, fnK 92, fnK 93, fnK 94]) (by kernel_rfl) (by kernel_rfl) (by kernel_rfl) (by kernel_rfl) (by kernel_rfl) (by kernel_rfl) (by kernel_rfl) (k := 3) (e := 94) (by kernel_rfl) (by kernel_rfl) (by kernel_rfl) ?_
 show wpOps _ _ _ _ _ (withMap w #[⟨.int .i64 1, .agg #[fnK 54, fnK 55, fnK 56, fnK 58], 0⟩, ⟨.int .i64 2, .agg #[fnK 60, fnK 61, fnK 63, fnK 65], 1⟩, ⟨.int .i64 3, .agg #[fnK 67, fnK 68, fnK 70, fnK 71], 2⟩, ⟨.int .i64 4, .agg #[fnK 72, fnK 73, fnK 75, fnK 77], 3⟩, ⟨.int .i64 5, .agg #[fnK 79, fnK 80, fnK 82, fnK 83], 4⟩, ⟨.int .i64 6, .agg #[fnK 84, fnK 85, fnK 87, fnK 89], 5⟩, ⟨.int .i64 7, .agg #[fnK 91, fnK 92, fnK 93, fnK 94], 6⟩] 7)
 refine steps_value (d := some 9) (v := .agg #[fnK 95, fnK 96, fnK 98, fnK 100]) (w' := withMap w #[⟨.int .i64 1, .agg #[fnK 54, fnK 55, fnK 56, fnK 58], 0⟩, ⟨.int .i64 2, .agg #[fnK 60, fnK 61, fnK 63, fnK 65], 1⟩, ⟨.int .i64 3, .agg #[fnK 67, fnK 68, fnK 70, fnK 71], 2⟩, ⟨.int .i64 4, .agg #[fnK 72, fnK 73, fnK 75, fnK 77], 3⟩, ⟨.int .i64 5, .agg #[fnK 79, fnK 80, fnK 82, fnK 83], 4⟩, ⟨.int .i64 6, .agg #[fnK 84, fnK 85, fnK 87, fnK 89], 5⟩, ⟨.int .i64 7, .agg #[fnK 91, fnK 92, fnK 93, fnK 94], 6⟩] 7) (by kernel_rfl) (by kernel_rfl) (by kernel_rfl) (by kernel_rfl) ?_
 refine steps_insert (t := 95) (xm := .tmp 1) (xk := .const (.int .i64 8)) (xv := .tmp 9) (n := 8) (val := .agg #[fnK 95, fnK 96, fnK 98, fnK 100]) (by kernel_rfl) (by kernel_rfl) (by kernel_rfl) (by kernel_rfl) (by kernel_rfl) (by kernel_rfl) (by kernel_rfl) (k := 3) (e := 94) (by kernel_rfl) (by kernel_rfl) (by kernel_rfl) ?_
 show wpOps _ _ _ _ _ (withMap w #[⟨.int .i64 1, .agg #[fnK 54, fnK 55, fnK 56, fnK 58], 0⟩, ⟨.int .i64 2, .agg #[fnK 60, fnK 61, fnK 63, fnK 65], 1⟩, ⟨.int .i64 3, .agg #[fnK 67, fnK 68, fnK 70, fnK 71], 2⟩, ⟨.int .i64 4, .agg #[fnK 72, fnK 73, fnK 75, fnK 77], 3⟩, ⟨.int .i64 5, .agg #[fnK 79, fnK 80, fnK 82, fnK 83], 4⟩, ⟨.int .i64 6, .agg #[fnK 84, fnK 85, fnK 87, fnK 89], 5⟩, ⟨.int .i64 7, .agg #[fnK 91, fnK 92, fnK 93, fnK 94], 6⟩, ⟨.int .i64 8, .agg #[fnK 95, fnK 96, fnK 98, fnK 100], 7⟩] 8)
 refine steps_value (d := some 10) (v := .map (some w.heap.size)) (w' := withMap w #[⟨.int .i64 1, .agg #[fnK 54, fnK 55, fnK 56, fnK 58], 0⟩, ⟨.int .i64 2, .agg #[fnK 60, fnK 61, fnK 63, fnK 65], 1⟩, ⟨.int .i64 3, .agg #[fnK 67, fnK 68, fnK 70, fnK 71], 2⟩, ⟨.int .i64 4, .agg #[fnK 72, fnK 73, fnK 75, fnK 77], 3⟩, ⟨.int .i64 5, .agg #[fnK 79, fnK 80, fnK 82, fnK 83], 4⟩, ⟨.int .i64 6, .agg #[fnK 84, fnK 85, fnK 87, fnK 89], 5⟩, ⟨.int .i64 7, .agg #[fnK 91, fnK 92, fnK 93, fnK 94], 6⟩, ⟨.int .i64 8, .agg #[fnK 95, fnK 96, fnK 98, fnK 100], 7⟩] 8) (by kernel_rfl) (by kernel_rfl) (by kernel_rfl) (by kernel_rfl) ?_
 refine steps_value (d := some 0) (v := .map (some w.heap.size)) (w' := withMap w #[⟨.int .i64 1, .agg #[fnK 54, fnK 55, fnK 56, fnK 58], 0⟩, ⟨.int .i64 2, .agg #[fnK 60, fnK 61, fnK 63, fnK 65], 1⟩, ⟨.int .i64 3, .agg #[fnK 67, fnK 68, fnK 70, fnK 71], 2⟩, ⟨.int .i64 4, .agg #[fnK 72, fnK 73, fnK 75, fnK 77], 3⟩, ⟨.int .i64 5, .agg #[fnK 79, fnK 80, fnK 82, fnK 83], 4⟩, ⟨.int .i64 6, .agg #[fnK 84, fnK 85, fnK 87, fnK 89], 5⟩, ⟨.int .i64 7, .agg #[fnK 91, fnK 92, fnK 93, fnK 94], 6⟩, ⟨.int .i64 8, .agg #[fnK 95, fnK 96, fnK 98, fnK 100], 7⟩] 8) (by kernel_rfl) (by kernel_rfl) (by kernel_rfl) (by kernel_rfl) ?_
 show Code.wp _ _ _ _ _
 refine wp_ret ⟨rfl, .map (some w.heap.size), by kernel_rfl, _, rfl, rfl, by kernel_rfl⟩
theorem kinds_ok : PureOk Tryz.prog 28 kindsPure where
 sound := by
  intro args v cs h
  unfold kindsPure at h
  split at h
  ·simp only [Option.some.injEq, Prod.mk.injEq] at h
   obtain ⟨rfl, rfl⟩ := h
   refine ⟨rfl, fun A w vs hA _ hargs => ?_⟩
   obtain rfl := hargs.nil_inv
   refine CallsTo.enter (fn := Tryz.f28) (by kernel_rfl) ⟨callFunc_enter (fn := Tryz.f28) (c := codeOf Tryz.f28) (by kernel_rfl) (by kernel_rfl) (by kernel_rfl) _ _, (kinds_calls w).mono ?_⟩
   rintro e w' ⟨entries, rfl, rfl, he⟩
   refine ⟨_, rfl, .c _ _ (.mp kindsV w.heap.size 8 entries (fun h => absurd (hA _ h) (Nat.lt_irrefl _)) (by unfold withMap; rw [World.size_alloc]; omega) ?_ he), (RowKit.Below.refl _ w).alloc (Nat.le_refl _) _⟩
   show (w.heap.push _)[w.heap.size]? = _
   simp
  ·cases h
def Γk : FuncId → Option Spec := fun f => bif Nat.beq f 28 then some (pureSpec kindsPure) else bif Nat.beq f 262 then some (pureSpec cmpPure) else bif Nat.beq f 260 then some (pureSpec addPure) else none
theorem Γk_ok : ∀ f s, Γk f = some s → SpecOk Tryz.prog f s := by
 intro f s h
 unfold Γk at h
 cases h1 : Nat.beq f 28 with
 | true =>
  obtain rfl : f = 28 := by simpa using h1
  rw [h1] at h
  cases h
  exact kinds_ok.spec
 | false =>
  rw [h1] at h
  simp only [cond_false] at h
  cases h2 : Nat.beq f 262 with
  | true =>
   obtain rfl : f = 262 := by simpa using h2
   rw [h2] at h
   cases h
   exact (cmp_ok cmp_ext).spec
  | false =>
   rw [h2] at h
   simp only [cond_false] at h
   cases h3 : Nat.beq f 260 with
   | true =>
    obtain rfl : f = 260 := by simpa using h3
    rw [h3] at h
    cases h
    exact (add_ok add_ext).spec
   | false => rw [h3] at h; cases h
theorem prog_mixed' : Tryz.prog.follows .mixedOrders = true := by kernel_rfl
theorem known_run : concPure Tryz.prog (concΓ Tryz.prog Γk 70 14) 70 Tryz.f4 [] = some (boolA true, []) := by kernel_rfl
def knownK : List AV → Option (AV × List Bool)
 | [] => some (boolA true, [])
 | _ => none
theorem known_ok : PureOk Tryz.prog 4 knownK where
 sound := by
  intro args v cs h
  unfold knownK at h
  split at h
  ·exact (concPure_ok (N := 70) prog_mixed' (concΓ_ok (N := 70) prog_mixed' Γk_ok 14) (f := 4) (fn := Tryz.f4) (c := codeOf Tryz.f4) (by kernel_rfl) (by kernel_rfl) (by kernel_rfl)).sound [] v cs (by rw [known_run]; exact h)
  ·cases h
end Go.Vse
