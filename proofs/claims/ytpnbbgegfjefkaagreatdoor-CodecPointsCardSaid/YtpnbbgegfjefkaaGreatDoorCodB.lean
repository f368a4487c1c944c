/- Helpers for the proof: no statement of its own. -/
import Derived.Test.YtpnbbgegfjefkaaGreatDoorUnH
import Derived.Test.YtpnbbgegfjefkaaGreatDoorCodA
set_option linter.unusedVariables false
set_option linter.unusedSimpArgs false
set_option linter.unnecessarySimpa false
set_option linter.deprecated false
set_option maxRecDepth 100000
namespace Go.Vse
open Go.Proofs
def went (l : List UInt8) : List (Option Ent) := [some (.cells [.msl 1 l.length 1] 74), some (.arr l.length 1 (byteEl l) 5)]
theorem went_eqv {m m' : Nat} {el : Nat → List IV} (h : m = m') (hb : isBytes m el = true) : EntsEqv [some (.cells [.msl 1 m 1] 74), some (.arr m' 1 el 5)] (went (bytesOf m el)) := by
 subst h
 unfold went
 rw [bytesOf_len]
 exact .cons (.refl _) (.cons (.arr _ _ _ _ _ (byteEl_of_bytes hb)) .nil)
def eW : EForm (List UInt8) where
 parse := fun e => match e with | [some (.cells [.msl 1 m 1] 74), some (.arr m' 1 el 5)] => some (bytesOf m el, [decide (m = m'), isBytes m el]) | _ => none
 ents := went
 ok := by
  intro e x cs h hc
  split at h
  ·simp only [Option.some.injEq, Prod.mk.injEq] at h
   obtain ⟨rfl, rfl⟩ := h
   exact went_eqv (dec (hc _ (by simp))) (hc _ (by simp))
  ·cases h
def argPS : Arg (Bool × ByteArray) where
 get := fun a => match a with | .agg [.c (.v (.bool p)), .c (.v (.string s))] => some ((p, s), []) | _ => none
 put := fun x => .agg [.c (.v (.bool x.1)), .c (.v (.string x.2))]
 ok := by
  intro a x cs h hc
  split at h
  ·cases h; exact Sees.refl _
  ·cases h
def flag (k : Bool) : Int := bif k then 1 else 0
def wholeBs (p : Bool) (s : List UInt8) : List UInt8 := leb (zig (2 * (s.length : Int) + flag p)) ++ s
def truthBs (b : Bool) : List UInt8 := leb (zig (flag b))
def ratBs (q : Rat) : List UInt8 := wholeBs (decide (q.num < 0)) (magB q.num.natAbs) ++ wholeBs false (denB q.den)
def tmBs (n : Int) : List UInt8 := wholeBs (decide (n < 0)) (magB n.natAbs) ++ (wholeBs false (denB 1) ++ ((wholeBs false [] ++ wholeBs false []) ++ truthBs false))
def lineBs (f : L4) : List UInt8 := ratBs f.x0 ++ (ratBs f.x1 ++ (ratBs f.y0 ++ ratBs f.y1))
def unBs (u : Un) : List UInt8 := tmBs u.a ++ (tmBs u.b ++ (truthBs u.oa ++ (truthBs u.ob ++ lineBs u.f)))
def unsBs (U : List Un) : List UInt8 := U.flatMap unBs
def pointsBs (U : List Un) : List UInt8 := leb (zig (U.length : Nat)) ++ unsBs U
def shB (l : List UInt8) : Bool := decide (l.length ≤ 1000)
end Go.Vse
set_option maxHeartbeats 4000000
set_option maxRecDepth 100000
namespace Go.Vse
open Go.Proofs
def Γ27m : FuncId → Option Spec := fun f => bif Nat.beq f 27 then some (memSpec K27) else none
theorem Γ27m_ok : ∀ f s, Γ27m f = some s → SpecOk Tryz.prog f s := one_ok f27_ok.spec
def M127 (l : List UInt8) (p : Bool) (s : ByteArray) : Tr MemOut :=
 let x1 : List UInt8 := s.data.toList
 let x2 : Int := IntKind.i64.wrap (2 * ↑x1.length)
 let x3 : Int := IntKind.i64.wrap (x2 + 1)
 let x4 : Bool := decide (l.length = l.length)
 let x5 : Bool := isBytes l.length (byteEl l)
 let x6 : Bool := decide (l.length ≤ 1099511627776)
 let x7 : List UInt8 := bytesOf l.length (byteEl l)
 let x8 : List UInt8 := x7 ++ leb (zig x3)
 let x9 : Nat := x8.length
 let x10 : Nat := x9 + x1.length
 let x11 : Nat := x10 * 1
 let x12 : List (Option Ent) := [none]
 let x13 : List UInt8 := x7 ++ leb (zig x2)
 let x14 : Nat := x13.length
 let x15 : Nat := x14 + x1.length
 let x16 : Nat := x15 * 1
 .ite p (.need (rangeB x3) (.need x4 (.need x5 (.need x6 (.need (decide (x9 ≤ x9)) (.need (decide (x10 ≤ 9223372036854775807)) (.need (decide (x11 ≤ 140737488355328)) (.ret { val := AV.tup [], outs := some (Ent.cells [AV.msl 2 x10 1] 74) :: x12, new := some (Ent.arr x10 1 (joinE x9 (byteEl x8) (byteEl x1)) 5) })))))))) (.need (rangeB x2) (.need x4 (.need x5 (.need x6 (.need (decide (x14 ≤ x14)) (.need (decide (x15 ≤ 9223372036854775807)) (.need (decide (x16 ≤ 140737488355328)) (.ret { val := AV.tup [], outs := some (Ent.cells [AV.msl 2 x15 1] 74) :: x12, new := some (Ent.arr x15 1 (joinE x14 (byteEl x13) (byteEl x1)) 5) }))))))))
def M57 (l : List UInt8) (b : Bool) : Tr MemOut :=
 let x1 : Bool := decide (l.length = l.length)
 let x2 : Bool := isBytes l.length (byteEl l)
 let x3 : Bool := decide (l.length ≤ 1099511627776)
 let x4 : List UInt8 := bytesOf l.length (byteEl l)
 let x5 : List UInt8 := x4 ++ leb (zig 1)
 let x6 : Nat := x5.length
 let x7 : List (Option Ent) := [none]
 let x8 : List UInt8 := x4 ++ leb (zig 0)
 let x9 : Nat := x8.length
 .ite b (.need true (.need x1 (.need x2 (.need x3 (.ret { val := AV.tup [], outs := some (Ent.cells [AV.msl 2 x6 1] 74) :: x7, new := some (Ent.arr x6 1 (byteEl x5) 5) }))))) (.need true (.need x1 (.need x2 (.need x3 (.ret { val := AV.tup [], outs := some (Ent.cells [AV.msl 2 x9 1] 74) :: x7, new := some (Ent.arr x9 1 (byteEl x8) 5) })))))
theorem MForm.memEq {P : Program} {Γ : FuncId → Option Spec} {N : Nat} {X : Type} (F : MForm X) {out : X → MemOut} {pre : X → List Bool} {frz : Bool} {L : Nat → Option (St → Tr (Ex × St))} (hm : P.follows .mixedOrders = true) (hΓ : ∀ f s, Γ f = some s → SpecOk P f s) {f : FuncId} {fn : Func} {c : Code} (hf : P.funcs[f]? = some fn)
  (hb : fn.body = some c) (hn : okName fn = true) (hl : ∀ e l x cs, F.parse e l = some (x, cs) → BlocksOk P e.length L c) {M : X → Tr MemOut} (hM : ∀ x, execM P Γ L N frz fn (F.ents x) (F.args x) = M x)
  (h : ∀ x, (∀ p ∈ pre x, p = true) → (M x).sat (OutOf (out x))) : MemOk P f (F.K out pre) :=
 F.memOk (L := fun _ => L) hm hΓ hf hb hn hl (fun _ _ _ => rfl) fun x hx => by
  rw [hM x]
  exact h x hx
theorem M127_eq (l : List UInt8) (p : Bool) (s : ByteArray) : execM Tryz.prog Γ27m noL 1010 false Tryz.f127 (went l) [.ptr 0 0, .agg [.c (.v (.bool p)), .c (.v (.string s))]] = M127 l p s := by kernel_rfl
theorem M57_eq (l : List UInt8) (b : Bool) : execM Tryz.prog Γ27m noL 1010 false Tryz.f57 (went l) [.ptr 0 0, .c (.v (.bool b))] = M57 l b := by kernel_rfl
theorem join_byteEl (l m : List UInt8) (k : Nat) : joinE l.length (byteEl l) (byteEl m) k = byteEl (l ++ m) k := by
 unfold joinE byteEl
 by_cases h : k < l.length
 ·rw [if_pos h]
  simp [List.getD_eq_getElem?_getD, List.getElem?_append_left h]
 ·rw [if_neg h]
  simp [List.getD_eq_getElem?_getD, List.getElem?_append_right (Nat.le_of_not_lt h)]
theorem w_out (l m : List UInt8) : OutOf (wOut2 (l ++ m)) { val := .tup [], outs := [some (.cells [.msl 2 (l.length + m.length) 1] 74), none], new := some (.arr (l.length + m.length) 1 (joinE l.length (byteEl l) (byteEl m)) 5) } := by
 refine ⟨Sees.refl _, ?_⟩
 unfold wOut2
 simp only [List.length_append, List.cons_append, List.nil_append]
 exact .cons (.refl _) (.cons (.refl _) (.cons (.arr _ _ _ _ _ fun k _ => join_byteEl l m k) .nil))
theorem wholeBs_len (p : Bool) (s : List UInt8) : (wholeBs p s).length ≤ 11 + s.length := by
 unfold wholeBs
 have := leb_len (zig (2 * (s.length : Int) + flag p))
 rw [List.length_append]
 omega
theorem truthBs_len (b : Bool) : (truthBs b).length ≤ 11 := leb_len _
theorem M127_sat (l : List UInt8) (p : Bool) (s : ByteArray) (h : s.data.toList.length ≤ 1000) (hl : l.length ≤ 1000000) : (M127 l p s).sat (OutOf (wOut2 (l ++ wholeBs p s.data.toList))) := by
 have hw : IntKind.i64.wrap (2 * (s.data.toList.length : Int)) = 2 * (s.data.toList.length : Int) := wrap_i64 (by omega)
 have hw2 : IntKind.i64.wrap (2 * (s.data.toList.length : Int) + 1) = 2 * (s.data.toList.length : Int) + 1 := wrap_i64 (by omega)
 have r1 : rangeB (2 * (s.data.toList.length : Int)) = true := by unfold rangeB; simp only [Bool.and_eq_true, decide_eq_true_eq]; omega
 have r2 : rangeB (2 * (s.data.toList.length : Int) + 1) = true := by unfold rangeB; simp only [Bool.and_eq_true, decide_eq_true_eq]; omega
 have e1 : (leb (zig (2 * (s.data.toList.length : Int)))).length ≤ 11 := leb_len _
 have e2 : (leb (zig (2 * (s.data.toList.length : Int) + 1))).length ≤ 11 := leb_len _
 simp only [M127, hw, hw2, bytesOf_byteEl, isBytes_byteEl, r1, r2, Nat.le_refl, eq_self, decide_true, sat_true, List.length_append]
 refine sat_ite (fun hp => ?_) (fun hp => ?_)
 ·subst hp
  repeat
   first
    | refine sat_need rfl ?_
    | refine sat_need (decide_eq_true (by omega)) ?_
  refine sat_ret ?_
  have := w_out (l ++ leb (zig (2 * (s.data.toList.length : Int) + 1))) s.data.toList
  simp only [List.length_append, List.append_assoc] at this
  exact this
 ·subst hp
  repeat
   first
    | refine sat_need rfl ?_
    | refine sat_need (decide_eq_true (by omega)) ?_
  refine sat_ret ?_
  have := w_out (l ++ leb (zig (2 * (s.data.toList.length : Int)))) s.data.toList
  simp only [List.length_append, List.append_assoc] at this
  have e0 : wholeBs false s.data.toList = leb (zig (2 * (s.data.toList.length : Int))) ++ s.data.toList := by
   unfold wholeBs flag
   simp
  rw [e0]
  exact this
theorem M57_sat (l : List UInt8) (b : Bool) (hl : l.length ≤ 1000000) : (M57 l b).sat (OutOf (wOut2 (l ++ truthBs b))) := by
 have hd : decide (l.length ≤ 1099511627776) = true := decide_eq_true (by omega)
 simp only [M57, bytesOf_byteEl, isBytes_byteEl, eq_self, decide_true, hd, sat_true]
 refine sat_ite (fun hp => ?_) (fun hp => ?_)
 ·subst hp
  exact sat_need rfl (sat_need rfl (sat_need rfl (sat_need rfl (sat_ret (OutOf.refl _)))))
 ·subst hp
  exact sat_need rfl (sat_need rfl (sat_need rfl (sat_need rfl (sat_ret (OutOf.refl _)))))
def K127 : MSpec := (MForm.with eW (.cons (argPtr 0 0) (.cons argPS .nil))).K (fun x => wOut2 (x.2 ++ wholeBs x.1.2.1.1 x.1.2.1.2.data.toList)) fun x => [shB x.1.2.1.2.data.toList, decide (x.2.length ≤ 1000000)]
theorem f127_ok : MemOk Tryz.prog 127 K127 :=
 (MForm.with eW (.cons (argPtr 0 0) (.cons argPS .nil))).memEq (N := 1010) (frz := false) (L := noL) prog_mixed Γ27m_ok (fn := Tryz.f127) (c := codeOf Tryz.f127) (by kernel_rfl) (by kernel_rfl) (by kernel_rfl)
  (fun e l x cs h => blocksOk_none _ _) (M := fun x => M127 x.2 x.1.2.1.1 x.1.2.1.2) (fun x => M127_eq x.2 x.1.2.1.1 x.1.2.1.2)
  fun x h => M127_sat x.2 x.1.2.1.1 x.1.2.1.2 (dec (h (decide (x.1.2.1.2.data.toList.length ≤ 1000)) (by simp [shB]))) (dec (h (decide (x.2.length ≤ 1000000)) (by simp)))
def K57 : MSpec := (MForm.with eW (.cons (argPtr 0 0) (.cons argBool .nil))).K (fun x => wOut2 (x.2 ++ truthBs x.1.2.1)) fun x => [decide (x.2.length ≤ 1000000)]
theorem f57_ok : MemOk Tryz.prog 57 K57 :=
 (MForm.with eW (.cons (argPtr 0 0) (.cons argBool .nil))).memEq (N := 1010) (frz := false) (L := noL) prog_mixed Γ27m_ok (fn := Tryz.f57) (c := codeOf Tryz.f57) (by kernel_rfl) (by kernel_rfl) (by kernel_rfl)
  (fun e l x cs h => blocksOk_none _ _) (M := fun x => M57 x.2 x.1.2.1) (fun x => M57_eq x.2 x.1.2.1)
  fun x h => M57_sat x.2 x.1.2.1 (dec (h (decide (x.2.length ≤ 1000000)) (by simp)))
def Γb37 : FuncId → Option Spec := fun f => bif Nat.beq f 127 then some (memSpec K127) else bif Nat.beq f 57 then some (memSpec K57) else none
theorem Γb37_ok : ∀ f s, Γb37 f = some s → SpecOk Tryz.prog f s := step_ok f127_ok.spec (one_ok f57_ok.spec)
def M37 (l : List UInt8) (u : Un) : Tr MemOut :=
 let x1 : List UInt8 := magB u.a.natAbs
 let x2 : List UInt8 := bytesOf l.length (byteEl l)
 let x3 : Nat := x2.length
 let x4 : List UInt8 := x2 ++ wholeBs (decide (u.a < 0)) x1
 let x5 : Nat := x4.length
 let x6 : List UInt8 := bytesOf x5 (byteEl x4)
 let x7 : Nat := x6.length
 let x8 : List UInt8 := wholeBs false (denB 1)
 let x9 : List UInt8 := x6 ++ x8
 let x10 : Nat := x9.length
 let x11 : List UInt8 := bytesOf x10 (byteEl x9)
 let x12 : Nat := x11.length
 let x13 : List UInt8 := wholeBs false []
 let x14 : List UInt8 := x11 ++ x13
 let x15 : Nat := x14.length
 let x16 : List UInt8 := bytesOf x15 (byteEl x14)
 let x17 : Nat := x16.length
 let x18 : List UInt8 := x16 ++ x13
 let x19 : Nat := x18.length
 let x20 : List UInt8 := bytesOf x19 (byteEl x18)
 let x21 : Nat := x20.length
 let x22 : List UInt8 := x20 ++ truthBs false
 let x23 : Nat := x22.length
 let x24 : List UInt8 := magB u.b.natAbs
 let x25 : List UInt8 := bytesOf x23 (byteEl x22)
 let x26 : Nat := x25.length
 let x27 : List UInt8 := x25 ++ wholeBs (decide (u.b < 0)) x24
 let x28 : Nat := x27.length
 let x29 : List UInt8 := bytesOf x28 (byteEl x27)
 let x30 : Nat := x29.length
 let x31 : List UInt8 := x29 ++ x8
 let x32 : Nat := x31.length
 let x33 : List UInt8 := bytesOf x32 (byteEl x31)
 let x34 : Nat := x33.length
 let x35 : List UInt8 := x33 ++ x13
 let x36 : Nat := x35.length
 let x37 : List UInt8 := bytesOf x36 (byteEl x35)
 let x38 : Nat := x37.length
 let x39 : List UInt8 := x37 ++ x13
 let x40 : Nat := x39.length
 let x41 : List UInt8 := bytesOf x40 (byteEl x39)
 let x42 : Nat := x41.length
 let x43 : List UInt8 := x41 ++ truthBs false
 let x44 : Nat := x43.length
 let x45 : List UInt8 := bytesOf x44 (byteEl x43)
 let x46 : Nat := x45.length
 let x47 : List UInt8 := x45 ++ truthBs u.oa
 let x48 : Nat := x47.length
 let x49 : List UInt8 := bytesOf x48 (byteEl x47)
 let x50 : Nat := x49.length
 let x51 : List UInt8 := x49 ++ truthBs u.ob
 let x52 : Nat := x51.length
 let x53 : Int := u.f.x0.num
 let x54 : List UInt8 := magB x53.natAbs
 let x55 : List UInt8 := bytesOf x52 (byteEl x51)
 let x56 : Nat := x55.length
 let x57 : List UInt8 := x55 ++ wholeBs (decide (x53 < 0)) x54
 let x58 : Nat := x57.length
 let x59 : List UInt8 := denB u.f.x0.den
 let x60 : List UInt8 := bytesOf x58 (byteEl x57)
 let x61 : Nat := x60.length
 let x62 : List UInt8 := x60 ++ wholeBs false x59
 let x63 : Nat := x62.length
 let x64 : Int := u.f.x1.num
 let x65 : List UInt8 := magB x64.natAbs
 let x66 : List UInt8 := bytesOf x63 (byteEl x62)
 let x67 : Nat := x66.length
 let x68 : List UInt8 := x66 ++ wholeBs (decide (x64 < 0)) x65
 let x69 : Nat := x68.length
 let x70 : List UInt8 := denB u.f.x1.den
 let x71 : List UInt8 := bytesOf x69 (byteEl x68)
 let x72 : Nat := x71.length
 let x73 : List UInt8 := x71 ++ wholeBs false x70
 let x74 : Nat := x73.length
 let x75 : Int := u.f.y0.num
 let x76 : List UInt8 := magB x75.natAbs
 let x77 : List UInt8 := bytesOf x74 (byteEl x73)
 let x78 : Nat := x77.length
 let x79 : List UInt8 := x77 ++ wholeBs (decide (x75 < 0)) x76
 let x80 : Nat := x79.length
 let x81 : List UInt8 := denB u.f.y0.den
 let x82 : List UInt8 := bytesOf x80 (byteEl x79)
 let x83 : Nat := x82.length
 let x84 : List UInt8 := x82 ++ wholeBs false x81
 let x85 : Nat := x84.length
 let x86 : Int := u.f.y1.num
 let x87 : List UInt8 := magB x86.natAbs
 let x88 : List UInt8 := bytesOf x85 (byteEl x84)
 let x89 : Nat := x88.length
 let x90 : List UInt8 := x88 ++ wholeBs (decide (x86 < 0)) x87
 let x91 : Nat := x90.length
 let x92 : List UInt8 := denB u.f.y1.den
 let x93 : List UInt8 := bytesOf x91 (byteEl x90)
 let x94 : Nat := x93.length
 let x95 : List UInt8 := x93 ++ wholeBs false x92
 let x96 : Nat := x95.length
 .need true (.need true (.need (decide (l.length = l.length)) (.need (isBytes l.length (byteEl l)) (.need (shB x1) (.need (decide (x3 ≤ 1000000)) (.need (decide (x5 = x5)) (.need (isBytes x5 (byteEl x4)) (.need true (.need (decide (x7 ≤ 1000000)) (.need true (.need true (.need (decide (x10 = x10)) (.need (isBytes x10 (byteEl x9)) (.need true (.need (decide (x12 ≤ 1000000)) (.need (decide (x15 = x15)) (.need (isBytes x15 (byteEl x14)) (.need true (.need (decide (x17 ≤ 1000000)) (.need (decide (x19 = x19)) (.need (isBytes x19 (byteEl x18)) (.need (decide (x21 ≤ 1000000)) (.need true (.need true (.need (decide (x23 = x23)) (.need (isBytes x23 (byteEl x22)) (.need (shB x24) (.need (decide (x26 ≤ 1000000)) (.need (decide (x28 = x28)) (.need (isBytes x28 (byteEl x27)) (.need true (.need (decide (x30 ≤ 1000000)) (.need true (.need true (.need (decide (x32 = x32)) (.need (isBytes x32 (byteEl x31)) (.need true (.need (decide (x34 ≤ 1000000)) (.need (decide (x36 = x36)) (.need (isBytes x36 (byteEl x35)) (.need true (.need (decide (x38 ≤ 1000000)) (.need (decide (x40 = x40)) (.need (isBytes x40 (byteEl x39)) (.need (decide (x42 ≤ 1000000)) (.need (decide (x44 = x44)) (.need (isBytes x44 (byteEl x43)) (.need (decide (x46 ≤ 1000000)) (.need (decide (x48 = x48)) (.need (isBytes x48 (byteEl x47)) (.need (decide (x50 ≤ 1000000)) (.need true (.need true (.need (decide (x52 = x52)) (.need (isBytes x52 (byteEl x51)) (.need (shB x54) (.need (decide (x56 ≤ 1000000)) (.need (decide (x58 = x58)) (.need (isBytes x58 (byteEl x57)) (.need (shB x59) (.need (decide (x61 ≤ 1000000)) (.need true (.need true (.need (decide (x63 = x63)) (.need (isBytes x63 (byteEl x62)) (.need (shB x65) (.need (decide (x67 ≤ 1000000)) (.need (decide (x69 = x69)) (.need (isBytes x69 (byteEl x68)) (.need (shB x70) (.need (decide (x72 ≤ 1000000)) (.need true (.need true (.need (decide (x74 = x74)) (.need (isBytes x74 (byteEl x73)) (.need (shB x76) (.need (decide (x78 ≤ 1000000)) (.need (decide (x80 = x80)) (.need (isBytes x80 (byteEl x79)) (.need (shB x81) (.need (decide (x83 ≤ 1000000)) (.need true (.need true (.need (decide (x85 = x85)) (.need (isBytes x85 (byteEl x84)) (.need (shB x87) (.need (decide (x89 ≤ 1000000)) (.need (decide (x91 = x91)) (.need (isBytes x91 (byteEl x90)) (.need (shB x92) (.need (decide (x94 ≤ 1000000)) (.ret { val := AV.tup [], outs := [some (Ent.cells [AV.ptr 1 0] 97), some (Ent.cells [AV.msl 3 x96 1] 74), none], new := some (Ent.arr x96 1 (byteEl x95) 5) }))))))))))))))))))))))))))))))))))))))))))))))))))))))))))))))))))))))))))))))))))))))))))))
theorem M37_eq (l : List UInt8) (u : Un) : execM Tryz.prog (inlΓ Tryz.prog Γb37 (fun _ => false) 1010 4) noL 1010 false Tryz.f37 [some (.cells [.ptr 1 0] 97), some (.cells [.msl 2 l.length 1] 74), some (.arr l.length 1 (byteEl l) 5)] [uniA u, .ptr 0 0] = M37 l u := by kernel_rfl
def okW (u : Un) : Bool := shB (magB u.a.natAbs) && (shB (magB u.b.natAbs) && (shB (magB u.f.x0.num.natAbs) && (shB (magB u.f.x1.num.natAbs) && (shB (magB u.f.y0.num.natAbs) && (shB (magB u.f.y1.num.natAbs) && (shB (denB u.f.x0.den) && (shB (denB u.f.x1.den) && (shB (denB u.f.y0.den) && shB (denB u.f.y1.den)))))))))
def wOut37 (l : List UInt8) : MemOut := { val := .tup [], outs := [some (.cells [.ptr 1 0] 97), some (.cells [.msl 3 l.length 1] 74), none], new := some (.arr l.length 1 (byteEl l) 5) }
theorem sh_len {p : Bool} {s : List UInt8} (h : shB s = true) : (wholeBs p s).length ≤ 1011 := by
 have := wholeBs_len p s
 have h : s.length ≤ 1000 := dec h
 omega
theorem app20 (l a1 a2 a3 a4 a5 b1 b2 b3 b4 b5 c1 c2 d1 d2 d3 d4 d5 d6 d7 d8 : List UInt8) : l ++ ((a1 ++ (a2 ++ ((a3 ++ a4) ++ a5))) ++ ((b1 ++ (b2 ++ ((b3 ++ b4) ++ b5))) ++ (c1 ++ (c2 ++ ((d1 ++ d2) ++ ((d3 ++ d4) ++ ((d5 ++ d6) ++ (d7 ++ d8)))))))) =
  l ++ a1 ++ a2 ++ a3 ++ a4 ++ a5 ++ b1 ++ b2 ++ b3 ++ b4 ++ b5 ++ c1 ++ c2 ++ d1 ++ d2 ++ d3 ++ d4 ++ d5 ++ d6 ++ d7 ++ d8 := by simp only [List.append_assoc]
theorem M37_sat (l : List UInt8) (u : Un) (h : okW u = true) (hl : l.length ≤ 500000) : (M37 l u).sat (OutOf (wOut37 (l ++ unBs u))) := by
 simp only [okW, Bool.and_eq_true] at h
 obtain ⟨h1, h2, h3, h4, h5, h6, h7, h8, h9, h10⟩ := h
 have t1 := truthBs_len false
 have t2 := truthBs_len u.oa
 have t3 := truthBs_len u.ob
 have z1 : (wholeBs false []).length ≤ 11 := wholeBs_len false []
 have z2 : (wholeBs false (denB 1)).length ≤ 11 := wholeBs_len false []
 have s1 : shB (denB 1) = true := by decide
 have s2 : shB [] = true := by decide
 have n0 : (wholeBs (decide (u.a < 0)) (magB u.a.natAbs)).length ≤ 1011 := sh_len (by assumption)
 have n1 : (wholeBs (decide (u.b < 0)) (magB u.b.natAbs)).length ≤ 1011 := sh_len (by assumption)
 have n2 : (wholeBs (decide (u.f.x0.num < 0)) (magB u.f.x0.num.natAbs)).length ≤ 1011 := sh_len (by assumption)
 have n3 : (wholeBs (decide (u.f.x1.num < 0)) (magB u.f.x1.num.natAbs)).length ≤ 1011 := sh_len (by assumption)
 have n4 : (wholeBs (decide (u.f.y0.num < 0)) (magB u.f.y0.num.natAbs)).length ≤ 1011 := sh_len (by assumption)
 have n5 : (wholeBs (decide (u.f.y1.num < 0)) (magB u.f.y1.num.natAbs)).length ≤ 1011 := sh_len (by assumption)
 have n6 : (wholeBs false (denB u.f.x0.den)).length ≤ 1011 := sh_len (by assumption)
 have n7 : (wholeBs false (denB u.f.x1.den)).length ≤ 1011 := sh_len (by assumption)
 have n8 : (wholeBs false (denB u.f.y0.den)).length ≤ 1011 := sh_len (by assumption)
 have n9 : (wholeBs false (denB u.f.y1.den)).length ≤ 1011 := sh_len (by assumption)
 have hd : denB 1 = [] := rfl
 simp only [M37, bytesOf_byteEl, isBytes_byteEl, h1, h2, h3, h4, h5, h6, h7, h8, h9, h10, s1, s2, eq_self, decide_true, sat_true]
 simp only [List.length_append]
 repeat
  first
   | refine sat_need rfl ?_
   | refine sat_need (decide_eq_true (by omega)) ?_
 refine sat_ret ?_
 have : l ++ unBs u = l ++ wholeBs (decide (u.a < 0)) (magB u.a.natAbs) ++ wholeBs false (denB 1) ++ wholeBs false [] ++ wholeBs false [] ++ truthBs false ++ wholeBs (decide (u.b < 0)) (magB u.b.natAbs) ++ wholeBs false (denB 1) ++ wholeBs false [] ++ wholeBs false [] ++ truthBs false ++ truthBs u.oa ++ truthBs u.ob ++ wholeBs (decide (u.f.x0.num < 0)) (magB u.f.x0.num.natAbs) ++ wholeBs false (denB u.f.x0.den) ++ wholeBs (decide (u.f.x1.num < 0)) (magB u.f.x1.num.natAbs) ++ wholeBs false (denB u.f.x1.den) ++ wholeBs (decide (u.f.y0.num < 0)) (magB u.f.y0.num.natAbs) ++ wholeBs false (denB u.f.y0.den) ++ wholeBs (decide (u.f.y1.num < 0)) (magB u.f.y1.num.natAbs) ++ wholeBs false (denB u.f.y1.den) := by
  unfold unBs tmBs lineBs ratBs
  exact app20 _ _ _ _ _ _ _ _ _ _ _ _ _ _ _ _ _ _ _ _ _
 unfold wOut37
 rw [this]
 simp only [List.length_append]
 exact OutOf.refl _
end Go.Vse
set_option maxHeartbeats 4000000
set_option maxRecDepth 100000
namespace Go.Vse
open Go.Proofs
def eW37 : EForm (List UInt8) where
 parse := fun e => match e with | [some (.cells [.ptr 1 0] 97), some (.cells [.msl 2 m 1] 74), some (.arr m' 1 el 5)] => some (bytesOf m el, [decide (m = m'), isBytes m el]) | _ => none
 ents := fun l => [some (.cells [.ptr 1 0] 97), some (.cells [.msl 2 l.length 1] 74), some (.arr l.length 1 (byteEl l) 5)]
 ok := by
  intro e x cs h hc
  split at h
  ·rename_i m m' el
   simp only [Option.some.injEq, Prod.mk.injEq] at h
   obtain ⟨rfl, rfl⟩ := h
   have h1 : m = m' := dec (hc (decide (m = m')) (by simp))
   have h2 : isBytes m el = true := hc (isBytes m el) (by simp)
   subst h1
   rw [bytesOf_len]
   exact .cons (.refl _) (.cons (.refl _) (.cons (.arr _ _ _ _ _ (byteEl_of_bytes h2)) .nil))
  ·cases h
def eW36 : EForm (List UInt8) where
 parse := fun e => match e with | [some (.cells [.msl 2 m 1] 74), some (.cells [.ptr 0 0] 97), some (.arr m' 1 el 5)] => some (bytesOf m el, [decide (m = m'), isBytes m el]) | _ => none
 ents := fun l => [some (.cells [.msl 2 l.length 1] 74), some (.cells [.ptr 0 0] 97), some (.arr l.length 1 (byteEl l) 5)]
 ok := by
  intro e x cs h hc
  split at h
  ·rename_i m m' el
   simp only [Option.some.injEq, Prod.mk.injEq] at h
   obtain ⟨rfl, rfl⟩ := h
   have h1 : m = m' := dec (hc (decide (m = m')) (by simp))
   have h2 : isBytes m el = true := hc (isBytes m el) (by simp)
   subst h1
   rw [bytesOf_len]
   exact .cons (.refl _) (.cons (.refl _) (.cons (.arr _ _ _ _ _ (byteEl_of_bytes h2)) .nil))
  ·cases h
def eN36 : EForm Unit where
 parse := fun e => match e with | [some (.cells [.c (.v (.slice none 0 0))] 74), some (.cells [.ptr 0 0] 97)] => some ((), []) | _ => none
 ents := fun _ => [some (.cells [.c (.v (.slice none 0 0))] 74), some (.cells [.ptr 0 0] 97)]
 ok := by
  intro e x cs h hc
  split at h
  ·exact EntsEqv.refl _
  ·cases h
theorem eN36_len {e : List (Option Ent)} {x : Unit} {cs : List Bool} (h : eN36.parse e = some (x, cs)) : e.length = 2 := by
 simp only [eN36] at h
 split at h
 ·rfl
 ·cases h
def K37 : MSpec := (MForm.with eW37 (.cons argUn (.cons (argPtr 0 0) .nil))).K (fun x => wOut37 (x.2 ++ unBs x.1.1)) fun x => [okW x.1.1, decide (x.2.length ≤ 500000)]
theorem f37_ok : MemOk Tryz.prog 37 K37 :=
 (MForm.with eW37 (.cons argUn (.cons (argPtr 0 0) .nil))).memEq (N := 1010) (frz := false) (L := noL) prog_mixed (inlΓ_ok prog_mixed Γb37_ok 4) (fn := Tryz.f37) (c := codeOf Tryz.f37) (by kernel_rfl) (by kernel_rfl) (by kernel_rfl)
  (fun e l x cs h => blocksOk_none _ _) (M := fun x => M37 x.2 x.1.1) (fun x => M37_eq x.2 x.1.1)
  fun x h => M37_sat x.2 x.1.1 (h _ (by simp)) (dec (h (decide (x.2.length ≤ 500000)) (by simp)))
def Γ36 : FuncId → Option Spec := fun f => bif Nat.beq f 27 then some (memSpec K27) else bif Nat.beq f 37 then some (memSpec K37) else none
theorem Γ36_ok : ∀ f s, Γ36 f = some s → SpecOk Tryz.prog f s := step_ok f27_ok.spec (one_ok f37_ok.spec)
abbrev T36 := (Unit × List Un × Int × Int × Unit) × List UInt8
abbrev F36 : Form (Unit × List Un × Int × Int × Unit) := .cons (argFn1 37 1 0) (.cons argUs (.cons argInt (.cons argInt .nil)))
def pre36 (x : T36) : Bool := decide (x.1.2.2.1 = (x.1.2.1.length : Nat)) && (decide (x.1.2.2.2.1 = 0) && (x.1.2.1.all okW && (decide (x.1.2.1.length ≤ 19) && decide (x.2.length ≤ 1000))))
def lp36 : LoopSt T36 (Unit × List UInt8) := lpF { nt := 22, live := [2, 12, 13, 14] } { nt := 22, live := [] } (MForm.with eW36 F36) (MForm.with eW36 Form.nil) (fun x => ((), x.2 ++ unsBs x.1.2.1)) pre36
theorem lp36_good : lp36.Good2 := lpF_good _ _ _ _ _ _
def L36 : Nat → Option (St → Tr (Ex × St)) := fun id => bif Nat.beq id 0 then some (lp36.g 2) else none
def step36 (U : List Un) (n : Int) (i : Int) (l : List UInt8) : Tr (T36 ⊕ Unit × List UInt8) :=
 let x1 : Int := ↑U.length
 let x2 : Int := (U.getD i.toNat u0).a
 let x3 : Int := (U.getD i.toNat u0).b
 let x4 : Int := (U.getD i.toNat u0).f.x0.num
 let x5 : Int := (U.getD i.toNat u0).f.x1.num
 let x6 : Int := (U.getD i.toNat u0).f.y0.num
 let x7 : Int := (U.getD i.toNat u0).f.y1.num
 let x8 : List AV := [.c (.v (.bool (decide (x2 < 0)))), .c (.v (.string ⟨⟨magB x2.natAbs⟩⟩)), .c (.v (.bool false)), .c (.v (.string ⟨⟨denB 1⟩⟩)), .c (.v (.bool false)), .c (.v (.string ⟨⟨[]⟩⟩)), .c (.v (.bool false)), .c (.v (.string ⟨⟨[]⟩⟩)), .c (.v (.bool false)), .c (.v (.bool (decide (x3 < 0)))), .c (.v (.string ⟨⟨magB x3.natAbs⟩⟩)), .c (.v (.bool false)), .c (.v (.string ⟨⟨denB 1⟩⟩)), .c (.v (.bool false)), .c (.v (.string ⟨⟨[]⟩⟩)), .c (.v (.bool false)), .c (.v (.string ⟨⟨[]⟩⟩)), .c (.v (.bool false)), .c (.v (.bool (U.getD i.toNat u0).oa)), .c (.v (.bool (U.getD i.toNat u0).ob)), .c (.v (.bool (decide (x4 < 0)))), .c (.v (.string ⟨⟨magB x4.natAbs⟩⟩)), .c (.v (.bool false)), .c (.v (.string ⟨⟨denB (U.getD i.toNat u0).f.x0.den⟩⟩)), .c (.v (.bool (decide (x5 < 0)))), .c (.v (.string ⟨⟨magB x5.natAbs⟩⟩)), .c (.v (.bool false)), .c (.v (.string ⟨⟨denB (U.getD i.toNat u0).f.x1.den⟩⟩)), .c (.v (.bool (decide (x6 < 0)))), .c (.v (.string ⟨⟨magB x6.natAbs⟩⟩)), .c (.v (.bool false)), .c (.v (.string ⟨⟨denB (U.getD i.toNat u0).f.y0.den⟩⟩)), .c (.v (.bool (decide (x7 < 0)))), .c (.v (.string ⟨⟨magB x7.natAbs⟩⟩)), .c (.v (.bool false)), .c (.v (.string ⟨⟨denB (U.getD i.toNat u0).f.y1.den⟩⟩))]
 let x9 : Bool := decide (l.length = l.length)
 let x10 : Bool := isBytes l.length (byteEl l)
 let x11 : List UInt8 := bytesOf l.length (byteEl l)
 let x12 : Nat := x11.length
 let x13 : List UInt8 := x11 ++ unBs (unV x8)
 let x14 : Nat := x13.length
 .ite (decide (i < n)) (.need (decide (0 ≤ i ∧ i < x1)) (.need (unOk x8) (.need x9 (.need x10 (.need (okW (unV x8)) (.need (decide (x12 ≤ 500000)) (.need (unsOk U.length (unEl U)) (.need (decide (x14 = x14)) (.need (isBytes x14 (byteEl x13)) (.ret (Sum.inl (((), unsOf U.length (unEl U), n, IntKind.i64.wrap (i + 1), ()), bytesOf x14 (byteEl x13))))))))))))) (.need x9 (.need x10 (.ret (Sum.inr ((), x11)))))
def M36 (U : List Un) : Tr MemOut :=
 let x1 : Int := ↑U.length
 let x2 : List UInt8 := leb (zig x1)
 let x3 : Nat := x2.length
 let x4 : List Un := unsOf U.length (unEl U)
 let x5 : List UInt8 := bytesOf x3 (byteEl x2)
 let x6 : List UInt8 := x5 ++ unsBs x4
 let x7 : Nat := x6.length
 .need (rangeB x1) (.need (unsOk U.length (unEl U)) (.need (decide (x3 = x3)) (.need (isBytes x3 (byteEl x2)) (.need (pre36 (((), x4, x1, 0, ()), x5)) (.ret { val := AV.tup [], outs := [some (Ent.cells [AV.msl 2 x7 1] 74), some (Ent.cells [AV.ptr 0 0] 97)], new := some (Ent.arr x7 1 (byteEl x6) 5) })))))
theorem step36_eq (x : T36) : (exec Tryz.prog Γ36 noL 1010 (loopOf 0 (codeOf Tryz.f36)) (mkSt lp36.nIn (lp36.head x))).bind (lp36.fin 2 0) = step36 x.1.2.1 x.1.2.2.1 x.1.2.2.2.1 x.2 := by
 obtain ⟨⟨⟨⟩, U, n, i, ⟨⟩⟩, l⟩ := x
 kernel_rfl
theorem M36_eq (U : List Un) : execM Tryz.prog Γ36 L36 1010 false Tryz.f36 [some (.cells [.c (.v (.slice none 0 0))] 74), some (.cells [.ptr 0 0] 97)] [.ptr 0 0, usA U, .fn 37 [.ptr 1 0]] = M36 U := by kernel_rfl
theorem unBs_len {u : Un} (h : okW u = true) : (unBs u).length ≤ 20220 := by
 simp only [okW, Bool.and_eq_true] at h
 obtain ⟨h1, h2, h3, h4, h5, h6, h7, h8, h9, h10⟩ := h
 have t1 := truthBs_len false
 have t2 := truthBs_len u.oa
 have t3 := truthBs_len u.ob
 have z1 : (wholeBs false []).length ≤ 11 := wholeBs_len false []
 have z2 : (wholeBs false (denB 1)).length ≤ 11 := wholeBs_len false []
 have n0 : (wholeBs (decide (u.a < 0)) (magB u.a.natAbs)).length ≤ 1011 := sh_len (by assumption)
 have n1 : (wholeBs (decide (u.b < 0)) (magB u.b.natAbs)).length ≤ 1011 := sh_len (by assumption)
 have n2 : (wholeBs (decide (u.f.x0.num < 0)) (magB u.f.x0.num.natAbs)).length ≤ 1011 := sh_len (by assumption)
 have n3 : (wholeBs (decide (u.f.x1.num < 0)) (magB u.f.x1.num.natAbs)).length ≤ 1011 := sh_len (by assumption)
 have n4 : (wholeBs (decide (u.f.y0.num < 0)) (magB u.f.y0.num.natAbs)).length ≤ 1011 := sh_len (by assumption)
 have n5 : (wholeBs (decide (u.f.y1.num < 0)) (magB u.f.y1.num.natAbs)).length ≤ 1011 := sh_len (by assumption)
 have n6 : (wholeBs false (denB u.f.x0.den)).length ≤ 1011 := sh_len (by assumption)
 have n7 : (wholeBs false (denB u.f.x1.den)).length ≤ 1011 := sh_len (by assumption)
 have n8 : (wholeBs false (denB u.f.y0.den)).length ≤ 1011 := sh_len (by assumption)
 have n9 : (wholeBs false (denB u.f.y1.den)).length ≤ 1011 := sh_len (by assumption)
 unfold unBs tmBs lineBs ratBs
 simp only [List.length_append]
 omega
theorem unsBs_len {U : List Un} (h : U.all okW = true) : (unsBs U).length ≤ 20220 * U.length := by
 induction U with
 | nil => simp [unsBs]
 | cons u U ih =>
  simp only [List.all_cons, Bool.and_eq_true] at h
  have := ih h.2
  have := unBs_len h.1
  have e : unsBs (u :: U) = unBs u ++ unsBs U := by simp [unsBs]
  rw [e, List.length_append, List.length_cons]
  omega
theorem all_okW {U : List Un} (h : U.all okW = true) {i : Nat} (hi : i < U.length) : okW (U.getD i u0) = true := by
 have : U.getD i u0 = U[i] := by simp [List.getD_eq_getElem?_getD, hi]
 rw [this]
 exact List.all_eq_true.1 h _ (List.getElem_mem hi)
theorem step36_in (U : List Un) (i : Nat) (l : List UInt8) (hU : U.all okW = true) (hl : i < U.length) (hn : U.length ≤ 19) (hb : l.length ≤ 450000) (Q : T36 ⊕ Unit × List UInt8 → Prop) (hq : Q (.inl (((), U, (U.length : Nat), ((i + 1 : Nat) : Int), ()), l ++ unBs (U.getD i u0)))) : (step36 U (U.length : Nat) (i : Nat) l).sat Q := by
 have hw1 : IntKind.i64.wrap ((i : Int) + 1) = ((i + 1 : Nat) : Int) := by rw [wrap_i64 (by omega)]; omega
 have c1 : decide ((0 : Int) ≤ (i : Int) ∧ (i : Int) < (U.length : Int)) = true := decide_eq_true (by omega)
 have c2 : decide ((i : Int) < (U.length : Int)) = true := decide_eq_true (by omega)
 have c3 : decide (l.length ≤ 500000) = true := decide_eq_true (by omega)
 have hk := all_okW hU hl
 simp only [step36, Int.toNat_natCast, c1, c2]
 simp only [↓un_fold, ↓iv_fold, ↓ln_fold, ↓tm_fold, un_eta, iv_eta, take_un1, take_un2, take_iv1, take_iv2, tmV_cells, tmOk_cells, unV_cells, unOk_cells, ivV_lit, ivOk_lit, lineV_cells, lineOk_cells, unsOf_el, unsOk_units, sat_true, bytesOf_byteEl, isBytes_byteEl, hk, c3, hw1, eq_self, decide_true]
 repeat first
  | refine sat_need rfl ?_
  | refine sat_ite (fun h => Bool.noConfusion h) (fun _ => ?_)
  | refine sat_ite (fun _ => ?_) (fun h => Bool.noConfusion h)
 exact sat_ret hq
theorem runs36 (U : List Un) (hU : U.all okW = true) (hn : U.length ≤ 19) (Q : Unit × List UInt8 → Prop) : ∀ (k i : Nat) (l : List UInt8), i + k = U.length → l.length ≤ 1000 + 20220 * i → Q ((), l ++ unsBs (U.drop i)) → RunsX (fun x : T36 => step36 x.1.2.1 x.1.2.2.1 x.1.2.2.2.1 x.2) Q (k + 1) (((), U, (U.length : Nat), (i : Nat), ()), l)
 | 0, i, l, he, hl, hq => by
  obtain rfl : i = U.length := by omega
  rw [List.drop_length] at hq
  show (step36 U (U.length : Nat) (U.length : Nat) l).sat _
  have c2 : decide (((U.length : Nat) : Int) < (U.length : Int)) = false := decide_eq_false (by omega)
  simp only [step36, bytesOf_byteEl, isBytes_byteEl, c2, eq_self, decide_true]
  have hq' : Q ((), l) := by simpa [unsBs] using hq
  repeat first
   | refine sat_need rfl ?_
   | refine sat_ite (fun h => Bool.noConfusion h) (fun _ => ?_)
   | refine sat_ite (fun _ => ?_) (fun h => Bool.noConfusion h)
  exact sat_ret hq'
 | k + 1, i, l, he, hl, hq => by
  have hi : i < U.length := by omega
  have hu : U.getD i u0 = U[i] := by simp [List.getD_eq_getElem?_getD, hi]
  have hb := unBs_len (all_okW hU hi)
  refine step36_in U i l hU hi hn (by omega) _ ?_
  rw [List.drop_eq_getElem_cons hi] at hq
  refine runs36 U hU hn Q k (i + 1) _ (by omega) (by rw [List.length_append]; omega) ?_
  rw [hu, List.append_assoc]
  have e : unsBs (U[i] :: U.drop (i + 1)) = unBs U[i] ++ unsBs (U.drop (i + 1)) := by simp only [unsBs, List.flatMap_cons]
  rw [e] at hq
  exact hq
theorem f36_loops : BlocksOk Tryz.prog 2 L36 (codeOf Tryz.f36) := by
 refine blocksOk_of (d := fun id => Nat.beq id 0) (fun id => by unfold L36; cases Nat.beq id 0 <;> rfl) _ ?_
 have hb : blocksOf (fun id => Nat.beq id 0) (codeOf Tryz.f36) = [(0, .loop (loopOf 0 (codeOf Tryz.f36)))] := by kernel_rfl
 rw [hb]
 intro p hp g hg
 simp only [List.mem_singleton] at hp
 subst hp
 have hh : L36 0 = some ((lp36).g 2) := rfl
 rw [hh] at hg
 obtain rfl : g = (lp36).g 2 := (Option.some.inj hg).symm
 refine LoopSt.ok2 (N := 1010) prog_mixed Γ36_ok (L := noL) (blocksOk_none 2 _) lp36_good (fun x => step36_eq x) ?_
 rintro ⟨⟨⟨⟩, U, n, i, ⟨⟩⟩, l⟩ hx
 have hx : pre36 (((), U, n, i, ()), l) = true := hx
 simp only [pre36, Bool.and_eq_true, decide_eq_true_eq] at hx
 have h1 : n = (U.length : Nat) := hx.1
 have h2 : i = 0 := hx.2.1
 have h3 : U.all okW = true := hx.2.2.1
 have h4 : U.length ≤ 19 := hx.2.2.2.1
 have h5 : l.length ≤ 1000 := hx.2.2.2.2
 clear hx
 subst h1 h2
 exact ⟨_, runs36 U h3 h4 (· = ((), l ++ unsBs U)) U.length 0 l (by omega) (by omega) rfl⟩
theorem M36_sat (U : List Un) (hU : U.all okW = true) (hn : U.length ≤ 19) : (M36 U).sat (OutOf { val := .tup [], outs := [some (.cells [.msl 2 (pointsBs U).length 1] 74), some (.cells [.ptr 0 0] 97)], new := some (.arr (pointsBs U).length 1 (byteEl (pointsBs U)) 5) }) := by
 have r1 : rangeB (U.length : Nat) = true := by unfold rangeB; simp only [Bool.and_eq_true, decide_eq_true_eq]; omega
 have hl : (leb (zig (U.length : Nat))).length ≤ 11 := leb_len _
 have hp : pre36 (((), U, (U.length : Nat), 0, ()), leb (zig (U.length : Nat))) = true := by
  simp only [pre36, hU, decide_true, Bool.true_and, Bool.and_eq_true, decide_eq_true_eq]
  omega
 simp only [M36, ↓un_fold, ↓iv_fold, ↓ln_fold, ↓tm_fold, un_eta, iv_eta, take_un1, take_un2, take_iv1, take_iv2, tmV_cells, tmOk_cells, unV_cells, unOk_cells, ivV_lit, ivOk_lit, lineV_cells, lineOk_cells, unsOf_el, unsOk_units, sat_true, bytesOf_byteEl, isBytes_byteEl, r1, hp, eq_self, decide_true]
 repeat first
  | refine sat_need rfl ?_
  | refine sat_ite (fun h => Bool.noConfusion h) (fun _ => ?_)
  | refine sat_ite (fun _ => ?_) (fun h => Bool.noConfusion h)
 exact sat_ret (OutOf.refl _)
def K36 : MSpec := (MForm.with eN36 (.cons (argPtr 0 0) (.cons argUs (.cons (argFn1 37 1 0) .nil)))).K (fun x => { val := .tup [], outs := [some (.cells [.msl 2 (pointsBs x.1.2.1).length 1] 74), some (.cells [.ptr 0 0] 97)], new := some (.arr (pointsBs x.1.2.1).length 1 (byteEl (pointsBs x.1.2.1)) 5) }) fun x => [x.1.2.1.all okW, decide (x.1.2.1.length ≤ 19)]
theorem f36_ok : MemOk Tryz.prog 36 K36 :=
 (MForm.with eN36 (.cons (argPtr 0 0) (.cons argUs (.cons (argFn1 37 1 0) .nil)))).memEq (N := 1010) (frz := false) (L := L36) prog_mixed Γ36_ok (fn := Tryz.f36) (c := codeOf Tryz.f36) (by kernel_rfl) (by kernel_rfl) (by kernel_rfl)
  (fun e l x cs h => by
   obtain ⟨ds, h2⟩ := with_parse h
   rw [eN36_len h2]
   exact f36_loops) (M := fun x => M36 x.1.2.1) (fun x => M36_eq x.1.2.1)
  fun x h => M36_sat x.1.2.1 (h _ (by simp)) (dec (h (decide (x.1.2.1.length ≤ 19)) (by simp)))
def Γb7 : FuncId → Option Spec := fun f => bif Nat.beq f 11 then some (pureSpec K11) else bif Nat.beq f 36 then some (memSpec K36) else none
theorem Γb7_ok : ∀ f s, Γb7 f = some s → SpecOk Tryz.prog f s := step_ok f11_ok.spec (one_ok f36_ok.spec)
def M7 (U : List Un) : Tr AV :=
 let x1 : Bool := unsOk U.length (unEl U)
 let x2 : List Un := unsOf U.length (unEl U)
 let x3 : Int := bif goodU x2 then 0 else 7
 let x4 : Nat := x2.length
 let x5 : List UInt8 := pointsBs x2
 let x6 : Nat := x5.length
 .need x1 (.need (preK24 x2) (.ite (x3 != 0) (.ret (AV.tup [.c (.v (.string { data := #[] })), .c (.v (.int IntKind.i64 x3))])) (.need x1 (.need (x2.all okW) (.need (decide (x4 ≤ 19)) (.need (decide (x6 ≤ x6)) (.need (isBytes x6 (byteEl x5)) (.ret (AV.tup [.c (.v (.string ⟨⟨bytesOf x6 (byteEl x5)⟩⟩)), .c (.v (.int IntKind.i64 0))])))))))))
theorem M7_eq (U : List Un) : execFn Tryz.prog (inlΓ Tryz.prog Γb7 (fun _ => false) 1010 1) noL 1010 Tryz.f7 [usA U] = M7 U := by kernel_rfl
theorem sh_mag {n : Nat} (h : n < 18446744073709551616) : shB (magB n) = true := by
 have := magB_len8 h
 unfold shB
 exact decide_eq_true (by omega)
theorem sh_den {n : Nat} (h : n < 18446744073709551616) : shB (denB n) = true := by
 unfold denB
 cases Nat.beq n 1 with
 | true => exact (by decide : shB [] = true)
 | false => exact sh_mag h
theorem bnd_sh {N D : Nat} {q : Rat} (h : bndB N D q = true) (hN : N < 18446744073709551616) (hD : D < 18446744073709551616) : shB (magB q.num.natAbs) = true ∧ shB (denB q.den) = true := by
 have := bndB_iff.1 h
 exact ⟨sh_mag (Nat.lt_of_le_of_lt this.1 hN), sh_den (Nat.lt_of_le_of_lt this.2 hD)⟩
theorem one_okW {u : Un} (h : oneU u = true) : okW u = true := by
 obtain ⟨f, a, b⟩ := one_lb h
 simp only [tmB, Bool.and_eq_true, decide_eq_true_eq] at a b
 simp only [lbB, Bool.and_eq_true] at f
 obtain ⟨w1, w2⟩ := bnd_sh f.1.1 (by decide) (by decide)
 obtain ⟨w3, w4⟩ := bnd_sh f.1.2 (by decide) (by decide)
 obtain ⟨w5, w6⟩ := bnd_sh f.2.1 (by decide) (by decide)
 obtain ⟨w7, w8⟩ := bnd_sh f.2.2 (by decide) (by decide)
 unfold okW
 rw [sh_mag (show u.a.natAbs < _ by omega), sh_mag (show u.b.natAbs < _ by omega), w1, w2, w3, w4, w5, w6, w7, w8]
 rfl
theorem raw_okW : ∀ {U : List Un}, rawU U = true → U.all okW = true
 | [], _ => rfl
 | u :: l, h => by
  rw [List.all_cons, one_okW (rawU_head h), raw_okW (rawU_tail h)]
  rfl
theorem good_okW {U : List Un} (h : goodU U = true) : U.all okW = true := by
 unfold goodU at h
 rw [Bool.and_eq_true] at h
 exact raw_okW (rawOk_raw h.1)
theorem M7_sat (U : List Un) (h : preK24 U = true) : (M7 U).sat fun r => r = .tup [strA (bif goodU U then pointsBs U else []), intA .i64 (bif goodU U then 0 else 7)] := by
 have h2 := h
 simp only [preK24, Bool.and_eq_true, decide_eq_true_eq] at h2
 have c1 : decide (U.length ≤ 19) = true := decide_eq_true h2.2.1
 cases hg : goodU U with
 | true =>
  simp only [M7, ↓un_fold, ↓iv_fold, ↓ln_fold, ↓tm_fold, un_eta, iv_eta, take_un1, take_un2, take_iv1, take_iv2, tmV_cells, tmOk_cells, unV_cells, unOk_cells, ivV_lit, ivOk_lit, lineV_cells, lineOk_cells, unsOf_el, unsOk_units, sat_true, h, hg, cond_true, good_okW hg, c1, bytesOf_byteEl, isBytes_byteEl, Nat.le_refl, decide_true]
  repeat first
   | refine sat_need rfl ?_
   | refine sat_ite (fun h => Bool.noConfusion h) (fun _ => ?_)
   | refine sat_ite (fun _ => ?_) (fun h => Bool.noConfusion h)
  exact sat_ret rfl
 | false =>
  simp only [M7, ↓un_fold, ↓iv_fold, ↓ln_fold, ↓tm_fold, un_eta, iv_eta, take_un1, take_un2, take_iv1, take_iv2, tmV_cells, tmOk_cells, unV_cells, unOk_cells, ivV_lit, ivOk_lit, lineV_cells, lineOk_cells, unsOf_el, unsOk_units, sat_true, h, hg, cond_false]
  repeat first
   | refine sat_need rfl ?_
   | refine sat_ite (fun h => Bool.noConfusion h) (fun _ => ?_)
   | refine sat_ite (fun _ => ?_) (fun h => Bool.noConfusion h)
  exact sat_ret rfl
def K7 : List AV → Option (AV × List Bool) := (F1 argUs).K (fun x => .tup [strA (bif goodU x.1 then pointsBs x.1 else []), intA .i64 (bif goodU x.1 then 0 else 7)]) fun x => [preK24 x.1]
theorem f7_ok : PureOk Tryz.prog 7 K7 :=
 (F1 argUs).pureEq (N := 1010) (L := noL) prog_mixed (inlΓ_ok prog_mixed Γb7_ok 1) (fn := Tryz.f7) (c := codeOf Tryz.f7) (by kernel_rfl) (by kernel_rfl) (by kernel_rfl) (blocksOk_none _ _) (fun _ => rfl) (M := fun x => M7 x.1) (fun x => M7_eq x.1)
  fun x h => M7_sat x.1 (h _ (by simp))
end Go.Vse
