/- Helpers for the proof: no statement of its own. -/
import Derived.Test.YtpnbbgegfjefkaaGreatDoorCodB
import Derived.Test.YtpnbbgegfjefkaaGreatDoorCodA
import Derived.Test.YtpnbbgegfjefkaaGreatDoorUnF
set_option linter.unusedVariables false
set_option linter.unusedSimpArgs false
set_option linter.unnecessarySimpa false
set_option linter.deprecated false
set_option maxHeartbeats 4000000
set_option maxRecDepth 100000
namespace Go.Vse
open Go.Proofs
abbrev K20 : List AV → Option (AV × List Bool) := numK
def argSL : Arg (List UInt8) where
 get := fun a => match a with | .c (.v (.string s)) => some (s.data.toList, []) | _ => none
 put := strA
 ok := by
  intro a x cs h hc
  split at h
  ·cases h; exact Sees.refl _
  ·cases h
def Γ111 : FuncId → Option Spec := fun f => bif Nat.beq f 20 then some (pureSpec K20) else none
theorem Γ111_ok : ∀ f s, Γ111 f = some s → SpecOk Tryz.prog f s := one_ok f20_ok.spec
def M111 (p : Bool) (s : ByteArray) : Tr AV :=
 let x1 : Int := IntKind.i64.wrap (2 * ↑s.data.toList.length)
 let x2 : Int := IntKind.i64.wrap (x1 + 1)
 let x3 : ByteArray := ⟨⟨leb (zig x2)⟩⟩
 let x4 : Nat := x3.size + s.size
 let x5 : ByteArray := ⟨⟨leb (zig x1)⟩⟩
 let x6 : Nat := x5.size + s.size
 .ite p (.need (decide (-9223372036854775808 ≤ x2) && decide (x2 ≤ 9223372036854775807)) (.need (decide (x4 ≤ 9223372036854775807)) (.ret (.c (.v (.string (x3 ++ s))))))) (.need (decide (-9223372036854775808 ≤ x1) && decide (x1 ≤ 9223372036854775807)) (.need (decide (x6 ≤ 9223372036854775807)) (.ret (.c (.v (.string (x5 ++ s)))))))
def M45 (b : Bool) : Tr AV :=
 .ite b (.need true (.ret (.c (.v (.string ⟨⟨leb (zig 1)⟩⟩))))) (.need true (.ret (.c (.v (.string ⟨⟨leb (zig 0)⟩⟩)))))
theorem M111_eq (p : Bool) (s : ByteArray) : execFn Tryz.prog Γ111 noL 1010 Tryz.f111 [.agg [.c (.v (.bool p)), .c (.v (.string s))]] = M111 p s := by kernel_rfl
theorem M45_eq (b : Bool) : execFn Tryz.prog Γ111 noL 1010 Tryz.f45 [.c (.v (.bool b))] = M45 b := by kernel_rfl
theorem bsz (l : List UInt8) : (⟨⟨l⟩⟩ : ByteArray).size = l.length := rfl
theorem bA_app (l : List UInt8) (s : ByteArray) : (⟨⟨l⟩⟩ : ByteArray) ++ s = ⟨⟨l ++ s.data.toList⟩⟩ := by
 apply ByteArray.ext
 rw [ByteArray.data_append]
 obtain ⟨⟨m⟩⟩ := s
 simp
theorem bA_app2 (l m : List UInt8) : (⟨⟨l⟩⟩ : ByteArray) ++ (⟨⟨m⟩⟩ : ByteArray) = ⟨⟨l ++ m⟩⟩ := bA_app l ⟨⟨m⟩⟩
theorem bsz' (s : ByteArray) : s.size = s.data.toList.length := by obtain ⟨⟨m⟩⟩ := s; rfl
theorem rangeB_d {n : Int} (h1 : 0 ≤ n) (h2 : n ≤ 1000000000) : (decide (-9223372036854775808 ≤ n) && decide (n ≤ 9223372036854775807)) = true := by
 rw [decide_eq_true (by omega), decide_eq_true (by omega)]; rfl
theorem M111_sat (p : Bool) (s : ByteArray) (h : shB s.data.toList = true) : (M111 p s).sat fun r => r = strA (wholeBs p s.data.toList) := by
 have h : s.data.toList.length ≤ 1000 := dec h
 have hw : IntKind.i64.wrap (2 * (s.data.toList.length : Int)) = 2 * (s.data.toList.length : Int) := wrap_i64 (by omega)
 have hw2 : IntKind.i64.wrap (2 * (s.data.toList.length : Int) + 1) = 2 * (s.data.toList.length : Int) + 1 := wrap_i64 (by omega)
 have e1 : (leb (zig (2 * (s.data.toList.length : Int)))).length ≤ 11 := leb_len _
 have e2 : (leb (zig (2 * (s.data.toList.length : Int) + 1))).length ≤ 11 := leb_len _
 have r1 := rangeB_d (n := 2 * (s.data.toList.length : Int)) (by omega) (by omega)
 have r2 := rangeB_d (n := 2 * (s.data.toList.length : Int) + 1) (by omega) (by omega)
 simp only [M111, hw, hw2, bA_app, bsz, bsz', r1, r2]
 refine sat_ite (fun hp => ?_) (fun hp => ?_)
 ·subst hp
  exact sat_need rfl (sat_need (decide_eq_true (by omega)) (sat_ret rfl))
 ·subst hp
  refine sat_need rfl (sat_need (decide_eq_true (by omega)) (sat_ret ?_))
  unfold wholeBs flag
  simp [strA]
def K111 : List AV → Option (AV × List Bool) := (F1 argPS).K (fun x => strA (wholeBs x.1.1 x.1.2.data.toList)) fun x => [shB x.1.2.data.toList]
theorem f111_ok : PureOk Tryz.prog 111 K111 :=
 (F1 argPS).pureEq (N := 1010) (L := noL) prog_mixed Γ111_ok (fn := Tryz.f111) (c := codeOf Tryz.f111) (by kernel_rfl) (by kernel_rfl) (by kernel_rfl) (blocksOk_none _ _) (fun _ => rfl) (M := fun x => M111 x.1.1 x.1.2) (fun x => M111_eq x.1.1 x.1.2)
  fun x h => M111_sat x.1.1 x.1.2 (h _ (by simp))
theorem M45_sat (b : Bool) : (M45 b).sat fun r => r = strA (truthBs b) := by
 refine sat_ite (fun hp => ?_) (fun hp => ?_)
 ·subst hp
  exact sat_need rfl (sat_ret rfl)
 ·subst hp
  exact sat_need rfl (sat_ret rfl)
def K45 : List AV → Option (AV × List Bool) := (F1 argBool).K (fun x => strA (truthBs x.1)) fun x => []
theorem f45_ok : PureOk Tryz.prog 45 K45 :=
 (F1 argBool).pureEq (N := 1010) (L := noL) prog_mixed Γ111_ok (fn := Tryz.f45) (c := codeOf Tryz.f45) (by kernel_rfl) (by kernel_rfl) (by kernel_rfl) (blocksOk_none _ _) (fun _ => rfl) (M := fun x => M45 x.1) (fun x => M45_eq x.1)
  fun x h => M45_sat x.1
def Γb9 : FuncId → Option Spec := fun f => bif Nat.beq f 20 then some (pureSpec K20) else bif Nat.beq f 111 then some (pureSpec K111) else bif Nat.beq f 45 then some (pureSpec K45) else none
theorem Γb9_ok : ∀ f s, Γb9 f = some s → SpecOk Tryz.prog f s := step_ok f20_ok.spec (step_ok f111_ok.spec (one_ok f45_ok.spec))
abbrev T9 := List Un × List UInt8 × Int × Unit
abbrev F9 : Form T9 := .cons argUs (.cons argSL (.cons argInt .nil))
def pre9 (x : T9) : Bool := decide (x.2.2.1 = 0) && (x.1.all okW && (decide (x.1.length ≤ 19) && decide (x.2.1.length ≤ 1000)))
def lp9 : LoopSt T9 (List UInt8 × Unit) := lpF { nt := 30, live := [0, 3, 4] } { nt := 30, live := [3] } (MForm.pure F9) (MForm.pure (F1 argSL)) (fun x => (x.2.1 ++ unsBs x.1, ())) pre9
theorem lp9_good : lp9.Good2 := lpF_good _ _ _ _ _ _
def L9 : Nat → Option (St → Tr (Ex × St)) := fun id => bif Nat.beq id 0 then some (lp9.g 0) else none
def step9 (U : List Un) (l : List UInt8) (i : Int) : Tr (T9 ⊕ List UInt8 × Unit) :=
 let x1 : Int := ↑U.length
 let x2 : Bool := decide (0 ≤ i ∧ i < x1)
 let x3 : Int := (U.getD i.toNat u0).a
 let x4 : List UInt8 := magB x3.natAbs
 let x5 : List UInt8 := wholeBs (decide (x3 < 0)) x4
 let x6 : ByteArray := ⟨⟨x5⟩⟩
 let x7 : List UInt8 := wholeBs false (denB 1)
 let x8 : ByteArray := ⟨⟨x7⟩⟩
 let x9 : Nat := x8.size
 let x10 : Nat := x6.size + x9
 let x11 : ByteArray := x6 ++ x8
 let x12 : List UInt8 := wholeBs false []
 let x13 : ByteArray := ⟨⟨x12⟩⟩
 let x14 : ByteArray := x13 ++ x13
 let x15 : Nat := x14.size
 let x16 : Nat := x11.size + x15
 let x17 : ByteArray := x11 ++ x14
 let x18 : ByteArray := ⟨⟨truthBs false⟩⟩
 let x19 : Nat := x17.size + x18.size
 let x20 : Int := (U.getD i.toNat u0).b
 let x21 : List UInt8 := magB x20.natAbs
 let x22 : List UInt8 := wholeBs (decide (x20 < 0)) x21
 let x23 : ByteArray := ⟨⟨x22⟩⟩
 let x24 : Nat := x23.size + x9
 let x25 : ByteArray := x23 ++ x8
 let x26 : Nat := x25.size + x15
 let x27 : ByteArray := x25 ++ x14
 let x28 : Nat := x27.size + x18.size
 let x29 : ByteArray := x17 ++ x18
 let x30 : ByteArray := x27 ++ x18
 let x31 : Nat := x29.size + x30.size
 let x32 : ByteArray := x29 ++ x30
 let x33 : List UInt8 := truthBs (U.getD i.toNat u0).oa
 let x34 : ByteArray := ⟨⟨x33⟩⟩
 let x35 : Nat := x32.size + x34.size
 let x36 : ByteArray := x32 ++ x34
 let x37 : List UInt8 := truthBs (U.getD i.toNat u0).ob
 let x38 : ByteArray := ⟨⟨x37⟩⟩
 let x39 : Nat := x36.size + x38.size
 let x40 : ByteArray := ⟨⟨l⟩⟩
 let x41 : ByteArray := x36 ++ x38
 let x42 : Nat := x40.size + x41.size
 let x43 : Int := (U.getD i.toNat u0).f.x0.num
 let x44 : List UInt8 := magB x43.natAbs
 let x45 : List UInt8 := denB (U.getD i.toNat u0).f.x0.den
 let x46 : List UInt8 := wholeBs (decide (x43 < 0)) x44
 let x47 : ByteArray := ⟨⟨x46⟩⟩
 let x48 : List UInt8 := wholeBs false x45
 let x49 : ByteArray := ⟨⟨x48⟩⟩
 let x50 : Nat := x47.size + x49.size
 let x51 : Int := (U.getD i.toNat u0).f.x1.num
 let x52 : List UInt8 := magB x51.natAbs
 let x53 : List UInt8 := denB (U.getD i.toNat u0).f.x1.den
 let x54 : List UInt8 := wholeBs (decide (x51 < 0)) x52
 let x55 : ByteArray := ⟨⟨x54⟩⟩
 let x56 : List UInt8 := wholeBs false x53
 let x57 : ByteArray := ⟨⟨x56⟩⟩
 let x58 : Nat := x55.size + x57.size
 let x59 : ByteArray := x47 ++ x49
 let x60 : ByteArray := x55 ++ x57
 let x61 : Nat := x59.size + x60.size
 let x62 : Int := (U.getD i.toNat u0).f.y0.num
 let x63 : List UInt8 := magB x62.natAbs
 let x64 : List UInt8 := denB (U.getD i.toNat u0).f.y0.den
 let x65 : List UInt8 := wholeBs (decide (x62 < 0)) x63
 let x66 : ByteArray := ⟨⟨x65⟩⟩
 let x67 : List UInt8 := wholeBs false x64
 let x68 : ByteArray := ⟨⟨x67⟩⟩
 let x69 : Nat := x66.size + x68.size
 let x70 : ByteArray := x59 ++ x60
 let x71 : ByteArray := x66 ++ x68
 let x72 : Nat := x70.size + x71.size
 let x73 : Int := (U.getD i.toNat u0).f.y1.num
 let x74 : List UInt8 := magB x73.natAbs
 let x75 : List UInt8 := denB (U.getD i.toNat u0).f.y1.den
 let x76 : List UInt8 := wholeBs (decide (x73 < 0)) x74
 let x77 : ByteArray := ⟨⟨x76⟩⟩
 let x78 : List UInt8 := wholeBs false x75
 let x79 : ByteArray := ⟨⟨x78⟩⟩
 let x80 : Nat := x77.size + x79.size
 let x81 : ByteArray := x70 ++ x71
 let x82 : ByteArray := x77 ++ x79
 let x83 : Nat := x81.size + x82.size
 let x84 : Nat := (x40 ++ x41).size + (x81 ++ x82).size
 let x85 : List UInt8 := x12 ++ x12
 .ite (decide (i < x1)) (.need x2 (.need (shB x4) (.need true (.need (decide (x10 ≤ 9223372036854775807)) (.need true (.need true (.need true (.need (decide (x16 ≤ 9223372036854775807)) (.need (decide (x19 ≤ 9223372036854775807)) (.need (shB x21) (.need true (.need (decide (x24 ≤ 9223372036854775807)) (.need true (.need true (.need true (.need (decide (x26 ≤ 9223372036854775807)) (.need (decide (x28 ≤ 9223372036854775807)) (.need (decide (x31 ≤ 9223372036854775807)) (.need (decide (x35 ≤ 9223372036854775807)) (.need (decide (x39 ≤ 9223372036854775807)) (.need (decide (x42 ≤ 9223372036854775807)) (.need x2 (.need (shB x44) (.need (shB x45) (.need (decide (x50 ≤ 9223372036854775807)) (.need (shB x52) (.need (shB x53) (.need (decide (x58 ≤ 9223372036854775807)) (.need (decide (x61 ≤ 9223372036854775807)) (.need (shB x63) (.need (shB x64) (.need (decide (x69 ≤ 9223372036854775807)) (.need (decide (x72 ≤ 9223372036854775807)) (.need (shB x74) (.need (shB x75) (.need (decide (x80 ≤ 9223372036854775807)) (.need (decide (x83 ≤ 9223372036854775807)) (.need (decide (x84 ≤ 9223372036854775807)) (.need (unsOk U.length (unEl U)) (.ret (Sum.inl (unsOf U.length (unEl U), l ++ (x5 ++ x7 ++ x85 ++ truthBs false ++ (x22 ++ x7 ++ x85 ++ truthBs false) ++ x33 ++ x37) ++ (x46 ++ x48 ++ (x54 ++ x56) ++ (x65 ++ x67) ++ (x76 ++ x78)), IntKind.i64.wrap (i + 1), ())))))))))))))))))))))))))))))))))))))))))) (.ret (Sum.inr (l, ())))
def M9 (U : List Un) : Tr AV :=
 let x1 : Int := ↑U.length
 let x2 : List Un := unsOf U.length (unEl U)
 let x3 : List UInt8 := leb (zig x1)
 .need (decide (-9223372036854775808 ≤ x1) && decide (x1 ≤ 9223372036854775807)) (.need (unsOk U.length (unEl U)) (.need (pre9 (x2, x3, 0, ())) (.ret (.c (.v (.string ⟨⟨x3 ++ unsBs x2⟩⟩))))))
theorem step9_eq (x : T9) : (exec Tryz.prog (inlΓ Tryz.prog Γb9 (fun _ => false) 1010 4) noL 1010 (loopOf 0 (codeOf Tryz.f9)) (mkSt lp9.nIn (lp9.head x))).bind (lp9.fin 0 0) = step9 x.1 x.2.1 x.2.2.1 := by
 obtain ⟨U, l, i, ⟨⟩⟩ := x
 kernel_rfl
theorem M9_eq (U : List Un) : execFn Tryz.prog (inlΓ Tryz.prog Γb9 (fun _ => false) 1010 4) L9 1010 Tryz.f9 [usA U] = M9 U := by kernel_rfl
theorem need_true {α : Type} {t : Tr α} {Q : α → Prop} (h : t.sat Q) : (Tr.need true t).sat Q := sat_need rfl h
theorem need_le {α : Type} {a n : Nat} {t : Tr α} {Q : α → Prop} (h : a ≤ n) (k : t.sat Q) : (Tr.need (decide (a ≤ n)) t).sat Q := sat_need (decide_eq_true h) k
theorem ite_tr {α : Type} {a b : Tr α} {Q : α → Prop} (h : a.sat Q) : (Tr.ite true a b).sat Q := sat_ite (fun _ => h) (fun h => Bool.noConfusion h)
theorem ite_fa {α : Type} {a b : Tr α} {Q : α → Prop} (h : b.sat Q) : (Tr.ite false a b).sat Q := sat_ite (fun h => Bool.noConfusion h) (fun _ => h)
theorem step9_in (U : List Un) (i : Nat) (l : List UInt8) (hU : U.all okW = true) (hl : i < U.length) (hn : U.length ≤ 19) (hb : l.length ≤ 450000) (Q : T9 ⊕ List UInt8 × Unit → Prop) (hq : Q (.inl (U, l ++ unBs (U.getD i u0), ((i + 1 : Nat) : Int), ()))) : (step9 U l (i : Nat)).sat Q := by
 have hw1 : IntKind.i64.wrap ((i : Int) + 1) = ((i + 1 : Nat) : Int) := by rw [wrap_i64 (by omega)]; omega
 have c1 : decide ((0 : Int) ≤ (i : Int) ∧ (i : Int) < (U.length : Int)) = true := decide_eq_true (by omega)
 have c2 : decide ((i : Int) < (U.length : Int)) = true := decide_eq_true (by omega)
 have h := all_okW hU hl
 have o1 := unsOk_units U
 have o2 := unsOf_el U
 simp only [step9, Int.toNat_natCast, c1, c2, hw1, o1, o2]
 clear o1 o2
 obtain ⟨u, hu⟩ : ∃ u, u = U.getD i u0 := ⟨_, rfl⟩
 simp only [← hu] at h hq ⊢
 clear hu
 simp only [okW, Bool.and_eq_true] at h
 obtain ⟨h1, h2, h3, h4, h5, h6, h7, h8, h9, h10⟩ := h
 have t1 := truthBs_len false
 have t2 := truthBs_len u.oa
 have t3 := truthBs_len u.ob
 have z1 : (wholeBs false []).length ≤ 11 := wholeBs_len false []
 have z2 : (wholeBs false (denB 1)).length ≤ 11 := wholeBs_len false []
 have n0 : (wholeBs (decide (u.a < 0)) (magB u.a.natAbs)).length ≤ 1011 := sh_len (by assumption)
 have n1 : (wholeBs (decide (u.b < 0)) (magB u.b.natAbs)).length ≤ 1011 := sh_len (by assumption)
 have n2 : (wholeBs (decide (u.f.x0.num < 0)) (magB u.f.x0.num.natAbs)).length ≤ 1011 := sh_len (by assumption)
 have n3 : (wholeBs (decide (u.f.x1.num < 0)) (magB u.f.x1.num.natAbs)).length ≤ 1011 := sh_len (by assumption)
 have n4 : (wholeBs (decide (u.f.y0.num < 0)) (magB u.f.y0.num.natAbs)).length ≤ 1011 := sh_len (by assumption)
 have n5 : (wholeBs (decide (u.f.y1.num < 0)) (magB u.f.y1.num.natAbs)).length ≤ 1011 := sh_len (by assumption)
 have n6 : (wholeBs false (denB u.f.x0.den)).length ≤ 1011 := sh_len (by assumption)
 have n7 : (wholeBs false (denB u.f.x1.den)).length ≤ 1011 := sh_len (by assumption)
 have n8 : (wholeBs false (denB u.f.y0.den)).length ≤ 1011 := sh_len (by assumption)
 have n9 : (wholeBs false (denB u.f.y1.den)).length ≤ 1011 := sh_len (by assumption)
 simp only [bA_app2, bsz, List.length_append, h1, h2, h3, h4, h5, h6, h7, h8, h9, h10]
 repeat first
   | with_reducible refine need_true ?_
   | with_reducible refine ite_tr ?_
   | (with_reducible refine need_le ?_ ?_
      · omega)
 refine sat_ret ?_
 simpa only [unBs, tmBs, lineBs, ratBs, List.append_assoc] using hq
theorem runs9 (U : List Un) (hU : U.all okW = true) (hn : U.length ≤ 19) (Q : List UInt8 × Unit → Prop) : ∀ (k i : Nat) (l : List UInt8), i + k = U.length → l.length ≤ 1000 + 20220 * i → Q (l ++ unsBs (U.drop i), ()) → RunsX (fun x : T9 => step9 x.1 x.2.1 x.2.2.1) Q (k + 1) (U, l, (i : Nat), ())
 | 0, i, l, he, hl, hq => by
  obtain rfl : i = U.length := by omega
  rw [List.drop_length] at hq
  show (step9 U l (U.length : Nat)).sat _
  have c2 : decide (((U.length : Nat) : Int) < (U.length : Int)) = false := decide_eq_false (by omega)
  simp only [step9, c2]
  have hq' : Q (l, ()) := by simpa [unsBs] using hq
  exact sat_ite (fun h => Bool.noConfusion h) (fun _ => sat_ret hq')
 | k + 1, i, l, he, hl, hq => by
  have hi : i < U.length := by omega
  have hu : U.getD i u0 = U[i] := by simp [List.getD_eq_getElem?_getD, hi]
  have hb := unBs_len (all_okW hU hi)
  refine step9_in U i l hU hi hn (by omega) _ ?_
  rw [List.drop_eq_getElem_cons hi] at hq
  refine runs9 U hU hn Q k (i + 1) _ (by omega) (by rw [List.length_append]; omega) ?_
  rw [hu, List.append_assoc]
  have e : unsBs (U[i] :: U.drop (i + 1)) = unBs U[i] ++ unsBs (U.drop (i + 1)) := by simp only [unsBs, List.flatMap_cons]
  rw [e] at hq
  exact hq
theorem f9_loops : BlocksOk Tryz.prog 0 L9 (codeOf Tryz.f9) := by
 refine blocksOk_of (d := fun id => Nat.beq id 0) (fun id => by unfold L9; cases Nat.beq id 0 <;> rfl) _ ?_
 have hb : blocksOf (fun id => Nat.beq id 0) (codeOf Tryz.f9) = [(0, .loop (loopOf 0 (codeOf Tryz.f9)))] := by kernel_rfl
 rw [hb]
 intro p hp g hg
 simp only [List.mem_singleton] at hp
 subst hp
 have hh : L9 0 = some ((lp9).g 0) := rfl
 rw [hh] at hg
 obtain rfl : g = (lp9).g 0 := (Option.some.inj hg).symm
 refine LoopSt.ok2 (N := 1010) prog_mixed (inlΓ_ok prog_mixed Γb9_ok 4) (L := noL) (blocksOk_none 0 _) lp9_good (fun x => step9_eq x) ?_
 rintro ⟨U, l, i, ⟨⟩⟩ hx
 have hx : pre9 (U, l, i, ()) = true := hx
 simp only [pre9, Bool.and_eq_true, decide_eq_true_eq] at hx
 have h2 : i = 0 := hx.1
 have h3 : U.all okW = true := hx.2.1
 have h4 : U.length ≤ 19 := hx.2.2.1
 have h5 : l.length ≤ 1000 := hx.2.2.2
 clear hx
 subst h2
 exact ⟨_, runs9 U h3 h4 (· = (l ++ unsBs U, ())) U.length 0 l (by omega) (by omega) rfl⟩
theorem M9_sat (U : List Un) (hU : U.all okW = true) (hn : U.length ≤ 19) : (M9 U).sat fun r => r = strA (pointsBs U) := by
 have r1 := rangeB_d (n := (U.length : Int)) (by omega) (by omega)
 have hl : (leb (zig (U.length : Nat))).length ≤ 11 := leb_len _
 have hp : pre9 (U, leb (zig (U.length : Nat)), 0, ()) = true := by
  simp only [pre9, hU, decide_true, Bool.true_and, Bool.and_eq_true, decide_eq_true_eq]
  omega
 simp only [M9, unsOf_el, unsOk_units, r1, hp]
 exact sat_need rfl (sat_need rfl (sat_need rfl (sat_ret rfl)))
def K9 : List AV → Option (AV × List Bool) := (F1 argUs).K (fun x => strA (pointsBs x.1)) fun x => [x.1.all okW, decide (x.1.length ≤ 19)]
theorem f9_ok : PureOk Tryz.prog 9 K9 :=
 (F1 argUs).pureEq (N := 1010) (L := L9) prog_mixed (inlΓ_ok prog_mixed Γb9_ok 4) (fn := Tryz.f9) (c := codeOf Tryz.f9) (by kernel_rfl) (by kernel_rfl) (by kernel_rfl) f9_loops (fun _ => rfl) (M := fun x => M9 x.1) (fun x => M9_eq x.1)
  fun x h => M9_sat x.1 (h _ (by simp)) (dec (h (decide (x.1.length ≤ 19)) (by simp)))
end Go.Vse
set_option maxRecDepth 100000
set_option maxHeartbeats 4000000
namespace Go.Vse
open Go.Proofs
def rdV (s : ByteArray) (p : Int) : Int := (rdAll s p).1.getD 0
def rdP (s : ByteArray) (p : Int) : Int := ((rdAll s p).2.1 : Nat)
def rdG (s : ByteArray) (p : Int) : Bool := (rdAll s p).1.isSome
def is01 (n : Int) : Bool := decide (n = 0) || decide (n = 1)
def shortS (s : ByteArray) : Bool := decide (s.data.toList.length ≤ 4611686018427387904)
def nxI (s : ByteArray) (p : Int) : Int := rdP s p + rdV s p / 2
def negI (s : ByteArray) (p : Int) : Bool := decide (rdV s p % 2 = 1)
def magI (s : ByteArray) (p : Int) : List UInt8 := (s.data.toList.take (nxI s p).toNat).drop (rdP s p).toNat
def goodI (s : ByteArray) (p : Int) : Bool := decide (0 ≤ p) && (shortS s && (rdG s p && (decide (0 ≤ rdV s p) && (decide (0 ≤ rdP s p) && decide (nxI s p ≤ (s.data.toList.length : Nat))))))
def cellI (s : ByteArray) (p : Int) : List AV := [.c (.v (.bool (negI s p))), .c (.v (.string ⟨⟨magI s p⟩⟩))]
def valT (s : ByteArray) (p : Int) : Bool := decide (rdV s p = 1)
def goodT (s : ByteArray) (p : Int) : Bool := decide (0 ≤ p) && (shortS s && (rdG s p && is01 (rdV s p)))
theorem rangeB_le {n : Int} (h1 : 0 ≤ n) (h2 : n ≤ 1000000000) : rangeB n = true := by
 unfold rangeB; simp only [Bool.and_eq_true, decide_eq_true_eq]; omega
theorem rd_form (s : ByteArray) (a b : List UInt8) (n : Int) (h : rangeB n = true) (hs : s.data.toList = a ++ leb (zig n) ++ b) :
  rdG s (a.length : Nat) = true ∧ rdV s (a.length : Nat) = n ∧ rdP s (a.length : Nat) = ((a ++ leb (zig n)).length : Nat) := by
 have hr' : -9223372036854775808 ≤ n ∧ n ≤ 9223372036854775807 := rangeB_spec h
 have hz := zig_lt hr'
 have hr := rdN_leb 9 (zig n) 0 0 a b (by omega) (by omega) (by omega)
 have hall : rdAll s (a.length : Nat) = (some n, a.length + (leb (zig n)).length, 0) := by
  unfold rdAll
  rw [hs, Int.toNat_natCast]
  unfold leb
  rw [hr]
  simp [unzig_zig]
  omega
 refine ⟨?_, ?_, ?_⟩
 ·unfold rdG; rw [hall]; rfl
 ·unfold rdV; rw [hall]; rfl
 ·unfold rdP; rw [hall]; simp
theorem flag_le (k : Bool) : 0 ≤ flag k ∧ flag k ≤ 1 := by cases k <;> decide
theorem rd_truth (s : ByteArray) (a b : List UInt8) (k : Bool) (hl : shortS s = true) (hs : s.data.toList = a ++ (truthBs k ++ b)) :
  goodT s (a.length : Nat) = true ∧ valT s (a.length : Nat) = k ∧ rdP s (a.length : Nat) = ((a ++ truthBs k).length : Nat) := by
 have hf := flag_le k
 obtain ⟨g, v, q⟩ := rd_form s a b (flag k) (rangeB_le hf.1 (by omega)) (by rw [hs]; simp only [truthBs, List.append_assoc])
 refine ⟨?_, ?_, q⟩
 ·unfold goodT
  rw [g, v, hl, decide_eq_true (show (0 : Int) ≤ (a.length : Nat) by omega)]
  cases k <;> rfl
 ·unfold valT
  rw [v]
  cases k <;> rfl
theorem rd_whole (s : ByteArray) (a b : List UInt8) (k : Bool) (m : List UInt8) (hm : shB m = true) (hl : shortS s = true) (hs : s.data.toList = a ++ (wholeBs k m ++ b)) :
   goodI s (a.length : Nat) = true ∧ cellI s (a.length : Nat) = [.c (.v (.bool k)), .c (.v (.string ⟨⟨m⟩⟩))] ∧ nxI s (a.length : Nat) = ((a ++ wholeBs k m).length : Nat) := by
 have hf := flag_le k
 have hm : m.length ≤ 1000 := by simpa [shB] using hm
 obtain ⟨g, v, q⟩ := rd_form s a (m ++ b) (2 * (m.length : Int) + flag k) (rangeB_le (by omega) (by omega)) (by rw [hs]; simp only [wholeBs, List.append_assoc])
 have hd : (2 * (m.length : Int) + flag k) / 2 = m.length := by omega
 have hr : decide ((2 * (m.length : Int) + flag k) % 2 = 1) = k := by
   cases k
   · exact decide_eq_false (by simp only [flag, cond_false]; omega)
   · exact decide_eq_true (by simp only [flag, cond_true]; omega)
 have hn : nxI s (a.length : Nat) = ((a ++ wholeBs k m).length : Nat) := by
   unfold nxI
   rw [v, q, hd]
   simp only [wholeBs, List.length_append]
   omega
 have hle : (a ++ wholeBs k m).length ≤ s.data.toList.length := by
   rw [hs]; simp only [List.length_append]; omega
 refine ⟨?_, ?_, hn⟩
 · unfold goodI
   rw [g, hl, hn, v, q, decide_eq_true (show (0 : Int) ≤ (a.length : Nat) by omega), decide_eq_true (show (0 : Int) ≤ 2 * (m.length : Int) + flag k by omega),
     decide_eq_true (show (0 : Int) ≤ (((a ++ leb (zig (2 * (m.length : Int) + flag k))).length : Nat) : Int) by omega), decide_eq_true (show ((((a ++ wholeBs k m).length : Nat)) : Int) ≤ (s.data.toList.length : Nat) by omega)]
   rfl
 · unfold cellI negI magI
   rw [hn, v, q, hr, Int.toNat_natCast, Int.toNat_natCast, hs]
   have e : a ++ (wholeBs k m ++ b) = (a ++ wholeBs k m) ++ b := by simp only [List.append_assoc]
   rw [e, List.take_left]
   have e2 : a ++ wholeBs k m = (a ++ leb (zig (2 * (m.length : Int) + flag k))) ++ m := by simp only [wholeBs, List.append_assoc]
   rw [e2, List.drop_left]
def rdL (s : ByteArray) : List Bool → Int → List AV
 | [], _ => []
 | true :: l, p => .c (.v (.bool (negI s p))) :: .c (.v (.string ⟨⟨magI s p⟩⟩)) :: rdL s l (nxI s p)
 | false :: l, p => .c (.v (.bool (valT s p))) :: rdL s l (rdP s p)
def rdE (s : ByteArray) : List Bool → Int → Int
 | [], p => p
 | true :: l, p => rdE s l (nxI s p)
 | false :: l, p => rdE s l (rdP s p)
def rdO (s : ByteArray) : List Bool → Int → Bool
 | [], _ => true
 | true :: l, p => goodI s p && rdO s l (nxI s p)
 | false :: l, p => goodT s p && rdO s l (rdP s p)
structure Itm where
 i : Bool
 k : Bool
 m : List UInt8
def Itm.bytes (x : Itm) : List UInt8 := bif x.i then wholeBs x.k x.m else truthBs x.k
def Itm.cells (x : Itm) : List AV := bif x.i then [.c (.v (.bool x.k)), .c (.v (.string ⟨⟨x.m⟩⟩))] else [.c (.v (.bool x.k))]
def itmBs : List Itm → List UInt8
 | [] => []
 | x :: l => x.bytes ++ itmBs l
def itmCs : List Itm → List AV
 | [] => []
 | x :: l => x.cells ++ itmCs l
theorem rd_items (s : ByteArray) (b : List UInt8) (hl : shortS s = true) : ∀ (l : List Itm) (a : List UInt8), (l.all fun x => shB x.m) = true → s.data.toList = a ++ (itmBs l ++ b) →
   rdO s (l.map Itm.i) (a.length : Nat) = true ∧ rdL s (l.map Itm.i) (a.length : Nat) = itmCs l ∧ rdE s (l.map Itm.i) (a.length : Nat) = ((a ++ itmBs l).length : Nat)
 | [], a, _, _ => by simp [rdO, rdL, rdE, itmBs, itmCs]
 | ⟨true, k, m⟩ :: l, a, h, hs => by
   simp only [List.all_cons, Bool.and_eq_true] at h
   have hs' : s.data.toList = a ++ (wholeBs k m ++ (itmBs l ++ b)) := by rw [hs]; simp only [itmBs, Itm.bytes, cond_true, List.append_assoc]
   obtain ⟨g, v, q⟩ := rd_whole s a (itmBs l ++ b) k m h.1 hl hs'
   obtain ⟨g2, v2, q2⟩ := rd_items s b hl l (a ++ wholeBs k m) h.2 (by rw [hs']; simp only [List.append_assoc])
   rw [← q] at g2 v2 q2
   refine ⟨?_, ?_, ?_⟩
   · show (goodI s (a.length : Nat) && rdO s (l.map Itm.i) (nxI s (a.length : Nat))) = true
     rw [g, g2]; rfl
   · show cellI s (a.length : Nat) ++ rdL s (l.map Itm.i) (nxI s (a.length : Nat)) = _
     rw [v, v2]; rfl
   · show rdE s (l.map Itm.i) (nxI s (a.length : Nat)) = _
     rw [q2]
     simp only [itmBs, Itm.bytes, cond_true, List.append_assoc]
 | ⟨false, k, m⟩ :: l, a, h, hs => by
   simp only [List.all_cons, Bool.and_eq_true] at h
   have hs' : s.data.toList = a ++ (truthBs k ++ (itmBs l ++ b)) := by rw [hs]; simp only [itmBs, Itm.bytes, cond_false, List.append_assoc]
   obtain ⟨g, v, q⟩ := rd_truth s a (itmBs l ++ b) k hl hs'
   obtain ⟨g2, v2, q2⟩ := rd_items s b hl l (a ++ truthBs k) h.2 (by rw [hs']; simp only [List.append_assoc])
   rw [← q] at g2 v2 q2
   refine ⟨?_, ?_, ?_⟩
   · show (goodT s (a.length : Nat) && rdO s (l.map Itm.i) (rdP s (a.length : Nat))) = true
     rw [g, g2]; rfl
   · show .c (.v (.bool (valT s (a.length : Nat)))) :: rdL s (l.map Itm.i) (rdP s (a.length : Nat)) = _
     rw [v, v2]; rfl
   · show rdE s (l.map Itm.i) (rdP s (a.length : Nat)) = _
     rw [q2]
     simp only [itmBs, Itm.bytes, cond_false, List.append_assoc]
def ratIt (q : Rat) : List Itm := [⟨true, decide (q.num < 0), magB q.num.natAbs⟩, ⟨true, false, denB q.den⟩]
def tmIt (n : Int) : List Itm := [⟨true, decide (n < 0), magB n.natAbs⟩, ⟨true, false, denB 1⟩, ⟨true, false, []⟩, ⟨true, false, []⟩, ⟨false, false, []⟩]
def unIt (u : Un) : List Itm := tmIt u.a ++ (tmIt u.b ++ ([⟨false, u.oa, []⟩, ⟨false, u.ob, []⟩] ++ (ratIt u.f.x0 ++ (ratIt u.f.x1 ++ (ratIt u.f.y0 ++ ratIt u.f.y1)))))
def patU : List Bool := [true, true, true, true, false, true, true, true, true, false, false, false, true, true, true, true, true, true, true, true]
theorem unIt_pat (u : Un) : (unIt u).map Itm.i = patU := rfl
theorem unIt_bs (u : Un) : itmBs (unIt u) = unBs u := by
 simp only [unIt, tmIt, ratIt, List.cons_append, List.nil_append, itmBs, Itm.bytes, cond_true, cond_false, unBs, tmBs, lineBs, ratBs, List.append_assoc, List.append_nil]
theorem unIt_cs (u : Un) : itmCs (unIt u) = unCells u := rfl
theorem unIt_sh {u : Un} (h : okW u = true) : ((unIt u).all fun x => shB x.m) = true := by
 simp only [okW, Bool.and_eq_true] at h
 obtain ⟨h1, h2, h3, h4, h5, h6, h7, h8, h9, h10⟩ := h
 have z : shB (denB 1) = true := by decide
 have z2 : shB [] = true := by decide
 simp only [unIt, tmIt, ratIt, List.cons_append, List.nil_append, List.all_cons, List.all_nil, *, Bool.and_self]
def cellsAt (s : ByteArray) (p : Int) : List AV := rdL s patU p
def unAt (s : ByteArray) (p : Int) : Un := unV (cellsAt s p)
def nxAt (s : ByteArray) (p : Int) : Int := rdE s patU p
def goodAt (s : ByteArray) (p : Int) : Bool := rdO s patU p && unOk (cellsAt s p)
theorem rd_un (s : ByteArray) (a b : List UInt8) (u : Un) (hl : shortS s = true) (h : okW u = true) (hs : s.data.toList = a ++ (unBs u ++ b)) :
  goodAt s (a.length : Nat) = true ∧ unAt s (a.length : Nat) = u ∧ nxAt s (a.length : Nat) = ((a ++ unBs u).length : Nat) := by
 obtain ⟨g, v, q⟩ := rd_items s b hl (unIt u) a (unIt_sh h) (by rw [hs, unIt_bs])
 rw [unIt_pat] at g v q
 rw [unIt_cs] at v
 rw [unIt_bs] at q
 refine ⟨?_, ?_, q⟩
 ·unfold goodAt cellsAt
  rw [g, v, unOk_cells]; rfl
 ·unfold unAt cellsAt
  rw [v, unV_cells]
def rdUns (s : ByteArray) : Int → Nat → List Un
 | _, 0 => []
 | p, n + 1 => unAt s p :: rdUns s (nxAt s p) n
def posUns (s : ByteArray) : Int → Nat → Int
 | p, 0 => p
 | p, n + 1 => posUns s (nxAt s p) n
def goodUns (s : ByteArray) : Int → Nat → Bool
 | _, 0 => true
 | p, n + 1 => goodAt s p && goodUns s (nxAt s p) n
theorem rd_uns (s : ByteArray) (hl : shortS s = true) (b : List UInt8) : ∀ (U : List Un) (a : List UInt8), U.all okW = true → s.data.toList = a ++ (unsBs U ++ b) →
   goodUns s (a.length : Nat) U.length = true ∧ rdUns s (a.length : Nat) U.length = U ∧ posUns s (a.length : Nat) U.length = ((a ++ unsBs U).length : Nat)
 | [], a, _, _ => by simp [goodUns, rdUns, posUns, unsBs]
 | u :: U, a, h, hs => by
   simp only [List.all_cons, Bool.and_eq_true] at h
   have e : unsBs (u :: U) = unBs u ++ unsBs U := by simp [unsBs]
   rw [e] at hs ⊢
   obtain ⟨g, v, q⟩ := rd_un s a (unsBs U ++ b) u hl h.1 (by rw [hs]; simp only [List.append_assoc])
   obtain ⟨h1, h2, h3⟩ := rd_uns s hl b U (a ++ unBs u) h.2 (by rw [hs]; simp only [List.append_assoc])
   simp only [List.length_cons, goodUns, rdUns, posUns, q, v, g, h1, h2, h3, Bool.and_self]
   simp only [List.append_assoc]
   trivial
theorem leb_pos (u : Nat) : 1 ≤ (leb u).length := by
 unfold leb; simp
theorem unsBs_pos (U : List Un) : U.length ≤ (unsBs U).length := by
 induction U with
 | nil => simp
 | cons u U ih =>
  have e : unsBs (u :: U) = unBs u ++ unsBs U := by simp [unsBs]
  have h : 1 ≤ (unBs u).length := by
   unfold unBs tmBs wholeBs
   have := leb_pos (zig (2 * ((magB u.a.natAbs).length : Int) + flag (decide (u.a < 0))))
   simp only [List.length_append]
   omega
  rw [e, List.length_append, List.length_cons]
  omega
def goodS (s : ByteArray) (p : Int) : Bool := decide (0 ≤ p) && (shortS s && (rdG s p && (decide (0 ≤ rdV s p) && decide (rdV s p ≤ (s.data.toList.length : Nat) - rdP s p))))
def cntF (s : ByteArray) : Nat := (rdV s 0).toNat
def unsF (s : ByteArray) : List Un := rdUns s (rdP s 0) (cntF s)
def goodF (s : ByteArray) : Bool := goodS s 0 && (decide (rdV s 0 ≤ 1000) && (goodUns s (rdP s 0) (cntF s) && decide (posUns s (rdP s 0) (cntF s) = (s.data.toList.length : Nat))))
theorem rd_points (s : ByteArray) (U : List Un) (h : U.all okW = true) (hn : U.length ≤ 19) (hs : s.data.toList = pointsBs U) : goodF s = true ∧ unsF s = U := by
 have hb := unsBs_len h
 have hp := unsBs_pos U
 have l1 := leb_len (zig (U.length : Nat))
 have hL : s.data.toList.length = (leb (zig (U.length : Nat))).length + (unsBs U).length := by rw [hs]; simp only [pointsBs, List.length_append]
 have hl : shortS s = true := by
  unfold shortS
  exact decide_eq_true (by omega)
 obtain ⟨g0, v0, q0⟩ := rd_form s [] (unsBs U) (U.length : Nat) (rangeB_le (by omega) (by omega)) (by rw [hs]; simp only [pointsBs, List.nil_append])
 rw [show ((([] : List UInt8).length : Nat) : Int) = 0 from rfl] at g0 v0 q0
 rw [List.nil_append] at q0
 obtain ⟨h1, h2, h3⟩ := rd_uns s hl [] U (leb (zig (U.length : Nat))) h (by rw [hs, List.append_nil]; rfl)
 rw [← q0] at h1 h2 h3
 have n0 : cntF s = U.length := by unfold cntF; rw [v0]; omega
 constructor
 ·unfold goodF goodS
  rw [n0, h1, h3, g0, hl, v0, q0]
  simp only [List.length_append, Bool.and_eq_true, decide_eq_true_eq]
  refine ⟨⟨by omega, trivial, trivial, by omega, by omega⟩, by omega, trivial, by omega⟩
 ·unfold unsF
  rw [n0, h2]
end Go.Vse
set_option maxRecDepth 100000
namespace Go.Vse
open Go.Proofs
theorem raw_chain : ∀ (l : List Un) (k : Nat), rawU l = true → k + 1 < l.length → linkU (l.getD k u0) (l.getD (k + 1) u0) = true
 | [], k, _, h => by simp at h
 | [u], k, _, h => by simp at h
 | u :: v :: l, 0, h, _ => rawU_link h
 | u :: v :: l, k + 1, h, hk => by
   have := raw_chain (v :: l) k (rawU_tail h) (by simpa using hk)
   simpa [List.getD_cons_succ] using this
theorem raw_one : ∀ (l : List Un) (k : Nat), rawU l = true → k < l.length → oneU (l.getD k u0) = true
 | [], k, _, h => by simp at h
 | u :: l, 0, h, _ => rawU_head h
 | u :: l, k + 1, h, hk => by
   have := raw_one l k (rawU_tail h) (by simpa using hk)
   simpa [List.getD_cons_succ] using this
theorem rev_getD (l : List Un) (k : Nat) (h : k < l.length) : l.reverse.getD k u0 = l.getD (l.length - 1 - k) u0 := by
 simp [List.getD_eq_getElem?_getD, List.getElem?_reverse h]
theorem back_of {U : List Un} (hg : goodU U = true) (h2 : 2 ≤ U.length) : backB U.reverse = true := by
 obtain ⟨h1, _⟩ := good_ok hg
 have hr : rawU U = true := by
  unfold goodU at hg
  rw [Bool.and_eq_true] at hg
  exact rawOk_raw hg.1
 have hl := raw_chain U (U.length - 2) hr (by omega)
 have e : U.length - 2 + 1 = U.length - 1 := by omega
 rw [e] at hl
 have hu := raw_one U (U.length - 2) hr (by omega)
 have hv := raw_one U (U.length - 1) hr (by omega)
 have hn := not_apart hu hv hl
 have o1 := h1 (U.length - 1) (by omega)
 have o2 := h1 (U.length - 2) (by omega)
 have g0 : U.reverse.getD 0 u0 = U.getD (U.length - 1) u0 := by rw [rev_getD U 0 (by omega)]; rfl
 have g1 : U.reverse.getD 1 u0 = U.getD (U.length - 2) u0 := by rw [rev_getD U 1 (by omega)]; rfl
 unfold backB
 rw [g0, g1, o1, o2, List.length_reverse, decide_eq_true h2]
 generalize U.getD (U.length - 1) u0 = v at *
 generalize U.getD (U.length - 2) u0 = u at *
 have hv' := oneU_all hv
 have hu' := oneU_all hu
 have ha : apartB v.iv u.iv = false := by
  unfold apartB
  show (decide (v.b < u.a) || (decide (v.b = u.a) && (v.ob || u.oa))) = false
  rw [decide_eq_false (show ¬ v.b < u.a by omega), decide_eq_false (show ¬ v.b = u.a by omega)]
  rfl
 rw [ha]
 rfl
structure Pt (U : List Un) : Prop where
 good : goodU U = true
 one : 1 ≤ U.length
 few : U.length ≤ 7
theorem Pt.pre {U : List Un} (h : Pt U) : preK24 U = true := by
 unfold preK24
 rw [h.good, decide_eq_true h.one, decide_eq_true (show U.length ≤ 19 by have := h.few; omega)]
 rfl
theorem Pt.back_pre {U : List Un} (h : Pt U) : preK24 U.reverse = true := by
 unfold preK24
 rw [List.length_reverse, decide_eq_true h.one, decide_eq_true (show U.length ≤ 19 by have := h.few; omega)]
 by_cases h2 : 2 ≤ U.length
 · rw [back_of h.good h2, Bool.or_true]; rfl
 · have h1 := h.one
   have : U.reverse = U := by
     match U, h1, h2 with
     | [u], _, _ => rfl
     | u :: v :: l, _, h2 => simp at h2
   rw [this, h.good]; rfl
theorem Pt.okW {U : List Un} (h : Pt U) : U.all okW = true := good_okW h.good
theorem Pt.back_okW {U : List Un} (h : Pt U) : U.reverse.all Vse.okW = true := by
 have := h.okW
 rw [List.all_eq_true] at this ⊢
 intro u hu
 exact this u (List.mem_reverse.1 hu)
theorem pt_traj {c : Cr} (h : c.ok = true) : Pt (trajU c) := ⟨(traj_good h).1, (traj_good h).2.1, (traj_good h).2.2⟩
end Go.Vse
