/- Helpers for the proof: no statement of its own. -/
import Derived.Test.YtpnbbgegfjefkaaGreatDoorUnF
set_option linter.unusedVariables false
set_option linter.unusedSimpArgs false
set_option linter.unnecessarySimpa false
set_option linter.deprecated false
set_option maxRecDepth 100000
namespace Go.Vse
open Go.Proofs
structure Sm where
 t : Int
 x : Int
 y : Int
def smCells (s : Sm) : List AV := ratCells (s.t : Rat) ++ (ratCells (s.x : Rat) ++ ratCells (s.y : Rat))
def wholeB (l : List AV) : Bool := ratOk l && decide ((ratV l).den = 1)
def wholeV (l : List AV) : Int := (ratV l).num
def smV (l : List AV) : Sm := ⟨wholeV (l.take 4), wholeV ((l.drop 4).take 4), wholeV (l.drop 8)⟩
def smOk (l : List AV) : Bool := wholeB (l.take 4) && (wholeB ((l.drop 4).take 4) && wholeB (l.drop 8))
theorem wholeB_eq {l : List AV} (h : wholeB l = true) : l = ratCells ((wholeV l : Int) : Rat) := by
 simp only [wholeB, Bool.and_eq_true, decide_eq_true_eq] at h
 unfold wholeV
 rw [rat_of_den h.2]
 exact ratOk_eq h.1
theorem smOk_eq {l : List AV} (h : smOk l = true) : l = smCells (smV l) := by
 simp only [smOk, Bool.and_eq_true] at h
 obtain ⟨h1, h2, h3⟩ := h
 have e1 := wholeB_eq h1
 have e2 := wholeB_eq h2
 have e3 := wholeB_eq h3
 show l = ratCells ((wholeV (l.take 4) : Int) : Rat) ++ (ratCells ((wholeV ((l.drop 4).take 4) : Int) : Rat) ++ ratCells ((wholeV (l.drop 8) : Int) : Rat))
 rw [← e1, ← e2, ← e3]
 have := List.take_append_drop 4 (l.drop 4)
 rw [List.drop_drop] at this
 rw [this, List.take_append_drop]
theorem wholeV_cells (n : Int) : wholeV (ratCells (n : Rat)) = n := by unfold wholeV; rw [ratV_cells]; rfl
theorem wholeB_cells (n : Int) : wholeB (ratCells (n : Rat)) = true := by
 unfold wholeB
 rw [ratOk_cells, ratV_cells]
 rfl
theorem smV_cells (s : Sm) : smV (smCells s) = s := by
 show Sm.mk (wholeV (ratCells (s.t : Rat))) (wholeV (ratCells (s.x : Rat))) (wholeV (ratCells (s.y : Rat))) = s
 rw [wholeV_cells, wholeV_cells, wholeV_cells]
theorem smOk_cells (s : Sm) : smOk (smCells s) = true := by
 show (wholeB (ratCells (s.t : Rat)) && (wholeB (ratCells (s.x : Rat)) && wholeB (ratCells (s.y : Rat)))) = true
 rw [wholeB_cells, wholeB_cells, wholeB_cells]; rfl
def argSm : Arg Sm where
 get := fun a => match a with | .agg l => some (smV l, [smOk l]) | _ => none
 put := fun s => .agg (smCells s)
 ok := by
  intro a x cs h hc
  split at h
  ·rename_i l
   simp only [Option.some.injEq, Prod.mk.injEq] at h
   obtain ⟨rfl, rfl⟩ := h
   have := smOk_eq (l := l) (hc _ (by simp))
   rw [← this]; exact Sees.refl _
  ·cases h
def argI : Arg Int where
 get := fun a => match a with | .agg [.c (.v (.bool p)), .c (.v (.string s))] => some (iv p s, [okI p s]) | _ => none
 put := intForm
 ok := by
  intro a x cs h hc
  split at h
  ·rename_i p s
   simp only [Option.some.injEq, Prod.mk.injEq] at h
   obtain ⟨rfl, rfl⟩ := h
   exact Sees.of_eq (form_eq (hc _ (by simp)))
  ·cases h
def thruL (a b : Sm) : L4 := ⟨hold ((a.x : Rat) - slopeB a.t a.x b.t b.x * (a.t : Rat)), hold (slopeB a.t a.x b.t b.x), hold ((a.y : Rat) - slopeB a.t a.y b.t b.y * (a.t : Rat)), hold (slopeB a.t a.y b.t b.y)⟩
def smpB (s : Sm) : Bool := decide (0 ≤ s.t) && (decide (s.t ≤ 63) && (decide (0 ≤ s.x) && (decide (s.x ≤ 63) && (decide (0 ≤ s.y) && decide (s.y ≤ 63)))))
def Γ31 : FuncId → Option Spec := fun f => bif Nat.beq f 104 then some (pureSpec K104) else none
theorem Γ31_ok : ∀ f s, Γ31 f = some s → SpecOk Tryz.prog f s := one_ok f104_ok.spec
def Γ33 : FuncId → Option Spec := fun f => bif Nat.beq f 105 then some (pureSpec K105) else none
theorem Γ33_ok : ∀ f s, Γ33 f = some s → SpecOk Tryz.prog f s := one_ok f105_ok.spec
def M31 (n : Int) : Tr AV :=
 let x1 : ByteArray := ⟨⟨magB n.natAbs⟩⟩
 let x2 : Bool := decide (n < 0)
 let x3 : Int := wordV x1
 let x4 : List AV := [.c (.v (.bool true))]
 let x5 : Bool := !x2
 .ite (!wordB x1) (.ret (AV.tup [.c (.v (.int IntKind.i64 0)), .c (.v (.bool false))])) (.need (bif x2 then true else true) (.ite (bif x2 then bif true then decide (x3 ≤ 9223372036854775808) else false else false) (.ret (AV.tup (.c (.v (.int IntKind.i64 (IntKind.i64.wrap (IntKind.u64.wrap (0 - x3))))) :: x4))) (.need (bif x5 then true else true) (.ite (bif x5 then bif true then decide (x3 ≤ 9223372036854775807) else false else false) (.ret (AV.tup (.c (.v (.int IntKind.i64 (IntKind.i64.wrap x3))) :: x4))) (.ret (AV.tup [.c (.v (.int IntKind.i64 0)), .c (.v (.bool false))]))))))
def M33 (a : Sm) (b : Sm) : Tr AV :=
 let x1 : List AV := [.c (.v (.bool false)), .c (.v (.string ⟨⟨denB 1⟩⟩))]
 let x2 : List AV := .c (.v (.bool (decide (a.t < 0)))) :: .c (.v (.string ⟨⟨magB a.t.natAbs⟩⟩)) :: x1
 let x3 : Bool := ratOk x2
 let x4 : List AV := .c (.v (.bool (decide (a.x < 0)))) :: .c (.v (.string ⟨⟨magB a.x.natAbs⟩⟩)) :: x1
 let x5 : List AV := .c (.v (.bool (decide (b.t < 0)))) :: .c (.v (.string ⟨⟨magB b.t.natAbs⟩⟩)) :: x1
 let x6 : Bool := ratOk x5
 let x7 : List AV := .c (.v (.bool (decide (b.x < 0)))) :: .c (.v (.string ⟨⟨magB b.x.natAbs⟩⟩)) :: x1
 let x8 : List AV := .c (.v (.bool (decide (a.y < 0)))) :: .c (.v (.string ⟨⟨magB a.y.natAbs⟩⟩)) :: x1
 let x9 : List AV := .c (.v (.bool (decide (b.y < 0)))) :: .c (.v (.string ⟨⟨magB b.y.natAbs⟩⟩)) :: x1
 let x10 : Int := (hold (ratV x4 - slopeB (ratV x2) (ratV x4) (ratV x5) (ratV x7) * ratV x2)).num
 let x11 : Int := (hold (slopeB (ratV x2) (ratV x4) (ratV x5) (ratV x7))).num
 let x12 : Int := (hold (ratV x8 - slopeB (ratV x2) (ratV x8) (ratV x5) (ratV x9) * ratV x2)).num
 let x13 : Int := (hold (slopeB (ratV x2) (ratV x8) (ratV x5) (ratV x9))).num
 .need x3 (.need (ratOk x4) (.need x6 (.need (ratOk x7) (.need (fitBet (ratV x2) (ratV x4) (ratV x5) (ratV x7)) (.need x3 (.need (ratOk x8) (.need x6 (.need (ratOk x9) (.need (fitBet (ratV x2) (ratV x8) (ratV x5) (ratV x9)) (.ret (AV.agg [.c (.v (.bool (decide (x10 < 0)))), .c (.v (.string ⟨⟨magB x10.natAbs⟩⟩)), .c (.v (.bool false)), .c (.v (.string ⟨⟨denB (hold (ratV x4 - slopeB (ratV x2) (ratV x4) (ratV x5) (ratV x7) * ratV x2)).den⟩⟩)), .c (.v (.bool (decide (x11 < 0)))), .c (.v (.string ⟨⟨magB x11.natAbs⟩⟩)), .c (.v (.bool false)), .c (.v (.string ⟨⟨denB (hold (slopeB (ratV x2) (ratV x4) (ratV x5) (ratV x7))).den⟩⟩)), .c (.v (.bool (decide (x12 < 0)))), .c (.v (.string ⟨⟨magB x12.natAbs⟩⟩)), .c (.v (.bool false)), .c (.v (.string ⟨⟨denB (hold (ratV x8 - slopeB (ratV x2) (ratV x8) (ratV x5) (ratV x9) * ratV x2)).den⟩⟩)), .c (.v (.bool (decide (x13 < 0)))), .c (.v (.string ⟨⟨magB x13.natAbs⟩⟩)), .c (.v (.bool false)), .c (.v (.string ⟨⟨denB (hold (slopeB (ratV x2) (ratV x8) (ratV x5) (ratV x9))).den⟩⟩))])))))))))))
theorem M31_eq (n : Int) : execFn Tryz.prog Γ31 noL 1010 Tryz.f31 [intForm n] = M31 n := by kernel_rfl
theorem M33_eq (a b : Sm) : execFn Tryz.prog Γ33 noL 1010 Tryz.f33 [.agg (smCells a), .agg (smCells b)] = M33 a b := by kernel_rfl
theorem M31_sat (n : Int) (h0 : 0 ≤ n) (h1 : n ≤ 1000000) : (M31 n).sat fun r => r = .tup [intA .i64 n, boolA true] := by
 have hl : (magB n.natAbs).length ≤ 8 := magB_len8 (by omega)
 have hb : wordB ⟨⟨magB n.natAbs⟩⟩ = true := decide_eq_true hl
 have hv : wordV ⟨⟨magB n.natAbs⟩⟩ = n := by
  unfold wordV
  rw [if_pos hl]
  show ((magN (magB n.natAbs) : Nat) : Int) = n
  rw [magN_magB]
  omega
 have hn : decide (n < 0) = false := decide_eq_false (by omega)
 have hm : decide (n ≤ 9223372036854775807) = true := decide_eq_true (by omega)
 have hw : IntKind.i64.wrap n = n := wrap_i64 (by omega)
 simp only [M31, hb, hv, hn, hm, hw, Bool.not_true, Bool.not_false, cond_true, cond_false, sat_true]
 repeat first
  | refine sat_need rfl ?_
  | refine sat_ite (fun h => Bool.noConfusion h) (fun _ => ?_)
  | refine sat_ite (fun _ => ?_) (fun h => Bool.noConfusion h)
 exact sat_ret rfl
theorem slope_bnd2 {a b v w : Int} (hv : 0 ≤ v ∧ v ≤ 63) (hw : 0 ≤ w ∧ w ≤ 63) (ha : 0 ≤ a ∧ a ≤ 63) (hb : a < b ∧ b ≤ a + 8) :
   fitBet a v b w = true ∧ Bnd 63 8 (slopeB a v b w) ∧ Bnd 4473 8 ((v : Rat) - slopeB a v b w * (a : Rat)) := by
 have ew : (w : Rat) - (v : Rat) = ((w - v : Int) : Rat) := by simp
 have eb : (b : Rat) - (a : Rat) = ((b - a : Int) : Rat) := by simp
 have n1 : Bnd 63 1 (((w - v : Int) : Rat)) := ⟨by show (w - v).natAbs ≤ 63; omega, Nat.le_refl _⟩
 have n2 : Bnd 8 1 (((b - a : Int) : Rat)) := ⟨by show (b - a).natAbs ≤ 8; omega, Nat.le_refl _⟩
 have nv : Bnd 63 1 ((v : Rat)) := ⟨by show v.natAbs ≤ 63; omega, Nat.le_refl _⟩
 have nw : Bnd 63 1 ((w : Rat)) := ⟨by show w.natAbs ≤ 63; omega, Nat.le_refl _⟩
 have na : Bnd 63 1 ((a : Rat)) := ⟨by show a.natAbs ≤ 63; omega, Nat.le_refl _⟩
 have nb : Bnd 71 1 ((b : Rat)) := ⟨by show b.natAbs ≤ 71; omega, Nat.le_refl _⟩
 have hs : Bnd 63 8 (slopeB a v b w) := by
   unfold slopeB
   rw [ew, eb, ← div_divInt]
   have := Bnd.divInt (n := ((w - v : Int) : Rat).num * (((b - a : Int) : Rat).den : Int)) (d := (((w - v : Int) : Rat).den : Int) * ((b - a : Int) : Rat).num) (N := 63) (D := 8) (by show (0 : Int) < 1 * (b - a); omega) (by show ((w - v) * 1).natAbs ≤ 63; omega) (by show ((1 : Int) * (b - a)).natAbs ≤ 8; omega)
   exact this
 have hne : (b : Rat) - (a : Rat) ≠ 0 := by
   rw [eb]
   intro h
   have : (b - a : Int) = 0 := by have := congrArg Rat.num h; exact this
   omega
 refine ⟨?_, hs, (nv.sub (hs.mul na)).mono (by decide) (by decide)⟩
 simp only [fitBet, fitSub, Bool.and_eq_true, decide_eq_true_eq]
 refine ⟨⟨⟨⟨⟨fitA_of nw nv.neg ?_ ?_ ?_ ?_ ?_ ?_, fitA_of nb na.neg ?_ ?_ ?_ ?_ ?_ ?_⟩, ?_⟩, hne⟩, fitM_of hs na ?_ ?_ ?_ ?_ ?_ ?_⟩, fitA_of nv (hs.mul na).neg ?_ ?_ ?_ ?_ ?_ ?_⟩
 any_goals decide
 rw [ew, eb]
 exact fitD_of n1 n2 (by decide) (by decide) (by decide) (by decide) (by decide) (by decide)
def preT (a b : Sm) : Bool := smpB a && (decide (0 ≤ b.x) && (decide (b.x ≤ 63) && (decide (0 ≤ b.y) && (decide (b.y ≤ 63) && (decide (a.t < b.t) && decide (b.t ≤ a.t + 8))))))
theorem thru_bnd {a b : Sm} (h : preT a b = true) : fitBet a.t a.x b.t b.x = true ∧ fitBet a.t a.y b.t b.y = true ∧ lbB (thruL a b) = true := by
 simp only [preT, smpB, Bool.and_eq_true, decide_eq_true_eq] at h
 obtain ⟨⟨h1, h2, h3, h4, h5, h6⟩, h7, h8, h9, h10, h11, h12⟩ := h
 obtain ⟨a1, a2, a3⟩ := slope_bnd2 ⟨h3, h4⟩ ⟨h7, h8⟩ ⟨h1, h2⟩ ⟨h11, h12⟩
 obtain ⟨b1, b2, b3⟩ := slope_bnd2 ⟨h5, h6⟩ ⟨h9, h10⟩ ⟨h1, h2⟩ ⟨h11, h12⟩
 refine ⟨a1, b1, ?_⟩
 simp only [lbB, thruL, hold_eq, Bool.and_eq_true, bndB_iff]
 exact ⟨⟨a3.mono (by decide) (by decide), a2⟩, b3.mono (by decide) (by decide), b2⟩
theorem M33_sat (a b : Sm) (h : preT a b = true) : (M33 a b).sat fun r => r = lineA (thruL a b) := by
 obtain ⟨h1, h2, _⟩ := thru_bnd h
 simp only [M33, ratV_int1, ratOk_int1, h1, h2, sat_true]
 exact sat_ret rfl
def K31 : List AV → Option (AV × List Bool) := (F1 argI).K (fun x => .tup [intA .i64 x.1, boolA true]) fun x => [decide (0 ≤ x.1), decide (x.1 ≤ 1000000)]
theorem f31_ok : PureOk Tryz.prog 31 K31 :=
 (F1 argI).pureEq (N := 1010) (L := noL) prog_mixed Γ31_ok (fn := Tryz.f31) (c := codeOf Tryz.f31) (by kernel_rfl) (by kernel_rfl) (by kernel_rfl) (blocksOk_none _ _) (fun _ => rfl) (M := fun x => M31 x.1) (fun x => M31_eq x.1)
  fun x h => M31_sat x.1 (dec (h (decide (0 ≤ x.1)) (by simp))) (dec (h (decide (x.1 ≤ 1000000)) (by simp)))
def K33 : List AV → Option (AV × List Bool) := (F2 argSm argSm).K (fun x => lineA (thruL x.1 x.2.1)) fun x => [preT x.1 x.2.1]
theorem f33_ok : PureOk Tryz.prog 33 K33 :=
 (F2 argSm argSm).pureEq (N := 1010) (L := noL) prog_mixed Γ33_ok (fn := Tryz.f33) (c := codeOf Tryz.f33) (by kernel_rfl) (by kernel_rfl) (by kernel_rfl) (blocksOk_none _ _) (fun _ => rfl) (M := fun x => M33 x.1 x.2.1) (fun x => M33_eq x.1 x.2.1)
  fun x h => M33_sat x.1 x.2.1 (h _ (by simp))
end Go.Vse
set_option maxRecDepth 100000
namespace Go.Vse
open Go.Proofs
structure Stp where
 t : Int
 x : Int
 y : Int
 k : Int
def st0 : Stp := ⟨0, 0, 0, 0⟩
def u8B (n : Int) : Bool := decide (0 ≤ n) && decide (n < 256)
def stIV (s : Stp) : List IV := [.v (.int .u8 s.t), .v (.int .u8 s.x), .v (.int .u8 s.y), .v (.int .u8 s.k)]
def stV : List IV → Stp
 | [.v (.int .u8 a), .v (.int .u8 b), .v (.int .u8 c), .v (.int .u8 d)] => ⟨a, b, c, d⟩
 | _ => st0
def stOk : List IV → Bool
 | [.v (.int .u8 a), .v (.int .u8 b), .v (.int .u8 c), .v (.int .u8 d)] => u8B a && (u8B b && (u8B c && u8B d))
 | _ => false
def Stp.ok (s : Stp) : Bool := u8B s.t && (u8B s.x && (u8B s.y && u8B s.k))
theorem stOk_eq {l : List IV} (h : stOk l = true) : l = stIV (stV l) ∧ (stV l).ok = true := by
 unfold stOk at h
 split at h
 ·exact ⟨rfl, h⟩
 ·cases h
def stEl (S : List Stp) : Nat → List IV := fun k => stIV (S.getD k st0)
def stsOf (n : Nat) (el : Nat → List IV) : List Stp := (List.range n).map fun k => stV (el k)
def stsOk (n : Nat) (el : Nat → List IV) : Bool := (List.range n).all fun k => stOk (el k)
theorem stsOf_len (n : Nat) (el : Nat → List IV) : (stsOf n el).length = n := by simp [stsOf]
theorem stsOk_el {n : Nat} {el : Nat → List IV} (h : stsOk n el = true) : (∀ k, k < n → el k = stEl (stsOf n el) k) ∧ (stsOf n el).all Stp.ok = true := by
 have h1 := List.all_eq_true.1 h
 refine ⟨fun k hk => ?_, List.all_eq_true.2 fun r hr => ?_⟩
 ·have := (stOk_eq (h1 k (List.mem_range.2 hk))).1
  have e : (stsOf n el).getD k st0 = stV (el k) := by simp [stsOf, List.getD_eq_getElem?_getD, hk]
  unfold stEl
  rw [e]; exact this
 ·unfold stsOf at hr
  obtain ⟨k, hk, rfl⟩ := List.mem_map.1 hr
  exact (stOk_eq (h1 k hk)).2
theorem stsOf_el (S : List Stp) : stsOf S.length (stEl S) = S := by
 apply List.ext_getElem
 ·simp [stsOf]
 ·intro i h1 h2
  simp [stsOf, stEl, stIV, stV, List.getD_eq_getElem?_getD, h2]
theorem stsOk_sts {S : List Stp} (h : S.all Stp.ok = true) : stsOk S.length (stEl S) = true := by
 refine List.all_eq_true.2 fun k hk => ?_
 have hk := List.mem_range.1 hk
 have : (S.getD k st0).ok = true := by
  have : S.getD k st0 = S[k] := by simp [List.getD_eq_getElem?_getD, hk]
  rw [this]
  exact List.all_eq_true.1 h _ (List.getElem_mem hk)
 exact this
structure Cr where
 t : Int
 x : Int
 y : Int
 S : List Stp
def crCells (c : Cr) : List AV := [.c (.v (.int .u8 c.t)), .c (.v (.int .u8 c.x)), .c (.v (.int .u8 c.y)), .c (.sl c.S.length 4 (stEl c.S))]
def argCr : Arg Cr where
 get := fun a => match a with | .agg [.c (.v (.int .u8 t)), .c (.v (.int .u8 x)), .c (.v (.int .u8 y)), .c (.sl n 4 el)] => some (⟨t, x, y, stsOf n el⟩, [stsOk n el]) | _ => none
 put := fun c => .agg (crCells c)
 ok := by
  intro a x cs h hc
  split at h
  ·rename_i t x y n el
   simp only [Option.some.injEq, Prod.mk.injEq] at h
   obtain ⟨rfl, rfl⟩ := h
   have h1 := (stsOk_el (n := n) (el := el) (hc _ (by simp))).1
   unfold crCells
   simp only [stsOf_len]
   exact Sees.agg (.cons (Sees.refl _) (.cons (Sees.refl _) (.cons (Sees.refl _) (.cons (Sees.sl h1) .nil))))
  ·cases h
def eTr : EForm (Cr × List Un × Sm) where
 parse := fun e =>
  match e with
  | [some (.cells [.c (.v (.int .u8 t)), .c (.v (.int .u8 x)), .c (.v (.int .u8 y)), .c (.sl n 4 el)] 70), some (.arr m 36 el' 51), some (.cells l 101)] => some ((⟨t, x, y, stsOf n el⟩, unsOf m el', smV l), [stsOk n el, unsOk m el', smOk l])
  | _ => none
 ents := fun x => [some (.cells (crCells x.1) 70), some (.arr x.2.1.length 36 (unEl x.2.1) 51), some (.cells (smCells x.2.2) 101)]
 ok := by
  intro e x cs h hc
  split at h
  ·rename_i t x y n el m el' l
   simp only [Option.some.injEq, Prod.mk.injEq] at h
   obtain ⟨rfl, rfl⟩ := h
   have h1 := (stsOk_el (n := n) (el := el) (hc _ (by simp))).1
   have h2 := unsOk_el (n := m) (el := el') (hc _ (by simp))
   have h3 := smOk_eq (l := l) (hc _ (by simp))
   simp only [crCells, stsOf_len, unsOf_len]
   refine .cons (.cells _ _ _ ?_) (.cons (.arr _ _ _ _ _ h2) (.cons ?_ .nil))
   ·exact .cons (Sees.refl _) (.cons (Sees.refl _) (.cons (Sees.refl _) (.cons (Sees.sl h1) .nil)))
   ·rw [← h3]; exact .refl _
  ·cases h
abbrev T16 := (Unit × Nat × Unit × Bool × Int × Unit) × (Cr × List Un × Sm)
abbrev F16 : Form (Unit × Nat × Unit × Bool × Int × Unit) := .cons (argPtr 0 0) (.cons (argMs 1) (.cons (argPtr 2 0) (.cons argBool (.cons argInt .nil))))
abbrev G16 : Form (Nat × Unit × Bool × Unit) := .cons (argMs 0) (.cons (argPtr 1 0) (.cons argBool .nil))
def eTo : EForm (List Un × Sm) where
 parse := fun e =>
  match e with
  | [some (.arr m 36 el' 51), some (.cells l 101)] => some ((unsOf m el', smV l), [unsOk m el', smOk l])
  | _ => none
 ents := fun x => [some (.arr x.1.length 36 (unEl x.1) 51), some (.cells (smCells x.2) 101)]
 ok := by
  intro e x cs h hc
  split at h
  ·rename_i m el' l
   simp only [Option.some.injEq, Prod.mk.injEq] at h
   obtain ⟨rfl, rfl⟩ := h
   have h2 := unsOk_el (n := m) (el := el') (hc _ (by simp))
   have h3 := smOk_eq (l := l) (hc _ (by simp))
   simp only [unsOf_len]
   refine .cons (.arr _ _ _ _ _ h2) (.cons ?_ .nil)
   rw [← h3]; exact .refl _
  ·cases h
def nxt (l : Sm) (s : Stp) : Sm := ⟨l.t + 1 + s.t % 8, s.x % 64, s.y % 64⟩
def frm (l : Sm) (s : Stp) : Sm := bif decide (s.k % 8 = 1) then ⟨l.t, s.y % 64, s.x % 64⟩ else l
def stepTr (st : List Un × Sm × Bool) (s : Stp) : List Un × Sm × Bool :=
 (bif decide (s.k % 8 = 0) then st.1 else st.1 ++ [⟨(frm st.2.1 s).t, (nxt st.2.1 s).t, decide (0 < st.1.length) && !st.2.2, false, thruL (frm st.2.1 s) (nxt st.2.1 s)⟩], nxt st.2.1 s, decide (s.k % 8 = 0))
def runTr (st : List Un × Sm × Bool) (S : List Stp) : List Un × Sm × Bool := S.foldl stepTr st
def pre16 (x : T16) : Bool := decide (x.1.2.1 = 0) && (decide (x.2.2.1.length = 0) && (x.1.2.2.2.1 && (decide (x.1.2.2.2.2.1 = 0) && (smpB x.2.2.2 && (decide (x.2.2.2.t ≤ 15) && (x.2.1.S.all Stp.ok && decide (x.2.1.S.length ≤ 6)))))))
def res16 (x : T16) : (Nat × Unit × Bool × Unit) × (List Un × Sm) :=
 let r := runTr (x.2.2.1, x.2.2.2, x.1.2.2.2.1) x.2.1.S
 ((r.1.length, (), r.2.2, ()), (r.1, r.2.1))
def lp16 : LoopSt T16 ((Nat × Unit × Bool × Unit) × (List Un × Sm)) := lpF { nt := 133, live := [1, 3, 4, 5, 6], lifts := [(3, 36, 51)] } { nt := 133, live := [3, 4, 5], lifts := [(3, 36, 51)] } (MForm.with eTr F16) (MForm.with eTo G16) res16 pre16
theorem lp16_good : lp16.Good2 := lpF_good _ _ _ _ _ _
def L16 : Nat → Option (St → Tr (Ex × St)) := fun id => bif Nat.beq id 0 then some (lp16.g 0) else none
def Γb16 : FuncId → Option Spec := fun f => bif Nat.beq f 103 then some (pureSpec K103) else bif Nat.beq f 31 then some (pureSpec K31) else bif Nat.beq f 33 then some (pureSpec K33) else bif Nat.beq f 35 then some (pureSpec K35) else none
theorem Γb16_ok : ∀ f s, Γb16 f = some s → SpecOk Tryz.prog f s := step_ok f103_ok.spec (step_ok f31_ok.spec (step_ok f33_ok.spec (one_ok f35_ok.spec)))
def step16 (m : Nat) (al : Bool) (i : Int) (c : Cr) (O : List Un) (l : Sm) : Tr (T16 ⊕ (Nat × Unit × Bool × Unit) × List Un × Sm) :=
 let x1 : Int := ↑c.S.length
 let x2 : Bool := decide (i < x1)
 let x3 : Bool := decide (l.t < 0)
 let x4 : ByteArray := ⟨⟨magB l.t.natAbs⟩⟩
 let x5 : Int := iv x3 x4
 let x6 : Int := IntKind.i64.wrap (IntKind.i64.wrap (x5 + 1) + IntKind.i64.wrap ((c.S.getD i.toNat st0).t.tmod 8))
 let x7 : Int := IntKind.i64.wrap ((c.S.getD i.toNat st0).x.tmod 64)
 let x8 : Bool := decide (-9223372036854775808 ≤ x7)
 let x9 : Bool := decide (x7 ≤ 9223372036854775807)
 let x10 : Int := IntKind.i64.wrap ((c.S.getD i.toNat st0).y.tmod 64)
 let x11 : Bool := decide (-9223372036854775808 ≤ x10)
 let x12 : Bool := decide (x10 ≤ 9223372036854775807)
 let x13 : Int := (c.S.getD i.toNat st0).k.tmod 8
 let x14 : Bool := x13 != 0
 let x15 : Int := ↑m
 let x16 : Bool := decide (x15 > 0)
 let x17 : IV := IV.v (Value.bool x3)
 let x18 : IV := IV.v (Value.string x4)
 let x19 : IV := IV.v (Value.string ⟨⟨denB 1⟩⟩)
 let x20 : List AV := [.c (.v (.bool false)), AV.c x19]
 let x21 : List AV := AV.c x17 :: AV.c x18 :: .c (.v (.bool false)) :: AV.c x19 :: .c (.v (.bool (decide (x10 < 0)))) :: .c (.v (.string ⟨⟨magB x10.natAbs⟩⟩)) :: .c (.v (.bool false)) :: AV.c x19 :: .c (.v (.bool (decide (x7 < 0)))) :: .c (.v (.string ⟨⟨magB x7.natAbs⟩⟩)) :: x20
 let x22 : Bool := smOk x21
 let x23 : IV := IV.v (Value.bool (decide (x6 < 0)))
 let x24 : IV := IV.v (Value.string ⟨⟨magB x6.natAbs⟩⟩)
 let x25 : List AV := AV.c x23 :: AV.c x24 :: .c (.v (.bool false)) :: AV.c x19 :: .c (.v (.bool (decide (x7 < 0)))) :: .c (.v (.string ⟨⟨magB x7.natAbs⟩⟩)) :: .c (.v (.bool false)) :: AV.c x19 :: .c (.v (.bool (decide (x10 < 0)))) :: .c (.v (.string ⟨⟨magB x10.natAbs⟩⟩)) :: x20
 let x26 : Bool := smOk x25
 let x27 : Bool := preT (smV x21) (smV x25)
 let x28 : Bool := decide (m ≤ O.length)
 let x29 : Nat := m + 1
 let x30 : Bool := decide (x29 ≤ 9223372036854775807)
 let x31 : Nat := x29 * 408
 let x32 : Bool := decide (x31 ≤ 140737488355328)
 let x33 : Bool := stsOk c.S.length (stEl c.S)
 let x34 : Nat := 35 + 1
 let x35 : IV := IV.v (Value.string ⟨⟨denB (thruL (smV x21) (smV x25)).y1.den⟩⟩)
 let x36 : Int := (thruL (smV x21) (smV x25)).y1.num
 let x37 : IV := IV.v (Value.string ⟨⟨magB x36.natAbs⟩⟩)
 let x38 : IV := IV.v (Value.bool (decide (x36 < 0)))
 let x39 : IV := IV.v (Value.string ⟨⟨denB (thruL (smV x21) (smV x25)).y0.den⟩⟩)
 let x40 : Int := (thruL (smV x21) (smV x25)).y0.num
 let x41 : IV := IV.v (Value.string ⟨⟨magB x40.natAbs⟩⟩)
 let x42 : IV := IV.v (Value.bool (decide (x40 < 0)))
 let x43 : IV := IV.v (Value.string ⟨⟨denB (thruL (smV x21) (smV x25)).x1.den⟩⟩)
 let x44 : Int := (thruL (smV x21) (smV x25)).x1.num
 let x45 : IV := IV.v (Value.string ⟨⟨magB x44.natAbs⟩⟩)
 let x46 : IV := IV.v (Value.bool (decide (x44 < 0)))
 let x47 : IV := IV.v (Value.string ⟨⟨denB (thruL (smV x21) (smV x25)).x0.den⟩⟩)
 let x48 : Int := (thruL (smV x21) (smV x25)).x0.num
 let x49 : IV := IV.v (Value.string ⟨⟨magB x48.natAbs⟩⟩)
 let x50 : IV := IV.v (Value.bool (decide (x48 < 0)))
 let x51 : IV := IV.v (Value.string { data := #[] })
 let x52 : List IV := [IV.v (Value.bool false), x51, IV.v (Value.bool false), x51, IV.v (Value.bool false), x19, IV.v (Value.bool false), x24, x23, IV.v (Value.bool false), x51, IV.v (Value.bool false), x51, IV.v (Value.bool false), x19, IV.v (Value.bool false), x18, x17]
 let x53 : List IV := IV.v (Value.bool false) :: IV.v (Value.bool (bif true then !al else false)) :: x52
 let x54 : List IV := IV.v (Value.bool false) :: IV.v (Value.bool false) :: x52
 let x55 : Bool := unsOk O.length (unEl O)
 let x56 : List Un := unsOf O.length (unEl O)
 let x57 : List AV := AV.c x17 :: AV.c x18 :: .c (.v (.bool false)) :: AV.c x19 :: .c (.v (.bool (decide (l.x < 0)))) :: .c (.v (.string ⟨⟨magB l.x.natAbs⟩⟩)) :: .c (.v (.bool false)) :: AV.c x19 :: .c (.v (.bool (decide (l.y < 0)))) :: .c (.v (.string ⟨⟨magB l.y.natAbs⟩⟩)) :: x20
 let x58 : Bool := smOk x57
 let x59 : Bool := preT (smV x57) (smV x25)
 let x60 : IV := IV.v (Value.string ⟨⟨denB (thruL (smV x57) (smV x25)).y1.den⟩⟩)
 let x61 : Int := (thruL (smV x57) (smV x25)).y1.num
 let x62 : IV := IV.v (Value.string ⟨⟨magB x61.natAbs⟩⟩)
 let x63 : IV := IV.v (Value.bool (decide (x61 < 0)))
 let x64 : IV := IV.v (Value.string ⟨⟨denB (thruL (smV x57) (smV x25)).y0.den⟩⟩)
 let x65 : Int := (thruL (smV x57) (smV x25)).y0.num
 let x66 : IV := IV.v (Value.string ⟨⟨magB x65.natAbs⟩⟩)
 let x67 : IV := IV.v (Value.bool (decide (x65 < 0)))
 let x68 : IV := IV.v (Value.string ⟨⟨denB (thruL (smV x57) (smV x25)).x1.den⟩⟩)
 let x69 : Int := (thruL (smV x57) (smV x25)).x1.num
 let x70 : IV := IV.v (Value.string ⟨⟨magB x69.natAbs⟩⟩)
 let x71 : IV := IV.v (Value.bool (decide (x69 < 0)))
 let x72 : IV := IV.v (Value.string ⟨⟨denB (thruL (smV x57) (smV x25)).x0.den⟩⟩)
 let x73 : Int := (thruL (smV x57) (smV x25)).x0.num
 let x74 : IV := IV.v (Value.string ⟨⟨magB x73.natAbs⟩⟩)
 let x75 : IV := IV.v (Value.bool (decide (x73 < 0)))
 .need (bif x2 then true else true) (.ite (bif x2 then bif true then decide (i < 6) else false else false) (.need (decide (0 ≤ i ∧ i < x1)) (.need (okI x3 x4) (.need (decide (0 ≤ x5)) (.need (decide (x5 ≤ 1000000)) (.need true (.need true (.need true (.need (decide (-9223372036854775808 ≤ x6)) (.need (decide (x6 ≤ 9223372036854775807)) (.need x8 (.need x9 (.need x11 (.need x12 (.need true (.ite (x13 == 1) (.need true (.need true (.need true (.need true (.need x11 (.need x12 (.need x8 (.need x9 (.need true (.ite x14 (.ite x16 (.need x22 (.need x26 (.need x27 (.need x28 (.need true (.need x30 (.need x32 (.need true (.need x33 (.need (unsOk x29 (joinE m (unEl O) fun k => List.take x34 (List.drop (k * x34) (x35 :: IV.v (Value.bool false) :: x37 :: x38 :: x39 :: IV.v (Value.bool false) :: x41 :: x42 :: x43 :: IV.v (Value.bool false) :: x45 :: x46 :: x47 :: IV.v (Value.bool false) :: x49 :: x50 :: x53).reverse))) (.need x26 (.ret (Sum.inl (((), x29, (), x13 == 0, IntKind.i64.wrap (i + 1), ()), { t := c.t, x := c.x, y := c.y, S := stsOf c.S.length (stEl c.S) }, unsOf x29 (joinE m (unEl O) fun k => List.take x34 (List.drop (k * x34) (x35 :: IV.v (Value.bool false) :: x37 :: x38 :: x39 :: IV.v (Value.bool false) :: x41 :: x42 :: x43 :: IV.v (Value.bool false) :: x45 :: x46 :: x47 :: IV.v (Value.bool false) :: x49 :: x50 :: x53).reverse)), smV x25)))))))))))))) (.need x22 (.need x26 (.need x27 (.need x28 (.need true (.need x30 (.need x32 (.need true (.need x33 (.need (unsOk x29 (joinE m (unEl O) fun k => List.take x34 (List.drop (k * x34) (x35 :: IV.v (Value.bool false) :: x37 :: x38 :: x39 :: IV.v (Value.bool false) :: x41 :: x42 :: x43 :: IV.v (Value.bool false) :: x45 :: x46 :: x47 :: IV.v (Value.bool false) :: x49 :: x50 :: x54).reverse))) (.need x26 (.ret (Sum.inl (((), x29, (), x13 == 0, IntKind.i64.wrap (i + 1), ()), { t := c.t, x := c.x, y := c.y, S := stsOf c.S.length (stEl c.S) }, unsOf x29 (joinE m (unEl O) fun k => List.take x34 (List.drop (k * x34) (x35 :: IV.v (Value.bool false) :: x37 :: x38 :: x39 :: IV.v (Value.bool false) :: x41 :: x42 :: x43 :: IV.v (Value.bool false) :: x45 :: x46 :: x47 :: IV.v (Value.bool false) :: x49 :: x50 :: x54).reverse)), smV x25))))))))))))))) (.need true (.need x33 (.need x55 (.need x26 (.ret (Sum.inl (((), m, (), x13 == 0, IntKind.i64.wrap (i + 1), ()), { t := c.t, x := c.x, y := c.y, S := stsOf c.S.length (stEl c.S) }, x56, smV x25))))))))))))))))) (.need true (.ite x14 (.ite x16 (.need x58 (.need x26 (.need x59 (.need x28 (.need true (.need x30 (.need x32 (.need true (.need x33 (.need (unsOk x29 (joinE m (unEl O) fun k => List.take x34 (List.drop (k * x34) (x60 :: IV.v (Value.bool false) :: x62 :: x63 :: x64 :: IV.v (Value.bool false) :: x66 :: x67 :: x68 :: IV.v (Value.bool false) :: x70 :: x71 :: x72 :: IV.v (Value.bool false) :: x74 :: x75 :: x53).reverse))) (.need x26 (.ret (Sum.inl (((), x29, (), x13 == 0, IntKind.i64.wrap (i + 1), ()), { t := c.t, x := c.x, y := c.y, S := stsOf c.S.length (stEl c.S) }, unsOf x29 (joinE m (unEl O) fun k => List.take x34 (List.drop (k * x34) (x60 :: IV.v (Value.bool false) :: x62 :: x63 :: x64 :: IV.v (Value.bool false) :: x66 :: x67 :: x68 :: IV.v (Value.bool false) :: x70 :: x71 :: x72 :: IV.v (Value.bool false) :: x74 :: x75 :: x53).reverse)), smV x25)))))))))))))) (.need x58 (.need x26 (.need x59 (.need x28 (.need true (.need x30 (.need x32 (.need true (.need x33 (.need (unsOk x29 (joinE m (unEl O) fun k => List.take x34 (List.drop (k * x34) (x60 :: IV.v (Value.bool false) :: x62 :: x63 :: x64 :: IV.v (Value.bool false) :: x66 :: x67 :: x68 :: IV.v (Value.bool false) :: x70 :: x71 :: x72 :: IV.v (Value.bool false) :: x74 :: x75 :: x54).reverse))) (.need x26 (.ret (Sum.inl (((), x29, (), x13 == 0, IntKind.i64.wrap (i + 1), ()), { t := c.t, x := c.x, y := c.y, S := stsOf c.S.length (stEl c.S) }, unsOf x29 (joinE m (unEl O) fun k => List.take x34 (List.drop (k * x34) (x60 :: IV.v (Value.bool false) :: x62 :: x63 :: x64 :: IV.v (Value.bool false) :: x66 :: x67 :: x68 :: IV.v (Value.bool false) :: x70 :: x71 :: x72 :: IV.v (Value.bool false) :: x74 :: x75 :: x54).reverse)), smV x25))))))))))))))) (.need true (.need x33 (.need x55 (.need x26 (.ret (Sum.inl (((), m, (), x13 == 0, IntKind.i64.wrap (i + 1), ()), { t := c.t, x := c.x, y := c.y, S := stsOf c.S.length (stEl c.S) }, x56, smV x25)))))))))))))))))))))))) (.need x55 (.need x58 (.ret (Sum.inr ((m, (), al, ()), x56, smV x57))))))
def M16 (c : Cr) : Tr AV :=
 let x1 : Int := IntKind.i64.wrap (c.t.tmod 16)
 let x2 : Int := IntKind.i64.wrap (c.x.tmod 64)
 let x3 : Int := IntKind.i64.wrap (c.y.tmod 64)
 let x4 : IV := IV.v (Value.string ⟨⟨denB 1⟩⟩)
 let x5 : List AV := [.c (.v (.bool (decide (x1 < 0)))), .c (.v (.string ⟨⟨magB x1.natAbs⟩⟩)), .c (.v (.bool false)), AV.c x4, .c (.v (.bool (decide (x2 < 0)))), .c (.v (.string ⟨⟨magB x2.natAbs⟩⟩)), .c (.v (.bool false)), AV.c x4, .c (.v (.bool (decide (x3 < 0)))), .c (.v (.string ⟨⟨magB x3.natAbs⟩⟩)), .c (.v (.bool false)), AV.c x4]
 let x6 : List Stp := stsOf c.S.length (stEl c.S)
 let x7 : List Un := unsOf 0 fun x => []
 let x8 : List Un := (runTr (x7, smV x5, true) x6).fst
 let x9 : Nat := x8.length
 let x10 : Bool := decide (x9 ≤ x9)
 let x11 : Nat := x9 + 1
 let x12 : Nat := x11 * 408
 let x13 : Nat := 35 + 1
 let x14 : IV := IV.v (Value.string { data := #[] })
 let x15 : Int := (runTr (x7, smV x5, true) x6).snd.fst.y
 let x16 : Int := (runTr (x7, smV x5, true) x6).snd.fst.x
 let x17 : Int := (runTr (x7, smV x5, true) x6).snd.fst.t
 let x18 : IV := IV.v (Value.string ⟨⟨magB x17.natAbs⟩⟩)
 let x19 : IV := IV.v (Value.bool (decide (x17 < 0)))
 let x20 : List Un := unsOf x11 (joinE x9 (unEl x8) fun k => List.take x13 (List.drop (k * x13) [x14, IV.v (Value.bool false), x14, IV.v (Value.bool false), x4, IV.v (Value.bool false), IV.v (Value.string ⟨⟨magB x15.natAbs⟩⟩), IV.v (Value.bool (decide (x15 < 0))), x14, IV.v (Value.bool false), x14, IV.v (Value.bool false), x4, IV.v (Value.bool false), IV.v (Value.string ⟨⟨magB x16.natAbs⟩⟩), IV.v (Value.bool (decide (x16 < 0))), IV.v (Value.bool false), IV.v (Value.bool false), IV.v (Value.bool false), x14, IV.v (Value.bool false), x14, IV.v (Value.bool false), x4, IV.v (Value.bool false), x18, x19, IV.v (Value.bool false), x14, IV.v (Value.bool false), x14, IV.v (Value.bool false), x4, IV.v (Value.bool false), x18, x19].reverse))
 let x21 : Nat := x20.length
 let x22 : List Un := mergeU x20
 let x23 : List Un := unsOf x9 (unEl x8)
 let x24 : Nat := x23.length
 let x25 : List Un := mergeU x23
 .need true (.need true (.need true (.need (decide (-9223372036854775808 ≤ x1)) (.need (decide (x1 ≤ 9223372036854775807)) (.need (decide (-9223372036854775808 ≤ x2)) (.need (decide (x2 ≤ 9223372036854775807)) (.need (decide (-9223372036854775808 ≤ x3)) (.need (decide (x3 ≤ 9223372036854775807)) (.need (stsOk c.S.length (stEl c.S)) (.need true (.need (smOk x5) (.need (pre16 (((), 0, (), true, 0, ()), { t := c.t, x := c.x, y := c.y, S := x6 }, x7, smV x5)) (.ite (runTr (x7, smV x5, true) x6).snd.snd (.need x10 (.need true (.need (decide (x11 ≤ 9223372036854775807)) (.need (decide (x12 ≤ 140737488355328)) (.need (decide (x11 ≤ x11)) (.need (unsOk x11 (joinE x9 (unEl x8) fun k => List.take x13 (List.drop (k * x13) [x14, IV.v (Value.bool false), x14, IV.v (Value.bool false), x4, IV.v (Value.bool false), IV.v (Value.string ⟨⟨magB x15.natAbs⟩⟩), IV.v (Value.bool (decide (x15 < 0))), x14, IV.v (Value.bool false), x14, IV.v (Value.bool false), x4, IV.v (Value.bool false), IV.v (Value.string ⟨⟨magB x16.natAbs⟩⟩), IV.v (Value.bool (decide (x16 < 0))), IV.v (Value.bool false), IV.v (Value.bool false), IV.v (Value.bool false), x14, IV.v (Value.bool false), x14, IV.v (Value.bool false), x4, IV.v (Value.bool false), x18, x19, IV.v (Value.bool false), x14, IV.v (Value.bool false), x14, IV.v (Value.bool false), x4, IV.v (Value.bool false), x18, x19].reverse))) (.need (rawOk x20) (.need (decide (1 ≤ x21)) (.need (decide (x21 ≤ 19)) (.ret (AV.c (IV.sl x22.length 36 (unEl x22))))))))))))) (.need x10 (.need (unsOk x9 (unEl x8)) (.need (rawOk x23) (.need (decide (1 ≤ x24)) (.need (decide (x24 ≤ 19)) (.ret (AV.c (IV.sl x25.length 36 (unEl x25))))))))))))))))))))))
theorem step16_eq (x : T16) : (exec Tryz.prog (inlΓ Tryz.prog Γb16 (fun _ => false) 1010 1) noL 1010 (loopOf 0 (codeOf Tryz.f16)) (mkSt lp16.nIn (lp16.head x))).bind (lp16.fin 0 0) = step16 x.1.2.1 x.1.2.2.2.1 x.1.2.2.2.2.1 x.2.1 x.2.2.1 x.2.2.2 := by
 obtain ⟨⟨⟨⟩, m, ⟨⟩, al, i, ⟨⟩⟩, c, O, l⟩ := x
 kernel_rfl
theorem M16_eq (c : Cr) : execFn Tryz.prog (inlΓ Tryz.prog Γb16 (fun _ => false) 1010 1) L16 1010 Tryz.f16 [.agg (crCells c)] = M16 c := by kernel_rfl
theorem sm_fold (t x y : Int) : [AV.c (IV.v (Value.bool (decide (t < 0)))), AV.c (IV.v (Value.string { data := { toList := magB t.natAbs } })), AV.c (IV.v (Value.bool false)), AV.c (IV.v (Value.string { data := { toList := denB 1 } })), AV.c (IV.v (Value.bool (decide (x < 0)))), AV.c (IV.v (Value.string { data := { toList := magB x.natAbs } })), AV.c (IV.v (Value.bool false)), AV.c (IV.v (Value.string { data := { toList := denB 1 } })), AV.c (IV.v (Value.bool (decide (y < 0)))), AV.c (IV.v (Value.string { data := { toList := magB y.natAbs } })), AV.c (IV.v (Value.bool false)), AV.c (IV.v (Value.string { data := { toList := denB 1 } }))] = smCells ⟨t, x, y⟩ := rfl
theorem arr_nil : (#[] : Array UInt8) = { toList := [] } := rfl
theorem ivR0 : ivR 0 = zIV := map_c_inj (show ratCells 0 = litZ from cells0)
def stillU (l : Sm) : Un := ⟨l.t, l.t, false, false, ⟨(l.x : Rat), 0, (l.y : Rat), 0⟩⟩
theorem rev_still (t x y : Int) : List.reverse [IV.v (Value.string { data := { toList := [] } }), IV.v (Value.bool false), IV.v (Value.string { data := { toList := [] } }), IV.v (Value.bool false), IV.v (Value.string { data := { toList := denB 1 } }), IV.v (Value.bool false), IV.v (Value.string { data := { toList := magB y.natAbs } }), IV.v (Value.bool (decide (y < 0))), IV.v (Value.string { data := { toList := [] } }), IV.v (Value.bool false), IV.v (Value.string { data := { toList := [] } }), IV.v (Value.bool false), IV.v (Value.string { data := { toList := denB 1 } }), IV.v (Value.bool false), IV.v (Value.string { data := { toList := magB x.natAbs } }), IV.v (Value.bool (decide (x < 0))), IV.v (Value.bool false), IV.v (Value.bool false), IV.v (Value.bool false), IV.v (Value.string { data := { toList := [] } }), IV.v (Value.bool false), IV.v (Value.string { data := { toList := [] } }), IV.v (Value.bool false), IV.v (Value.string { data := { toList := denB 1 } }), IV.v (Value.bool false), IV.v (Value.string { data := { toList := magB t.natAbs } }), IV.v (Value.bool (decide (t < 0))), IV.v (Value.bool false), IV.v (Value.string { data := { toList := [] } }), IV.v (Value.bool false), IV.v (Value.string { data := { toList := [] } }), IV.v (Value.bool false), IV.v (Value.string { data := { toList := denB 1 } }), IV.v (Value.bool false), IV.v (Value.string { data := { toList := magB t.natAbs } }), IV.v (Value.bool (decide (t < 0)))] = unIV (stillU ⟨t, x, y⟩) := by
 show _ = tmIV t ++ (tmIV t ++ ([.v (.bool false), .v (.bool false)] ++ (ivR (x : Rat) ++ (ivR 0 ++ (ivR (y : Rat) ++ ivR 0)))))
 rw [ivR0]
 rfl
theorem step16_in (c : Cr) (O : List Un) (l : Sm) (al : Bool) (i : Nat) (hS : c.S.all Stp.ok = true) (hl : i < c.S.length) (h6 : i < 6) (hO : O.length ≤ 100) (hs : smpB l = true) (ht : l.t ≤ 15 + 8 * i)
   (Q : T16 ⊕ ((Nat × Unit × Bool × Unit) × (List Un × Sm)) → Prop) (hq : Q (.inl (((), (stepTr (O, l, al) (c.S.getD i st0)).1.length, (), (stepTr (O, l, al) (c.S.getD i st0)).2.2, ((i + 1 : Nat) : Int), ()), (c, (stepTr (O, l, al) (c.S.getD i st0)).1, (stepTr (O, l, al) (c.S.getD i st0)).2.1)))) :
   (step16 O.length al (i : Nat) c O l).sat Q := by
 have hk : (c.S.getD i st0).ok = true := by
   have : c.S.getD i st0 = c.S[i] := by simp [List.getD_eq_getElem?_getD, hl]
   rw [this]
   exact List.all_eq_true.1 hS _ (List.getElem_mem hl)
 generalize hsd : c.S.getD i st0 = s at *
 simp only [Stp.ok, u8B, Bool.and_eq_true, decide_eq_true_eq] at hk
 have hs2 := hs
 simp only [smpB, Bool.and_eq_true, decide_eq_true_eq] at hs2
 obtain ⟨l1, l2, l3, l4, l5, l6⟩ := hs2
 have hw1 : IntKind.i64.wrap ((i : Int) + 1) = ((i + 1 : Nat) : Int) := by rw [wrap_i64 (by omega)]; omega
 have c1 : decide ((0 : Int) ≤ (i : Int) ∧ (i : Int) < (c.S.length : Int)) = true := decide_eq_true (by omega)
 have c2 : decide ((i : Int) < (c.S.length : Int)) = true := decide_eq_true (by omega)
 have c3 : decide ((i : Int) < 6) = true := decide_eq_true (by omega)
 have tX : IntKind.i64.wrap (s.x.tmod 64) = s.x % 64 := by rw [Int.tmod_eq_emod_of_nonneg hk.2.1.1, wrap_i64 (by omega)]
 have tY : IntKind.i64.wrap (s.y.tmod 64) = s.y % 64 := by rw [Int.tmod_eq_emod_of_nonneg hk.2.2.1.1, wrap_i64 (by omega)]
 have tK : s.k.tmod 8 = s.k % 8 := Int.tmod_eq_emod_of_nonneg hk.2.2.2.1
 have tT : IntKind.i64.wrap (IntKind.i64.wrap (l.t + 1) + IntKind.i64.wrap (s.t.tmod 8)) = l.t + 1 + s.t % 8 := by
   rw [Int.tmod_eq_emod_of_nonneg hk.1.1, wrap_i64 (x := l.t + 1) (by omega), wrap_i64 (x := s.t % 8) (by omega), wrap_i64 (by omega)]
 have r1 : decide (0 ≤ l.t) = true := decide_eq_true l1
 have r2 : decide (l.t ≤ 1000000) = true := decide_eq_true (by omega)
 have r3 : ∀ z : Int, 0 ≤ z → z ≤ 1000 → decide (-9223372036854775808 ≤ z) = true := fun z h k => decide_eq_true (by omega)
 have r4 : ∀ z : Int, 0 ≤ z → z ≤ 1000 → decide (z ≤ 9223372036854775807) = true := fun z h k => decide_eq_true (by omega)
 have a1 := r3 (s.x % 64) (by omega) (by omega)
 have a2 := r4 (s.x % 64) (by omega) (by omega)
 have a3 := r3 (s.y % 64) (by omega) (by omega)
 have a4 := r4 (s.y % 64) (by omega) (by omega)
 have a5 := r3 (l.t + 1 + s.t % 8) (by omega) (by omega)
 have a6 := r4 (l.t + 1 + s.t % 8) (by omega) (by omega)
 have d1 : decide (O.length + 1 ≤ 9223372036854775807) = true := decide_eq_true (by omega)
 have d2 : decide ((O.length + 1) * 408 ≤ 140737488355328) = true := decide_eq_true (by omega)
 have q1 : preT l ⟨l.t + 1 + s.t % 8, s.x % 64, s.y % 64⟩ = true := by
   simp only [preT, hs, Bool.true_and, Bool.and_eq_true, decide_eq_true_eq]
   omega
 have q2 : preT ⟨l.t, s.y % 64, s.x % 64⟩ ⟨l.t + 1 + s.t % 8, s.x % 64, s.y % 64⟩ = true := by
   simp only [preT, smpB, Bool.and_eq_true, decide_eq_true_eq]
   omega
 have hcr : (⟨c.t, c.x, c.y, c.S⟩ : Cr) = c := rfl
 have hle : (⟨l.t, l.x, l.y⟩ : Sm) = l := rfl
 have hlen : ∀ u : Un, (O ++ [u]).length = O.length + 1 := fun u => by simp
 simp only [step16, Int.toNat_natCast, hsd, iv_form, okI_form, tX, tY, tK, tT, arr_nil]
 by_cases k1 : s.k % 8 = 1
 · have e1 : (s.k % 8 == 1) = true := by simp [k1]
   have e2 : (s.k % 8 != 0) = true := by simp [k1]
   have e3 : (s.k % 8 == 0) = false := by simp [k1]
   have f1 : decide (s.k % 8 = 1) = true := decide_eq_true k1
   have f2 : decide (s.k % 8 = 0) = false := decide_eq_false (by omega)
   by_cases hm : 0 < O.length
   · have m1 : decide (((O.length : Nat) : Int) > 0) = true := decide_eq_true (by omega)
     have m2 : decide (0 < O.length) = true := decide_eq_true hm
     simp only [stepTr, frm, nxt, f1, f2, m2, cond_true, cond_false, Bool.true_and, hlen] at hq
     simp only [↓un_fold, ↓iv_fold, ↓ln_fold, ↓tm_fold, un_eta, iv_eta, take_un1, take_un2, take_iv1, take_iv2, tmV_cells, tmOk_cells, unV_cells, unOk_cells, ivV_lit, ivOk_lit, lineV_cells, lineOk_cells, unsOf_el, unsOk_units, sat_true, rev_fold, take_univ, unV_iv, unOk_iv, unsOf_join, unsOk_join, Bool.and_true, eq_self, decide_true, Nat.le_refl, ↓sm_fold, hle, smV_cells, smOk_cells, stsOf_el, stsOk_sts hS, hcr, hw1, c1, c2, c3, r1, r2, a1, a2, a3, a4, a5, a6, d1, d2, q2, e1, e2, e3, m1, cond_true]
     repeat first
       | refine sat_need rfl ?_
       | refine sat_ite (fun h => Bool.noConfusion h) (fun _ => ?_)
       | refine sat_ite (fun _ => ?_) (fun h => Bool.noConfusion h)
     exact sat_ret hq
   · have m1 : decide (((O.length : Nat) : Int) > 0) = false := decide_eq_false (by omega)
     have m2 : decide (0 < O.length) = false := decide_eq_false hm
     simp only [stepTr, frm, nxt, f1, f2, m2, cond_true, cond_false, Bool.false_and, hlen] at hq
     simp only [↓un_fold, ↓iv_fold, ↓ln_fold, ↓tm_fold, un_eta, iv_eta, take_un1, take_un2, take_iv1, take_iv2, tmV_cells, tmOk_cells, unV_cells, unOk_cells, ivV_lit, ivOk_lit, lineV_cells, lineOk_cells, unsOf_el, unsOk_units, sat_true, rev_fold, take_univ, unV_iv, unOk_iv, unsOf_join, unsOk_join, Bool.and_true, eq_self, decide_true, Nat.le_refl, ↓sm_fold, hle, smV_cells, smOk_cells, stsOf_el, stsOk_sts hS, hcr, hw1, c1, c2, c3, r1, r2, a1, a2, a3, a4, a5, a6, d1, d2, q2, e1, e2, e3, m1, cond_true]
     repeat first
       | refine sat_need rfl ?_
       | refine sat_ite (fun h => Bool.noConfusion h) (fun _ => ?_)
       | refine sat_ite (fun _ => ?_) (fun h => Bool.noConfusion h)
     exact sat_ret hq
 · have e1 : (s.k % 8 == 1) = false := by simp [k1]
   have f1 : decide (s.k % 8 = 1) = false := decide_eq_false k1
   by_cases k0 : s.k % 8 = 0
   · have e2 : (s.k % 8 != 0) = false := by simp [k0]
     have e3 : (s.k % 8 == 0) = true := by simp [k0]
     have f2 : decide (s.k % 8 = 0) = true := decide_eq_true k0
     simp only [stepTr, frm, nxt, f1, f2, cond_true, cond_false] at hq
     simp only [↓un_fold, ↓iv_fold, ↓ln_fold, ↓tm_fold, un_eta, iv_eta, take_un1, take_un2, take_iv1, take_iv2, tmV_cells, tmOk_cells, unV_cells, unOk_cells, ivV_lit, ivOk_lit, lineV_cells, lineOk_cells, unsOf_el, unsOk_units, sat_true, rev_fold, take_univ, unV_iv, unOk_iv, unsOf_join, unsOk_join, Bool.and_true, eq_self, decide_true, Nat.le_refl, ↓sm_fold, hle, smV_cells, smOk_cells, stsOf_el, stsOk_sts hS, hcr, hw1, c1, c2, c3, r1, r2, a1, a2, a3, a4, a5, a6, d1, d2, e1, e2, e3, cond_true]
     repeat first
       | refine sat_need rfl ?_
       | refine sat_ite (fun h => Bool.noConfusion h) (fun _ => ?_)
       | refine sat_ite (fun _ => ?_) (fun h => Bool.noConfusion h)
     exact sat_ret hq
   · have e2 : (s.k % 8 != 0) = true := by simp [k0]
     have e3 : (s.k % 8 == 0) = false := by simp [k0]
     have f2 : decide (s.k % 8 = 0) = false := decide_eq_false k0
     by_cases hm : 0 < O.length
     · have m1 : decide (((O.length : Nat) : Int) > 0) = true := decide_eq_true (by omega)
       have m2 : decide (0 < O.length) = true := decide_eq_true hm
       simp only [stepTr, frm, nxt, f1, f2, m2, cond_true, cond_false, Bool.true_and, hlen] at hq
       simp only [↓un_fold, ↓iv_fold, ↓ln_fold, ↓tm_fold, un_eta, iv_eta, take_un1, take_un2, take_iv1, take_iv2, tmV_cells, tmOk_cells, unV_cells, unOk_cells, ivV_lit, ivOk_lit, lineV_cells, lineOk_cells, unsOf_el, unsOk_units, sat_true, rev_fold, take_univ, unV_iv, unOk_iv, unsOf_join, unsOk_join, Bool.and_true, eq_self, decide_true, Nat.le_refl, ↓sm_fold, hle, smV_cells, smOk_cells, stsOf_el, stsOk_sts hS, hcr, hw1, c1, c2, c3, r1, r2, a1, a2, a3, a4, a5, a6, d1, d2, q1, e1, e2, e3, m1, cond_true]
       repeat first
         | refine sat_need rfl ?_
         | refine sat_ite (fun h => Bool.noConfusion h) (fun _ => ?_)
         | refine sat_ite (fun _ => ?_) (fun h => Bool.noConfusion h)
       exact sat_ret hq
     · have m1 : decide (((O.length : Nat) : Int) > 0) = false := decide_eq_false (by omega)
       have m2 : decide (0 < O.length) = false := decide_eq_false hm
       simp only [stepTr, frm, nxt, f1, f2, m2, cond_true, cond_false, Bool.false_and, hlen] at hq
       simp only [↓un_fold, ↓iv_fold, ↓ln_fold, ↓tm_fold, un_eta, iv_eta, take_un1, take_un2, take_iv1, take_iv2, tmV_cells, tmOk_cells, unV_cells, unOk_cells, ivV_lit, ivOk_lit, lineV_cells, lineOk_cells, unsOf_el, unsOk_units, sat_true, rev_fold, take_univ, unV_iv, unOk_iv, unsOf_join, unsOk_join, Bool.and_true, eq_self, decide_true, Nat.le_refl, ↓sm_fold, hle, smV_cells, smOk_cells, stsOf_el, stsOk_sts hS, hcr, hw1, c1, c2, c3, r1, r2, a1, a2, a3, a4, a5, a6, d1, d2, q1, e1, e2, e3, m1, cond_true]
       repeat first
         | refine sat_need rfl ?_
         | refine sat_ite (fun h => Bool.noConfusion h) (fun _ => ?_)
         | refine sat_ite (fun _ => ?_) (fun h => Bool.noConfusion h)
       exact sat_ret hq
theorem step16_end (c : Cr) (O : List Un) (l : Sm) (al : Bool) (Q : T16 ⊕ ((Nat × Unit × Bool × Unit) × (List Un × Sm)) → Prop) (hq : Q (.inr ((O.length, (), al, ()), (O, l)))) : (step16 O.length al (c.S.length : Nat) c O l).sat Q := by
 have c2 : decide (((c.S.length : Nat) : Int) < (c.S.length : Int)) = false := decide_eq_false (by omega)
 have hle : (⟨l.t, l.x, l.y⟩ : Sm) = l := rfl
 simp only [step16, c2, cond_false]
 simp only [↓un_fold, ↓iv_fold, ↓ln_fold, ↓tm_fold, un_eta, iv_eta, take_un1, take_un2, take_iv1, take_iv2, tmV_cells, tmOk_cells, unV_cells, unOk_cells, ivV_lit, ivOk_lit, lineV_cells, lineOk_cells, unsOf_el, unsOk_units, sat_true, rev_fold, take_univ, unV_iv, unOk_iv, unsOf_join, unsOk_join, Bool.and_true, eq_self, decide_true, Nat.le_refl, ↓sm_fold, hle, smV_cells, smOk_cells]
 repeat first
  | refine sat_need rfl ?_
  | refine sat_ite (fun h => Bool.noConfusion h) (fun _ => ?_)
  | refine sat_ite (fun _ => ?_) (fun h => Bool.noConfusion h)
 exact sat_ret hq
end Go.Vse
