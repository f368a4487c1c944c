/- Helpers for the proof: no statement of its own. -/
import Derived.Test.YtpnbbgegfjefkaaGreatDoorCodE
set_option linter.unusedVariables false
set_option linter.unusedSimpArgs false
set_option linter.unnecessarySimpa false
set_option linter.deprecated false
set_option maxHeartbeats 4000000
set_option maxRecDepth 100000
namespace Go.Vse
open Go.Proofs
def Γ3 : FuncId → Option Spec := fun f => bif Nat.beq f 4 then some (pureSpec knownK) else bif Nat.beq f 5 then some (pureSpec K5) else bif Nat.beq f 6 then some (pureSpec K6) else bif Nat.beq f 7 then some (pureSpec K7) else bif Nat.beq f 8 then some (pureSpec K8) else bif Nat.beq f 9 then some (pureSpec K9) else bif Nat.beq f 10 then some (pureSpec K10) else bif Nat.beq f 11 then some (pureSpec K11) else none
theorem Γ3_ok : ∀ f s, Γ3 f = some s → SpecOk Tryz.prog f s := step_ok known_ok.spec (step_ok f5_ok.spec (step_ok f6_ok.spec (step_ok f7_ok.spec (step_ok f8_ok.spec (step_ok f9_ok.spec (step_ok f10_ok.spec (one_ok f11_ok.spec)))))))
def ptB (U : List Un) : Bool := goodU U && (decide (1 ≤ U.length) && decide (U.length ≤ 7))
def Ob.ok (o : Ob) : Bool := unsOk o.m o.e && ptB (unsOf o.m o.e)
abbrev T32 := (List Ob × Int × List Un × Nat × Int × Unit) × List Un
abbrev F32 : Form (List Ob × Int × List Un × Nat × Int × Unit) := .cons argObs (.cons argInt (.cons argUs (.cons (argMs 0) (.cons argInt .nil))))
abbrev R32 := (List Ob × Int × List Un × Nat × Unit) × List Un
abbrev G32 : Form (List Ob × Int × List Un × Nat × Unit) := .cons argObs (.cons argInt (.cons argUs (.cons (argMs 0) .nil)))
def pre32 (x : T32) : Bool := decide (x.1.2.2.2.1 = 0) && (decide (x.2.length = 0) && (decide (x.1.2.2.2.2.1 = (x.1.2.2.1.length : Int) - 1) && decide (x.1.2.2.1.length ≤ 1000)))
def res32 (x : T32) : R32 := ((x.1.1, x.1.2.1, x.1.2.2.1, x.1.2.2.1.length, ()), x.1.2.2.1.reverse)
def lp32 : LoopSt T32 R32 := lpF { nt := 108, live := [3, 4, 5, 10, 11], lifts := [(10, 36, 51)] } { nt := 108, live := [3, 4, 5, 10], lifts := [(10, 36, 51)] } (MForm.with (eArrT 51) F32) (MForm.with (eArrT 51) G32) res32 pre32
theorem lp32_good : lp32.Good2 := lpF_good _ _ _ _ _ _
def L32 : Nat → Option (St → Tr (Ex × St)) := fun id => bif Nat.beq id 2 then some (lp32.g 0) else none
abbrev T30 := List Ob × Int × Unit
abbrev F30 : Form T30 := .cons argObs (.cons argInt .nil)
def pre30 (x : T30) : Bool := decide (x.2.1 = 0) && (x.1.all Ob.ok && decide (x.1.length ≤ 1000))
def lp30 : LoopSt T30 Unit := lpF { nt := 108, live := [3, 4] } { nt := 108, live := [] } (MForm.pure F30) (MForm.pure Form.nil) (fun _ => ()) pre30
theorem lp30_good : lp30.Good2 := lpF_good _ _ _ _ _ _
def L3 : Nat → Option (St → Tr (Ex × St)) := fun id => bif Nat.beq id 0 then some (lp30.g 0) else none
def step32 (O : List Ob) (i : Int) (U : List Un) (m : Nat) (j : Int) (B : List Un) : Tr (T32 ⊕ R32) :=
 let x1 : Int := ↑U.length
 let x2 : Nat := m + 1
 let x3 : Nat := x2 * 408
 let x4 : Bool := obsI O.length (obEl O)
 let x5 : Bool := unsOk U.length (unEl U)
 let x6 : Nat := 35 + 1
 let x7 : Int := (U.getD j.toNat u0).f.y1.num
 let x8 : Int := (U.getD j.toNat u0).f.y0.num
 let x9 : Int := (U.getD j.toNat u0).f.x1.num
 let x10 : Int := (U.getD j.toNat u0).f.x0.num
 let x11 : IV := IV.v (Value.string ⟨⟨[]⟩⟩)
 let x12 : IV := IV.v (Value.string ⟨⟨denB 1⟩⟩)
 let x13 : Int := (U.getD j.toNat u0).b
 let x14 : Int := (U.getD j.toNat u0).a
 let x15 : List Ob := obsOf O.length (obEl O)
 let x16 : List Un := unsOf U.length (unEl U)
 .ite (decide (j ≥ 0)) (.need (decide (0 ≤ j ∧ j < x1)) (.need (decide (m ≤ B.length)) (.need true (.need (decide (x2 ≤ 9223372036854775807)) (.need (decide (x3 ≤ 140737488355328)) (.need x4 (.need x5 (.need (unsOk x2 (joinE m (unEl B) fun k => List.take x6 (List.drop (k * x6) [IV.v (Value.string ⟨⟨denB (U.getD j.toNat u0).f.y1.den⟩⟩), IV.v (Value.bool false), IV.v (Value.string ⟨⟨magB x7.natAbs⟩⟩), IV.v (Value.bool (decide (x7 < 0))), IV.v (Value.string ⟨⟨denB (U.getD j.toNat u0).f.y0.den⟩⟩), IV.v (Value.bool false), IV.v (Value.string ⟨⟨magB x8.natAbs⟩⟩), IV.v (Value.bool (decide (x8 < 0))), IV.v (Value.string ⟨⟨denB (U.getD j.toNat u0).f.x1.den⟩⟩), IV.v (Value.bool false), IV.v (Value.string ⟨⟨magB x9.natAbs⟩⟩), IV.v (Value.bool (decide (x9 < 0))), IV.v (Value.string ⟨⟨denB (U.getD j.toNat u0).f.x0.den⟩⟩), IV.v (Value.bool false), IV.v (Value.string ⟨⟨magB x10.natAbs⟩⟩), IV.v (Value.bool (decide (x10 < 0))), IV.v (Value.bool (U.getD j.toNat u0).ob), IV.v (Value.bool (U.getD j.toNat u0).oa), IV.v (Value.bool false), x11, IV.v (Value.bool false), x11, IV.v (Value.bool false), x12, IV.v (Value.bool false), IV.v (Value.string ⟨⟨magB x13.natAbs⟩⟩), IV.v (Value.bool (decide (x13 < 0))), IV.v (Value.bool false), x11, IV.v (Value.bool false), x11, IV.v (Value.bool false), x12, IV.v (Value.bool false), IV.v (Value.string ⟨⟨magB x14.natAbs⟩⟩), IV.v (Value.bool (decide (x14 < 0)))].reverse))) (.ret (Sum.inl ((x15, i, x16, x2, IntKind.i64.wrap (j - 1), ()), unsOf x2 (joinE m (unEl B) fun k => List.take x6 (List.drop (k * x6) [IV.v (Value.string ⟨⟨denB (U.getD j.toNat u0).f.y1.den⟩⟩), IV.v (Value.bool false), IV.v (Value.string ⟨⟨magB x7.natAbs⟩⟩), IV.v (Value.bool (decide (x7 < 0))), IV.v (Value.string ⟨⟨denB (U.getD j.toNat u0).f.y0.den⟩⟩), IV.v (Value.bool false), IV.v (Value.string ⟨⟨magB x8.natAbs⟩⟩), IV.v (Value.bool (decide (x8 < 0))), IV.v (Value.string ⟨⟨denB (U.getD j.toNat u0).f.x1.den⟩⟩), IV.v (Value.bool false), IV.v (Value.string ⟨⟨magB x9.natAbs⟩⟩), IV.v (Value.bool (decide (x9 < 0))), IV.v (Value.string ⟨⟨denB (U.getD j.toNat u0).f.x0.den⟩⟩), IV.v (Value.bool false), IV.v (Value.string ⟨⟨magB x10.natAbs⟩⟩), IV.v (Value.bool (decide (x10 < 0))), IV.v (Value.bool (U.getD j.toNat u0).ob), IV.v (Value.bool (U.getD j.toNat u0).oa), IV.v (Value.bool false), x11, IV.v (Value.bool false), x11, IV.v (Value.bool false), x12, IV.v (Value.bool false), IV.v (Value.string ⟨⟨magB x13.natAbs⟩⟩), IV.v (Value.bool (decide (x13 < 0))), IV.v (Value.bool false), x11, IV.v (Value.bool false), x11, IV.v (Value.bool false), x12, IV.v (Value.bool false), IV.v (Value.string ⟨⟨magB x14.natAbs⟩⟩), IV.v (Value.bool (decide (x14 < 0)))].reverse))))))))))))) (.need x4 (.need x5 (.need (unsOk B.length (unEl B)) (.ret (Sum.inr ((x15, i, x16, m, ()), unsOf B.length (unEl B)))))))
def step30 (O : List Ob) (i : Int) : Tr (T30 ⊕ Unit) :=
 let x1 : Int := ↑O.length
 let x2 : Bool := unsOk (O.getD i.toNat ob0).m (O.getD i.toNat ob0).e
 let x3 : List Un := unsOf (O.getD i.toNat ob0).m (O.getD i.toNat ob0).e
 let x4 : Bool := goodU x3
 let x5 : List UInt8 := pointsBs x3
 let x6 : List UInt8 := bif x4 then x5 else []
 let x7 : ByteArray := ⟨⟨x6⟩⟩
 let x8 : List Un := unsF x7
 let x9 : Bool := (bif x4 then (0 : Int) else 7) != 0
 let x10 : Bool := goodU x8
 let x11 : List Un := bif x10 then x8 else []
 let x12 : Nat := x11.length
 let x13 : List Un := unsOf x12 (unEl x11)
 let x14 : Nat := x13.length
 let x15 : Bool := unsOk x12 (unEl x11) && (x2 && (eqUs x13 x3 && (decide (x14 ≤ 1000) && true)))
 let x16 : Bool := bif true then true else x15
 let x17 : Bool := bif false then true else (bif x10 then (0 : Int) else 7) != 0
 let x18 : Bool := bif x17 then true else x15
 let x19 : Nat := x3.length
 let x20 : Bool := bif false then true else !x6 == x5
 let x21 : Bool := bif false then true else !true
 let x22 : Bool := bif true then true else x21
 let x23 : Bool := bif x17 then true else x21
 let x24 : List Ob := obsOf O.length (obEl O)
 let x25 : List Un := x3.reverse
 let x26 : Nat := x25.length
 let x27 : Bool := decide (x19 ≤ x26)
 let x28 : Bool := unsOk x19 (unEl x25)
 let x29 : List Un := unsOf x19 (unEl x25)
 let x30 : Bool := preK24 x29
 let x31 : Nat := x29.length
 let x32 : List UInt8 := pointsBs x29
 let x33 : ByteArray := ⟨⟨x32⟩⟩
 let x34 : List Un := unsF x33
 let x35 : Bool := goodU x29
 let x36 : Int := bif x35 then (0 : Int) else 7
 let x37 : Bool := x36 != x36
 let x38 : Bool := bif false then true else (bif goodU x34 then (0 : Int) else 7) != x36
 let x39 : Bool := bif false then true else !((bif x35 then x32 else []) == []) == (x36 != 0)
 let x40 : Nat := x24.length
 .ite (decide (i < x1)) (.need (decide (0 ≤ i ∧ i < x1)) (.need x2 (.need (preK24 x3) (.need (goodF x7) (.need (preK24 x8) (.need (bif x9 then bif true then x16 else x18 else x2 && (x3.all okW && (decide (x19 ≤ 19) && bif x20 then x16 else x18))) (.ite (bif x9 then bif true then x22 else x23 else bif x20 then x22 else x23) (.fail "out") (.need (obsI O.length (obEl O)) (.need x2 (.need true (.need (pre32 ((x24, i, x3, 0, IntKind.i64.wrap (↑(O.getD i.toNat ob0).m - 1), ()), unsOf 0 fun x => [])) (.need x27 (.need x28 (.need x30 (.need x27 (.need x28 (.need (x29.all okW) (.need (decide (x31 ≤ 19)) (.need (goodF x33) (.need (preK24 x34) (.need x27 (.need x28 (.need x30 (.need (bif x37 then bif true then true else true else bif x38 then true else true) (.ite (bif x37 then bif true then true else x39 else bif x38 then true else x39) (.fail "out") (.need (obsI x40 (obEl x24)) (.ret (Sum.inl (obsOf x40 (obEl x24), IntKind.i64.wrap (i + 1), ()))))))))))))))))))))))))))))) (.ret (Sum.inr ()))
def M3 (C : List Cw) (a : Nat) (z : Nat) (e : Nat → List IV) : Tr AV :=
 let x1 : Bool := cwsI C.length (cwEl C)
 let x2 : List Cw := cwsOf C.length (cwEl C)
 let x3 : Nat := x2.length
 let x4 : List Ob := ptsOf 0 x2
 let x5 : Nat := x4.length
 .need (bif !true then true else x1 && (decide (x3 ≤ 9223372036854775807) && true)) (.ite (bif !true then true else bif false then true else !shortF (x2, a, z, e)) (.ret (.c (.v (.bool true)))) (.need x1 (.need (x2.all Cw.ok) (.need (fewC x2) (.need (decide (x3 ≤ 4)) (.need (obsI x5 (obEl x4)) (.need (pre30 (obsOf x5 (obEl x4), 0, ())) (.ret (.c (.v (.bool true)))))))))))
theorem step32_eq (x : T32) : (exec Tryz.prog Γ3 noL 1010 (loopOf 2 (codeOf Tryz.f3)) (mkSt lp32.nIn (lp32.head x))).bind (lp32.fin 0 2) = step32 x.1.1 x.1.2.1 x.1.2.2.1 x.1.2.2.2.1 x.1.2.2.2.2.1 x.2 := by
 obtain ⟨⟨O, i, U, m, j, ⟨⟩⟩, B⟩ := x
 kernel_rfl
theorem step30_eq (x : T30) : (exec Tryz.prog Γ3 L32 1010 (loopOf 0 (codeOf Tryz.f3)) (mkSt lp30.nIn (lp30.head x))).bind (lp30.fin 0 0) = step30 x.1 x.2.1 := by
 obtain ⟨O, i, ⟨⟩⟩ := x
 kernel_rfl
theorem M3_eq (C : List Cw) (a z : Nat) (e : Nat → List IV) : execFn Tryz.prog Γ3 L3 1010 Tryz.f3 [.agg (flCells (C, a, z, e))] = M3 C a z e := by kernel_rfl
end Go.Vse
set_option maxHeartbeats 4000000
set_option maxRecDepth 100000
namespace Go.Vse
open Go.Proofs
theorem step32_in (O : List Ob) (i : Int) (U : List Un) (k : Nat) (B : List Un) (hk : k < U.length) (hn : U.length ≤ 1000) (hB : B.length ≤ 1000) (Q : T32 ⊕ R32 → Prop) (hq : Q (.inl ((O, i, U, (B ++ [U.getD k u0]).length, (k : Int) - 1, ()), B ++ [U.getD k u0]))) : (step32 O i U B.length (k : Nat) B).sat Q := by
 have hw1 : IntKind.i64.wrap ((k : Int) - 1) = (k : Int) - 1 := wrap_i64 (by omega)
 have c1 : decide ((0 : Int) ≤ (k : Int) ∧ (k : Int) < (U.length : Int)) = true := decide_eq_true (by omega)
 have c2 : decide ((k : Int) ≥ 0) = true := decide_eq_true (by omega)
 have d1 : decide (B.length + 1 ≤ 9223372036854775807) = true := decide_eq_true (by omega)
 have d2 : decide ((B.length + 1) * 408 ≤ 140737488355328) = true := decide_eq_true (by omega)
 have hl : (B ++ [U.getD k u0]).length = B.length + 1 := by simp
 rw [hl] at hq
 simp only [step32, Int.toNat_natCast]
 obtain ⟨u, hu⟩ : ∃ u, u = U.getD k u0 := ⟨_, rfl⟩
 simp only [← hu] at hq ⊢
 clear hu
 simp only [↓un_fold, ↓iv_fold, ↓ln_fold, ↓tm_fold, un_eta, iv_eta, take_un1, take_un2, take_iv1, take_iv2, tmV_cells, tmOk_cells, unV_cells, unOk_cells, ivV_lit, ivOk_lit, lineV_cells, lineOk_cells, unsOf_el, unsOk_units, sat_true, rev_fold, take_univ, unV_iv, unOk_iv, unsOf_join, unsOk_join, Bool.and_true, eq_self, decide_true, Nat.le_refl, hw1, c1, c2, d1, d2, obsOf_el, obsI_obs, Bool.and_self]
 repeat first
  | with_reducible refine need_true ?_
  | with_reducible refine ite_tr ?_
 exact sat_ret hq
theorem step32_end (O : List Ob) (i : Int) (U B : List Un) (Q : T32 ⊕ R32 → Prop) (hq : Q (.inr ((O, i, U, B.length, ()), B))) : (step32 O i U B.length (-1) B).sat Q := by
 have c2 : decide ((-1 : Int) ≥ 0) = false := decide_eq_false (by omega)
 simp only [step32, c2, obsOf_el, obsI_obs, unsOf_el, unsOk_units]
 exact ite_fa (need_true (need_true (need_true (sat_ret hq))))
theorem runs32 (O : List Ob) (i : Int) (U : List Un) (hn : U.length ≤ 1000) (Q : R32 → Prop) : ∀ (k : Nat) (B : List Un), k ≤ U.length → B.length + k ≤ 1000 → Q ((O, i, U, (B ++ (U.take k).reverse).length, ()), B ++ (U.take k).reverse) →
  RunsX (fun x : T32 => step32 x.1.1 x.1.2.1 x.1.2.2.1 x.1.2.2.2.1 x.1.2.2.2.2.1 x.2) Q (k + 1) ((O, i, U, B.length, (k : Int) - 1, ()), B)
 | 0, B, he, hB, hq => by
  simp only [List.take_zero, List.reverse_nil, List.append_nil] at hq
  exact step32_end O i U B _ hq
 | k + 1, B, he, hB, hq => by
  have hi : k < U.length := by omega
  have hu : U.getD k u0 = U[k] := by simp [List.getD_eq_getElem?_getD, hi]
  have e1 : (U.take (k + 1)).reverse = U.getD k u0 :: (U.take k).reverse := by
   rw [hu, List.take_succ_eq_append_getElem hi, List.reverse_append]
   rfl
  rw [e1] at hq
  have e2 : ((k + 1 : Nat) : Int) - 1 = (k : Int) := by omega
  rw [e2]
  refine step32_in O i U k B hi hn (by omega) _ ?_
  refine runs32 O i U hn Q k (B ++ [U.getD k u0]) (by omega) (by simp; omega) ?_
  rw [List.append_assoc]
  exact hq
theorem f3_back : BlocksOk Tryz.prog 0 L32 (loopOf 0 (codeOf Tryz.f3)) := by
 refine blocksOk_of (d := fun id => Nat.beq id 2) (fun id => by unfold L32; cases Nat.beq id 2 <;> rfl) _ ?_
 have hb : blocksOf (fun id => Nat.beq id 2) (loopOf 0 (codeOf Tryz.f3)) = [(2, .loop (loopOf 2 (codeOf Tryz.f3)))] := by kernel_rfl
 rw [hb]
 intro p hp g hg
 simp only [List.mem_singleton] at hp
 subst hp
 have hh : L32 2 = some ((lp32).g 0) := rfl
 rw [hh] at hg
 obtain rfl : g = (lp32).g 0 := (Option.some.inj hg).symm
 refine LoopSt.ok2 (N := 1010) prog_mixed Γ3_ok (L := noL) (blocksOk_none 0 _) lp32_good (fun x => step32_eq x) ?_
 rintro ⟨⟨O, i, U, m, j, ⟨⟩⟩, B⟩ hx
 have hx : pre32 ((O, i, U, m, j, ()), B) = true := hx
 simp only [pre32, Bool.and_eq_true, decide_eq_true_eq] at hx
 obtain ⟨h1, h2, h3, h4⟩ := hx
 obtain rfl : B = [] := List.length_eq_zero_iff.1 h2
 subst h1 h3
 have e : (U.take U.length).reverse = U.reverse := by rw [List.take_length]
 exact ⟨_, runs32 O i U h4 (· = ((O, i, U, U.length, ()), U.reverse)) U.length [] (Nat.le_refl _) (by simpa using h4) (by rw [e, List.nil_append, List.length_reverse])⟩
theorem pointsBs_ne (U : List Un) : (pointsBs U == []) = false := by
 unfold pointsBs
 have h := leb_pos (zig (U.length : Nat))
 cases hh : leb (zig (U.length : Nat)) with
 | nil => rw [hh] at h; simp at h
 | cons x l => rfl
theorem pt_rd {U : List Un} (hU : U.all okW = true) (hn : U.length ≤ 19) : goodF ⟨⟨pointsBs U⟩⟩ = true ∧ unsF ⟨⟨pointsBs U⟩⟩ = U := rd_points ⟨⟨pointsBs U⟩⟩ U hU hn rfl
theorem rev_ok (U : List Un) : unsOk U.length (unEl U.reverse) = true := by
 have := unsOk_units U.reverse
 rwa [List.length_reverse] at this
theorem rev_of (U : List Un) : unsOf U.length (unEl U.reverse) = U.reverse := by
 have := unsOf_el U.reverse
 rwa [List.length_reverse] at this
theorem ptB_pt {U : List Un} (h : ptB U = true) : Pt U := by
 simp only [ptB, Bool.and_eq_true, decide_eq_true_eq] at h
 exact ⟨h.1, h.2.1, h.2.2⟩
theorem step30_in (O : List Ob) (i : Nat) (hi : i < O.length) (hn : O.length ≤ 1000) (ho : (O.getD i ob0).ok = true) (Q : T30 ⊕ Unit → Prop) (hq : Q (.inl (O, ((i + 1 : Nat) : Int), ()))) : (step30 O (i : Nat)).sat Q := by
 unfold Ob.ok at ho
 rw [Bool.and_eq_true] at ho
 obtain ⟨hk, hp⟩ := ho
 have hw1 : IntKind.i64.wrap ((i : Int) + 1) = ((i + 1 : Nat) : Int) := by rw [wrap_i64 (by omega)]; omega
 have c1 : decide ((0 : Int) ≤ (i : Int) ∧ (i : Int) < (O.length : Int)) = true := decide_eq_true (by omega)
 have c2 : decide ((i : Int) < (O.length : Int)) = true := decide_eq_true (by omega)
 simp only [step30, Int.toNat_natCast, hk, c1, c2, hw1, obsOf_el, obsI_obs]
 have hlen := unsOf_len (O.getD i ob0).m (O.getD i ob0).e
 obtain ⟨U, hU⟩ : ∃ U, U = unsOf (O.getD i ob0).m (O.getD i ob0).e := ⟨_, rfl⟩
 have hm : ((O.getD i ob0).m : Int) = (U.length : Int) := by rw [hU, hlen]
 simp only [← hU] at hp ⊢
 simp only [hm]
 clear hm hU hlen hk
 have h := ptB_pt hp
 have l7 := h.few
 have hg := h.good
 have h1 := h.pre
 obtain ⟨f1, f2⟩ := pt_rd h.okW (show U.length ≤ 19 by omega)
 have h2 := h.okW
 have b1 := h.back_pre
 have b2 := h.back_okW
 obtain ⟨f3, f4⟩ := pt_rd b2 (show U.reverse.length ≤ 19 by rw [List.length_reverse]; omega)
 have e0 : unsOf 0 (fun _ => ([] : List IV)) = [] := rfl
 have hw2 : IntKind.i64.wrap ((U.length : Int) - 1) = (U.length : Int) - 1 := wrap_i64 (by omega)
 have d1 : decide (U.length ≤ 1000) = true := decide_eq_true (by omega)
 have d2 : decide (U.length ≤ 19) = true := decide_eq_true (by omega)
 have hp32 : pre32 ((O, (i : Int), U, 0, (U.length : Int) - 1, ()), []) = true := by
  simp only [pre32, decide_true, Bool.true_and, List.length_nil, d1]
 have hz : ((0 : Int) != 0) = false := rfl
 have hs : ((7 : Int) != 0) = true := rfl
 have hr : (U.reverse).length = U.length := List.length_reverse
 simp only [hg, h1, cond_true, cond_false, f1, f2, h2, e0, hw2, hp32, hz, rev_ok, rev_of, hr, b1, b2, f3, f4, d1, d2, unsOf_el, unsOk_units, eqUs_iff.2 (rfl : U = U), Nat.le_refl, decide_true, beq_self_eq_true, Bool.not_true, Bool.not_false, Bool.and_self, Bool.true_and, bne_self_eq_false]
 cases goodU U.reverse with
 | true =>
  simp only [cond_true, cond_false, hz, pointsBs_ne, beq_self_eq_true, Bool.not_true, Bool.not_false, bne_self_eq_false]
  repeat first
   | with_reducible refine need_true ?_
   | with_reducible refine ite_tr ?_
   | with_reducible refine ite_fa ?_
  exact sat_ret hq
 | false =>
  simp only [cond_true, cond_false, hs, beq_self_eq_true, Bool.not_true, Bool.not_false, bne_self_eq_false]
  repeat first
   | with_reducible refine need_true ?_
   | with_reducible refine ite_tr ?_
   | with_reducible refine ite_fa ?_
  exact sat_ret hq
theorem runs30 (O : List Ob) (hn : O.length ≤ 1000) (ho : O.all Ob.ok = true) (Q : Unit → Prop) (hq : Q ()) : ∀ (k i : Nat), i + k = O.length → RunsX (fun x : T30 => step30 x.1 x.2.1) Q (k + 1) (O, (i : Nat), ())
 | 0, i, he => by
  obtain rfl : i = O.length := by omega
  show (step30 O (O.length : Nat)).sat _
  have c2 : decide (((O.length : Nat) : Int) < (O.length : Int)) = false := decide_eq_false (by omega)
  simp only [step30, c2]
  exact ite_fa (sat_ret hq)
 | k + 1, i, he => by
  have hi : i < O.length := by omega
  have hu : O.getD i ob0 = O[i] := by simp [List.getD_eq_getElem?_getD, hi]
  refine step30_in O i hi hn ?_ _ (runs30 O hn ho Q hq k (i + 1) (by omega))
  rw [hu]
  exact List.all_eq_true.1 ho _ (List.getElem_mem hi)
theorem f3_loops : BlocksOk Tryz.prog 0 L3 (codeOf Tryz.f3) := by
 refine blocksOk_of (d := fun id => Nat.beq id 0) (fun id => by unfold L3; cases Nat.beq id 0 <;> rfl) _ ?_
 have hb : blocksOf (fun id => Nat.beq id 0) (codeOf Tryz.f3) = [(0, .loop (loopOf 0 (codeOf Tryz.f3)))] := by kernel_rfl
 rw [hb]
 intro p hp g hg
 simp only [List.mem_singleton] at hp
 subst hp
 have hh : L3 0 = some ((lp30).g 0) := rfl
 rw [hh] at hg
 obtain rfl : g = (lp30).g 0 := (Option.some.inj hg).symm
 refine LoopSt.ok2 (N := 1010) prog_mixed Γ3_ok (L := L32) f3_back lp30_good (fun x => step30_eq x) ?_
 rintro ⟨O, i, ⟨⟩⟩ hx
 have hx : pre30 (O, i, ()) = true := hx
 simp only [pre30, Bool.and_eq_true, decide_eq_true_eq] at hx
 obtain ⟨h1, h2, h3⟩ := hx
 subst h1
 exact ⟨_, runs30 O h3 h2 (· = ()) rfl O.length 0 (by omega)⟩
theorem pts_ok : ∀ (l : List Cw) (k : Nat), l.all Cw.ok = true → fewC l = true → (ptsOf k l).all Ob.ok = true
 | [], _, _, _ => rfl
 | c :: l, k, h, h6 => by
  simp only [List.all_cons, Bool.and_eq_true] at h
  unfold fewC at h6
  simp only [List.all_cons, Bool.and_eq_true, decide_eq_true_eq] at h6
  have hp := pt_traj (Cw.cr_ok h.1 h6.1)
  have h1 : (obOf k c).ok = true := by
   show (unsOk (trajU c.cr).length (unEl (trajU c.cr)) && ptB (unsOf (trajU c.cr).length (unEl (trajU c.cr)))) = true
   rw [unsOk_units, unsOf_el]
   unfold ptB
   rw [hp.good, decide_eq_true hp.one, decide_eq_true hp.few]
   rfl
  simp only [ptsOf, List.all_cons, h1, pts_ok l (k + 1) h.2 h6.2, Bool.and_self]
theorem M3_sat (C : List Cw) (a z : Nat) (e : Nat → List IV) (hc : C.all Cw.ok = true) (hn : C.length ≤ 9223372036854775807) : (M3 C a z e).sat fun r => r = boolA true := by
 have d1 : decide (C.length ≤ 9223372036854775807) = true := decide_eq_true hn
 simp only [M3, cwsI_cws, cwsOf_el, d1, obsI_obs, obsOf_el]
 refine sat_need rfl ?_
 cases hs : shortF (C, a, z, e) with
 | false => exact sat_ite (fun _ => sat_ret rfl) (fun h => absurd (show true = false from h) (by decide))
 | true =>
  refine sat_ite (fun h => absurd (show false = true from h) (by decide)) (fun _ => ?_)
  unfold shortF at hs
  simp only [Bool.and_eq_true, decide_eq_true_eq] at hs
  obtain ⟨h6, h4, _⟩ := hs
  have hp : pre30 (ptsOf 0 C, 0, ()) = true := by
   simp only [pre30, decide_true, Bool.true_and, pts_ok C 0 hc h6, ptsOf_len]
   exact decide_eq_true (by omega)
  simp only [hc, h6, decide_eq_true h4, hp]
  repeat with_reducible refine need_true ?_
  exact sat_ret rfl
def K3 : List AV → Option (AV × List Bool) := (F1 argFl).K (fun x => boolA true) fun x => [x.1.1.all Cw.ok, decide (x.1.1.length ≤ 9223372036854775807)]
theorem f3_ok : PureOk Tryz.prog 3 K3 :=
 (F1 argFl).pureEq (N := 1010) (L := L3) prog_mixed Γ3_ok (fn := Tryz.f3) (c := codeOf Tryz.f3) (by kernel_rfl) (by kernel_rfl) (by kernel_rfl) f3_loops (fun _ => rfl) (M := fun x => M3 x.1.1 x.1.2.1 x.1.2.2.1 x.1.2.2.2) (fun x => M3_eq x.1.1 x.1.2.1 x.1.2.2.1 x.1.2.2.2)
  fun x h => M3_sat x.1.1 x.1.2.1 x.1.2.2.1 x.1.2.2.2 (h (x.1.1.all Cw.ok) (by simp)) (dec (h (decide (x.1.1.length ≤ 9223372036854775807)) (by simp)))
end Go.Vse
