/- Helpers for the proof: no statement of its own. -/
import Derived.Test.YtpnbbgegfjefkaaGreatDoorCodD
set_option linter.unusedVariables false
set_option linter.unusedSimpArgs false
set_option linter.unnecessarySimpa false
set_option linter.deprecated false
set_option maxHeartbeats 4000000
set_option maxRecDepth 100000
namespace Go.Vse
open Go.Proofs
abbrev T23 := List Un × List Un × Int × Int × Unit
abbrev F23 : Form T23 := .cons argUs (.cons argUs (.cons argInt (.cons argInt .nil)))
def pre23 (x : T23) : Bool := eqUs x.1 x.2.1 && (decide (x.2.2.1 = (x.1.length : Nat)) && (decide (x.2.2.2.1 = 0) && decide (x.1.length ≤ 1000)))
def lp23 : LoopSt T23 Unit := lpF { nt := 26, live := [0, 1, 12, 13] } { nt := 26, live := [] } (MForm.pure F23) (MForm.pure Form.nil) (fun _ => ()) pre23
theorem lp23_good : lp23.Good2 := lpF_good _ _ _ _ _ _
def L23 : Nat → Option (St → Tr (Ex × St)) := fun id => bif Nat.beq id 0 then some (lp23.g 0) else none
def step23 (U : List Un) (V : List Un) (n : Int) (i : Int) : Tr (T23 ⊕ Unit) :=
 let x1 : Int := ↑U.length
 let x2 : Int := ↑V.length
 let x3 : Bool := false == false
 let x4 : List Bool := [x3]
 let x5 : Int := (U.getD i.toNat u0).f.y1.num
 let x6 : Int := (V.getD i.toNat u0).f.y1.num
 let x7 : Int := (U.getD i.toNat u0).f.y0.num
 let x8 : Int := (V.getD i.toNat u0).f.y0.num
 let x9 : Int := (U.getD i.toNat u0).f.x1.num
 let x10 : Int := (V.getD i.toNat u0).f.x1.num
 let x11 : Int := (U.getD i.toNat u0).f.x0.num
 let x12 : Int := (V.getD i.toNat u0).f.x0.num
 let x13 : Bool := andAll ((([] : List UInt8) == []) :: x4).reverse
 let x14 : Bool := andAll [x13, x13].reverse
 let x15 : List UInt8 := denB 1
 let x16 : Bool := andAll ((x15 == x15) :: x4).reverse
 let x17 : Int := (U.getD i.toNat u0).b
 let x18 : Int := (V.getD i.toNat u0).b
 let x19 : Int := (U.getD i.toNat u0).a
 let x20 : Int := (V.getD i.toNat u0).a
 .ite (decide (i < n)) (.need (decide (0 ≤ i ∧ i < x1)) (.need (decide (0 ≤ i ∧ i < x2)) (.ite (!andAll [andAll [andAll [andAll ((denB (U.getD i.toNat u0).f.y1.den == denB (V.getD i.toNat u0).f.y1.den) :: x4).reverse, andAll [magB x5.natAbs == magB x6.natAbs, decide (x5 < 0) == decide (x6 < 0)].reverse].reverse, andAll [andAll ((denB (U.getD i.toNat u0).f.y0.den == denB (V.getD i.toNat u0).f.y0.den) :: x4).reverse, andAll [magB x7.natAbs == magB x8.natAbs, decide (x7 < 0) == decide (x8 < 0)].reverse].reverse, andAll [andAll ((denB (U.getD i.toNat u0).f.x1.den == denB (V.getD i.toNat u0).f.x1.den) :: x4).reverse, andAll [magB x9.natAbs == magB x10.natAbs, decide (x9 < 0) == decide (x10 < 0)].reverse].reverse, andAll [andAll ((denB (U.getD i.toNat u0).f.x0.den == denB (V.getD i.toNat u0).f.x0.den) :: x4).reverse, andAll [magB x11.natAbs == magB x12.natAbs, decide (x11 < 0) == decide (x12 < 0)].reverse].reverse].reverse, andAll [(U.getD i.toNat u0).ob == (V.getD i.toNat u0).ob, (U.getD i.toNat u0).oa == (V.getD i.toNat u0).oa, andAll [x3, x14, andAll [x16, andAll [magB x17.natAbs == magB x18.natAbs, decide (x17 < 0) == decide (x18 < 0)].reverse].reverse].reverse, andAll [x3, x14, andAll [x16, andAll [magB x19.natAbs == magB x20.natAbs, decide (x19 < 0) == decide (x20 < 0)].reverse].reverse].reverse].reverse].reverse) (.fail "out") (.need (unsOk U.length (unEl U)) (.need (unsOk V.length (unEl V)) (.ret (Sum.inl (unsOf U.length (unEl U), unsOf V.length (unEl V), n, IntKind.i64.wrap (i + 1), ())))))))) (.ret (Sum.inr ()))
def M23 (U : List Un) (V : List Un) : Tr AV :=
 let x1 : Int := ↑U.length
 .ite (x1 != ↑V.length) (.ret (.c (.v (.bool false)))) (.need (unsOk U.length (unEl U)) (.need (unsOk V.length (unEl V)) (.need (pre23 (unsOf U.length (unEl U), unsOf V.length (unEl V), x1, 0, ())) (.ret (.c (.v (.bool true)))))))
theorem step23_eq (x : T23) : (exec Tryz.prog (fun _ => none) noL 1010 (loopOf 0 (codeOf Tryz.f23)) (mkSt lp23.nIn (lp23.head x))).bind (lp23.fin 0 0) = step23 x.1 x.2.1 x.2.2.1 x.2.2.2.1 := by
 obtain ⟨U, V, n, i, ⟨⟩⟩ := x
 kernel_rfl
theorem M23_eq (U V : List Un) : execFn Tryz.prog (fun _ => none) L23 1010 Tryz.f23 [usA U, usA V] = M23 U V := by kernel_rfl
theorem step23_in (U : List Un) (i : Nat) (hi : i < U.length) (hn : U.length ≤ 1000) (Q : T23 ⊕ Unit → Prop) (hq : Q (.inl (U, U, (U.length : Nat), ((i + 1 : Nat) : Int), ()))) : (step23 U U (U.length : Nat) (i : Nat)).sat Q := by
 have hw1 : IntKind.i64.wrap ((i : Int) + 1) = ((i + 1 : Nat) : Int) := by rw [wrap_i64 (by omega)]; omega
 have c1 : decide ((0 : Int) ≤ (i : Int) ∧ (i : Int) < (U.length : Int)) = true := decide_eq_true (by omega)
 have c2 : decide ((i : Int) < (U.length : Int)) = true := decide_eq_true (by omega)
 simp only [step23, c1, c2, hw1, beq_self_eq_true, unsOf_el, unsOk_units]
 exact ite_tr (need_true (need_true (sat_ite (fun h => absurd (show false = true from h) (by decide)) (fun _ => need_true (need_true (sat_ret hq))))))
theorem runs23 (U : List Un) (hn : U.length ≤ 1000) (Q : Unit → Prop) (hq : Q ()) : ∀ (k i : Nat), i + k = U.length → RunsX (fun x : T23 => step23 x.1 x.2.1 x.2.2.1 x.2.2.2.1) Q (k + 1) (U, U, (U.length : Nat), (i : Nat), ())
 | 0, i, he => by
  obtain rfl : i = U.length := by omega
  show (step23 U U (U.length : Nat) (U.length : Nat)).sat _
  have c2 : decide (((U.length : Nat) : Int) < (U.length : Int)) = false := decide_eq_false (by omega)
  simp only [step23, c2]
  exact ite_fa (sat_ret hq)
 | k + 1, i, he => by
  exact step23_in U i (by omega) hn _ (runs23 U hn Q hq k (i + 1) (by omega))
theorem f23_loops : BlocksOk Tryz.prog 0 L23 (codeOf Tryz.f23) := by
 refine blocksOk_of (d := fun id => Nat.beq id 0) (fun id => by unfold L23; cases Nat.beq id 0 <;> rfl) _ ?_
 have hb : blocksOf (fun id => Nat.beq id 0) (codeOf Tryz.f23) = [(0, .loop (loopOf 0 (codeOf Tryz.f23)))] := by kernel_rfl
 rw [hb]
 intro p hp g hg
 simp only [List.mem_singleton] at hp
 subst hp
 have hh : L23 0 = some ((lp23).g 0) := rfl
 rw [hh] at hg
 obtain rfl : g = (lp23).g 0 := (Option.some.inj hg).symm
 refine LoopSt.ok2 (N := 1010) prog_mixed noΓ_ok (L := noL) (blocksOk_none 0 _) lp23_good (fun x => step23_eq x) ?_
 rintro ⟨U, V, n, i, ⟨⟩⟩ hx
 have hx : pre23 (U, V, n, i, ()) = true := hx
 simp only [pre23, Bool.and_eq_true, decide_eq_true_eq, eqUs_iff] at hx
 obtain ⟨h1, h2, h3, h4⟩ := hx
 subst h1 h2 h3
 exact ⟨_, runs23 U h4 (· = ()) rfl U.length 0 (by omega)⟩
theorem M23_sat (U : List Un) (hn : U.length ≤ 1000) : (M23 U U).sat fun r => r = boolA true := by
 have hp : pre23 (U, U, (U.length : Nat), 0, ()) = true := by
  simp only [pre23, eqUs_iff.2 (rfl : U = U), decide_true, Bool.true_and, decide_eq_true hn]
 simp only [M23, bne_self_eq_false, unsOf_el, unsOk_units, hp]
 exact ite_fa (need_true (need_true (need_true (sat_ret rfl))))
def K23 : List AV → Option (AV × List Bool) := (F2 argUs argUs).K (fun x => boolA true) fun x => [eqUs x.1 x.2.1, decide (x.1.length ≤ 1000)]
theorem f23_ok : PureOk Tryz.prog 23 K23 :=
 (F2 argUs argUs).pureEq (N := 1010) (L := L23) prog_mixed noΓ_ok (fn := Tryz.f23) (c := codeOf Tryz.f23) (by kernel_rfl) (by kernel_rfl) (by kernel_rfl) f23_loops (fun _ => rfl) (M := fun x => M23 x.1 x.2.1) (fun x => M23_eq x.1 x.2.1)
  fun x h => by
   have h1 : x.1 = x.2.1 := eqUs_iff.1 (h (eqUs x.1 x.2.1) (by simp))
   rw [← h1]
   exact M23_sat x.1 (dec (h (decide (x.1.length ≤ 1000)) (by simp)))
def Γ10 : FuncId → Option Spec := fun f => bif Nat.beq f 23 then some (pureSpec K23) else none
theorem Γ10_ok : ∀ f s, Γ10 f = some s → SpecOk Tryz.prog f s := one_ok f23_ok.spec
def M10 (U : List Un) (V : List Un) : Tr AV :=
 let x1 : List Un := unsOf U.length (unEl U)
 let x2 : Nat := x1.length
 .need (unsOk U.length (unEl U)) (.need (unsOk V.length (unEl V)) (.need (eqUs x1 (unsOf V.length (unEl V))) (.need (decide (x2 ≤ 1000)) (.ret (.c (.v (.bool true)))))))
theorem M10_eq (U V : List Un) : execFn Tryz.prog Γ10 noL 1010 Tryz.f10 [usA U, usA V] = M10 U V := by kernel_rfl
theorem M10_sat (U : List Un) (hn : U.length ≤ 1000) : (M10 U U).sat fun r => r = boolA true := by
 simp only [M10, unsOf_el, unsOk_units, eqUs_iff.2 (rfl : U = U), decide_eq_true hn]
 exact need_true (need_true (need_true (need_true (sat_ret rfl))))
def K10 : List AV → Option (AV × List Bool) := (F2 argUs argUs).K (fun x => boolA true) fun x => [eqUs x.1 x.2.1, decide (x.1.length ≤ 1000)]
theorem f10_ok : PureOk Tryz.prog 10 K10 :=
 (F2 argUs argUs).pureEq (N := 1010) (L := noL) prog_mixed Γ10_ok (fn := Tryz.f10) (c := codeOf Tryz.f10) (by kernel_rfl) (by kernel_rfl) (by kernel_rfl) (blocksOk_none _ _) (fun _ => rfl) (M := fun x => M10 x.1 x.2.1) (fun x => M10_eq x.1 x.2.1)
  fun x h => by
   have h1 : x.1 = x.2.1 := eqUs_iff.1 (h (eqUs x.1 x.2.1) (by simp))
   rw [← h1]
   exact M10_sat x.1 (dec (h (decide (x.1.length ≤ 1000)) (by simp)))
end Go.Vse
set_option maxRecDepth 100000
namespace Go.Vse
open Go.Proofs
structure Cw where
 t : Int
 x : Int
 y : Int
 m : Nat
 e : Nat → List IV
def cw0 : Cw := ⟨0, 0, 0, 0, fun _ => []⟩
def cwIV (c : Cw) : List IV := [.v (.int .u8 c.t), .v (.int .u8 c.x), .v (.int .u8 c.y), .sl c.m 4 c.e]
def cwV (l : List IV) : Cw := match l with | [.v (.int .u8 t), .v (.int .u8 x), .v (.int .u8 y), .sl m 4 e] => ⟨t, x, y, m, e⟩ | _ => cw0
def cwI (l : List IV) : Bool := match l with | [.v (.int .u8 _), .v (.int .u8 _), .v (.int .u8 _), .sl _ 4 _] => true | _ => false
theorem cwI_eq {l : List IV} (h : cwI l = true) : l = cwIV (cwV l) := by
 unfold cwI at h
 split at h
 ·rfl
 ·cases h
def cwEl (C : List Cw) : Nat → List IV := fun k => cwIV (C.getD k cw0)
def cwsOf (n : Nat) (el : Nat → List IV) : List Cw := (List.range n).map fun k => cwV (el k)
def cwsI (n : Nat) (el : Nat → List IV) : Bool := (List.range n).all fun k => cwI (el k)
theorem cwsOf_len (n : Nat) (el : Nat → List IV) : (cwsOf n el).length = n := by simp [cwsOf]
theorem cwsI_el {n : Nat} {el : Nat → List IV} (h : cwsI n el = true) : ∀ k, k < n → el k = cwEl (cwsOf n el) k := fun k hk => by
 have h1 := cwI_eq (List.all_eq_true.1 h k (List.mem_range.2 hk))
 have e : (cwsOf n el).getD k cw0 = cwV (el k) := by simp [cwsOf, List.getD_eq_getElem?_getD, hk]
 unfold cwEl
 rw [e]; exact h1
theorem cwsOf_el (C : List Cw) : cwsOf C.length (cwEl C) = C := by
 apply List.ext_getElem
 ·simp [cwsOf]
 ·intro i h1 h2
  simp [cwsOf, cwEl, cwIV, cwV, List.getD_eq_getElem?_getD, h2]
theorem cwsI_cws (C : List Cw) : cwsI C.length (cwEl C) = true := List.all_eq_true.2 fun k _ => rfl
def Cw.ok (c : Cw) : Bool := u8B c.t && (u8B c.x && (u8B c.y && stsOk c.m c.e))
def Cw.cr (c : Cw) : Cr := ⟨c.t, c.x, c.y, stsOf c.m c.e⟩
theorem Cw.cr_ok {c : Cw} (h : c.ok = true) (h6 : c.m ≤ 6) : c.cr.ok = true := by
 simp only [Cw.ok, Bool.and_eq_true] at h
 obtain ⟨h1, h2, h3, h4⟩ := h
 show (u8B c.t && (u8B c.x && (u8B c.y && ((stsOf c.m c.e).all Stp.ok && decide ((stsOf c.m c.e).length ≤ 6))))) = true
 rw [h1, h2, h3, (stsOk_el h4).2, stsOf_len, decide_eq_true h6]; rfl
structure Ob where
 i : Int
 m : Nat
 e : Nat → List IV
def ob0 : Ob := ⟨0, 0, fun _ => []⟩
def obIV (o : Ob) : List IV := [.v (.int .i64 o.i), .sl o.m 36 o.e]
def obV (l : List IV) : Ob := match l with | [.v (.int .i64 i), .sl m 36 e] => ⟨i, m, e⟩ | _ => ob0
def obI (l : List IV) : Bool := match l with | [.v (.int .i64 _), .sl _ 36 _] => true | _ => false
theorem obI_eq {l : List IV} (h : obI l = true) : l = obIV (obV l) := by
 unfold obI at h
 split at h
 ·rfl
 ·cases h
def obEl (O : List Ob) : Nat → List IV := fun k => obIV (O.getD k ob0)
def obsOf (n : Nat) (el : Nat → List IV) : List Ob := (List.range n).map fun k => obV (el k)
def obsI (n : Nat) (el : Nat → List IV) : Bool := (List.range n).all fun k => obI (el k)
theorem obsOf_len (n : Nat) (el : Nat → List IV) : (obsOf n el).length = n := by simp [obsOf]
theorem obsI_el {n : Nat} {el : Nat → List IV} (h : obsI n el = true) : ∀ k, k < n → el k = obEl (obsOf n el) k := fun k hk => by
 have h1 := obI_eq (List.all_eq_true.1 h k (List.mem_range.2 hk))
 have e : (obsOf n el).getD k ob0 = obV (el k) := by simp [obsOf, List.getD_eq_getElem?_getD, hk]
 unfold obEl
 rw [e]; exact h1
theorem obsOf_el (O : List Ob) : obsOf O.length (obEl O) = O := by
 apply List.ext_getElem
 ·simp [obsOf]
 ·intro i h1 h2
  simp [obsOf, obEl, obIV, obV, List.getD_eq_getElem?_getD, h2]
theorem obsI_obs (O : List Ob) : obsI O.length (obEl O) = true := List.all_eq_true.2 fun k _ => rfl
theorem obsOf_join (m : Nat) (el e : Nat → List IV) : obsOf (m + 1) (joinE m el e) = obsOf m el ++ [obV (e 0)] := by
 unfold obsOf
 rw [List.range_succ, List.map_append]
 congr 1
 ·refine List.map_congr_left fun k hk => ?_
  have hk := List.mem_range.1 hk
  unfold joinE
  rw [if_pos hk]
 ·simp only [List.map_cons, List.map_nil, joinE, Nat.lt_irrefl, if_false, Nat.sub_self]
theorem obsI_join (m : Nat) (el e : Nat → List IV) : obsI (m + 1) (joinE m el e) = (obsI m el && obI (e 0)) := by
 unfold obsI
 rw [List.range_succ, List.all_append]
 congr 1
 ·have : ∀ l : List Nat, (∀ k ∈ l, k < m) → (l.all fun k => obI (joinE m el e k)) = l.all fun k => obI (el k) := by
   intro l hl
   induction l with
   | nil => rfl
   | cons x l ih =>
    simp only [List.all_cons]
    rw [ih fun k hk => hl k (by simp [hk])]
    congr 2
    unfold joinE
    rw [if_pos (hl x (by simp))]
  exact this _ fun k hk => List.mem_range.1 hk
 ·simp only [List.all_cons, List.all_nil, Bool.and_true, joinE, Nat.lt_irrefl, if_false, Nat.sub_self]
abbrev Fl := List Cw × Nat × Nat × (Nat → List IV)
def flCells (x : Fl) : List AV := [.c (.sl x.1.length 4 (cwEl x.1)), .c (.sl x.2.1 x.2.2.1 x.2.2.2)]
def argFl : Arg Fl where
 get := fun a => match a with | .agg [.c (.sl n 4 el), .c (.sl a z e)] => some ((cwsOf n el, a, z, e), [cwsI n el]) | _ => none
 put := fun x => .agg (flCells x)
 ok := by
  intro a x cs h hc
  split at h
  ·rename_i n el b z e
   simp only [Option.some.injEq, Prod.mk.injEq] at h
   obtain ⟨rfl, rfl⟩ := h
   have h1 := cwsI_el (n := n) (el := el) (hc _ (by simp))
   unfold flCells
   simp only [cwsOf_len]
   exact Sees.agg (.cons (Sees.sl h1) (.cons (Sees.refl _) .nil))
  ·cases h
def eFl : EForm Fl where
 parse := fun e => match e with | [some (.cells [.c (.sl n 4 el), .c (.sl a z e')] 25)] => some ((cwsOf n el, a, z, e'), [cwsI n el]) | _ => none
 ents := fun x => [some (.cells (flCells x) 25)]
 ok := by
  intro e x cs h hc
  split at h
  ·rename_i n el b z e'
   simp only [Option.some.injEq, Prod.mk.injEq] at h
   obtain ⟨rfl, rfl⟩ := h
   have h1 := cwsI_el (n := n) (el := el) (hc _ (by simp))
   unfold flCells
   simp only [cwsOf_len]
   exact .cons (.cells _ _ _ (.cons (Sees.sl h1) (.cons (Sees.refl _) .nil))) .nil
  ·cases h
def obsA (O : List Ob) : AV := .c (.sl O.length 2 (obEl O))
def argObs : Arg (List Ob) where
 get := fun a => match a with | .c (.sl n 2 el) => some (obsOf n el, [obsI n el]) | _ => none
 put := obsA
 ok := by
  intro a x cs h hc
  split at h
  ·rename_i n el
   simp only [Option.some.injEq, Prod.mk.injEq] at h
   obtain ⟨rfl, rfl⟩ := h
   have h1 := obsI_el (n := n) (el := el) (hc _ (by simp))
   unfold obsA
   rw [obsOf_len]
   exact Sees.sl h1
  ·cases h
def argMo (b : Nat) : Arg Nat where
 get := fun a => match a with | .msl b' n 2 => bif Nat.beq b b' then some (n, []) else none | _ => none
 put := fun n => .msl b n 2
 ok := by
  intro a x cs h hc
  split at h
  ·rename_i b' n
   cases hb : Nat.beq b b' with
   | false => rw [hb] at h; cases h
   | true =>
    obtain rfl : b = b' := by simpa using hb
    rw [hb] at h
    simp only [cond_true, Option.some.injEq, Prod.mk.injEq] at h
    obtain ⟨rfl, rfl⟩ := h
    exact Sees.refl _
  ·cases h
def eFO : EForm (Fl × List Ob) where
 parse := fun e => match e with | [some (.cells [.c (.sl n 4 el), .c (.sl a z e')] 25), some (.arr m 2 eo 32)] => some (((cwsOf n el, a, z, e'), obsOf m eo), [cwsI n el, obsI m eo]) | _ => none
 ents := fun x => [some (.cells (flCells x.1) 25), some (.arr x.2.length 2 (obEl x.2) 32)]
 ok := by
  intro e x cs h hc
  split at h
  ·rename_i n el b z e' m eo
   simp only [Option.some.injEq, Prod.mk.injEq] at h
   obtain ⟨rfl, rfl⟩ := h
   have h1 := cwsI_el (n := n) (el := el) (hc (cwsI n el) (by simp))
   have h2 := obsI_el (n := m) (el := eo) (hc (obsI m eo) (by simp))
   unfold flCells
   simp only [cwsOf_len, obsOf_len]
   exact .cons (.cells _ _ _ (.cons (Sees.sl h1) (.cons (Sees.refl _) .nil))) (.cons (.arr _ _ _ _ _ h2) .nil)
  ·cases h
def obOf (k : Nat) (c : Cw) : Ob := ⟨(k : Int) + 1, (trajU c.cr).length, unEl (trajU c.cr)⟩
def ptsOf : Nat → List Cw → List Ob
 | _, [] => []
 | k, c :: l => obOf k c :: ptsOf (k + 1) l
theorem ptsOf_len : ∀ (l : List Cw) (k : Nat), (ptsOf k l).length = l.length
 | [], _ => rfl
 | c :: l, k => by simp only [ptsOf, List.length_cons, ptsOf_len l]
def fewC (C : List Cw) : Bool := C.all fun c => decide (c.m ≤ 6)
def shortF (x : Fl) : Bool := fewC x.1 && (decide (x.1.length ≤ 4) && decide (x.2.1 ≤ 2))
end Go.Vse
set_option maxHeartbeats 4000000
set_option maxRecDepth 100000
namespace Go.Vse
open Go.Proofs
def Γ6 : FuncId → Option Spec := fun f => bif Nat.beq f 16 then some (pureSpec K16) else none
theorem Γ6_ok : ∀ f s, Γ6 f = some s → SpecOk Tryz.prog f s := one_ok f16_ok.spec
abbrev T5 := (Unit × Bool × Int × Unit) × Fl
abbrev F5 : Form (Unit × Bool × Int × Unit) := .cons (argPtr 0 0) (.cons argBool (.cons argInt .nil))
abbrev G5 : Form (Unit × Bool × Unit) := .cons (argPtr 0 0) (.cons argBool .nil)
def pre5 (x : T5) : Bool := !x.1.2.1 && (decide (x.1.2.2.1 = 0) && decide (x.2.1.length ≤ 9223372036854775807))
def lp5 : LoopSt T5 (Bool × ((Unit × Bool × Unit) × Fl)) := lpR { nt := 29, live := [1, 2, 3] } { nt := 29, live := [1, 2] } (MForm.with eFl F5) (MForm.with eFl G5) (fun x => (!fewC x.2.1, (((), false, ()), x.2))) pre5
theorem lp5_good : lp5.Good2 := lpR_good _ _ _ _ _ _
def L5 : Nat → Option (St → Tr (Ex × St)) := fun id => bif Nat.beq id 0 then some (lp5.g 0) else none
abbrev T6 := (Unit × Nat × Int × Unit) × (Fl × List Ob)
abbrev F6 : Form (Unit × Nat × Int × Unit) := .cons (argPtr 0 0) (.cons (argMo 1) (.cons argInt .nil))
def pre6 (x : T6) : Bool := decide (x.1.2.1 = 0) && (decide (x.1.2.2.1 = 0) && (decide (x.2.2.length = 0) && (x.2.1.1.all Cw.ok && (fewC x.2.1.1 && decide (x.2.1.1.length ≤ 4)))))
def res6 (x : T6) : (Unit × Nat × Unit) × (Fl × List Ob) := (((), x.2.1.1.length, ()), (x.2.1, ptsOf 0 x.2.1.1))
abbrev G6 : Form (Unit × Nat × Unit) := .cons (argPtr 0 0) (.cons (argMo 1) .nil)
def lp6 : LoopSt T6 ((Unit × Nat × Unit) × (Fl × List Ob)) := lpF { nt := 29, live := [1, 3, 4], lifts := [(3, 2, 32)] } { nt := 29, live := [1, 3], lifts := [(3, 2, 32)] } (MForm.with eFO F6) (MForm.with eFO G6) res6 pre6
theorem lp6_good : lp6.Good2 := lpF_good _ _ _ _ _ _
def L6 : Nat → Option (St → Tr (Ex × St)) := fun id => bif Nat.beq id 0 then some (lp6.g 0) else none
def step5 (b : Bool) (i : Int) (C : List Cw) (a : Nat) (z : Nat) (e : Nat → List IV) : Tr (T5 ⊕ Bool × (Unit × Bool × Unit) × Fl) :=
 let x1 : Int := ↑C.length
 let x2 : Int := ↑(C.getD i.toNat cw0).m
 let x3 : Bool := cwsI C.length (cwEl C)
 .ite (decide (i < x1)) (.need (decide (0 ≤ i ∧ i < x1)) (.ite (decide (x2 > 6)) (.need x3 (.ret (Sum.inr (true, ((), false, ()), cwsOf C.length (cwEl C), a, z, e)))) (.need x3 (.ret (Sum.inl (((), b, IntKind.i64.wrap (i + 1), ()), cwsOf C.length (cwEl C), a, z, e)))))) (.need x3 (.ret (Sum.inr (false, ((), b, ()), cwsOf C.length (cwEl C), a, z, e))))
def M5 (C : List Cw) (a : Nat) (z : Nat) (e : Nat → List IV) : Tr AV :=
 let x1 : List Cw := cwsOf C.length (cwEl C)
 let x2 : Int := ↑x1.length
 let x3 : Bool := decide (x2 ≤ 4)
 let x4 : Int := ↑a
 .need (cwsI C.length (cwEl C)) (.need (pre5 (((), false, 0, ()), x1, a, z, e)) (.ite (!fewC x1) (.ret (.c (.v (.bool false)))) (.need (bif x3 then true else true) (.ret (.c (.v (.bool (bif x3 then bif true then decide (x4 ≤ 2) else false else false))))))))
def step6 (m : Nat) (i : Int) (C : List Cw) (a : Nat) (z : Nat) (e : Nat → List IV) (O : List Ob) : Tr (T6 ⊕ (Unit × Nat × Unit) × Fl × List Ob) :=
 let x1 : Int := ↑C.length
 let x2 : Bool := decide (i < x1)
 let x3 : Nat := m + 1
 let x4 : Nat := x3 * 32
 let x5 : Bool := cwsI C.length (cwEl C)
 let x6 : Nat := 1 + 1
 let x7 : List Un := trajU (C.getD i.toNat cw0).cr
 let x8 : Int := IntKind.i64.wrap (i + 1)
 .need (bif x2 then true else true) (.ite (bif x2 then bif true then decide (i < 4) else false else false) (.need (decide (0 ≤ i ∧ i < x1)) (.need (stsOk (C.getD i.toNat cw0).m (C.getD i.toNat cw0).e) (.need (C.getD i.toNat cw0).cr.ok (.need (decide (m ≤ O.length)) (.need true (.need (decide (x3 ≤ 9223372036854775807)) (.need (decide (x4 ≤ 140737488355328)) (.need x5 (.need (obsI x3 (joinE m (obEl O) fun k => List.take x6 (List.drop (k * x6) [IV.sl x7.length 36 (unEl x7), IV.v (Value.int IntKind.i64 x8)].reverse))) (.ret (Sum.inl (((), x3, x8, ()), (cwsOf C.length (cwEl C), a, z, e), obsOf x3 (joinE m (obEl O) fun k => List.take x6 (List.drop (k * x6) [IV.sl x7.length 36 (unEl x7), IV.v (Value.int IntKind.i64 x8)].reverse)))))))))))))) (.need x5 (.need (obsI O.length (obEl O)) (.ret (Sum.inr (((), m, ()), (cwsOf C.length (cwEl C), a, z, e), obsOf O.length (obEl O)))))))
def M6 (C : List Cw) (a : Nat) (z : Nat) (e : Nat → List IV) : Tr AV :=
 let x1 : List Cw := cwsOf C.length (cwEl C)
 let x2 : Nat := x1.length
 let x3 : List Ob := ptsOf 0 x1
 let x4 : Nat := x3.length
 .need (cwsI C.length (cwEl C)) (.need true (.need (pre6 (((), 0, 0, ()), (x1, a, z, e), obsOf 0 fun x => [])) (.need (decide (x2 ≤ x4)) (.ret (AV.c (IV.sl x2 2 (obEl x3)))))))
theorem step5_eq (x : T5) : (exec Tryz.prog (fun _ => none) noL 1010 (loopOf 0 (codeOf Tryz.f5)) (mkSt lp5.nIn (lp5.head x))).bind (lp5.fin 0 0) = step5 x.1.2.1 x.1.2.2.1 x.2.1 x.2.2.1 x.2.2.2.1 x.2.2.2.2 := by
 obtain ⟨⟨⟨⟩, b, i, ⟨⟩⟩, C, a, z, e⟩ := x
 kernel_rfl
theorem step6_eq (x : T6) : (exec Tryz.prog Γ6 noL 1010 (loopOf 0 (codeOf Tryz.f6)) (mkSt lp6.nIn (lp6.head x))).bind (lp6.fin 0 0) = step6 x.1.2.1 x.1.2.2.1 x.2.1.1 x.2.1.2.1 x.2.1.2.2.1 x.2.1.2.2.2 x.2.2 := by
 obtain ⟨⟨⟨⟩, m, i, ⟨⟩⟩, ⟨C, a, z, e⟩, O⟩ := x
 kernel_rfl
theorem M5_eq (C : List Cw) (a z : Nat) (e : Nat → List IV) : execFn Tryz.prog (fun _ => none) L5 1010 Tryz.f5 [.agg (flCells (C, a, z, e))] = M5 C a z e := by kernel_rfl
theorem M6_eq (C : List Cw) (a z : Nat) (e : Nat → List IV) : execFn Tryz.prog Γ6 L6 1010 Tryz.f6 [.agg (flCells (C, a, z, e))] = M6 C a z e := by kernel_rfl
theorem step5_go (C : List Cw) (a z : Nat) (e : Nat → List IV) (i : Nat) (hi : i < C.length) (hn : C.length ≤ 9223372036854775807) (h6 : (C.getD i cw0).m ≤ 6) (Q : T5 ⊕ Bool × (Unit × Bool × Unit) × Fl → Prop) (hq : Q (.inl (((), false, ((i + 1 : Nat) : Int), ()), (C, a, z, e)))) : (step5 false (i : Nat) C a z e).sat Q := by
 have hw1 : IntKind.i64.wrap ((i : Int) + 1) = ((i + 1 : Nat) : Int) := by rw [wrap_i64 (by omega)]; omega
 have c1 : decide ((0 : Int) ≤ (i : Int) ∧ (i : Int) < (C.length : Int)) = true := decide_eq_true (by omega)
 have c2 : decide ((i : Int) < (C.length : Int)) = true := decide_eq_true (by omega)
 have c3 : decide (((C.getD i cw0).m : Int) > 6) = false := decide_eq_false (by omega)
 simp only [step5, Int.toNat_natCast, c1, c2, c3, hw1, cwsI_cws, cwsOf_el]
 exact ite_tr (need_true (ite_fa (need_true (sat_ret hq))))
theorem step5_out (C : List Cw) (a z : Nat) (e : Nat → List IV) (i : Nat) (hi : i < C.length) (h6 : ¬ (C.getD i cw0).m ≤ 6) (Q : T5 ⊕ Bool × (Unit × Bool × Unit) × Fl → Prop) (hq : Q (.inr (true, ((), false, ()), (C, a, z, e)))) : (step5 false (i : Nat) C a z e).sat Q := by
 have c1 : decide ((0 : Int) ≤ (i : Int) ∧ (i : Int) < (C.length : Int)) = true := decide_eq_true (by omega)
 have c2 : decide ((i : Int) < (C.length : Int)) = true := decide_eq_true (by omega)
 have c3 : decide (((C.getD i cw0).m : Int) > 6) = true := decide_eq_true (by omega)
 simp only [step5, Int.toNat_natCast, c1, c2, c3, cwsI_cws, cwsOf_el]
 exact ite_tr (need_true (ite_tr (need_true (sat_ret hq))))
theorem step5_end (C : List Cw) (a z : Nat) (e : Nat → List IV) (Q : T5 ⊕ Bool × (Unit × Bool × Unit) × Fl → Prop) (hq : Q (.inr (false, ((), false, ()), (C, a, z, e)))) : (step5 false (C.length : Nat) C a z e).sat Q := by
 have c2 : decide (((C.length : Nat) : Int) < (C.length : Int)) = false := decide_eq_false (by omega)
 simp only [step5, c2, cwsI_cws, cwsOf_el]
 exact ite_fa (need_true (sat_ret hq))
theorem runs5 (C : List Cw) (a z : Nat) (e : Nat → List IV) (hn : C.length ≤ 9223372036854775807) (Q : Bool × (Unit × Bool × Unit) × Fl → Prop) : ∀ (k i : Nat), i + k = C.length → Q (!fewC (C.drop i), ((), false, ()), (C, a, z, e)) →
  RunsX (fun x : T5 => step5 x.1.2.1 x.1.2.2.1 x.2.1 x.2.2.1 x.2.2.2.1 x.2.2.2.2) Q (k + 1) (((), false, (i : Nat), ()), (C, a, z, e))
 | 0, i, he, hq => by
  obtain rfl : i = C.length := by omega
  rw [List.drop_length] at hq
  exact step5_end C a z e _ hq
 | k + 1, i, he, hq => by
  have hi : i < C.length := by omega
  have hu : C.getD i cw0 = C[i] := by simp [List.getD_eq_getElem?_getD, hi]
  rw [List.drop_eq_getElem_cons hi, ← hu] at hq
  by_cases h6 : (C.getD i cw0).m ≤ 6
  ·have e1 : fewC (C.getD i cw0 :: C.drop (i + 1)) = fewC (C.drop (i + 1)) := by
    unfold fewC
    rw [List.all_cons, decide_eq_true h6, Bool.true_and]
   rw [e1] at hq
   exact step5_go C a z e i hi hn h6 _ (runs5 C a z e hn Q k (i + 1) (by omega) hq)
  ·have e1 : fewC (C.getD i cw0 :: C.drop (i + 1)) = false := by
    unfold fewC
    rw [List.all_cons, decide_eq_false h6, Bool.false_and]
   rw [e1] at hq
   exact step5_out C a z e i hi h6 _ hq
theorem f5_loops : BlocksOk Tryz.prog 0 L5 (codeOf Tryz.f5) := by
 refine blocksOk_of (d := fun id => Nat.beq id 0) (fun id => by unfold L5; cases Nat.beq id 0 <;> rfl) _ ?_
 have hb : blocksOf (fun id => Nat.beq id 0) (codeOf Tryz.f5) = [(0, .loop (loopOf 0 (codeOf Tryz.f5)))] := by kernel_rfl
 rw [hb]
 intro p hp g hg
 simp only [List.mem_singleton] at hp
 subst hp
 have hh : L5 0 = some ((lp5).g 0) := rfl
 rw [hh] at hg
 obtain rfl : g = (lp5).g 0 := (Option.some.inj hg).symm
 refine LoopSt.ok2 (N := 1010) prog_mixed noΓ_ok (L := noL) (blocksOk_none 0 _) lp5_good (fun x => step5_eq x) ?_
 rintro ⟨⟨⟨⟩, b, i, ⟨⟩⟩, C, a, z, e⟩ hx
 have hx : pre5 (((), b, i, ()), (C, a, z, e)) = true := hx
 simp only [pre5, Bool.and_eq_true, Bool.not_eq_true', decide_eq_true_eq] at hx
 obtain ⟨h1, h2, h3⟩ := hx
 subst h1 h2
 exact ⟨_, runs5 C a z e h3 (· = (!fewC C, (((), false, ()), (C, a, z, e)))) C.length 0 (by omega) rfl⟩
theorem M5_sat (C : List Cw) (a z : Nat) (e : Nat → List IV) (hn : C.length ≤ 9223372036854775807) : (M5 C a z e).sat fun r => r = boolA (shortF (C, a, z, e)) := by
 have hp : pre5 (((), false, 0, ()), (C, a, z, e)) = true := by
  simp only [pre5, decide_true, Bool.not_false, Bool.true_and, decide_eq_true hn]
 have e2 : decide (((C.length : Nat) : Int) ≤ 4) = decide (C.length ≤ 4) := by
  by_cases h : C.length ≤ 4
  ·rw [decide_eq_true h, decide_eq_true (by omega)]
  ·rw [decide_eq_false h, decide_eq_false (by omega)]
 have e3 : decide (((a : Nat) : Int) ≤ 2) = decide (a ≤ 2) := by
  by_cases h : a ≤ 2
  ·rw [decide_eq_true h, decide_eq_true (by omega)]
  ·rw [decide_eq_false h, decide_eq_false (by omega)]
 simp only [M5, cwsOf_el, cwsI_cws, hp, e2, e3]
 unfold shortF
 refine need_true (need_true ?_)
 cases fewC C with
 | false => exact ite_tr (sat_ret rfl)
 | true =>
  refine ite_fa ?_
  cases decide (C.length ≤ 4) with
  | false => exact sat_need rfl (sat_ret rfl)
  | true =>
   refine sat_need rfl (sat_ret ?_)
   cases decide (a ≤ 2) <;> rfl
def K5 : List AV → Option (AV × List Bool) := (F1 argFl).K (fun x => boolA (shortF x.1)) fun x => [decide (x.1.1.length ≤ 9223372036854775807)]
theorem f5_ok : PureOk Tryz.prog 5 K5 :=
 (F1 argFl).pureEq (N := 1010) (L := L5) prog_mixed noΓ_ok (fn := Tryz.f5) (c := codeOf Tryz.f5) (by kernel_rfl) (by kernel_rfl) (by kernel_rfl) f5_loops (fun _ => rfl) (M := fun x => M5 x.1.1 x.1.2.1 x.1.2.2.1 x.1.2.2.2) (fun x => M5_eq x.1.1 x.1.2.1 x.1.2.2.1 x.1.2.2.2)
  fun x h => M5_sat x.1.1 x.1.2.1 x.1.2.2.1 x.1.2.2.2 (dec (h (decide (x.1.1.length ≤ 9223372036854775807)) (by simp)))
theorem obV_lit (i : Int) (U : List Un) : obV (List.take (1 + 1) (List.drop (0 * (1 + 1)) [IV.sl U.length 36 (unEl U), IV.v (Value.int IntKind.i64 i)].reverse)) = ⟨i, U.length, unEl U⟩ := rfl
theorem obI_lit (i : Int) (U : List Un) : obI (List.take (1 + 1) (List.drop (0 * (1 + 1)) [IV.sl U.length 36 (unEl U), IV.v (Value.int IntKind.i64 i)].reverse)) = true := rfl
theorem step6_in (C : List Cw) (a z : Nat) (e : Nat → List IV) (O : List Ob) (i : Nat) (hi : i < C.length) (hn : C.length ≤ 4) (hO : O.length = i) (hc : (C.getD i cw0).ok = true) (h6 : (C.getD i cw0).m ≤ 6) (Q : T6 ⊕ (Unit × Nat × Unit) × Fl × List Ob → Prop)
  (hq : Q (.inl (((), (O ++ [obOf i (C.getD i cw0)]).length, ((i + 1 : Nat) : Int), ()), ((C, a, z, e), O ++ [obOf i (C.getD i cw0)])))) : (step6 O.length (i : Nat) C a z e O).sat Q := by
 have hw1 : IntKind.i64.wrap ((i : Int) + 1) = ((i + 1 : Nat) : Int) := by rw [wrap_i64 (by omega)]; omega
 have c1 : decide ((0 : Int) ≤ (i : Int) ∧ (i : Int) < (C.length : Int)) = true := decide_eq_true (by omega)
 have c2 : decide ((i : Int) < (C.length : Int)) = true := decide_eq_true (by omega)
 have c3 : decide ((i : Int) < 4) = true := decide_eq_true (by omega)
 have d1 : decide (O.length + 1 ≤ 9223372036854775807) = true := decide_eq_true (by omega)
 have d2 : decide ((O.length + 1) * 32 ≤ 140737488355328) = true := decide_eq_true (by omega)
 have hok := Cw.cr_ok hc h6
 have hst : stsOk (C.getD i cw0).m (C.getD i cw0).e = true := by
  simp only [Cw.ok, Bool.and_eq_true] at hc
  exact hc.2.2.2
 have hl : (O ++ [obOf i (C.getD i cw0)]).length = O.length + 1 := by simp
 rw [hl] at hq
 simp only [step6, Int.toNat_natCast, c1, c2, c3, d1, d2, hok, hst, hw1, cwsOf_el, cwsI_cws, obsOf_join, obsI_join, obsOf_el, obsI_obs, obV_lit, obI_lit, cond_true, Bool.and_self, Nat.le_refl, decide_true]
 repeat first
  | with_reducible refine need_true ?_
  | with_reducible refine ite_tr ?_
 refine sat_ret ?_
 exact hq
theorem step6_end (C : List Cw) (a z : Nat) (e : Nat → List IV) (O : List Ob) (Q : T6 ⊕ (Unit × Nat × Unit) × Fl × List Ob → Prop) (hq : Q (.inr (((), O.length, ()), ((C, a, z, e), O)))) : (step6 O.length (C.length : Nat) C a z e O).sat Q := by
 have c2 : decide (((C.length : Nat) : Int) < (C.length : Int)) = false := decide_eq_false (by omega)
 simp only [step6, c2, cwsOf_el, cwsI_cws, obsOf_el, obsI_obs, cond_false]
 exact need_true (ite_fa (need_true (need_true (sat_ret hq))))
theorem runs6 (C : List Cw) (a z : Nat) (e : Nat → List IV) (hn : C.length ≤ 4) (hc : C.all Cw.ok = true) (h6 : fewC C = true) (Q : (Unit × Nat × Unit) × Fl × List Ob → Prop) : ∀ (k i : Nat) (O : List Ob), i + k = C.length → O.length = i → Q (((), C.length, ()), ((C, a, z, e), O ++ ptsOf i (C.drop i))) →
  RunsX (fun x : T6 => step6 x.1.2.1 x.1.2.2.1 x.2.1.1 x.2.1.2.1 x.2.1.2.2.1 x.2.1.2.2.2 x.2.2) Q (k + 1) (((), O.length, (i : Nat), ()), ((C, a, z, e), O))
 | 0, i, O, he, hO, hq => by
  obtain rfl : i = C.length := by omega
  rw [List.drop_length] at hq
  simp only [ptsOf, List.append_nil] at hq
  rw [← hO] at hq
  exact step6_end C a z e O _ hq
 | k + 1, i, O, he, hO, hq => by
  have hi : i < C.length := by omega
  have hu : C.getD i cw0 = C[i] := by simp [List.getD_eq_getElem?_getD, hi]
  rw [List.drop_eq_getElem_cons hi, ← hu] at hq
  have hm : C.getD i cw0 ∈ C := by rw [hu]; exact List.getElem_mem hi
  refine step6_in C a z e O i hi hn hO (List.all_eq_true.1 hc _ hm) (dec (List.all_eq_true.1 h6 _ hm)) _ ?_
  refine runs6 C a z e hn hc h6 Q k (i + 1) (O ++ [obOf i (C.getD i cw0)]) (by omega) (by simp; omega) ?_
  rw [List.append_assoc]
  exact hq
theorem f6_loops : BlocksOk Tryz.prog 0 L6 (codeOf Tryz.f6) := by
 refine blocksOk_of (d := fun id => Nat.beq id 0) (fun id => by unfold L6; cases Nat.beq id 0 <;> rfl) _ ?_
 have hb : blocksOf (fun id => Nat.beq id 0) (codeOf Tryz.f6) = [(0, .loop (loopOf 0 (codeOf Tryz.f6)))] := by kernel_rfl
 rw [hb]
 intro p hp g hg
 simp only [List.mem_singleton] at hp
 subst hp
 have hh : L6 0 = some ((lp6).g 0) := rfl
 rw [hh] at hg
 obtain rfl : g = (lp6).g 0 := (Option.some.inj hg).symm
 refine LoopSt.ok2 (N := 1010) prog_mixed Γ6_ok (L := noL) (blocksOk_none 0 _) lp6_good (fun x => step6_eq x) ?_
 rintro ⟨⟨⟨⟩, m, i, ⟨⟩⟩, ⟨C, a, z, e⟩, O⟩ hx
 have hx : pre6 (((), m, i, ()), ((C, a, z, e), O)) = true := hx
 simp only [pre6, Bool.and_eq_true, decide_eq_true_eq] at hx
 obtain ⟨h1, h2, h3, h4, h5, h6⟩ := hx
 obtain rfl : O = [] := List.length_eq_zero_iff.1 h3
 subst h1 h2
 exact ⟨_, runs6 C a z e h6 h4 h5 (· = (((), C.length, ()), ((C, a, z, e), ptsOf 0 C))) C.length 0 [] (by omega) rfl rfl⟩
theorem M6_sat (C : List Cw) (a z : Nat) (e : Nat → List IV) (hc : C.all Cw.ok = true) (h6 : fewC C = true) (hn : C.length ≤ 4) : (M6 C a z e).sat fun r => r = obsA (ptsOf 0 C) := by
 have e0 : obsOf 0 (fun _ => ([] : List IV)) = [] := rfl
 have hp : pre6 (((), 0, 0, ()), ((C, a, z, e), [])) = true := by
  simp only [pre6, hc, h6, decide_true, Bool.true_and, List.length_nil, decide_eq_true hn]
 simp only [M6, cwsOf_el, cwsI_cws, e0, hp, ptsOf_len, Nat.le_refl, decide_true]
 repeat with_reducible refine need_true ?_
 refine sat_ret ?_
 unfold obsA
 rw [ptsOf_len]
def K6 : List AV → Option (AV × List Bool) := (F1 argFl).K (fun x => obsA (ptsOf 0 x.1.1)) fun x => [x.1.1.all Cw.ok, fewC x.1.1, decide (x.1.1.length ≤ 4)]
theorem f6_ok : PureOk Tryz.prog 6 K6 :=
 (F1 argFl).pureEq (N := 1010) (L := L6) prog_mixed Γ6_ok (fn := Tryz.f6) (c := codeOf Tryz.f6) (by kernel_rfl) (by kernel_rfl) (by kernel_rfl) f6_loops (fun _ => rfl) (M := fun x => M6 x.1.1 x.1.2.1 x.1.2.2.1 x.1.2.2.2) (fun x => M6_eq x.1.1 x.1.2.1 x.1.2.2.1 x.1.2.2.2)
  fun x h => M6_sat x.1.1 x.1.2.1 x.1.2.2.1 x.1.2.2.2 (h (x.1.1.all Cw.ok) (by simp)) (h (fewC x.1.1) (by simp)) (dec (h (decide (x.1.1.length ≤ 4)) (by simp)))
end Go.Vse
