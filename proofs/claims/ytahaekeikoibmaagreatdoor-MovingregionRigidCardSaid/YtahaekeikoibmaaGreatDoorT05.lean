/- Helpers for the proof: no statement of its own. -/
import Derived.Test.YtahaekeikoibmaaGreatDoorT04
import Derived.Test.YtahaekeikoibmaaGreatDoorRows
import Derived.Test.YtahaekeikoibmaaGreatDoorTie
import Derived.Test.YtahaekeikoibmaaGreatDoorCards
import Derived.ProofKit
import Derived.LaidMore
import Derived.OpenShut
import Derived.Stop.Joined
import Derived.Below
import Derived.Lay
import Derived.MakeChecks
import Derived.ChangeSame
import Derived.SevenTiedAt
import Derived.Deep.Slices
import Derived.Deep.Fields
import Derived.Lib.SmallJoins
import Derived.Carry
set_option linter.unusedVariables false
set_option linter.unusedSimpArgs false
set_option linter.unnecessarySimpa false
set_option linter.deprecated false
set_option maxRecDepth 1000000
set_option maxHeartbeats 4000000
namespace Go.Vse
open Go.Proofs
theorem insK_len (k : Nat) : (insK k).length = k := by simp [insK]
theorem slN_noPtr (sz : Nat) (R : List (List IV)) : Vse.noPtr (slN sz R) = true := by cases R <;> rfl
theorem Pn_ok : PureOk Tryz.prog 9 KPn :=
 Form.rt _ ΓNl_ok (N := 70) (fn := Tryz.f9) (fun x h => by
   obtain ⟨k, ⟨⟩⟩ := x
   have h1 := of_decide_eq_true (h (decide (k ≤ 4)) (by simp))
   refine satS (T0 := execFn Tryz.prog (ΓNl Tryz.prog) noL 70 Tryz.f9 [nilA]) (L := k) (fun h => ?_) pn_0 (fun h => pn_eq k h h1) (fun h => by rw [insK_len]; exact h)
   obtain rfl := h
   exact ⟨rfl, rfl⟩) fun x => slN_noPtr _ _
def ΓDo (P : Program) : FuncId → Option Spec := gI P [(9, KPn)] 4
theorem ΓDo_ok : ∀ f s, ΓDo Tryz.prog f = some s → SpecOk Tryz.prog f s := gI_ok (okCons Pn_ok okNil)
abbrev FRs := Form.cons argRs Form.nil
def KDo : KF := FRs.K (fun x => slN 20 (insK x.1.length)) fun x => [decide (x.1.length ≤ 4)]
theorem do_0 : (execFn Tryz.prog (ΓDo Tryz.prog) noL 10 Tryz.f13 [nilA]).run = some nilA := by kernel_rfl
theorem do_eq (L : List Rg) (h0 : 0 < L.length) (h : L.length ≤ 4) : (execFn Tryz.prog (ΓDo Tryz.prog) noL 10 Tryz.f13 [slN 22 (rowsR L)]).runF (lkS 20) = some ((insK L.length).length, 20, insK L.length) := by
 rcases L with _ | ⟨a, _ | ⟨b, _ | ⟨c, _ | ⟨d, _ | ⟨e, l⟩⟩⟩⟩⟩ <;> simp only [List.length_nil, List.length_cons] at h0 h <;> try omega
 ·as_aux_lemma => kernel_rfl
 ·as_aux_lemma => kernel_rfl
 ·as_aux_lemma => kernel_rfl
 ·as_aux_lemma => kernel_rfl
theorem Do_ok : PureOk Tryz.prog 13 KDo :=
 Form.rt _ ΓDo_ok (N := 10) (fn := Tryz.f13) (fun x h => by
   obtain ⟨L, ⟨⟩⟩ := x
   have h1 := of_decide_eq_true (h (decide (L.length ≤ 4)) (by simp))
   refine satS (T0 := execFn Tryz.prog (ΓDo Tryz.prog) noL 10 Tryz.f13 [nilA]) (L := L.length) (fun h => ?_) do_0 (fun h => do_eq L h h1) (fun h => by rw [insK_len]; exact h)
   obtain rfl := List.length_eq_zero_iff.1 h
   exact ⟨rfl, rfl⟩) fun x => slN_noPtr _ _
def rt4 (m d : List UInt8) : List IV := [.v (.bool false), .v (.string (bsK m)), .v (.bool false), .v (.string (bsK d))]
def rtN (n : Nat) : List IV := bif Nat.beq n 0 then rt4 [] [] else rt4 [UInt8.ofNat n] []
def rtH (n : Nat) : List IV := rt4 [UInt8.ofNat n] [2]
def momJ (j : Nat) : List (List IV) := bif Nat.beq (j % 2) 1 then [rtN (2 * j), rtH (4 * j + 1)] else [rtN (2 * j), rtN (2 * j + 1), rtH (4 * j + 1)]
def momK (k : Nat) : List (List IV) := (List.range k).flatMap momJ
def KMo : KF := FIs.K (fun x => slN 4 (momK x.1)) fun x => [decide (x.1 ≤ 4)]
def ΓMo (P : Program) : FuncId → Option Spec := inlΓ P (fun f => bif Nat.beq f 43 then some (pureSpec (tabK rows38)) else Γv f) msU 70 20
theorem ΓMo_ok : ∀ f s, ΓMo Tryz.prog f = some s → SpecOk Tryz.prog f s := inlΓ_ok prog_mixed (fun f s h => by
 cases hb : Nat.beq f 43 with
 | true => rw [hb] at h; obtain rfl := Nat.eq_of_beq_eq_true hb; cases h; exact tab38_ok.spec
 | false => rw [hb, cond_false] at h; exact Γv_ok f s h) 20
theorem mo_0 : (execFn Tryz.prog (ΓMo Tryz.prog) noL 70 Tryz.f14 [nilA]).run = some nilA := by kernel_rfl
theorem mo_eq (k : Nat) (h0 : 0 < k) (h : k ≤ 4) : (execFn Tryz.prog (ΓMo Tryz.prog) noL 70 Tryz.f14 [slN 20 (insK k)]).runF (lkS 4) = some ((momK k).length, 4, momK k) := by
 obtain rfl | rfl | rfl | rfl : k = 1 ∨ k = 2 ∨ k = 3 ∨ k = 4 := by omega
 ·as_aux_lemma => kernel_rfl
 ·as_aux_lemma => kernel_rfl
 ·as_aux_lemma => kernel_rfl
 ·as_aux_lemma => kernel_rfl
theorem momK_pos {k : Nat} (h : 0 < k) : 0 < (momK k).length := by
 obtain ⟨m, rfl⟩ : ∃ m, k = m + 1 := ⟨k - 1, by omega⟩
 unfold momK
 rw [List.range_succ_eq_map, List.flatMap_cons, List.length_append, show (momJ 0).length = 3 from rfl]
 omega
theorem Mo_ok : PureOk Tryz.prog 14 KMo :=
 Form.rt _ ΓMo_ok (N := 70) (fn := Tryz.f14) (fun x h => by
  obtain ⟨k, ⟨⟩⟩ := x
  have h1 := of_decide_eq_true (h (decide (k ≤ 4)) (by simp))
  refine satS (T0 := execFn Tryz.prog (ΓMo Tryz.prog) noL 70 Tryz.f14 [nilA]) (L := k) (fun h => ?_) mo_0 (fun h => mo_eq k h h1) (fun h => momK_pos h)
  obtain rfl := h
  exact ⟨rfl, rfl⟩) fun x => slN_noPtr _ _
end Go.Vse
set_option maxRecDepth 1000000
set_option maxHeartbeats 4000000
namespace Go.Vse
open Go.Proofs
abbrev FSt := Form.cons argPg (Form.cons argIs Form.nil)
def KSt : KF := FSt.K (fun x => slN 22 (rowsR (List.replicate x.2.1 (rgO x.1 l40)))) fun x => okP x.1 ++ [decide (x.2.1 ≤ 4)]
def fn37 : AV := .c (.v (.func (.func 37) #[] #[]))
noncomputable def stM (P : List P2) : Nat → Nat → (List (List IV) → RW) → RW
 | 0, _, k => k []
 | m + 1, j, k => call KLi [.agg [eP2.sl P, nilA], fn37] fun v => stM P m (j + 1) fun R => k ((IN j ++ ivOf v) :: R)
theorem st_0 (P : List P2) : (execFn Tryz.prog (ΓRg Tryz.prog) noL 10 Tryz.f10 [.agg [eP2.sl P, nilA], nilA]).run = call KNs [if106, nilA] fun _ => some nilA := by kernel_rfl
theorem st_eq (P : List P2) (k : Nat) (h0 : 0 < k) (h : k ≤ 4) : (execFn Tryz.prog (ΓRg Tryz.prog) noL 10 Tryz.f10 [.agg [eP2.sl P, nilA], slN 20 (insK k)]).runF (lkS 22) = stM P k 0 nsM := by
 obtain rfl | rfl | rfl | rfl : k = 1 ∨ k = 2 ∨ k = 3 ∨ k = 4 := by omega
 ·as_aux_lemma => kernel_rfl
 ·as_aux_lemma => kernel_rfl
 ·as_aux_lemma => kernel_rfl
 ·as_aux_lemma => kernel_rfl
theorem stM_run {P : List P2} (h3 : 3 ≤ P.length) (h5 : P.length ≤ 5) : ∀ (m j : Nat) (k : List (List IV) → RW), stM P m j k = k (((List.replicate m l40).zipIdx j).map fun p => rowR p.2 (rgO P p.1))
 | 0, j, k => rfl
 | m + 1, j, k => by
  have e : Con KLi [.agg [eP2.sl P, nilA], fn37] (.agg [eL4.sl (sta P), nilA]) := Form.con (F := FLi) (val := fun x => .agg [eL4.sl (sta x.1), nilA]) (pre := fun x => [decide (3 ≤ x.1.length), decide (x.1.length ≤ 5)]) (P, (), ()) (by simp [h3, h5])
  unfold stM
  rw [e.run, stM_run h3 h5 m (j + 1), sta_rig, ivOf_sh, rig_len]
  rfl
theorem St_ok : PureOk Tryz.prog 10 KSt :=
 Form.rt _ ΓRg_ok (N := 10) (fn := Tryz.f10) (fun x h => by
   obtain ⟨P, k, ⟨⟩⟩ := x
   have h3 := of_decide_eq_true (h (decide (3 ≤ P.length)) (by simp [okP]))
   have h5 := of_decide_eq_true (h (decide (P.length ≤ 5)) (by simp [okP]))
   have hP := h (p1k P) (by simp [okP])
   have hl := of_decide_eq_true (h (decide (k ≤ 4)) (by simp))
   have key : 0 < k → (execFn Tryz.prog (ΓRg Tryz.prog) noL 10 Tryz.f10 [.agg [eP2.sl P, nilA], slN 20 (insK k)]).runF (lkS 22) = some ((rowsR (List.replicate k (rgO P l40))).length, 22, rowsR (List.replicate k (rgO P l40))) := fun h0 => by
     have e : List.replicate k (rgO P l40) = (List.replicate k l40).map (rgO P) := by rw [List.map_replicate]
     refine (st_eq P k h0 hl).trans ?_
     rw [stM_run h3 h5, rows_O, nsM_run (by simpa using hl) hP (List.all_eq_true.2 fun w hw => by rw [List.eq_of_mem_replicate hw]; rfl) h3 h5, e]
   refine satS (T0 := execFn Tryz.prog (ΓRg Tryz.prog) noL 10 Tryz.f10 [.agg [eP2.sl P, nilA], nilA]) (L := k) (fun h => ?_) ((st_0 P).trans ((nsC (L := []) (by simp) (by simp)).run _)) key (fun h => by simpa [rowsR] using h)
   obtain rfl := h
   exact ⟨rfl, rfl⟩) fun x => slN_noPtr _ _
end Go.Vse
set_option maxRecDepth 1000000
set_option maxHeartbeats 4000000
namespace Go.Vse
open Go.Proofs
noncomputable def ΓCh (P : Program) : FuncId → Option Spec := inlΓ P (fun f => bif Nat.beq f 326 then some (pureSpec KCkS) else bif Nat.beq f 86 then some (pureSpec KNs) else bif Nat.beq f 327 then some (pureSpec KEqS) else bif Nat.beq f 23 then some (pureSpec KFb) else Γv f) msU 70 20
theorem ΓCh_ok : ∀ f s, ΓCh Tryz.prog f = some s → SpecOk Tryz.prog f s := inlΓ_ok prog_mixed (fun f s h => by
 cases hb : Nat.beq f 326 with
 | true => rw [hb] at h; obtain rfl := Nat.eq_of_beq_eq_true hb; cases h; exact CkS_ok.spec
 | false =>
  rw [hb, cond_false] at h
  cases hb : Nat.beq f 86 with
  | true => rw [hb] at h; obtain rfl := Nat.eq_of_beq_eq_true hb; cases h; exact Ns_ok.spec
  | false =>
   rw [hb, cond_false] at h
   cases hb : Nat.beq f 327 with
   | true => rw [hb] at h; obtain rfl := Nat.eq_of_beq_eq_true hb; cases h; exact EqS_ok.spec
   | false =>
    rw [hb, cond_false] at h
    cases hb : Nat.beq f 23 with
    | true => rw [hb] at h; obtain rfl := Nat.eq_of_beq_eq_true hb; cases h; exact Fb_ok.spec
    | false => rw [hb, cond_false] at h; exact Γv_ok f s h) 20
def chA : List Rg → Option AV → Option AV
 | [], k => k
 | r :: l, k => call KCkS [.agg [], shA r] fun _ => chA l k
noncomputable def chB : List Rg → Option AV → Option AV
 | [], k => k
 | r :: l, k => call KEqS [.agg [], shA r, shA r] fun _ => chB l k
def chD : Nat → List Rg → Option AV → Option AV
 | _, [], k => k
 | j, r :: l, k => call KFb [shA r, aggI (IN j)] fun _ => chD (j + 1) l k
noncomputable def chM (L : List Rg) : Option AV := chA L (call KNs [if106, slN 22 (rowsR L)] fun _ => chB L (chD 0 L (some E0)))
theorem ch_eq (L : List Rg) (h : L.length ≤ 4) : (execFn Tryz.prog (ΓCh Tryz.prog) noL 70 Tryz.f11 [slN 22 (rowsR L)]).run = chM L := by
 rcases L with _ | ⟨a, _ | ⟨b, _ | ⟨c, _ | ⟨d, _ | ⟨e, l⟩⟩⟩⟩⟩ <;> simp only [List.length_nil, List.length_cons] at h <;> try omega
 ·as_aux_lemma => kernel_rfl
 ·as_aux_lemma => kernel_rfl
 ·as_aux_lemma => kernel_rfl
 ·as_aux_lemma => kernel_rfl
 ·as_aux_lemma => kernel_rfl
theorem ckC {r : Rg} (h : ∀ c ∈ okR1 r, c = true) : Con KCkS [.agg [], shA r] E0 := ⟨[eL4.oks r.1 r.2] ++ okU t0 (rgU r), rfl, fun c hc => h c (by simpa [okR1] using hc)⟩
theorem eqShC {r : Rg} (h : ∀ c ∈ okR1 r, c = true) : Con KEqS [.agg [], shA r, shA r] (boolA true) := by
 obtain ⟨_, h3, h5⟩ := okU_all (t := t0) (U := rgU r) fun c hc => h c (by simp [okR1, hc])
 refine ⟨[eL4.oks r.1 r.2, eL4.oks r.1 r.2] ++ [decide (3 ≤ (rgU r).length), decide ((rgU r).length ≤ 5), sameB (rgU r) (rgU r)], rfl, fun c hc => ?_⟩
 simp only [List.cons_append, List.nil_append, List.mem_cons, List.not_mem_nil, or_false] at hc
 rcases hc with rfl | rfl | rfl | rfl | rfl
 ·exact h _ (by simp [okR1])
 ·exact h _ (by simp [okR1])
 ·exact decide_eq_true h3
 ·exact decide_eq_true h5
 ·exact sameB_iff.2 rfl
theorem in_get : ∀ j, j < 4 → argIN.get (aggI (IN j)) = some (j, []) := by
 intro j h
 obtain rfl | rfl | rfl | rfl : j = 0 ∨ j = 1 ∨ j = 2 ∨ j = 3 := by omega
 all_goals kernel_rfl
theorem fbC {r : Rg} (h : ∀ c ∈ okR1 r, c = true) (hg : goodB (rgU r) = true) {j : Nat} (hj : j < 4) : Con KFb [shA r, aggI (IN j)] outFb := by
 refine ⟨[eL4.oks r.1 r.2] ++ (okU t0 (rgU r) ++ [goodB (rgU r), decide (j < 4)]), ?_, fun c hc => ?_⟩
 ·have e : FFb.parse [shA r, aggI (IN j)] = some ((rgU r, j, ()), [eL4.oks r.1 r.2]) := by
   have e1 : argSh.get (shA r) = some (rgU r, [eL4.oks r.1 r.2]) := rfl
   unfold FFb Form.cons
   dsimp only
   rw [e1, in_get j hj]; rfl
  unfold KFb Form.K
  rw [e]
 ·simp only [List.mem_append, List.mem_cons, List.not_mem_nil, or_false] at hc
  rcases hc with rfl | hc | rfl | rfl
  ·exact h _ (by simp [okR1])
  ·exact h c (by simp [okR1, hc])
  ·exact hg
  ·exact decide_eq_true hj
theorem chA_run : ∀ (L : List Rg) (k : Option AV), (∀ r ∈ L, ∀ c ∈ okR1 r, c = true) → chA L k = k
 | [], k, _ => rfl
 | r :: l, k, h => by
  unfold chA
  rw [(ckC (h r (by simp))).run]
  exact chA_run l k fun q hq => h q (by simp [hq])
theorem chB_run : ∀ (L : List Rg) (k : Option AV), (∀ r ∈ L, ∀ c ∈ okR1 r, c = true) → chB L k = k
 | [], k, _ => rfl
 | r :: l, k, h => by
  unfold chB
  rw [(eqShC (h r (by simp))).run]
  exact chB_run l k fun q hq => h q (by simp [hq])
theorem chD_run : ∀ (L : List Rg) (j : Nat) (k : Option AV), j + L.length ≤ 4 → (∀ r ∈ L, ∀ c ∈ okR1 r, c = true) → (∀ r ∈ L, goodB (rgU r) = true) → chD j L k = k
 | [], j, k, _, _, _ => rfl
 | r :: l, j, k, hj, h, hg => by
  simp only [List.length_cons] at hj
  unfold chD
  rw [(fbC (h r (by simp)) (hg r (by simp)) (by omega)).run]
  exact chD_run l (j + 1) k (by omega) (fun q hq => h q (by simp [hq])) fun q hq => hg q (by simp [hq])
noncomputable def KCh : KF := FRs.K (fun _ => E0) fun x => decide (x.1.length ≤ 4) :: x.1.flatMap fun r => goodB (rgU r) :: okR1 r
theorem Ch_ok : PureOk Tryz.prog 11 KCh :=
 Form.rt _ ΓCh_ok (N := 70) (fn := Tryz.f11) fun x h => by
   obtain ⟨L, ⟨⟩⟩ := x
   have hl := of_decide_eq_true (h (decide (L.length ≤ 4)) (by simp))
   have h1 : ∀ r ∈ L, ∀ c ∈ goodB (rgU r) :: okR1 r, c = true := fun r hr c hc => h c (by simp only [List.mem_cons, List.mem_flatMap]; exact .inr ⟨r, hr, by simpa using hc⟩)
   have h2 : ∀ r ∈ L, ∀ c ∈ okR1 r, c = true := fun r hr c hc => h1 r hr c (by simp [hc])
   have key := ch_eq L hl
   unfold chM at key
   rw [chA_run L _ h2, (nsC hl h2).run, chB_run L _ h2, chD_run L 0 _ (by omega) h2 fun r hr => h1 r hr _ (by simp)] at key
   show ∃ a, (execFn Tryz.prog (ΓCh Tryz.prog) noL 70 Tryz.f11 [slN 22 (rowsR L)]).sat (· = a) ∧ _
   generalize execFn Tryz.prog (ΓCh Tryz.prog) noL 70 Tryz.f11 [slN 22 (rowsR L)] = T at key ⊢
   exact ⟨_, Tr.run_sat key, rfl, Sees.refl _⟩
end Go.Vse
set_option maxRecDepth 1000000
set_option maxHeartbeats 2000000
namespace Go.Vse
open Go.Proofs
abbrev TR := List AV × List (List IV)
def arrR (R : List (List IV)) : Option Ent := some (.arr R.length 36 (fun k => R.getD k []) 90)
def takeN (q : List AV × List (Option Ent)) : Option (TR × List Bool) := match q.2 with | [some (.arr m 36 el t)] => bif Nat.beq t 90 then some ((q.1, (List.range m).map el), []) else none | _ => none
theorem takeN_ok {q : List AV × List (Option Ent)} {x : TR} {cs : List Bool} (h : takeN q = some (x, cs)) : SeesL q.1 x.1 ∧ EntsEqv q.2 [arrR x.2] := by
 unfold takeN at h
 split at h
 ·rename_i m el t he
  cases hb : Nat.beq t 90 with
  | false => rw [hb] at h; cases h
  | true =>
   rw [hb] at h
   cases h
   obtain rfl := Nat.eq_of_beq_eq_true hb
   refine ⟨seesL_refl _, ?_⟩
   rw [he]
   unfold arrR
   obtain ⟨e1, e2⟩ := map_getD (R := (List.range m).map el) (n := m) (el := el) rfl
   rw [← e1]
   exact .cons (.arr _ _ _ _ _ e2) .nil
 ·cases h
def lpT (nIn nOut : Norm) (res : TR → TR) (pre : TR → Bool) : LoopSt TR TR where
 nIn := nIn
 nOut := nOut
 head := fun x => (x.1, [arrR x.2])
 take := takeN
 out := fun r => (.normal, (r.1, [arrR r.2]))
 takeR := fun q => match q with | (.normal, q) => takeN q | _ => none
 res := res
 pre := pre
theorem lpT_good (nIn nOut : Norm) (res : TR → TR) (pre : TR → Bool) : (lpT nIn nOut res pre).Good2 where
 take := fun q x cs h hc => takeN_ok h
 takeR := by
  intro e q r cs h hc
  cases e with
  | normal => exact ⟨rfl, takeN_ok h⟩
  | exit j => cases h
  | ret => cases h
 split := fun r Q h => h
def kindsN (W : List Cl) : List (Cl × Nat × Nat) := W.zipIdx.flatMap fun p => [(p.1, p.2, 0), (p.1, p.2, 1)] ++ bif Nat.beq (p.2 % 2) 1 then [] else [(p.1, p.2, 2)]
def addN (R : List (List IV)) (a : Cl × Nat × Nat) : List (List IV) :=
 match a.2.2 with
 | 0 => R
 | 1 => R ++ [inK (rN (2 * a.2.1)) (rN (2 * a.2.1 + 1)) false true ++ a.1]
 | _ => R.dropLast ++ [inK (rN (2 * a.2.1)) (rN (2 * a.2.1 + 1)) false false ++ a.1]
def outN (W : List Cl) (i : Nat) : List (List IV) := ((kindsN W).take i).foldl addN []
def stN (W : List Cl) (i : Nat) : TR :=
 ([if94, .msl 0 (outN W i).length 36, slN 36 (atmL W), slN 36 (atmL W), intA .i64 (atmL W).length, intA .i64 i], outN W i)
def nN : Norm := { nt := 219, live := [0, 7, 8, 41, 42, 43], lifts := [(7, 36, 90)] }
def nN' : Norm := { nt := 219, live := [7], lifts := [(7, 36, 90)] }
def lN (res : TR → TR) (pre : TR → Bool) : LoopSt TR TR := lpT nN nN' res pre
abbrev RN := Option (TR ⊕ TR)
def rdN (W : List Cl) (i : Nat) : RN :=
 let nx : RN := some (.inl (stN W (i + 1)))
 match (kindsN W)[i]? with
 | some (c, j, 0) => call KSmX [.agg [], .agg (c.map .c), .agg (c.map .c), aggI (rN (2 * j))] fun v => bif asB v then nx else none
 | some (_, _, 1) => nx
 | some (c, j, _) => call KSmX [.agg [], .agg (c.map .c), .agg (c.map .c), aggI (rN (2 * j + 1))] fun v => bif asB v then nx else none
 | none => some (.inr ([.msl 0 (outN W i).length 36], outN W i))
theorem rdN_1 (res : TR → TR) (pre : TR → Bool) (f : Nat → Bool) (g : Nat → ByteArray) (i : Nat) (hi : i = 0 ∨ i = 1 ∨ i = 2 ∨ i = 3) : ((exec Tryz.prog (ΓNm Tryz.prog) noL 70 (loopOf 2 (codeOf Tryz.f31)) (mkSt (lN res pre).nIn ((lN res pre).head (stN [cfg f g] i)))).bind ((lN res pre).fin 0 2)).run = rdN [cfg f g] i := by
 rcases hi with rfl | rfl | rfl | rfl
 ·as_aux_lemma => kernel_rfl
 ·as_aux_lemma => kernel_rfl
 ·as_aux_lemma => kernel_rfl
 ·as_aux_lemma => kernel_rfl
end Go.Vse
set_option maxRecDepth 1000000
set_option maxHeartbeats 4000000
namespace Go.Vse
open Go.Proofs
theorem rdN_2 (res : TR → TR) (pre : TR → Bool) (f0 : Nat → Bool) (g0 : Nat → ByteArray) (f1 : Nat → Bool) (g1 : Nat → ByteArray) (i : Nat) (hi : i = 0 ∨ i = 1 ∨ i = 2 ∨ i = 3 ∨ i = 4 ∨ i = 5) : ((exec Tryz.prog (ΓNm Tryz.prog) noL 70 (loopOf 2 (codeOf Tryz.f31)) (mkSt (lN res pre).nIn ((lN res pre).head (stN [cfg f0 g0, cfg f1 g1] i)))).bind ((lN res pre).fin 0 2)).run = rdN [cfg f0 g0, cfg f1 g1] i := by
 rcases hi with rfl | rfl | rfl | rfl | rfl | rfl
 ·as_aux_lemma => kernel_rfl
 ·as_aux_lemma => kernel_rfl
 ·as_aux_lemma => kernel_rfl
 ·as_aux_lemma => kernel_rfl
 ·as_aux_lemma => kernel_rfl
 ·as_aux_lemma => kernel_rfl
theorem rdN_3 (res : TR → TR) (pre : TR → Bool) (f0 : Nat → Bool) (g0 : Nat → ByteArray) (f1 : Nat → Bool) (g1 : Nat → ByteArray) (f2 : Nat → Bool) (g2 : Nat → ByteArray) (i : Nat) (hi : i = 0 ∨ i = 1 ∨ i = 2 ∨ i = 3 ∨ i = 4 ∨ i = 5 ∨ i = 6 ∨ i = 7 ∨ i = 8) : ((exec Tryz.prog (ΓNm Tryz.prog) noL 70 (loopOf 2 (codeOf Tryz.f31)) (mkSt (lN res pre).nIn ((lN res pre).head (stN [cfg f0 g0, cfg f1 g1, cfg f2 g2] i)))).bind ((lN res pre).fin 0 2)).run = rdN [cfg f0 g0, cfg f1 g1, cfg f2 g2] i := by
 rcases hi with rfl | rfl | rfl | rfl | rfl | rfl | rfl | rfl | rfl
 ·as_aux_lemma => kernel_rfl
 ·as_aux_lemma => kernel_rfl
 ·as_aux_lemma => kernel_rfl
 ·as_aux_lemma => kernel_rfl
 ·as_aux_lemma => kernel_rfl
 ·as_aux_lemma => kernel_rfl
 ·as_aux_lemma => kernel_rfl
 ·as_aux_lemma => kernel_rfl
 ·as_aux_lemma => kernel_rfl
end Go.Vse
set_option maxRecDepth 1000000
set_option maxHeartbeats 4000000
namespace Go.Vse
open Go.Proofs
theorem rdN_4 (res : TR → TR) (pre : TR → Bool) (f0 : Nat → Bool) (g0 : Nat → ByteArray) (f1 : Nat → Bool) (g1 : Nat → ByteArray) (f2 : Nat → Bool) (g2 : Nat → ByteArray) (f3 : Nat → Bool) (g3 : Nat → ByteArray) (i : Nat) (hi : i = 0 ∨ i = 1 ∨ i = 2 ∨ i = 3 ∨ i = 4 ∨ i = 5) : ((exec Tryz.prog (ΓNm Tryz.prog) noL 70 (loopOf 2 (codeOf Tryz.f31)) (mkSt (lN res pre).nIn ((lN res pre).head (stN [cfg f0 g0, cfg f1 g1, cfg f2 g2, cfg f3 g3] i)))).bind ((lN res pre).fin 0 2)).run = rdN [cfg f0 g0, cfg f1 g1, cfg f2 g2, cfg f3 g3] i := by
 rcases hi with rfl | rfl | rfl | rfl | rfl | rfl
 ·as_aux_lemma => kernel_rfl
 ·as_aux_lemma => kernel_rfl
 ·as_aux_lemma => kernel_rfl
 ·as_aux_lemma => kernel_rfl
 ·as_aux_lemma => kernel_rfl
 ·as_aux_lemma => kernel_rfl
theorem rdN_5 (res : TR → TR) (pre : TR → Bool) (f0 : Nat → Bool) (g0 : Nat → ByteArray) (f1 : Nat → Bool) (g1 : Nat → ByteArray) (f2 : Nat → Bool) (g2 : Nat → ByteArray) (f3 : Nat → Bool) (g3 : Nat → ByteArray) (i : Nat) (hi : i = 6 ∨ i = 7 ∨ i = 8 ∨ i = 9 ∨ i = 10) : ((exec Tryz.prog (ΓNm Tryz.prog) noL 70 (loopOf 2 (codeOf Tryz.f31)) (mkSt (lN res pre).nIn ((lN res pre).head (stN [cfg f0 g0, cfg f1 g1, cfg f2 g2, cfg f3 g3] i)))).bind ((lN res pre).fin 0 2)).run = rdN [cfg f0 g0, cfg f1 g1, cfg f2 g2, cfg f3 g3] i := by
 rcases hi with rfl | rfl | rfl | rfl | rfl
 ·as_aux_lemma => kernel_rfl
 ·as_aux_lemma => kernel_rfl
 ·as_aux_lemma => kernel_rfl
 ·as_aux_lemma => kernel_rfl
 ·as_aux_lemma => kernel_rfl
end Go.Vse
set_option maxRecDepth 1000000
set_option maxHeartbeats 2000000
namespace Go.Vse
open Go.Proofs
theorem ΓNm_ok : ∀ f s, ΓNm Tryz.prog f = some s → SpecOk Tryz.prog f s := inlΓ_ok prog_mixed (fun f s h => by
 cases hb : Nat.beq f 321 with
 | true => rw [hb] at h; obtain rfl := Nat.eq_of_beq_eq_true hb; cases h; exact SmX_ok.spec
 | false =>
  rw [hb, cond_false] at h
  cases hb : Nat.beq f 77 with
  | true => rw [hb] at h; obtain rfl := Nat.eq_of_beq_eq_true hb; cases h; exact Sl_ok.spec
  | false =>
   rw [hb, cond_false] at h
   cases hb : Nat.beq f 79 with
   | true => rw [hb] at h; obtain rfl := Nat.eq_of_beq_eq_true hb; cases h; exact Al_ok.spec
   | false => rw [hb, cond_false] at h; exact Γv_ok f s h) 20
theorem rdN_eq (res : TR → TR) (pre : TR → Bool) : ∀ (W : List Cl), 0 < W.length → W.length ≤ 4 → c16 W = true → ∀ i, i ≤ (kindsN W).length →
  ((exec Tryz.prog (ΓNm Tryz.prog) noL 70 (loopOf 2 (codeOf Tryz.f31)) (mkSt (lN res pre).nIn ((lN res pre).head (stN W i)))).bind ((lN res pre).fin 0 2)).run = rdN W i := by
 refine byCells ?_ ?_ ?_ ?_
 ·intro f g i hi
  have hi : i ≤ 3 := Nat.le_trans hi (Nat.le_of_eq (by kernel_rfl))
  exact rdN_1 res pre f g i (by omega)
 ·intro f g f' g' i hi
  have hi : i ≤ 5 := Nat.le_trans hi (Nat.le_of_eq (by kernel_rfl))
  exact rdN_2 res pre f g f' g' i (by omega)
 ·intro f g f' g' f2 g2 i hi
  have hi : i ≤ 8 := Nat.le_trans hi (Nat.le_of_eq (by kernel_rfl))
  exact rdN_3 res pre f g f' g' f2 g2 i (by omega)
 ·intro f g f' g' f2 g2 f3 g3 i hi
  have hi : i ≤ 10 := Nat.le_trans hi (Nat.le_of_eq (by kernel_rfl))
  by_cases h : i < 6
  ·exact rdN_4 res pre f g f' g' f2 g2 f3 g3 i (by omega)
  ·exact rdN_5 res pre f g f' g' f2 g2 f3 g3 i (by omega)
theorem outN_all : ∀ (W : List Cl), 0 < W.length → W.length ≤ 4 → c16 W = true → outN W (kindsN W).length = rowsL W := by
 refine byCells ?_ ?_ ?_ ?_ <;> intros <;> kernel_rfl
theorem kinds_mem {W : List Cl} {c : Cl} {j p : Nat} (h : (c, j, p) ∈ kindsN W) : c ∈ W ∧ j < W.length := by
 unfold kindsN at h
 obtain ⟨⟨d, m⟩, hm, h⟩ := List.mem_flatMap.1 h
 have e : c = d ∧ j = m := by
  cases hb : Nat.beq (m % 2) 1 <;> simp only [hb, cond_true, cond_false, List.append_nil, List.cons_append, List.nil_append, List.mem_cons, List.not_mem_nil, or_false, Prod.mk.injEq] at h <;> grind
 obtain ⟨rfl, rfl⟩ := e
 obtain ⟨h1, h2, h3⟩ := List.mem_zipIdx hm
 refine ⟨?_, by omega⟩
 rw [h3]
 exact List.getElem_mem _
theorem smXC {W : List Cl} (h : ∀ c ∈ okW W, c = true) {c : Cl} (hc : c ∈ W) {n : Nat} (hn : n < 8) : Con KSmX [.agg [], .agg (c.map .c), .agg (c.map .c), aggI (rN n)] (boolA true) := by
 have h1 := List.all_eq_true.1 (h (W.all fun c => lineOk (c.map .c) && lw (vL c)) (by simp [okW])) c hc
 have h2 := rn_ok n hn
 simp only [Bool.and_eq_true] at h1 h2
 refine ⟨[smX (c.map .c) (c.map .c) ((rN n).map .c)], rfl, fun p hp => ?_⟩
 simp only [List.mem_singleton] at hp
 rw [hp]
 simp only [smX, Bool.and_eq_true]
 exact ⟨h1.1, h1.1, h2.1, lw_li h1.2, sl4_refl _, h2.2⟩
theorem rdN_run {W : List Cl} (h : ∀ c ∈ okW W, c = true) {i : Nat} (hi : i < (kindsN W).length) : rdN W i = some (.inl (stN W (i + 1))) := by
 have hl := of_decide_eq_true (h (decide (W.length ≤ 4)) (by simp [okW]))
 have hm : (kindsN W)[i]? = some (kindsN W)[i] := List.getElem?_eq_getElem hi
 have hk := List.getElem_mem hi
 unfold rdN
 rw [hm]
 generalize (kindsN W)[i] = a at hk
 obtain ⟨c, j, p⟩ := a
 obtain ⟨k1, k2⟩ := kinds_mem hk
 match p with
 | 0 => 
  show call KSmX [.agg [], .agg (c.map .c), .agg (c.map .c), aggI (rN (2 * j))] (fun v => bif asB v then (some (.inl (stN W (i + 1))) : RN) else none) = _
  rw [(smXC h k1 (n := 2 * j) (by omega)).run]; rfl
 | 1 => rfl
 | p + 2 => 
  show call KSmX [.agg [], .agg (c.map .c), .agg (c.map .c), aggI (rN (2 * j + 1))] (fun v => bif asB v then (some (.inl (stN W (i + 1))) : RN) else none) = _
  rw [(smXC h k1 (n := 2 * j + 1) (by omega)).run]; rfl
open Classical in
noncomputable def preN (W : List Cl) (q : TR) : Bool := decide (q = stN W 0 ∧ (∀ c ∈ okW W, c = true) ∧ 0 < W.length)
theorem preN_iff {W : List Cl} {q : TR} : preN W q = true ↔ q = stN W 0 ∧ (∀ c ∈ okW W, c = true) ∧ 0 < W.length := by unfold preN; simp only [decide_eq_true_eq]
def resN (W : List Cl) (_ : TR) : TR := ([.msl 0 (rowsL W).length 36], rowsL W)
noncomputable def lNW (W : List Cl) : LoopSt TR TR := lN (resN W) (preN W)
theorem runs_N {step : TR → Tr (TR ⊕ TR)} {W : List Cl} {r : TR} {n : Nat} (hs : ∀ i, i < n → (step (stN W i)).run = some (.inl (stN W (i + 1)))) (he : (step (stN W n)).run = some (.inr r)) : ∀ m i, i + m = n → RunsX step (· = r) (m + 1) (stN W i)
 | 0, i, hi => by
   obtain rfl : i = n := by omega
   exact runsX_inr he rfl
 | m + 1, i, hi => runsX_inl (hs i (by omega)) (runs_N hs he m (i + 1) (by omega))
theorem N_loops (W : List Cl) : BlocksOk Tryz.prog 0 (oneK 0 2 (lNW W)) (codeOf Tryz.f31) :=
 oneK_ok (N := 70) (lp := lNW W) ΓNm_ok (lpT_good _ _ _ _) (fun _ => rfl) fun x hx => by
  obtain ⟨rfl, h, h0⟩ := preN_iff.1 hx
  have hl := of_decide_eq_true (h (decide (W.length ≤ 4)) (by simp [okW]))
  have hc := h (c16 W) (by simp [okW])
  refine ⟨_, runs_N (W := W) (n := (kindsN W).length) (r := resN W (stN W 0)) (fun i hi => ?_) ?_ (kindsN W).length 0 (by omega)⟩
  ·exact (rdN_eq (resN W) (preN W) W h0 hl hc i (by omega)).trans (rdN_run h hi)
  ·refine (rdN_eq (resN W) (preN W) W h0 hl hc _ (Nat.le_refl _)).trans ?_
   unfold rdN
   rw [List.getElem?_eq_none (Nat.le_refl _), outN_all W h0 hl hc]; rfl
noncomputable def M31 (W : List Cl) : Option (Nat × Nat × List (List IV)) :=
 call KSl [slN 36 (rowsL W)] fun s => call KAl [s] fun _ => bif preN W (stN W 0) then some ((rowsL W).length, 36, rowsL W) else none
theorem nl_0 : (execFn Tryz.prog (ΓNm Tryz.prog) noL 70 Tryz.f31 [if94, nilA]).run = some (.tup [nilA, E0]) := by kernel_rfl
theorem M31_eq : ∀ (W : List Cl), 0 < W.length → W.length ≤ 4 → c16 W = true → (execFn Tryz.prog (ΓNm Tryz.prog) (oneK 0 2 (lNW W)) 70 Tryz.f31 [if94, slN 36 (rowsL W)]).runF (lkT 36) = M31 W := by
 refine byCells ?_ ?_ ?_ ?_ <;> intros
 ·as_aux_lemma => kernel_rfl
 ·as_aux_lemma => kernel_rfl
 ·as_aux_lemma => kernel_rfl
 ·as_aux_lemma => kernel_rfl
end Go.Vse
set_option maxRecDepth 1000000
set_option maxHeartbeats 2000000
namespace Go.Vse
open Go.Proofs
theorem ls_get : ∀ (W : List Cl), 0 < W.length → W.length ≤ 4 → c16 W = true → argLs.get (slN 36 (rowsL W)) = some (W, []) := by
 refine byCells ?_ ?_ ?_ ?_ <;> intros <;> kernel_rfl
theorem wlC {val : List Cl × Unit → AV} {W : List Cl} (h0 : 0 < W.length) (hl : W.length ≤ 4) (hc : c16 W = true) : Con (FWl.K val fun x => preW x.1) [slN 36 (rowsL W)] (val (W, ())) := by
 refine ⟨preW W, ?_, fun c h => ?_⟩
 ·have e : FWl.parse [slN 36 (rowsL W)] = some ((W, ()), []) := by
   unfold FWl Form.cons
   dsimp only
   rw [ls_get W h0 hl hc]; rfl
  unfold Form.K
  rw [e]; rfl
 ·simp only [preW, List.mem_cons, List.not_mem_nil, or_false] at h
  rcases h with rfl | rfl
  ·exact decide_eq_true hl
  ·exact hc
theorem M31_run {W : List Cl} (h : ∀ c ∈ okW W, c = true) (h0 : 0 < W.length) : M31 W = some ((rowsL W).length, 36, rowsL W) := by
 have hl := of_decide_eq_true (h (decide (W.length ≤ 4)) (by simp [okW]))
 have hc := h (c16 W) (by simp [okW])
 have e1 : Con KSl [slN 36 (rowsL W)] (slN 36 (rowsL W)) := wlC h0 hl hc
 have e2 : Con KAl [slN 36 (rowsL W)] (slN 36 (atmL W)) := wlC (val := fun x => slN 36 (atmL x.1)) h0 hl hc
 unfold M31
 rw [e1.run, e2.run, preN_iff.2 ⟨rfl, h, h0⟩]; rfl
abbrev FNl := Form.cons (argIface 94) (Form.cons argLs Form.nil)
def KNl : KF := FNl.K (fun x => .tup [slR 36 (rowsL x.2.1), E0]) fun x => okW x.2.1
theorem nl_arg (W : List Cl) : FNl.args ((), W, ()) = [if94, slN 36 (rowsL W)] := rfl
open Classical in
theorem Nl_ok : PureOk Tryz.prog 31 KNl :=
 Form.orc (fun x => x.2.1) fun b => by
   cases b with
   | nil =>
     refine Form.rt _ ΓNm_ok (N := 70) (fn := Tryz.f31) fun x h => ?_
     obtain ⟨⟨⟩, W, ⟨⟩⟩ := x
     obtain rfl : W = [] := of_decide_eq_true (h (decide (W = [])) (by simp))
     have key := nl_0
     show ∃ a, (execFn Tryz.prog (ΓNm Tryz.prog) noL 70 Tryz.f31 [if94, nilA]).sat (· = a) ∧ _
     generalize execFn Tryz.prog (ΓNm Tryz.prog) noL 70 Tryz.f31 [if94, nilA] = T at key ⊢
     exact ⟨_, Tr.run_sat key, rfl, Sees.tup (.cons (sees_nil _ _) (.cons (Sees.refl _) .nil))⟩
   | cons a l =>
     refine FNl.pureOk prog_mixed ΓNm_ok (L := oneK 0 2 (lNW (a :: l))) (N := 70) (fn := Tryz.f31) (c := codeOf Tryz.f31) (by kernel_rfl) (by kernel_rfl) (by kernel_rfl) (N_loops (a :: l)) (fun _ => rfl) fun x h => ?_
     obtain ⟨⟨⟩, W, ⟨⟩⟩ := x
     obtain rfl : W = a :: l := of_decide_eq_true (h (decide (W = a :: l)) (by simp))
     have hW : ∀ c ∈ okW (a :: l), c = true := fun c hc => h c (by simp [hc])
     have key := (M31_eq (a :: l) (by simp) (of_decide_eq_true (hW _ (by simp [okW]))) (hW (c16 (a :: l)) (by simp [okW]))).trans (M31_run hW (by simp))
     rw [nl_arg]
     generalize execFn Tryz.prog (ΓNm Tryz.prog) (oneK 0 2 (lNW (a :: l))) 70 Tryz.f31 [if94, slN 36 (rowsL (a :: l))] = T at key ⊢
     obtain ⟨r, hr, hs⟩ := Tr.runF_sat key
     exact Tr.sat_mono (fun q hq => by subst hq; exact lkT_sees hr) hs
end Go.Vse
set_option maxRecDepth 1000000
set_option maxHeartbeats 2000000
namespace Go.Vse
open Go.Proofs
structure Cr4 where
 x0 : Int
 y0 : Int
 x1 : Int
 y1 : Int
def cr0 : Cr4 := ⟨0, 0, 0, 0⟩
def eCr : Elt Cr4 where
 n := 4
 iv := fun c => [.v (.int .i8 c.x0), .v (.int .i8 c.y0), .v (.int .i8 c.x1), .v (.int .i8 c.y1)]
 V := fun l => match l with | [.c (.v (.int .i8 a)), .c (.v (.int .i8 b)), .c (.v (.int .i8 c)), .c (.v (.int .i8 d))] => ⟨a, b, c, d⟩ | _ => cr0
 ok := fun l => match l with | [.c (.v (.int .i8 _)), .c (.v (.int .i8 _)), .c (.v (.int .i8 _)), .c (.v (.int .i8 _))] => true | _ => false
 d := cr0
 ok_eq := by
  intro l h
  split at h
  ·rfl
  ·cases h
 V_c := fun _ => rfl
 ok_c := fun _ => rfl
 len := fun _ => rfl
def crB (c : Cr4) : Bool := decide (-128 ≤ c.x0 ∧ c.x0 ≤ 127) && (decide (-128 ≤ c.y0 ∧ c.y0 ≤ 127) && (decide (-128 ≤ c.x1 ∧ c.x1 ≤ 127) && decide (-128 ≤ c.y1 ∧ c.y1 ≤ 127)))
def lnC (c : Cr4) (a : Int) : L4 := ⟨(c.x0 : Rat) - ((c.x1 : Rat) - c.x0) * a, (c.x1 : Rat) - c.x0, (c.y0 : Rat) - ((c.y1 : Rat) - c.y0) * a, (c.y1 : Rat) - c.y0⟩
abbrev FLn := Form.cons eCr.argV (Form.cons argInt (Form.cons argInt Form.nil))
def KLn : KF := FLn.K (fun x => lineA (lnC x.1 x.2.1)) fun x => [crB x.1, decide (0 ≤ x.2.1 ∧ x.2.1 ≤ 6), decide (x.2.2.1 = x.2.1 + 1)]
def btM (a b x y : Int) (k : AV → Option AV) : Option AV := call K103 [intA .i64 a] fun t => call K103 [intA .i64 (IntKind.i64.wrap x)] fun v => call K103 [intA .i64 b] fun u => call K103 [intA .i64 (IntKind.i64.wrap y)] fun w => call K105 [t, v, u, w] k
def c48 (f : AV) : List AV := (cellsA (tup0 f)).take 8
theorem btC {a x y : Int} (ha : 0 ≤ a ∧ a ≤ 6) (hx : -128 ≤ x ∧ x ≤ 127) (hy : -128 ≤ y ∧ y ≤ 127) (k : AV → Option AV) : btM a (a + 1) x y k = k (.tup [quadA ⟨(x : Rat) - ((y : Rat) - x) * a, (y : Rat) - x, 0⟩, E0]) := by
 have w1 : IntKind.i64.wrap x = x := wrap_i64 (by omega)
 have w2 : IntKind.i64.wrap y = y := wrap_i64 (by omega)
 have u1 : ((a + 1 : Int) : Rat) - (a : Rat) = 1 := by rw [Rat.intCast_add]; grind
 have s1 : slopeB (a : Rat) x ((a + 1 : Int) : Rat) y = (y : Rat) - x := by unfold slopeB; rw [u1]; grind
 have ba := (Bnd.int a).mono (N' := 6) (D' := 1) (by omega) (Nat.le_refl _)
 have bu := (Bnd.int (a + 1)).mono (N' := 7) (D' := 1) (by omega) (Nat.le_refl _)
 have bx := (Bnd.int x).mono (N' := 128) (D' := 1) (by omega) (Nat.le_refl _)
 have by' := (Bnd.int y).mono (N' := 128) (D' := 1) (by omega) (Nat.le_refl _)
 have bs := by'.sub bx
 have e : Con K105 [ratA a, ratA x, ratA ((a + 1 : Int) : Rat), ratA y] (.tup [quadA ⟨(x : Rat) - ((y : Rat) - x) * a, (y : Rat) - x, 0⟩, E0]) := by
  refine ⟨[true, true, true, true, true], ?_, by simp⟩
  show some (AV.tup [.agg (ratCells (hold ((ratV (ratCells x)) - slopeB (ratV (ratCells a)) (ratV (ratCells x)) (ratV (ratCells ((a + 1 : Int) : Rat))) (ratV (ratCells y)) * (ratV (ratCells a)))) ++ (ratCells (hold (slopeB (ratV (ratCells a)) (ratV (ratCells x)) (ratV (ratCells ((a + 1 : Int) : Rat))) (ratV (ratCells y)))) ++ litZ)), intA .i64 0],
   [ratOk (ratCells a), ratOk (ratCells x), ratOk (ratCells ((a + 1 : Int) : Rat)), ratOk (ratCells y), fitBet (ratV (ratCells a)) (ratV (ratCells x)) (ratV (ratCells ((a + 1 : Int) : Rat))) (ratV (ratCells y))]) = _
  rw [ratV_cells, ratV_cells, ratV_cells, ratV_cells, ratOk_cells, ratOk_cells, ratOk_cells, ratOk_cells, hold_eq, hold_eq, s1, ← cells0]
  have hf : fitBet (a : Rat) x ((a + 1 : Int) : Rat) y = true := by
   unfold fitBet
   rw [s1, u1]
   have b1 : Bnd 1 1 (1 : Rat) := Bnd.one
   simp only [fitSub, fS by' bx, fS bu ba, fD bs b1, fM bs ba, fS bx (bs.mul ba), Bool.true_and, Bool.and_true, decide_eq_true_eq]
   decide
  rw [hf]; rfl
 unfold btM
 rw [w1, w2, (intC (by omega) (by omega)).run, (intC (by omega) (by omega)).run, (intC (by omega) (by omega)).run, (intC (by omega) (by omega)).run, e.run]
theorem Ln_ok : PureOk Tryz.prog 30 KLn :=
 Form.rk _ (fun x => btM x.2.1 x.2.2.1 x.1.x0 x.1.x1 fun f => btM x.2.1 x.2.2.1 x.1.y0 x.1.y1 fun g => some (.agg (c48 f ++ c48 g)))
   (gI_ok (l := [(60, K103), (76, K105)]) (d := 2) (okCons f103_ok (okCons f105_ok okNil))) (N := 10) (fn := Tryz.f30) (fun x _ => by obtain ⟨⟨a, b, c, d⟩, i, j, ⟨⟩⟩ := x; kernel_rfl) fun x h => by
     obtain ⟨c, a, b, ⟨⟩⟩ := x
     have hc := h (crB c) (by simp)
     have ha := of_decide_eq_true (h (decide (0 ≤ a ∧ a ≤ 6)) (by simp))
     obtain rfl : b = a + 1 := of_decide_eq_true (h (decide (b = a + 1)) (by simp))
     simp only [crB, Bool.and_eq_true, decide_eq_true_eq] at hc
     dsimp only
     rw [btC ha hc.1 hc.2.2.1, btC ha hc.2.1 hc.2.2.2]
     rfl
end Go.Vse
set_option maxRecDepth 1000000
set_option maxHeartbeats 2000000
namespace Go.Vse
open Go.Proofs
abbrev gPa : List (Nat × KF) := [(30, KLn), (31, KNl), (60, K103)]
theorem gPa_ok : ∀ p ∈ gPa, PureOk Tryz.prog p.1 p.2 := okCons Ln_ok (okCons Nl_ok (okCons f103_ok okNil))
def paF (acc : List Cl) : RW := call KNl [if94, slN 36 (rowsL acc)] fun _ => some (acc.length, 36, rowsL acc)
def paM (n : Nat) (L : List Cr4) : Nat → Nat → List Cl → RW
 | 0, i, acc => bif decide ((i : Int) < (n : Int)) then paF acc else paF acc
 | m + 1, i, acc => bif decide ((i : Int) < (n : Int)) then call K103 [intA .i64 (2 * i)] fun _ => call K103 [intA .i64 (2 * i + 1)] fun _ => bif decide (0 ≤ (i : Int) ∧ (i : Int) < (n : Int)) then
   call KLn [.agg ((eCr.iv (L.getD i cr0)).map .c), intA .i64 (2 * i), intA .i64 (2 * i + 1)] fun v => paM n L m (i + 1) (acc ++ [ivOf v]) else none else paF acc
theorem pa_0 : (execFn Tryz.prog (gI Tryz.prog gPa 3) noL 10 Tryz.f7 [eCr.sl []]).run = call KNl [if94, nilA] fun _ => some nilA := by kernel_rfl
theorem pa_eq (L : List Cr4) : (execFn Tryz.prog (gI Tryz.prog gPa 3) noL 10 Tryz.f7 [eCr.sl L]).runF (lkS 36) = paM L.length L 4 0 [] := by kernel_rfl
theorem nlC {W : List Cl} (h : ∀ c ∈ okW W, c = true) : Con KNl [if94, slN 36 (rowsL W)] (.tup [slR 36 (rowsL W), E0]) := by
 have hl := of_decide_eq_true (h (decide (W.length ≤ 4)) (by simp [okW]))
 have hc := h (c16 W) (by simp [okW])
 have hg : argLs.get (slN 36 (rowsL W)) = some (W, []) := by
  cases W with
  | nil => rfl
  | cons a l => exact ls_get _ (by simp) hl hc
 refine ⟨okW W, ?_, h⟩
 have e : FNl.parse [if94, slN 36 (rowsL W)] = some (((), W, ()), []) := by
  unfold FNl Form.cons
  dsimp only
  rw [hg]; rfl
 unfold KNl Form.K
 rw [e]; rfl
def lnP (p : Cr4 × Nat) : Cl := lineIV (lnC p.1 ((2 * p.2 : Nat) : Int))
def paW (L : List Cr4) : List Cl := (L.take 4).zipIdx.map lnP
theorem lnC_lw {c : Cr4} (hc : crB c = true) {a : Nat} (ha : a ≤ 6) : lw (lnC c (a : Int)) = true := by
 simp only [crB, Bool.and_eq_true, decide_eq_true_eq] at hc
 obtain ⟨h1, h2, h3, h4⟩ := hc
 have b := fun (x : Int) (h : -128 ≤ x ∧ x ≤ 127) => (Bnd.int x).mono (N' := 128) (D' := 1) (by omega) (Nat.le_refl _)
 have ba := (Bnd.int (a : Int)).mono (N' := 6) (D' := 1) (by omega) (Nat.le_refl _)
 have X := (b _ h3).sub (b _ h1)
 have Y := (b _ h4).sub (b _ h2)
 simp only [lw, lnC, ib, Bool.and_eq_true, bndB_iff]
 exact ⟨((b _ h1).sub (X.mul ba)).mono (by decide) (by decide), X.mono (by decide) (by decide), ((b _ h2).sub (Y.mul ba)).mono (by decide) (by decide), Y.mono (by decide) (by decide)⟩
theorem c16a_line (w : L4) : c16a (lineIV w) = true := rfl
theorem okW_of {W : List L4} (hl : W.length ≤ 4) (h : W.all lw = true) : ∀ c ∈ okW (W.map lineIV), c = true := by
 intro c hc
 simp only [okW, List.mem_cons, List.not_mem_nil, or_false] at hc
 rcases hc with rfl | rfl | rfl
 ·exact decide_eq_true (by simpa using hl)
 ·refine List.all_eq_true.2 fun c hc => ?_
  obtain ⟨w, hw, rfl⟩ := List.mem_map.1 hc
  exact c16a_line w
 ·refine List.all_eq_true.2 fun c hc => ?_
  obtain ⟨w, hw, rfl⟩ := List.mem_map.1 hc
  unfold vL
  rw [show (lineIV w).map AV.c = lineCells w from rfl, lineV_cells, lineOk_cells, List.all_eq_true.1 h w hw]; rfl
theorem paF_run {W : List L4} (hl : W.length ≤ 4) (h : W.all lw = true) : paF (W.map lineIV) = some ((W.map lineIV).length, 36, rowsL (W.map lineIV)) := by
 unfold paF
 rw [(nlC (okW_of hl h)).run]
theorem paM_run {L : List Cr4} (hL : L.all crB = true) : ∀ (m i : Nat) (acc : List Cl), i + m ≤ 4 → paM L.length L m i acc = paF (acc ++ (((L.drop i).take m).zipIdx i).map lnP)
 | 0, i, acc, _ => by
  unfold paM
  rw [List.take_zero]
  show _ = paF (acc ++ [])
  rw [List.append_nil]
  cases decide ((i : Int) < (L.length : Int)) <;> rfl
 | m + 1, i, acc, h => by
  unfold paM
  by_cases hi : i < L.length
  ·have hc := List.all_eq_true.1 hL _ (List.getElem_mem hi)
   have eg : L.getD i cr0 = L[i] := by simp [List.getD_eq_getElem?_getD, hi]
   have e : Con KLn [.agg ((eCr.iv (L.getD i cr0)).map .c), intA .i64 (2 * i), intA .i64 (2 * i + 1)] (lineA (lnC (L.getD i cr0) (2 * i))) := Form.con (F := FLn) (val := fun x => lineA (lnC x.1 x.2.1)) (pre := fun x => [crB x.1, decide (0 ≤ x.2.1 ∧ x.2.1 ≤ 6), decide (x.2.2.1 = x.2.1 + 1)]) (L.getD i cr0, 2 * (i : Int), 2 * (i : Int) + 1, ()) (by
    rw [eg]
    simp only [List.mem_cons, List.not_mem_nil, or_false]
    rintro c (rfl | rfl | rfl)
    ·exact hc
    ·exact decide_eq_true (by omega)
    ·simp)
   rw [decide_eq_true (show (i : Int) < (L.length : Int) by omega), decide_eq_true (show 0 ≤ (i : Int) ∧ (i : Int) < (L.length : Int) by omega), cond_true, cond_true, (intC (by omega) (by omega)).run, (intC (by omega) (by omega)).run, e.run, paM_run hL m (i + 1) _ (by omega), eg]
   have ed : L.drop i = L[i] :: L.drop (i + 1) := List.drop_eq_getElem_cons hi
   rw [ed, List.take_succ_cons, List.zipIdx_cons, List.map_cons, List.append_assoc]
   rfl
  ·rw [decide_eq_false (show ¬ (i : Int) < (L.length : Int) by omega), cond_false, List.drop_of_length_le (by omega)]
   show _ = paF (acc ++ [])
   rw [List.append_nil]
abbrev FPa := Form.cons eCr.arg Form.nil
def KPa : KF := FPa.K (fun x => slN 36 (rowsL (paW x.1))) fun x => [x.1.all crB]
def lnQ (p : Cr4 × Nat) : L4 := lnC p.1 ((2 * p.2 : Nat) : Int)
theorem paW_eq (L : List Cr4) : paW L = ((L.take 4).zipIdx.map lnQ).map lineIV := by unfold paW; rw [List.map_map]; rfl
theorem paW_lw {L : List Cr4} (hL : L.all crB = true) : ((L.take 4).zipIdx.map lnQ).length ≤ 4 ∧ ((L.take 4).zipIdx.map lnQ).all lw = true := by
 refine ⟨by simp; omega, List.all_eq_true.2 fun w hw => ?_⟩
 obtain ⟨⟨c, j⟩, hp, rfl⟩ := List.mem_map.1 hw
 obtain ⟨h1, h2, h3⟩ := List.mem_zipIdx hp
 have hj : j < 4 := by simp at h2; omega
 have hm : c ∈ L := by rw [h3]; exact List.mem_of_mem_take (List.getElem_mem _)
 exact lnC_lw (List.all_eq_true.1 hL c hm) (by omega)
theorem Pa_ok : PureOk Tryz.prog 7 KPa :=
 Form.rt _ (gI_ok (d := 3) gPa_ok) (N := 10) (fn := Tryz.f7) (fun x h => by
   obtain ⟨L, ⟨⟩⟩ := x
   have hL := h (L.all crB) (by simp)
   obtain ⟨a1, a2⟩ := paW_lw hL
   have key : (execFn Tryz.prog (gI Tryz.prog gPa 3) noL 10 Tryz.f7 [eCr.sl L]).runF (lkS 36) = some ((rowsL (paW L)).length, 36, rowsL (paW L)) := by
     refine (pa_eq L).trans ((paM_run hL 4 0 [] (by omega)).trans ?_)
     show paF (paW L) = _
     rw [paW_eq, paF_run a1 a2, rowsL_len]
   have key0 := pa_0.trans ((nlC (W := []) (okW_of (W := []) (by simp) rfl)).run _)
   refine satS (T0 := execFn Tryz.prog (gI Tryz.prog gPa 3) noL 10 Tryz.f7 [eCr.sl []]) (L := L.length) (fun h => ?_) key0 (fun _ => key) (fun h => by rw [rowsL_len]; simp [paW]; omega)
   obtain rfl := List.length_eq_zero_iff.1 h
   exact ⟨rfl, rfl⟩) fun x => by
   obtain ⟨L, ⟨⟩⟩ := x
   show Vse.noPtr (slN 36 (rowsL (paW L))) = true
   cases rowsL (paW L) <;> rfl
end Go.Vse
set_option maxRecDepth 1000000
set_option maxHeartbeats 4000000
namespace Go.Vse
open Go.Proofs
def plc (l : L4) (t : Rat) : P2 := ⟨l.x0 + l.x1 * t, l.y0 + l.y1 * t⟩
def tq (t : Rat) : Bool := bndB 16 2 t
instance : ArgP eRt.argV := inferInstance
abbrev FPl := Form.cons eL4.argV (Form.cons eRt.argV Form.nil)
def KPl : KF := FPl.K (fun x => ptA (plc x.1 x.2.1)) fun x => [li x.1, tq x.2.1]
theorem evC {a b t : Rat} (ha : Bnd 4096 1 a) (hb : Bnd 4096 1 b) (ht : Bnd 16 2 t) : Con K321 [qz (ratA a) (ratA b), ratA t] (ratA (a + b * t)) := by
 have e : qz (ratA a) (ratA b) = quadA ⟨a, b, 0⟩ := by unfold qz; rw [zc_eq]; rfl
 have z : ∀ x : Rat, x * 0 = 0 := fun x => Rat.mul_zero x
 have ev : evalQ ⟨a, b, 0⟩ t = a + b * t := by unfold evalQ; simp only [z, Rat.add_zero]; rw [Rat.mul_comm]
 rw [e]
 refine ⟨[true, true, true], ?_, by simp⟩
 show some (ratA (hold (evalQ (quadV (quadCells ⟨a, b, 0⟩)) (ratV (ratCells t)))), [quadOk (quadCells ⟨a, b, 0⟩), ratOk (ratCells t), fitEval (quadV (quadCells ⟨a, b, 0⟩)) (ratV (ratCells t))]) = _
 rw [quadV_cells, quadOk_cells, ratV_cells, ratOk_cells, hold_eq, ev]
 have f : fitEval ⟨a, b, 0⟩ t = true := by
  unfold fitEval
  dsimp only
  simp only [z, Rat.add_zero, fM ht b0, fA hb b0, fM ht hb, fA ha (ht.mul hb), Bool.and_self]
 rw [f]
theorem Pl_ok : PureOk Tryz.prog 18 KPl :=
 Form.rk _ (fun x => call K321 [qz (ratA x.1.x0) (ratA x.1.x1), ratA x.2.1] fun u => call K321 [qz (ratA x.1.y0) (ratA x.1.y1), ratA x.2.1] fun v => some (.agg (cellsA u ++ cellsA v)))
   (gI_ok (l := [(51, K321)]) (d := 3) (okCons f321_ok okNil)) (N := 10) (fn := Tryz.f18) (fun x _ => by obtain ⟨⟨a, b, c, d⟩, t, ⟨⟩⟩ := x; kernel_rfl) fun x h => by
     obtain ⟨l, t, ⟨⟩⟩ := x
     obtain ⟨a1, a2, a3, a4⟩ := li_b (h (li l) (by simp))
     have ht := bndB_iff.1 (h (tq t) (by simp))
     dsimp only
     rw [(evC a1 a2 ht).run, (evC a3 a4 ht).run]
     rfl
abbrev FRn := Form.cons eL4.arg (Form.cons eRt.argV Form.nil)
def KRn : KF := FRn.K (fun x => eP2.sl (x.1.map (plc · x.2.1))) fun x => [decide (3 ≤ x.1.length), decide (x.1.length ≤ 5), x.1.all li, tq x.2.1]
def rnM (t : Rat) : List L4 → (List (List IV) → RW) → RW
 | [], k => k []
 | l :: U, k => call KPl [lineA l, ratA t] fun v => rnM t U fun R => k (ivOf v :: R)
theorem rn_eq (U : List L4) (t : Rat) (h1 : 3 ≤ U.length) (h2 : U.length ≤ 5) : (execFn Tryz.prog (gI Tryz.prog [(18, KPl)] 3) noL 10 Tryz.f45 [eL4.sl U, ratA t]).runF (lkS 8) = rnM t U fun R => some (U.length, 8, R) := by
 rcases U with _ | ⟨x, _ | ⟨y, _ | ⟨z, _ | ⟨u, _ | ⟨v, _ | ⟨w, l⟩⟩⟩⟩⟩⟩ <;> simp only [List.length_nil, List.length_cons] at h1 h2 <;> try omega
 ·as_aux_lemma => kernel_rfl
 ·as_aux_lemma => kernel_rfl
 ·as_aux_lemma => kernel_rfl
theorem rnM_run {t : Rat} (ht : tq t = true) : ∀ {U : List L4} (k : List (List IV) → RW), U.all li = true → rnM t U k = k ((U.map (plc · t)).map eP2.iv)
 | [], k, _ => rfl
 | l :: U, k, h => by
  simp only [List.all_cons, Bool.and_eq_true] at h
  have e : Con KPl [lineA l, ratA t] (ptA (plc l t)) := Form.con (F := FPl) (val := fun x => ptA (plc x.1 x.2.1)) (pre := fun x => [li x.1, tq x.2.1]) (l, t, ()) (by simp [h.1, ht])
  unfold rnM
  rw [e.run, rnM_run ht _ h.2]
  rfl
theorem lkS_elt {X : Type} {E : Elt X} {U : List X} {z : Nat} {a : AV} (h0 : 0 < U.length) (h : lkS z a = some (U.length, E.n, U.map E.iv)) : Vse.noPtr a = true ∧ Sees a (E.sl U) := by
 unfold lkS at h
 split at h
 ·rename_i m s el
  simp only [Option.some.injEq, Prod.mk.injEq] at h
  obtain ⟨rfl, rfl, h⟩ := h
  exact ⟨rfl, Sees.sl (el_rows E U rfl h)⟩
 ·simp only [Option.some.injEq, Prod.mk.injEq] at h
  omega
 ·cases h
theorem Rn_ok : PureOk Tryz.prog 45 KRn :=
 Form.rt _ (gI_ok (l := [(18, KPl)]) (d := 3) (okCons Pl_ok okNil)) (N := 10) (fn := Tryz.f45) fun x h => by
   obtain ⟨U, t, ⟨⟩⟩ := x
   have h1 := of_decide_eq_true (h (decide (3 ≤ U.length)) (by simp))
   have key := (rn_eq U t h1 (of_decide_eq_true (h (decide (U.length ≤ 5)) (by simp)))).trans (rnM_run (h (tq t) (by simp)) _ (h (U.all li) (by simp)))
   show ∃ a, (execFn Tryz.prog (gI Tryz.prog [(18, KPl)] 3) noL 10 Tryz.f45 [eL4.sl U, ratA t]).sat (· = a) ∧ _
   generalize execFn Tryz.prog (gI Tryz.prog [(18, KPl)] 3) noL 10 Tryz.f45 [eL4.sl U, ratA t] = T at key ⊢
   obtain ⟨r, hr, hs⟩ := Tr.runF_sat key
   exact ⟨r, hs, lkS_elt (E := eP2) (U := U.map (plc · t)) (by simp; omega) (by rw [List.length_map]; exact hr)⟩
end Go.Vse
set_option maxRecDepth 1000000
set_option maxHeartbeats 4000000
namespace Go.Vse
open Go.Proofs
def addP (v p : P2) : P2 := ⟨p.x + v.x, p.y + v.y⟩
theorem lkA_pg {a : AV} {U : List P2} (h : lkA a = some (U.length, 8, U.map eP2.iv)) : Vse.noPtr a = true ∧ Sees a (.agg [eP2.sl U, nilA]) := by
 unfold lkA at h
 split at h
 ·rename_i m s el
  simp only [Option.some.injEq, Prod.mk.injEq] at h
  obtain ⟨rfl, rfl, h⟩ := h
  exact ⟨rfl, Sees.agg (.cons (Sees.sl (el_rows eP2 U rfl h)) (.cons (Sees.refl _) .nil))⟩
 ·cases h
abbrev FTr := Form.cons argPg (Form.cons eP2.argV Form.nil)
def KTr : KF := FTr.K (fun x => .agg [eP2.sl (x.1.map (addP x.2.1)), nilA]) fun x => [decide (3 ≤ x.1.length), decide (x.1.length ≤ 5), x.1.all pb, pb x.2.1]
def trM (v : P2) : List P2 → (List (List IV) → RW) → RW
 | [], k => k []
 | p :: U, k => call K162 [ratA p.x, ratA v.x] fun a => call K162 [ratA p.y, ratA v.y] fun b => trM v U fun R => k ((ivOf a ++ ivOf b) :: R)
theorem tr_eq (U : List P2) (v : P2) (h1 : 3 ≤ U.length) (h2 : U.length ≤ 5) : (execFn Tryz.prog (gI Tryz.prog [(34, K162)] 5) noL 10 Tryz.f20 [.agg [eP2.sl U, nilA], ptA v]).runF lkA = trM v U fun R => some (U.length, 8, R) := by
 rcases U with _ | ⟨x, _ | ⟨y, _ | ⟨z, _ | ⟨u, _ | ⟨v, _ | ⟨w, l⟩⟩⟩⟩⟩⟩ <;> simp only [List.length_nil, List.length_cons] at h1 h2 <;> try omega
 ·as_aux_lemma => kernel_rfl
 ·as_aux_lemma => kernel_rfl
 ·as_aux_lemma => kernel_rfl
theorem trM_run {v : P2} (hv : pb v = true) : ∀ {U : List P2} (k : List (List IV) → RW), U.all pb = true → trM v U k = k ((U.map (addP v)).map eP2.iv)
 | [], k, _ => rfl
 | p :: U, k, h => by
  simp only [List.all_cons, Bool.and_eq_true] at h
  obtain ⟨p1, p2⟩ := pb_iff.1 h.1
  obtain ⟨v1, v2⟩ := pb_iff.1 hv
  unfold trM
  rw [(addC (fA p1 v1)).run, (addC (fA p2 v2)).run, trM_run hv _ h.2]
  rfl
theorem Tr_ok : PureOk Tryz.prog 20 KTr :=
 Form.rt _ (gI_ok (l := [(34, K162)]) (d := 5) (okCons f162_ok okNil)) (N := 10) (fn := Tryz.f20) fun x h => by
   obtain ⟨U, v, ⟨⟩⟩ := x
   have key := (tr_eq U v (of_decide_eq_true (h _ (by simp))) (of_decide_eq_true (h _ (by simp)))).trans (trM_run (h (pb v) (by simp)) _ (h (U.all pb) (by simp)))
   show ∃ a, (execFn Tryz.prog (gI Tryz.prog [(34, K162)] 5) noL 10 Tryz.f20 [.agg [eP2.sl U, nilA], ptA v]).sat (· = a) ∧ _
   generalize execFn Tryz.prog (gI Tryz.prog [(34, K162)] 5) noL 10 Tryz.f20 [.agg [eP2.sl U, nilA], ptA v] = T at key ⊢
   obtain ⟨r, hr, hs⟩ := Tr.runF_sat key
   exact ⟨r, hs, lkA_pg (U := U.map (addP v)) (by rw [List.length_map]; exact hr)⟩
open Classical in
noncomputable def samP (U V : List P2) : Bool := decide (U = V)
theorem samP_iff {U V : List P2} : samP U V = true ↔ U = V := by unfold samP; simp only [decide_eq_true_eq]
abbrev FSr := Form.cons eP2.arg (Form.cons eP2.arg Form.nil)
noncomputable def KSr : KF := FSr.K (fun _ => boolA true) fun x => [decide (3 ≤ x.1.length), decide (x.1.length ≤ 5), samP x.1 x.2.1]
def srM : List P2 → Option AV
 | [] => some (boolA true)
 | p :: l => bif !eqPt p p then some (boolA false) else srM l
theorem sr_eq (U : List P2) (h1 : 3 ≤ U.length) (h2 : U.length ≤ 5) : (execFn Tryz.prog (gI Tryz.prog [] 1) noL 10 Tryz.f54 [eP2.sl U, eP2.sl U]).run = srM U := by
 rcases U with _ | ⟨x, _ | ⟨y, _ | ⟨z, _ | ⟨u, _ | ⟨v, _ | ⟨w, l⟩⟩⟩⟩⟩⟩ <;> simp only [List.length_nil, List.length_cons] at h1 h2 <;> try omega
 ·as_aux_lemma => kernel_rfl
 ·as_aux_lemma => kernel_rfl
 ·as_aux_lemma => kernel_rfl
theorem srM_run : ∀ U : List P2, srM U = some (boolA true)
 | [] => rfl
 | p :: l => by
  unfold srM
  rw [eqPt_eq, decide_eq_true rfl, srM_run l]; rfl
theorem Sr_ok : PureOk Tryz.prog 54 KSr :=
 Form.rk _ (fun x => srM x.1) (gI_ok (d := 1) okNil) (N := 10) (fn := Tryz.f54) (fun x h => by
  obtain ⟨U, V, ⟨⟩⟩ := x
  obtain rfl := samP_iff.1 (h (samP U V) (by simp))
  exact sr_eq U (of_decide_eq_true (h _ (by simp))) (of_decide_eq_true (h _ (by simp)))) fun x h => srM_run x.1
abbrev FSp := Form.cons argPg (Form.cons argPg Form.nil)
noncomputable def KSp : KF := FSp.K (fun _ => boolA true) fun x => [decide (3 ≤ x.1.length), decide (x.1.length ≤ 5), samP x.1 x.2.1]
noncomputable def ΓSp (P : Program) : FuncId → Option Spec := inlΓ P (fun f => bif Nat.beq f 54 then some (pureSpec KSr) else none) noM 10 1
theorem ΓSp_ok : ∀ f s, ΓSp Tryz.prog f = some s → SpecOk Tryz.prog f s := inlΓ_ok prog_mixed (fun f s h => by
 cases hb : Nat.beq f 54 with
 | true => rw [hb] at h; obtain rfl := Nat.eq_of_beq_eq_true hb; cases h; exact Sr_ok.spec
 | false => rw [hb] at h; cases h) 1
theorem Sp_ok : PureOk Tryz.prog 19 KSp :=
 Form.rk _ (fun x => call KSr [eP2.sl x.1, eP2.sl x.2.1] fun v => bif !asB v then some (boolA false) else some (boolA true)) ΓSp_ok (N := 10) (fn := Tryz.f19) (fun x h => by obtain ⟨U, V, ⟨⟩⟩ := x; kernel_rfl) fun x h => by
   obtain ⟨U, V, ⟨⟩⟩ := x
   have e : Con KSr [eP2.sl U, eP2.sl V] (boolA true) := Form.con (F := FSr) (val := fun _ => boolA true) (pre := fun x => [decide (3 ≤ x.1.length), decide (x.1.length ≤ 5), samP x.1 x.2.1]) (U, V, ()) h
   dsimp only
   rw [e.run]; rfl
end Go.Vse
set_option maxRecDepth 1000000
set_option maxHeartbeats 4000000
namespace Go.Vse
open Go.Proofs
def crsO (p q : P2) : Rat := p.x * q.y - p.y * q.x
def arB (U : List P2) : Nat → Nat → Rat → Rat
 | 0, _, s => s
 | m + 1, i, s => arB U m (i + 1) (s + crsO (edg U i).a (edg U i).b)
def arM (U : List P2) : Nat → Nat → AV → Option AV
 | 0, _, s => some s
 | m + 1, i, s => call K156 [ratA (edg U i).a.x, ratA (edg U i).b.y] fun a => call K156 [ratA (edg U i).a.y, ratA (edg U i).b.x] fun b => call K154 [a, b] fun c => call K162 [s, c] fun t => arM U m (i + 1) t
abbrev FPg := Form.cons eP2.arg Form.nil
def KRa : KF := FPg.K (fun x => ratA (arB x.1 x.1.length 0 0)) fun x => [decide (3 ≤ x.1.length), decide (x.1.length ≤ 5), x.1.all pb]
theorem ra_eq (U : List P2) (h1 : 3 ≤ U.length) (h2 : U.length ≤ 5) : (execFn Tryz.prog (gI Tryz.prog gN 3) noL 10 Tryz.f58 [eP2.sl U]).run = arM U U.length 0 (.agg zc) := by
 rcases U with _ | ⟨x, _ | ⟨y, _ | ⟨z, _ | ⟨u, _ | ⟨v, _ | ⟨w, l⟩⟩⟩⟩⟩⟩ <;> simp only [List.length_nil, List.length_cons] at h1 h2 <;> try omega
 ·as_aux_lemma => kernel_rfl
 ·as_aux_lemma => kernel_rfl
 ·as_aux_lemma => kernel_rfl
def bN : Nat → Nat × Nat
 | 0 => (0, 1)
 | k + 1 => ((bN k).1 * 16 + 1073741824 * (bN k).2, (bN k).2 * 16)
theorem arM_run {U : List P2} (hU : ∀ p ∈ U, pb p = true) : ∀ (m k : Nat) (s : Rat), k + m ≤ 5 → Bnd (bN k).1 (bN k).2 s → arM U m k (ratA s) = some (ratA (arB U m k s))
 | 0, k, s, _, _ => rfl
 | m + 1, k, s, hk, hs => by
  have ha : pb (edg U k).a = true := getD_pb hU k
  have hb : pb (edg U k).b = true := getD_pb hU _
  obtain ⟨a1, a2⟩ := pb_iff.1 ha
  obtain ⟨b1, b2⟩ := pb_iff.1 hb
  have X := a1.mul b2
  have Y := a2.mul b1
  have Z := (X.sub Y).mono (N' := 1073741824) (D' := 16) (by decide) (by decide)
  have f : fitA s (crsO (edg U k).a (edg U k).b) = true := by
   obtain rfl | rfl | rfl | rfl | rfl : k = 0 ∨ k = 1 ∨ k = 2 ∨ k = 3 ∨ k = 4 := by omega
   all_goals exact fA hs Z (by decide)
  unfold arM arB
  rw [(mulC (fM a1 b2)).run, (mulC (fM a2 b1)).run, (subC (fS X Y)).run]
  change call K162 [ratA s, ratA (crsO (edg U k).a (edg U k).b)] _ = _
  rw [(addC f).run]
  exact arM_run hU m (k + 1) _ (by omega) (hs.add Z)
theorem Ra_ok : PureOk Tryz.prog 58 KRa :=
 Form.rk _ (fun x => arM x.1 x.1.length 0 (.agg zc)) (gI_ok (d := 3) gN_ok) (N := 10) (fn := Tryz.f58) (fun x h => by
  obtain ⟨U, ⟨⟩⟩ := x
  exact ra_eq U (of_decide_eq_true (h _ (by simp))) (of_decide_eq_true (h _ (by simp)))) fun x h => by
   obtain ⟨U, ⟨⟩⟩ := x
   have h5 := of_decide_eq_true (h (decide (U.length ≤ 5)) (by simp))
   dsimp only
   rw [zc_eq]
   exact arM_run (List.all_eq_true.1 (h (U.all pb) (by simp))) U.length 0 0 (by omega) b0
theorem area_mv (U : List P2) (v : P2) (h1 : 3 ≤ U.length) (h2 : U.length ≤ 5) : arB (U.map (addP v)) U.length 0 0 = arB U U.length 0 0 := by
 rcases U with _ | ⟨x, _ | ⟨y, _ | ⟨z, _ | ⟨u, _ | ⟨w, _ | ⟨w', l⟩⟩⟩⟩⟩⟩ <;> simp only [List.length_nil, List.length_cons] at h1 h2 <;> try omega
 all_goals
  simp [arB, edg, crsO, addP]
  grind
end Go.Vse
set_option maxRecDepth 1000000
set_option maxHeartbeats 4000000
namespace Go.Vse
open Go.Proofs
abbrev FPo := Form.cons argPg Form.nil
def absA (q : Rat) : AV := .agg (.c (.v (.bool false)) :: (ratCells q).drop 1)
def KAr : KF := FPo.K (fun x => absA (arB x.1 x.1.length 0 0)) fun x => [decide (3 ≤ x.1.length), decide (x.1.length ≤ 5), x.1.all pb]
theorem Ar_ok : PureOk Tryz.prog 21 KAr :=
 Form.rk _ (fun x => call KRa [eP2.sl x.1] fun v => some (.agg (.c (.v (.bool false)) :: (cellsA v).drop 1))) (gI_ok (l := [(58, KRa)]) (d := 3) (okCons Ra_ok okNil)) (N := 10) (fn := Tryz.f21) (fun x h => by obtain ⟨U, ⟨⟩⟩ := x; kernel_rfl) fun x h => by
   obtain ⟨U, ⟨⟩⟩ := x
   have e : Con KRa [eP2.sl U] (ratA (arB U U.length 0 0)) := Form.con (F := FPg) (val := fun x => ratA (arB x.1 x.1.length 0 0)) (pre := fun x => [decide (3 ≤ x.1.length), decide (x.1.length ≤ 5), x.1.all pb]) (U, ()) h
   dsimp only
   rw [e.run]; rfl
def KCk : KF := FPo.K (fun x => intA .i64 (ckR x.1)) fun x => [decide (x.1.length ≤ 5), x.1.all pi]
theorem Ck_ok : PureOk Tryz.prog 6 KCk :=
 Form.rk _ (fun x => call KCg [eP2.sl x.1] fun v => bif asI v != 0 then some v else some E0) (gL_ok (okCons Cg_ok okNil)) (N := 10) (fn := Tryz.f6) (fun x h => by obtain ⟨U, ⟨⟩⟩ := x; kernel_rfl) fun x h => by
   obtain ⟨U, ⟨⟩⟩ := x
   have e : Con KCg [eP2.sl U] (intA .i64 (ckR U)) := Form.con (F := FU) (val := fun x => intA .i64 (ckR x.1)) (pre := fun x => [decide (x.1.length ≤ 5), x.1.all pi]) (U, ()) h
   dsimp only
   rw [e.run]
   show (bif ckR U != 0 then some (intA .i64 (ckR U)) else some E0) = some (intA .i64 (ckR U))
   unfold ckR
   cases smp U <;> rfl
def Γ4k (P : Program) : FuncId → Option Spec := concΓ2 P (fun f => bif Nat.beq f 23 then some (pureSpec (tabK rows16)) else Γv f) msK 70 20
theorem Γ4k_ok : ∀ f s, Γ4k Tryz.prog f = some s → SpecOk Tryz.prog f s := concΓ2_ok (N := 70) (ms := msK) prog_mixed (fun f s h => by
 cases hb : Nat.beq f 23 with
 | true => rw [hb] at h; obtain rfl := Nat.eq_of_beq_eq_true hb; cases h; exact tab16_ok.spec
 | false => rw [hb, cond_false] at h; exact Γv_ok f s h) 20
def rows4 : List (List AV × AV) := [([], boolA true)]
theorem rows4_ok : ∀ r ∈ rows4, rowOk (concPure Tryz.prog (Γ4k Tryz.prog) 70 Tryz.f4) r = true := by
 intro r hr
 simp only [rows4, List.mem_cons, List.not_mem_nil, or_false] at hr
 subst hr
 as_aux_lemma => kernel_rfl
theorem tab4_ok : PureOk Tryz.prog 4 (tabK rows4) :=
 tab_ok (concPure_ok (N := 70) prog_mixed Γ4k_ok (fn := Tryz.f4) (c := codeOf Tryz.f4) (by kernel_rfl) (by kernel_rfl) (by kernel_rfl)) rows4_ok
end Go.Vse
set_option maxRecDepth 1000000
set_option maxHeartbeats 4000000
namespace Go.Vse
open Go.Proofs
open Classical in
noncomputable def samE (n : Nat) (e : Nat → List IV) : Bool := decide (e = eCr.el (eCr.list n e))
theorem samE_iff {n : Nat} {e : Nat → List IV} : samE n e = true ↔ e = eCr.el (eCr.list n e) := by unfold samE; simp only [decide_eq_true_eq]
noncomputable def argSn : Arg (List Cr4) where
 get := fun a => match a with | .agg [.c (.v (.slice none 0 0)), .c (.sl 1 1 el)] => (match el 0 with | [.sl n 4 e] => some (eCr.list n e, [samE n e]) | _ => none) | _ => none
 put := fun R => .agg [nilA, .c (.sl 1 1 fun _ => [.sl R.length 4 (eCr.el R)])]
 ok := by
  intro a x cs h hc
  split at h
  ·split at h
   ·rename_i el n e he
    simp only [Option.some.injEq, Prod.mk.injEq] at h
    obtain ⟨rfl, rfl⟩ := h
    have h1 := samE_iff.1 (hc _ (List.mem_singleton.2 rfl))
    refine Sees.agg (.cons (Sees.refl _) (.cons (Sees.sl fun k hk => ?_) .nil))
    obtain rfl : k = 0 := by omega
    rw [he, eCr.list_len, ← h1]
   ·cases h
  ·cases h
def ptC (c : Cr4) : P2 := ⟨(c.x0 : Rat), (c.y0 : Rat)⟩
def pgC (R : List Cr4) : List P2 := (R.take 5).map ptC
abbrev RP := Option (Nat × List (List IV))
def lkP (a : AV) : RP := match a with | .tup [.c (.v (.slice none 0 0)), .c (.sl 1 2 el)] => (match el 0 with | [.sl m 8 e, .v (.slice none 0 0)] => some (m, (List.range m).map e) | _ => none) | _ => none
def pgA (P : List P2) : AV := .tup [nilA, .c (.sl 1 2 fun _ => [.sl P.length 8 (eP2.el P), .v (.slice none 0 0)])]
def poF (acc : List (List IV)) : RP := match acc with | [] => none | acc => some (acc.length, acc)
def poM (n : Nat) (R : List Cr4) : Nat → Nat → List (List IV) → RP
 | 0, i, acc => bif decide ((i : Int) < (n : Int)) then poF acc else poF acc
 | m + 1, i, acc => bif decide ((i : Int) < (n : Int)) then bif decide (0 ≤ (i : Int) ∧ (i : Int) < (n : Int)) then call K103 [intA .i64 (IntKind.i64.wrap (R.getD i cr0).x0)] fun u => bif decide (0 ≤ (i : Int) ∧ (i : Int) < (n : Int)) then
   call K103 [intA .i64 (IntKind.i64.wrap (R.getD i cr0).y0)] fun v => poM n R m (i + 1) (acc ++ [ivOf u ++ ivOf v]) else none else none else poF acc
noncomputable abbrev snA (R : List Cr4) : AV := .agg [nilA, .c (.sl 1 1 fun _ => [.sl R.length 4 (eCr.el R)])]
theorem po_eq (R : List Cr4) : (execFn Tryz.prog (gI Tryz.prog [(60, K103)] 3) noL 10 Tryz.f5 [snA R]).runF lkP = poM R.length R 5 0 [] := by kernel_rfl
theorem poM_run {R : List Cr4} (hR : R.all crB = true) : ∀ (m i : Nat) (acc : List (List IV)), i + m ≤ 5 → poM R.length R m i acc = poF (acc ++ ((R.drop i).take m).map fun c => eP2.iv (ptC c))
 | 0, i, acc, _ => by
  unfold poM
  rw [List.take_zero]
  show _ = poF (acc ++ [])
  rw [List.append_nil]
  cases decide ((i : Int) < (R.length : Int)) <;> rfl
 | m + 1, i, acc, h => by
  unfold poM
  by_cases hi : i < R.length
  ·have hc := List.all_eq_true.1 hR _ (List.getElem_mem hi)
   have eg : R.getD i cr0 = R[i] := by simp [List.getD_eq_getElem?_getD, hi]
   simp only [crB, Bool.and_eq_true, decide_eq_true_eq] at hc
   rw [decide_eq_true (show (i : Int) < (R.length : Int) by omega), decide_eq_true (show 0 ≤ (i : Int) ∧ (i : Int) < (R.length : Int) by omega), eg, wrap_i64 (by omega), wrap_i64 (by omega)]
   simp only [cond_true]
   rw [(intC (by omega) (by omega)).run, (intC (by omega) (by omega)).run, poM_run hR m (i + 1) _ (by omega), List.drop_eq_getElem_cons hi, List.take_succ_cons, List.map_cons, List.append_assoc]
   rfl
  ·rw [decide_eq_false (show ¬ (i : Int) < (R.length : Int) by omega), cond_false, List.drop_of_length_le (by omega)]
   show _ = poF (acc ++ [])
   rw [List.append_nil]
theorem sees_nest {m : Nat} {el e e' : Nat → List IV} (h : el 0 = [.sl m 8 e, .v (.slice none 0 0)]) (he : ∀ k, k < m → e k = e' k) : Sees (.c (.sl 1 2 el)) (.c (.sl 1 2 fun _ => [.sl m 8 e', .v (.slice none 0 0)])) := by
 intro A B w u hu
 have step : ∀ v, IRel A w (.sl m 8 e) v → IRel A w (.sl m 8 e') v := fun v hv => by
  have := Sees.sl he A B w v (.c _ _ hv)
  cases this with
  | c _ _ hc => exact hc
 cases hu with
 | c _ _ hi =>
  refine .c _ _ ?_
  cases hi with
  | sl _ _ _ b off cap hA hb hn hl hs hh =>
   refine .sl 1 2 _ b off cap hA hb hn (fun k hk => rfl) hs fun k j hk hj => ?_
   obtain rfl : k = 0 := by omega
   have := hh 0 j hk hj
   rw [h] at this
   obtain rfl | rfl : j = 0 ∨ j = 1 := by omega
   ·exact step _ this
   ·exact this
theorem lkP_sees {a : AV} {P : List P2} (h : lkP a = some (P.length, P.map eP2.iv)) : Vse.noPtr a = true ∧ Sees a (pgA P) := by
 unfold lkP at h
 split at h
 ·split at h
  ·rename_i el m e he
   simp only [Option.some.injEq, Prod.mk.injEq] at h
   obtain ⟨rfl, h⟩ := h
   exact ⟨rfl, Sees.tup (.cons (Sees.refl _) (.cons (sees_nest he (el_rows eP2 P rfl h)) .nil))⟩
  ·cases h
 ·cases h
noncomputable abbrev FSn := Form.cons argSn Form.nil
noncomputable def KPo : KF := FSn.K (fun x => pgA (pgC x.1)) fun x => [decide (0 < x.1.length), x.1.all crB]
theorem pgC_pos {R : List Cr4} (h : 0 < R.length) : 0 < (pgC R).length := by simp [pgC]; omega
theorem Po_ok : PureOk Tryz.prog 5 KPo :=
 Form.rt _ (gI_ok (l := [(60, K103)]) (d := 3) (okCons f103_ok okNil)) (N := 10) (fn := Tryz.f5) fun x h => by
   obtain ⟨R, ⟨⟩⟩ := x
   have h0 := of_decide_eq_true (h (decide (0 < R.length)) (by simp))
   have hp := pgC_pos h0
   have key : (execFn Tryz.prog (gI Tryz.prog [(60, K103)] 3) noL 10 Tryz.f5 [snA R]).runF lkP = some ((pgC R).length, (pgC R).map eP2.iv) := by
     refine (po_eq R).trans ((poM_run (h (R.all crB) (by simp)) 5 0 [] (by omega)).trans ?_)
     have e : ([] ++ ((R.drop 0).take 5).map fun c => eP2.iv (ptC c)) = (pgC R).map eP2.iv := by unfold pgC; rw [List.map_map]; rfl
     rw [e]
     unfold poF
     split
     · rename_i he
       rw [List.map_eq_nil_iff.1 he] at hp
       exact absurd hp (by simp)
     · rw [List.length_map]
   show ∃ a, (execFn Tryz.prog (gI Tryz.prog [(60, K103)] 3) noL 10 Tryz.f5 [snA R]).sat (· = a) ∧ _
   generalize execFn Tryz.prog (gI Tryz.prog [(60, K103)] 3) noL 10 Tryz.f5 [snA R] = T at key ⊢
   obtain ⟨r, hr, hs⟩ := Tr.runF_sat key
   exact ⟨r, hs, lkP_sees hr⟩
end Go.Vse
set_option maxRecDepth 1000000
set_option maxHeartbeats 4000000
namespace Go.Vse
open Go.Proofs
def crV (el : Nat → List IV) (j : Nat) : Cl := lineIV (lnC (eCr.V ((el j).map .c)) ((2 * j : Nat) : Int))
def paN (n : Nat) (el : Nat → List IV) : List Cl :=
 match n with
 | 0 => []
 | 1 => [crV el 0]
 | 2 => [crV el 0, crV el 1]
 | 3 => [crV el 0, crV el 1, crV el 2]
 | _ + 4 => [crV el 0, crV el 1, crV el 2, crV el 3]
theorem paN_eq (n : Nat) (el : Nat → List IV) : paN n el = paW (eCr.list n el) := by
 have e : ∀ k, (List.range (k + 4)).take 4 = [0, 1, 2, 3] := fun k => by
   have : List.range (k + 4) = [0, 1, 2, 3] ++ (List.range k).map (· + 4) := by
     apply List.ext_getElem
     · simp <;> omega
     · intro i h1 h2
       by_cases h : i < 4
       · have : i = 0 ∨ i = 1 ∨ i = 2 ∨ i = 3 := by omega
         rcases this with rfl | rfl | rfl | rfl <;> simp
       · rw [List.getElem_append_right (by simp <;> omega)]
         simp <;> omega
   rw [this]; rfl
 match n with
 | 0 => rfl
 | 1 => rfl
 | 2 => rfl
 | 3 => rfl
 | k + 4 =>
   unfold paN paW Elt.list
   rw [← List.map_take, e]; rfl
def KPq : KF
 | [.c (.sl n 4 el)] => some (slN 36 (rowsL (paN n el)), [eCr.oks n el, (eCr.list n el).all crB])
 | _ => none
theorem Pq_ok : PureOk Tryz.prog 7 KPq := Pa_ok.sees fun args v cs hk => by
 unfold KPq at hk
 split at hk
 ·rename_i n el
  simp only [Option.some.injEq, Prod.mk.injEq] at hk
  obtain ⟨rfl, rfl⟩ := hk
  refine ⟨slN_noPtr _ _, fun hc => ⟨[.c (.sl n 4 el)], slN 36 (rowsL (paW (eCr.list n el))), [eCr.oks n el] ++ [(eCr.list n el).all crB], seesL_refl _, rfl, fun p hp => hc p hp, ?_⟩⟩
  rw [paN_eq]
  exact Sees.refl _
 ·cases hk
end Go.Vse
set_option maxRecDepth 1000000
set_option maxHeartbeats 4000000
namespace Go.Vse
open Go.Proofs
noncomputable def g3 : List (Nat × KF) := [(4, tabK rows4), (5, KPo), (6, KCk), (7, KPq), (8, KRg), (9, KPn), (10, KSt), (11, KCh), (13, KDo), (14, KMo), (18, KPl), (19, KSp), (20, KTr), (21, KAr), (45, KRn)]
theorem g3_ok : ∀ p ∈ g3, PureOk Tryz.prog p.1 p.2 := okCons tab4_ok <| okCons Po_ok <| okCons Ck_ok <| okCons Pq_ok <| okCons Rg_ok <| okCons Pn_ok <| okCons St_ok <| okCons Ch_ok <| okCons Do_ok <| okCons Mo_ok <| okCons Pl_ok <| okCons Sp_ok <| okCons Tr_ok <| okCons Ar_ok <| okCons Rn_ok okNil
def gOr : List (Nat × KF) → (FuncId → Option Spec) → FuncId → Option Spec
 | [], Γ, f => Γ f
 | p :: l, Γ, f => bif Nat.beq f p.1 then some (pureSpec p.2) else gOr l Γ f
theorem gOr_ok : ∀ {l : List (Nat × KF)} {Γ : FuncId → Option Spec}, (∀ p ∈ l, PureOk Tryz.prog p.1 p.2) → (∀ f s, Γ f = some s → SpecOk Tryz.prog f s) → ∀ f s, gOr l Γ f = some s → SpecOk Tryz.prog f s
 | [], Γ, _, hΓ, f, s, h => hΓ f s h
 | p :: l, Γ, hl, hΓ, f, s, h => by
  unfold gOr at h
  cases hb : Nat.beq f p.1 with
  | true =>
   rw [hb] at h
   obtain rfl := Nat.eq_of_beq_eq_true hb
   cases h
   exact (hl p (by simp)).spec
  | false => rw [hb] at h; exact gOr_ok (fun q hq => hl q (by simp [hq])) hΓ f s h
noncomputable def Γ3 (P : Program) : FuncId → Option Spec := inlΓ P (gOr g3 Γv) msU 70 20
theorem Γ3_ok : ∀ f s, Γ3 Tryz.prog f = some s → SpecOk Tryz.prog f s := inlΓ_ok prog_mixed (gOr_ok g3_ok Γv_ok) 20
def eqAr (s t : AV) : Bool :=
 match cellsA s, cellsA t with
 | [_, .c (.v (.string m)), _, .c (.v (.string d))], [_, .c (.v (.string m')), _, .c (.v (.string d'))] => ((false == false) && (m.data.toList == m'.data.toList)) && ((false == false) && (d.data.toList == d'.data.toList))
 | _, _ => false
def pgV (a : AV) : AV := .agg [a, nilA]
def ringA (r : Rg) : AV := .c (.sl r.1 16 r.2)
def mosK (k : Nat) : List (Nat × List IV) := (List.range k).flatMap fun j => (momJ j).map fun t => (j, t)
end Go.Vse
namespace Go.Vse
open Go.Proofs
theorem plc_rig (P : List P2) (w : L4) (t : Rat) : (rig P w).map (plc · t) = P.map (addP (plc w t)) := by
 unfold rig
 rw [List.map_map]
 refine List.map_congr_left fun p _ => ?_
 show plc ⟨w.x0 + p.x, w.x1, w.y0 + p.y, w.y1⟩ t = addP (plc w t) p
 unfold plc addP
 exact P2.ext' (by grind) (by grind)
theorem plc_l40 (t : Rat) : plc l40 t = ⟨0, 0⟩ := by
 unfold plc l40
 exact P2.ext' (by grind) (by grind)
theorem plc_sta (P : List P2) (t : Rat) : (rig P l40).map (plc · t) = P := by
 rw [plc_rig, plc_l40]
 conv => rhs; rw [← List.map_id P]
 refine List.map_congr_left fun p _ => ?_
 unfold addP
 exact P2.ext' (by grind) (by grind)
theorem lnC_pb {c : Cr4} (hc : crB c = true) {a : Nat} (ha : a ≤ 6) {t : Rat} (ht : Bnd 14 2 t) : Bnd 7000 2 (plc (lnC c (a : Int)) t).x ∧ Bnd 7000 2 (plc (lnC c (a : Int)) t).y := by
 simp only [crB, Bool.and_eq_true, decide_eq_true_eq] at hc
 obtain ⟨h1, h2, h3, h4⟩ := hc
 have b := fun (x : Int) (h : -128 ≤ x ∧ x ≤ 127) => (Bnd.int x).mono (N' := 128) (D' := 1) (by omega) (Nat.le_refl _)
 have ba := (Bnd.int (a : Int)).mono (N' := 6) (D' := 1) (by omega) (Nat.le_refl _)
 have X := (b _ h3).sub (b _ h1)
 have Y := (b _ h4).sub (b _ h2)
 exact ⟨(((b _ h1).sub (X.mul ba)).add (X.mul ht)).mono (by decide) (by decide), (((b _ h2).sub (Y.mul ba)).add (Y.mul ht)).mono (by decide) (by decide)⟩
theorem addP_pb {v p : P2} (hv : Bnd 7000 2 v.x ∧ Bnd 7000 2 v.y) (hp : ib 128 p.x = true ∧ ib 128 p.y = true) : pb (addP v p) = true :=
 pb_iff.2 ⟨((bndB_iff.1 hp.1).add hv.1).mono (by decide) (by decide), ((bndB_iff.1 hp.2).add hv.2).mono (by decide) (by decide)⟩
theorem ptC_ib {c : Cr4} (h : crB c = true) : ib 128 (ptC c).x = true ∧ ib 128 (ptC c).y = true := by
 simp only [crB, Bool.and_eq_true, decide_eq_true_eq] at h
 exact ⟨bndB_iff.2 ((Bnd.int c.x0).mono (by omega) (Nat.le_refl _)), bndB_iff.2 ((Bnd.int c.y0).mono (by omega) (Nat.le_refl _))⟩
theorem pgC_ib {R : List Cr4} (h : R.all crB = true) : ∀ p ∈ pgC R, ib 128 p.x = true ∧ ib 128 p.y = true := fun p hp => by
 obtain ⟨c, hc, rfl⟩ := List.mem_map.1 hp
 exact ptC_ib (List.all_eq_true.1 h c (List.mem_of_mem_take hc))
end Go.Vse
set_option maxRecDepth 1000000
set_option maxHeartbeats 4000000
namespace Go.Vse
open Go.Proofs
theorem is_get : ∀ k, k ≤ 4 → argIs.get (slN 20 (insK k)) = some (k, []) := by
 intro k h
 obtain rfl | rfl | rfl | rfl | rfl : k = 0 ∨ k = 1 ∨ k = 2 ∨ k = 3 ∨ k = 4 := by omega
 ·rfl
 all_goals kernel_rfl
theorem is_parse {k : Nat} (h : k ≤ 4) : FIs.parse [slN 20 (insK k)] = some ((k, ()), []) := by
 unfold FIs Form.cons
 dsimp only
 rw [is_get k h]; rfl
theorem pnC {k : Nat} (h : k ≤ 4) : Con KPn [slN 20 (insK k)] (slN 20 (insK k)) := ⟨[decide (k ≤ 4)], by unfold KPn Form.K; rw [is_parse h]; rfl, by simp [h]⟩
theorem moC {k : Nat} (h : k ≤ 4) : Con KMo [slN 20 (insK k)] (slN 4 (momK k)) := ⟨[decide (k ≤ 4)], by unfold KMo Form.K; rw [is_parse h]; rfl, by simp [h]⟩
theorem rs_parse {L : List Rg} (h : L.length ≤ 4) : FRs.parse [slN 22 (rowsR L)] = some ((L, ()), []) := by
 unfold FRs Form.cons
 dsimp only
 rw [rs_get L h]; rfl
theorem doC {L : List Rg} (h : L.length ≤ 4) : Con KDo [slN 22 (rowsR L)] (slN 20 (insK L.length)) := ⟨[decide (L.length ≤ 4)], by unfold KDo Form.K; rw [rs_parse h]; rfl, by simp [h]⟩
theorem chC {L : List Rg} (h : L.length ≤ 4) (hL : ∀ r ∈ L, (∀ c ∈ okR1 r, c = true) ∧ goodB (rgU r) = true) : Con KCh [slN 22 (rowsR L)] E0 := by
 refine ⟨decide (L.length ≤ 4) :: L.flatMap fun r => goodB (rgU r) :: okR1 r, by unfold KCh Form.K; rw [rs_parse h]; rfl, fun c hc => ?_⟩
 rcases List.mem_cons.1 hc with rfl | hc
 ·exact decide_eq_true h
 ·obtain ⟨r, hr, hc⟩ := List.mem_flatMap.1 hc
  rcases List.mem_cons.1 hc with rfl | hc
  ·exact (hL r hr).2
  ·exact (hL r hr).1 c hc
theorem pg_get (P : List P2) : argPg.get (.agg [eP2.sl P, nilA]) = some (P, [true]) := by
 show some (eP2.list P.length (eP2.el P), [eP2.oks P.length (eP2.el P)]) = _
 rw [eP2.list_el, eP2.oks_mk]
theorem stC' {P : List P2} {k : Nat} (h : k ≤ 4) (hP : ∀ c ∈ okP P, c = true) : Con KSt [.agg [eP2.sl P, nilA], slN 20 (insK k)] (slN 22 (rowsR (List.replicate k (rgO P l40)))) := by
 refine ⟨[true] ++ (okP P ++ [decide (k ≤ 4)]), ?_, fun c hc => ?_⟩
 ·have e : FSt.parse [.agg [eP2.sl P, nilA], slN 20 (insK k)] = some ((P, k, ()), [true]) := by
   unfold FSt Form.cons
   dsimp only
   rw [pg_get, is_get k h]; rfl
  unfold KSt Form.K
  rw [e]
 ·simp only [List.mem_append, List.mem_cons, List.not_mem_nil, or_false] at hc
  rcases hc with rfl | hc | rfl
  ·rfl
  ·exact hP c hc
  ·exact decide_eq_true h
theorem rgC {P : List P2} {W : List Cl} (hP : ∀ c ∈ okP P, c = true) (hW : ∀ c ∈ okW W, c = true) : Con KRg [.agg [eP2.sl P, nilA], slN 36 (rowsL W)] (slN 22 (rowsR (W.map fun c => rgO P (vL c)))) := by
 have hl := of_decide_eq_true (hW (decide (W.length ≤ 4)) (by simp [okW]))
 have hc := hW (c16 W) (by simp [okW])
 have hg : argLs.get (slN 36 (rowsL W)) = some (W, []) := by
  cases W with
  | nil => rfl
  | cons a l => exact ls_get _ (by simp) hl hc
 refine ⟨[true] ++ (okP P ++ okW W), ?_, fun c hc => ?_⟩
 ·have e : FRg.parse [.agg [eP2.sl P, nilA], slN 36 (rowsL W)] = some ((P, W, ()), [true]) := by
   unfold FRg Form.cons
   dsimp only
   rw [pg_get, hg]; rfl
  unfold KRg Form.K
  rw [e]
 ·simp only [List.mem_append, List.mem_cons, List.not_mem_nil, or_false] at hc
  rcases hc with rfl | hc | hc
  ·rfl
  ·exact hP c hc
  ·exact hW c hc
end Go.Vse
set_option maxRecDepth 1000000
set_option maxHeartbeats 4000000
namespace Go.Vse
open Go.Proofs
theorem mom_ok : ∀ j, j < 4 → ((momJ j).all fun t => ratOk (t.map .c) && bndB 14 2 (ratV (t.map .c))) = true := by
 intro j h
 obtain rfl | rfl | rfl | rfl : j = 0 ∨ j = 1 ∨ j = 2 ∨ j = 3 := by omega
 all_goals kernel_rfl
theorem mos_mem {k j : Nat} {t : List IV} (h : (j, t) ∈ mosK k) : j < k ∧ t ∈ momJ j := by
 unfold mosK at h
 obtain ⟨i, hi, h⟩ := List.mem_flatMap.1 h
 obtain ⟨s, hs, e⟩ := List.mem_map.1 h
 cases e
 exact ⟨List.mem_range.1 hi, hs⟩
theorem rnC {P : List P2} {w : L4} {q : Rat} (h3 : 3 ≤ P.length) (h5 : P.length ≤ 5) (hr : (rig P w).all li = true) (hq : Bnd 14 2 q) : Con KRn [ringA (rgO P w), ratA q] (eP2.sl ((rig P w).map (plc · q))) := by
 have e : Con KRn [eL4.sl (rig P w), ratA q] (eP2.sl ((rig P w).map (plc · q))) := Form.con (F := FRn) (val := fun x => eP2.sl (x.1.map (plc · x.2.1))) (pre := fun x => [decide (3 ≤ x.1.length), decide (x.1.length ≤ 5), x.1.all li, tq x.2.1]) (rig P w, q, ()) (by
  have : tq q = true := bndB_iff.2 (hq.mono (by decide) (by decide))
  simp only [List.mem_cons, List.not_mem_nil, or_false]
  rintro c (rfl | rfl | rfl | rfl)
  ·rw [rig_len]; exact decide_eq_true h3
  ·rw [rig_len]; exact decide_eq_true h5
  ·exact hr
  ·exact this)
 unfold Elt.sl at e
 rw [rig_len] at e
 exact e
theorem eqAr_refl (q : Rat) : eqAr (absA q) (absA q) = true := by
 show (((false == false) && (magB q.num.natAbs == magB q.num.natAbs)) && ((false == false) && (denB q.den == denB q.den))) = true
 simp
structure MoOk (P : List P2) (w : L4) (q : Rat) : Prop where
 h3 : 3 ≤ P.length
 h5 : P.length ≤ 5
 hq : Bnd 14 2 q
 li : li w = true
 rg : (rig P w).all Vse.li = true
 r0 : (rig P l40).all Vse.li = true
 v : Bnd 7000 2 (plc w q).x ∧ Bnd 7000 2 (plc w q).y
 p : ∀ p ∈ P, ib 128 p.x = true ∧ ib 128 p.y = true
theorem mo_round {P : List P2} {w : L4} {q : Rat} (h : MoOk P w q) {α : Type} (k : Option α) :
  (call KRn [ringA (rgO P w), ratA q] fun a => call KRn [ringA (rgO P l40), ratA q] fun b => call KPl [lineA w, ratA q] fun v => call KTr [.agg [eP2.sl P, nilA], v] fun tr => call KSp [pgV a, tr] fun x => bif !asB x then none else
  call KSp [pgV b, .agg [eP2.sl P, nilA]] fun y => bif !asB y then none else call KAr [pgV a] fun c => call KAr [.agg [eP2.sl P, nilA]] fun d => bif !eqAr c d then none else k) = k := by
 have pbP : P.all pb = true := List.all_eq_true.2 fun p hp => pb_iff.2 ⟨(bndB_iff.1 (h.p p hp).1).mono (by decide) (by decide), (bndB_iff.1 (h.p p hp).2).mono (by decide) (by decide)⟩
 have pbv : pb (plc w q) = true := pb_iff.2 ⟨h.v.1.mono (by decide) (by decide), h.v.2.mono (by decide) (by decide)⟩
 have pbA : (P.map (addP (plc w q))).all pb = true := List.all_eq_true.2 fun a ha => by
  obtain ⟨p, hp, rfl⟩ := List.mem_map.1 ha
  exact addP_pb h.v (h.p p hp)
 have tqq : tq q = true := bndB_iff.2 (h.hq.mono (by decide) (by decide))
 have c3 : Con KPl [lineA w, ratA q] (ptA (plc w q)) := Form.con (F := FPl) (val := fun x => ptA (plc x.1 x.2.1)) (pre := fun x => [Vse.li x.1, tq x.2.1]) (w, q, ()) (by simp [h.li, tqq])
 have c4 : Con KTr [.agg [eP2.sl P, nilA], ptA (plc w q)] (.agg [eP2.sl (P.map (addP (plc w q))), nilA]) := Form.con (F := FTr) (val := fun x => .agg [eP2.sl (x.1.map (addP x.2.1)), nilA]) (pre := fun x => [decide (3 ≤ x.1.length), decide (x.1.length ≤ 5), x.1.all pb, pb x.2.1]) (P, plc w q, ()) (by
   simp only [List.mem_cons, List.not_mem_nil, or_false]
   rintro c (rfl | rfl | rfl | rfl)
   ·exact decide_eq_true h.h3
   ·exact decide_eq_true h.h5
   ·exact pbP
   ·exact pbv)
 have sp : ∀ U : List P2, U.length = P.length → Con KSp [.agg [eP2.sl U, nilA], .agg [eP2.sl U, nilA]] (boolA true) := fun U hU => Form.con (F := FSp) (val := fun _ => boolA true) (pre := fun x => [decide (3 ≤ x.1.length), decide (x.1.length ≤ 5), samP x.1 x.2.1]) (U, U, ()) (by
   simp only [List.mem_cons, List.not_mem_nil, or_false]
   rintro c (rfl | rfl | rfl)
   ·exact decide_eq_true (by rw [hU]; exact h.h3)
   ·exact decide_eq_true (by rw [hU]; exact h.h5)
   ·exact samP_iff.2 rfl)
 have ar : ∀ U : List P2, U.length = P.length → U.all pb = true → Con KAr [.agg [eP2.sl U, nilA]] (absA (arB U U.length 0 0)) := fun U hU hb => Form.con (F := FPo) (val := fun x => absA (arB x.1 x.1.length 0 0)) (pre := fun x => [decide (3 ≤ x.1.length), decide (x.1.length ≤ 5), x.1.all pb]) (U, ()) (by
   simp only [List.mem_cons, List.not_mem_nil, or_false]
   rintro c (rfl | rfl | rfl)
   ·exact decide_eq_true (by rw [hU]; exact h.h3)
   ·exact decide_eq_true (by rw [hU]; exact h.h5)
   ·exact hb)
 rw [(rnC h.h3 h.h5 h.rg h.hq).run, (rnC h.h3 h.h5 h.r0 h.hq).run, c3.run, c4.run, plc_rig, plc_sta]
 unfold pgV
 rw [(sp _ (by simp)).run, (sp _ rfl).run, (ar _ (by simp) pbA).run, (ar _ rfl pbP).run, List.length_map, area_mv P _ h.h3 h.h5, eqAr_refl]
 rfl
end Go.Vse
namespace Go.Vse
open Go.RowKit
section
variable {P : Program} {Γ : FuncId → Option Spec} {N : Nat}
end
end Go.Vse
namespace Go.Vse
open Go.RowKit
def frzS (S : St) : St := { S with tm := (viewL S.mem S.tm).1, mem := applyUpd S.mem ((idsL S.tm).map fun b => (b, none)) }
section
variable {P : Program} {Γ : FuncId → Option Spec} {L : Nat → Option (St → Tr (Ex × St))} {N : Nat}
theorem Holds.freeze {C : Ctx} {B : Bmap} {S : St} {a : Act} {w : World} (hC : C.Ok) (H : Holds C B S a w) (hc : ∀ p ∈ (viewL S.mem S.tm).2, p) : Holds C B (frzS S) a w := by
 have H' := Holds.drops (idsL S.tm) S H
 have hA : ∀ b, ownOf C.A0 B (applyUpd S.mem ((idsL S.tm).map fun b => (b, none))) b → ownOf C.A0 B S.mem b := fun b hb => by
  rcases hb with hb | ⟨t, e, h1, h2⟩
  ·exact .inl hb
  ·obtain ⟨_, h4⟩ := drops_get (idsL S.tm) S.mem t e h1
   exact .inr ⟨t, e, h4, h2⟩
 have hT := viewL_rel H hA S.tm a.tmps.toList (rels_of_arr H.size H.tm) (fun b hb => by
  rintro ⟨t, ht, e, h1, h2⟩
  rcases hb with hb | ⟨t', e', h3, h4⟩
  ·rcases (H.old t b h2).1 with h3 | h3
   ·exact absurd (hC.a0 b hb) (Nat.not_lt.2 h3)
   ·exact hC.disj b hb h3
  ·obtain ⟨h5, h6⟩ := drops_get (idsL S.tm) S.mem t' e' h3
   exact h5 (H.inj t' t e' e b h6 h1 h4 h2 ▸ ht)) hc
 exact { H' with size := (arr_of_rels hT).1, tm := (arr_of_rels hT).2 }
def cutF (P : Program) (Γ : FuncId → Option Spec) (L : Nat → Option (St → Tr (Ex × St))) (N : Nat) (fn : Func) (c : Code) (S : St) : Tr AV := Tr.needs (viewL S.mem S.tm).2 (restRun P Γ L N fn c (frzS S))
theorem cutF_sound {C : Ctx} {fn : Func} {c : Code} (hm : P.follows .mixedOrders = true) (hΓ : ∀ f s, Γ f = some s → SpecAt C P f s) (hC : C.Ok) (hl : BlocksOk P C.k L c)
  (Q : AV → Prop) (S : St) (B : Bmap) (a : Act) (w : World) (h : (cutF P Γ L N fn c S).sat Q) (H : Holds C B S a w) : c.wp P (PostR C fun q => (finA P fn q).sat Q) a w := by
 obtain ⟨hc, h⟩ := Tr.sat_needs h
 exact wp_of_vse (exec_sound hm hΓ hC c hl _ _ _ _ _ (Tr.sat_bind h) (Holds.freeze hC H hc))
end
end Go.Vse
set_option maxRecDepth 1000000
set_option maxHeartbeats 4000000
namespace Go.Vse
open Go.Proofs
def execFzL (P : Program) (Γ : FuncId → Option Spec) (L : Nat → Option (St → Tr (Ex × St))) (N : Nat) (fn : Func) (n : Nat) (args : List AV) : Tr AV :=
 match fn.body with
 | some c => execTo P Γ noL N fn (cutF P Γ L N fn (restOf n c)) n c (start args fn.ntmps)
 | none => .fail "body"
theorem Form.fz {X : Type} (F : Form X) {val : X → AV} {pre : X → List Bool} {Γ : FuncId → Option Spec} {L : Nat → Option (St → Tr (Ex × St))} {N : Nat} {f : FuncId} {fn : Func} (n : Nat) (hΓ : ∀ f s, Γ f = some s → SpecOk Tryz.prog f s) (hl : BlocksOk Tryz.prog 0 L (codeOf fn))
   (h : ∀ x, (∀ p ∈ pre x, p = true) → (execFzL Tryz.prog Γ L N fn n (F.args x)).sat fun r => Vse.noPtr r = true ∧ Sees r (val x)) (hv : ∀ x, Vse.noPtr (val x) = true := by intro _; rfl)
   (hf : Tryz.prog.funcs[f]? = some fn := by kernel_rfl) (hb : fn.body = some (codeOf fn) := by kernel_rfl) (hn : okName fn = true := by kernel_rfl) : PureOk Tryz.prog f (F.K val pre) where
 sound := fun args v cs hk => by
   unfold Form.K at hk
   split at hk
   · rename_i x ds hx
     simp only [Option.some.injEq, Prod.mk.injEq] at hk
     obtain ⟨rfl, rfl⟩ := hk
     refine ⟨hv x, fun A w vs hA hc hargs => ?_⟩
     have hsees := F.ok args x ds hx fun p hp => hc p (by simp [hp])
     have hs := h x fun p hp => hc p (by simp [hp])
     unfold execFzL at hs
     rw [hb] at hs
     refine CallsTo.enter hf ⟨callFunc_enter hf hb hn _ _, (calls_of_post hf hb (Q := fun r => Sees r (val x)) hA (hsees.rels hargs) fun C a hC hk H => ?_).mono ?_⟩
     · exact execTo_sound prog_mixed (specsAt hΓ C) hC n _ (by rw [hk]; exact blocksOk_none 0 _) (fun Q S B a w hq H => cutF_sound prog_mixed (specsAt hΓ C) hC (by rw [hk]; exact restOf_blocks n _ hl) Q S B a w hq H) _ _ _ _ _ hs H
     · rintro e w' ⟨r, u, hsee, _, rfl, hrel, hb⟩
       exact ⟨u, rfl, hsee _ _ _ _ hrel, hb⟩
   · cases hk
end Go.Vse
set_option maxRecDepth 1000000
set_option maxHeartbeats 4000000
namespace Go.Vse
open Go.Proofs
def stk (w : Nat) : List (List IV) → Nat → (Nat → List IV) → (Nat → List IV)
 | [], _, e => e
 | r :: l, n, e => stk w l (n + 1) (joinE n e fun k => (r.drop (k * w)).take w)
def inR (k : Nat) : AV := .c (.sl k 20 (stk 20 (insK k) 0 fun _ => []))
def stF (P : List P2) (W : List Cl) (U S : List Rg) (i : Nat) : Raw :=
 ([.ptr 0 0, slN 36 (rowsL W), slN 22 (rowsR U), inR W.length, slN 22 (rowsR S), slN 4 (momK W.length), intA .i64 i], [some (.cells [eP2.sl P, nilA] 35)])
def nF : Norm := { nt := 156, live := [7, 8, 9, 10, 13, 14, 15] }
def nF' : Norm := { nt := 156, live := [] }
def lF (res : Raw → Raw) (pre : Raw → Bool) : LoopSt Raw Raw := lpW nF nF' res pre
noncomputable def rdF (P : List P2) (W : List Cl) (U S : List Rg) (i : Nat) : RQ :=
 match (mosK W.length)[i]? with
 | some (j, t) =>
  let pg : AV := .agg [eP2.sl P, nilA]
  call KRn [ringA (U.getD j (0, noE)), aggI t] fun a => call KRn [ringA (S.getD j (0, noE)), aggI t] fun b => call KPl [.agg ((W.getD j []).map .c), aggI t] fun v => call KTr [pg, v] fun tr => call KSp [pgV a, tr] fun x => bif !asB x then none else
  call KSp [pgV b, pg] fun y => bif !asB y then none else call KAr [pgV a] fun c => call KAr [pg] fun d => bif !eqAr c d then none else some (.inl (stF P W U S (i + 1)))
 | none => some (.inr ([], []))
noncomputable def stepF (res : Raw → Raw) (pre : Raw → Bool) (x : Raw) : Tr (Raw ⊕ Raw) := (exec Tryz.prog (Γ3 Tryz.prog) noL 70 (loopOf 2 (codeOf Tryz.f3)) (mkSt (lF res pre).nIn ((lF res pre).head x))).bind ((lF res pre).fin 0 2)
end Go.Vse
set_option maxRecDepth 1000000
set_option maxHeartbeats 4000000
namespace Go.Vse
open Go.Proofs
theorem rdF_1 (res : Raw → Raw) (pre : Raw → Bool) (P : List P2) (f0 : Nat → Bool) (g0 : Nat → ByteArray) (u0 s0 : Rg) (i : Nat) (hi : i = 0 ∨ i = 1 ∨ i = 2 ∨ i = 3) : (stepF res pre (stF P [cfg f0 g0] [u0] [s0] i)).run = rdF P [cfg f0 g0] [u0] [s0] i := by
 rcases hi with rfl | rfl | rfl | rfl
 ·as_aux_lemma => kernel_rfl
 ·as_aux_lemma => kernel_rfl
 ·as_aux_lemma => kernel_rfl
 ·as_aux_lemma => kernel_rfl
theorem rdF_2 (res : Raw → Raw) (pre : Raw → Bool) (P : List P2) (f0 : Nat → Bool) (g0 : Nat → ByteArray) (f1 : Nat → Bool) (g1 : Nat → ByteArray) (u0 s0 u1 s1 : Rg) (i : Nat) (hi : i = 0 ∨ i = 1 ∨ i = 2 ∨ i = 3 ∨ i = 4 ∨ i = 5) : (stepF res pre (stF P [cfg f0 g0, cfg f1 g1] [u0, u1] [s0, s1] i)).run = rdF P [cfg f0 g0, cfg f1 g1] [u0, u1] [s0, s1] i := by
 rcases hi with rfl | rfl | rfl | rfl | rfl | rfl
 ·as_aux_lemma => kernel_rfl
 ·as_aux_lemma => kernel_rfl
 ·as_aux_lemma => kernel_rfl
 ·as_aux_lemma => kernel_rfl
 ·as_aux_lemma => kernel_rfl
 ·as_aux_lemma => kernel_rfl
end Go.Vse
set_option maxRecDepth 1000000
set_option maxHeartbeats 4000000
namespace Go.Vse
open Go.Proofs
theorem rdF_3a (res : Raw → Raw) (pre : Raw → Bool) (P : List P2) (f0 : Nat → Bool) (g0 : Nat → ByteArray) (f1 : Nat → Bool) (g1 : Nat → ByteArray) (f2 : Nat → Bool) (g2 : Nat → ByteArray) (u0 s0 u1 s1 u2 s2 : Rg) (i : Nat) (hi : i = 0 ∨ i = 1 ∨ i = 2 ∨ i = 3 ∨ i = 4) : (stepF res pre (stF P [cfg f0 g0, cfg f1 g1, cfg f2 g2] [u0, u1, u2] [s0, s1, s2] i)).run = rdF P [cfg f0 g0, cfg f1 g1, cfg f2 g2] [u0, u1, u2] [s0, s1, s2] i := by
 rcases hi with rfl | rfl | rfl | rfl | rfl
 ·as_aux_lemma => kernel_rfl
 ·as_aux_lemma => kernel_rfl
 ·as_aux_lemma => kernel_rfl
 ·as_aux_lemma => kernel_rfl
 ·as_aux_lemma => kernel_rfl
end Go.Vse
set_option maxRecDepth 1000000
set_option maxHeartbeats 4000000
namespace Go.Vse
open Go.Proofs
theorem rdF_3b (res : Raw → Raw) (pre : Raw → Bool) (P : List P2) (f0 : Nat → Bool) (g0 : Nat → ByteArray) (f1 : Nat → Bool) (g1 : Nat → ByteArray) (f2 : Nat → Bool) (g2 : Nat → ByteArray) (u0 s0 u1 s1 u2 s2 : Rg) (i : Nat) (hi : i = 5 ∨ i = 6 ∨ i = 7 ∨ i = 8) : (stepF res pre (stF P [cfg f0 g0, cfg f1 g1, cfg f2 g2] [u0, u1, u2] [s0, s1, s2] i)).run = rdF P [cfg f0 g0, cfg f1 g1, cfg f2 g2] [u0, u1, u2] [s0, s1, s2] i := by
 rcases hi with rfl | rfl | rfl | rfl
 ·as_aux_lemma => kernel_rfl
 ·as_aux_lemma => kernel_rfl
 ·as_aux_lemma => kernel_rfl
 ·as_aux_lemma => kernel_rfl
end Go.Vse
set_option maxRecDepth 1000000
set_option maxHeartbeats 4000000
namespace Go.Vse
open Go.Proofs
theorem rdF_4a (res : Raw → Raw) (pre : Raw → Bool) (P : List P2) (f0 : Nat → Bool) (g0 : Nat → ByteArray) (f1 : Nat → Bool) (g1 : Nat → ByteArray) (f2 : Nat → Bool) (g2 : Nat → ByteArray) (f3 : Nat → Bool) (g3 : Nat → ByteArray) (u0 s0 u1 s1 u2 s2 u3 s3 : Rg) (i : Nat) (hi : i = 0 ∨ i = 1 ∨ i = 2 ∨ i = 3 ∨ i = 4 ∨ i = 5) : (stepF res pre (stF P [cfg f0 g0, cfg f1 g1, cfg f2 g2, cfg f3 g3] [u0, u1, u2, u3] [s0, s1, s2, s3] i)).run = rdF P [cfg f0 g0, cfg f1 g1, cfg f2 g2, cfg f3 g3] [u0, u1, u2, u3] [s0, s1, s2, s3] i := by
 rcases hi with rfl | rfl | rfl | rfl | rfl | rfl
 ·as_aux_lemma => kernel_rfl
 ·as_aux_lemma => kernel_rfl
 ·as_aux_lemma => kernel_rfl
 ·as_aux_lemma => kernel_rfl
 ·as_aux_lemma => kernel_rfl
 ·as_aux_lemma => kernel_rfl
end Go.Vse
set_option maxRecDepth 1000000
set_option maxHeartbeats 4000000
namespace Go.Vse
open Go.Proofs
theorem rdF_4b (res : Raw → Raw) (pre : Raw → Bool) (P : List P2) (f0 : Nat → Bool) (g0 : Nat → ByteArray) (f1 : Nat → Bool) (g1 : Nat → ByteArray) (f2 : Nat → Bool) (g2 : Nat → ByteArray) (f3 : Nat → Bool) (g3 : Nat → ByteArray) (u0 s0 u1 s1 u2 s2 u3 s3 : Rg) (i : Nat) (hi : i = 6 ∨ i = 7 ∨ i = 8 ∨ i = 9 ∨ i = 10) : (stepF res pre (stF P [cfg f0 g0, cfg f1 g1, cfg f2 g2, cfg f3 g3] [u0, u1, u2, u3] [s0, s1, s2, s3] i)).run = rdF P [cfg f0 g0, cfg f1 g1, cfg f2 g2, cfg f3 g3] [u0, u1, u2, u3] [s0, s1, s2, s3] i := by
 rcases hi with rfl | rfl | rfl | rfl | rfl
 ·as_aux_lemma => kernel_rfl
 ·as_aux_lemma => kernel_rfl
 ·as_aux_lemma => kernel_rfl
 ·as_aux_lemma => kernel_rfl
 ·as_aux_lemma => kernel_rfl
end Go.Vse
set_option maxRecDepth 1000000
set_option maxHeartbeats 4000000
namespace Go.Vse
open Go.Proofs
theorem len1 {α : Type} {l : List α} (h : l.length = 1) : ∃ a, l = [a] := by
 rcases l with _ | ⟨a, _ | ⟨b, l⟩⟩ <;> simp at h
 exact ⟨a, rfl⟩
theorem len2 {α : Type} {l : List α} (h : l.length = 2) : ∃ a b, l = [a, b] := by
 rcases l with _ | ⟨a, _ | ⟨b, _ | ⟨c, l⟩⟩⟩ <;> simp at h
 exact ⟨a, b, rfl⟩
theorem len3 {α : Type} {l : List α} (h : l.length = 3) : ∃ a b c, l = [a, b, c] := by
 rcases l with _ | ⟨a, _ | ⟨b, _ | ⟨c, _ | ⟨d, l⟩⟩⟩⟩ <;> simp at h
 exact ⟨a, b, c, rfl⟩
theorem len4 {α : Type} {l : List α} (h : l.length = 4) : ∃ a b c d, l = [a, b, c, d] := by
 rcases l with _ | ⟨a, _ | ⟨b, _ | ⟨c, _ | ⟨d, _ | ⟨e, l⟩⟩⟩⟩⟩ <;> simp at h
 exact ⟨a, b, c, d, rfl⟩
theorem rdF_eq (res : Raw → Raw) (pre : Raw → Bool) (P : List P2) : ∀ (W : List Cl), 0 < W.length → W.length ≤ 4 → c16 W = true → ∀ (U S : List Rg), U.length = W.length → S.length = W.length → ∀ i, i ≤ (mosK W.length).length →
  (stepF res pre (stF P W U S i)).run = rdF P W U S i := by
 refine byCells ?_ ?_ ?_ ?_
 ·intro f g U S hU hS i hi
  have hi : i ≤ 3 := Nat.le_trans hi (Nat.le_of_eq (by kernel_rfl))
  obtain ⟨u, rfl⟩ := len1 hU
  obtain ⟨s, rfl⟩ := len1 hS
  exact rdF_1 res pre P f g u s i (by omega)
 ·intro f g f' g' U S hU hS i hi
  have hi : i ≤ 5 := Nat.le_trans hi (Nat.le_of_eq (by kernel_rfl))
  obtain ⟨u, u', rfl⟩ := len2 hU
  obtain ⟨s, s', rfl⟩ := len2 hS
  exact rdF_2 res pre P f g f' g' u s u' s' i (by omega)
 ·intro f g f' g' f2 g2 U S hU hS i hi
  have hi : i ≤ 8 := Nat.le_trans hi (Nat.le_of_eq (by kernel_rfl))
  obtain ⟨u, u', u2, rfl⟩ := len3 hU
  obtain ⟨s, s', s2, rfl⟩ := len3 hS
  by_cases h : i < 5
  ·exact rdF_3a res pre P f g f' g' f2 g2 u s u' s' u2 s2 i (by omega)
  ·exact rdF_3b res pre P f g f' g' f2 g2 u s u' s' u2 s2 i (by omega)
 ·intro f g f' g' f2 g2 f3 g3 U S hU hS i hi
  have hi : i ≤ 10 := Nat.le_trans hi (Nat.le_of_eq (by kernel_rfl))
  obtain ⟨u, u', u2, u3, rfl⟩ := len4 hU
  obtain ⟨s, s', s2, s3, rfl⟩ := len4 hS
  by_cases h : i < 6
  ·exact rdF_4a res pre P f g f' g' f2 g2 f3 g3 u s u' s' u2 s2 u3 s3 i (by omega)
  ·exact rdF_4b res pre P f g f' g' f2 g2 f3 g3 u s u' s' u2 s2 u3 s3 i (by omega)
structure AllF (P : List P2) (W : List Cl) (U S : List Rg) : Prop where
 h0 : 0 < W.length
 hl : W.length ≤ 4
 hc : c16 W = true
 hU : U.length = W.length
 hS : S.length = W.length
 rd : ∀ i, i < (mosK W.length).length → rdF P W U S i = some (.inl (stF P W U S (i + 1)))
open Classical in
noncomputable def preF (P : List P2) (W : List Cl) (U S : List Rg) (q : Raw) : Bool := decide (q = stF P W U S 0 ∧ AllF P W U S)
theorem preF_iff {P : List P2} {W : List Cl} {U S : List Rg} {q : Raw} : preF P W U S q = true ↔ q = stF P W U S 0 ∧ AllF P W U S := by unfold preF; simp only [decide_eq_true_eq]
noncomputable def lFW (P : List P2) (W : List Cl) (U S : List Rg) : LoopSt Raw Raw := lF (fun _ => ([], [])) (preF P W U S)
theorem runs_F {step : Raw → Tr (Raw ⊕ Raw)} {st : Nat → Raw} {r : Raw} {n : Nat} (hs : ∀ i, i < n → (step (st i)).run = some (.inl (st (i + 1)))) (he : (step (st n)).run = some (.inr r)) : ∀ m i, i + m = n → RunsX step (· = r) (m + 1) (st i)
 | 0, i, hi => by
   obtain rfl : i = n := by omega
   exact runsX_inr he rfl
 | m + 1, i, hi => runsX_inl (hs i (by omega)) (runs_F hs he m (i + 1) (by omega))
theorem F_loops (P : List P2) (W : List Cl) (U S : List Rg) : BlocksOk Tryz.prog 0 (oneK 0 2 (lFW P W U S)) (codeOf Tryz.f3) :=
 oneK_ok (N := 70) (lp := lFW P W U S) (step := stepF (fun _ => ([], [])) (preF P W U S)) Γ3_ok (lpW_good _ _ _ _) (fun _ => rfl) fun x hx => by
  obtain ⟨rfl, h⟩ := preF_iff.1 hx
  refine ⟨_, runs_F (st := stF P W U S) (n := (mosK W.length).length) (r := ([], [])) (fun i hi => ?_) ?_ (mosK W.length).length 0 (by omega)⟩
  ·exact (rdF_eq _ (preF P W U S) P W h.h0 h.hl h.hc U S h.hU h.hS i (by omega)).trans (h.rd i hi)
  ·refine (rdF_eq _ (preF P W U S) P W h.h0 h.hl h.hc U S h.hU h.hS _ (Nat.le_refl _)).trans ?_
   unfold rdF
   rw [List.getElem?_eq_none (Nat.le_refl _)]
noncomputable def mF (R : List Cr4) (n : Nat) (el : Nat → List IV) (l : List P2 → List Cl → List Rg → List Rg → Option AV) : Option AV :=
 let R' := eCr.list R.length (eCr.el R)
 let P := pgC R'
 let pg : AV := .agg [eP2.sl P, nilA]
 let P' := eP2.list P.length (eP2.el P)
 let W := paN n el
 let k := W.length
 let U := W.map fun c => rgO P' (vL c)
 let S := List.replicate k (rgO P' l40)
 call (tabK rows4) [] fun _ => call KPo [snA R] fun _ => call KCk [pg] fun e => bif asI e != 0 then some (boolA true) else
 call KPq [.c (.sl n 4 el)] fun _ => call KRg [pg, slN 36 (rowsL W)] fun _ => call KPn [slN 20 (insK k)] fun _ => call KSt [pg, slN 20 (insK k)] fun _ =>
 call KCh [slN 22 (rowsR U)] fun _ => call KCh [slN 22 (rowsR S)] fun _ => call KDo [slN 22 (rowsR U)] fun _ => call KDo [slN 22 (rowsR S)] fun _ => call KMo [slN 20 (insK k)] fun _ => l P W U S
noncomputable def endF (P : List P2) (W : List Cl) (U S : List Rg) : Option AV := bif preF P W U S (stF P W U S 0) then some (boolA true) else none
noncomputable def lF3 (R : List Cr4) (n : Nat) (el : Nat → List IV) : LoopSt Raw Raw :=
 let P := pgC (eCr.list R.length (eCr.el R))
 let P' := eP2.list P.length (eP2.el P)
 let W := paN n el
 lFW P W (W.map fun c => rgO P' (vL c)) (List.replicate W.length (rgO P' l40))
theorem t_0 (R : List Cr4) (el : Nat → List IV) : (execFn Tryz.prog (Γ3 Tryz.prog) noL 70 Tryz.f3 [eCr.sl R, .c (.sl 0 4 el)]).run = mF R 0 el (fun _ _ _ _ => some (boolA true)) := by kernel_rfl
end Go.Vse
set_option maxRecDepth 1000000
set_option maxHeartbeats 4000000
namespace Go.Vse
open Go.Proofs
def lnL (L : List Cr4) : List L4 := (L.take 4).zipIdx.map lnQ
theorem paN_ln (L : List Cr4) : paN L.length (eCr.el L) = (lnL L).map lineIV := by
 rw [paN_eq, eCr.list_el, paW_eq]; rfl
theorem vL_line (w : L4) : vL (lineIV w) = w := by unfold vL; rw [lineIV_cells, lineV_cells]
theorem tabC4 : Con (tabK rows4) [] (boolA true) := ⟨[], by kernel_rfl, by simp⟩
theorem sn_get (R : List Cr4) : argSn.get (snA R) = some (R, [true]) := by
 show some (eCr.list R.length (eCr.el R), [samE R.length (eCr.el R)]) = _
 rw [show samE R.length (eCr.el R) = true from samE_iff.2 (by rw [eCr.list_el]), eCr.list_el]
theorem poC {R : List Cr4} (h0 : 0 < R.length) (hR : R.all crB = true) : Con KPo [snA R] (pgA (pgC R)) := by
 refine ⟨[true] ++ [decide (0 < R.length), R.all crB], ?_, by simp [h0, hR]⟩
 have e : FSn.parse [snA R] = some ((R, ()), [true]) := by
  unfold FSn Form.cons
  dsimp only
  rw [sn_get]; rfl
 unfold KPo Form.K
 rw [e]
theorem ckP {P : List P2} (h5 : P.length ≤ 5) (hp : P.all pi = true) : Con KCk [.agg [eP2.sl P, nilA]] (intA .i64 (ckR P)) := by
 refine ⟨[true] ++ [decide (P.length ≤ 5), P.all pi], ?_, by simp only [List.cons_append, List.nil_append, List.mem_cons, List.not_mem_nil, or_false]; rintro c (rfl | rfl | rfl) <;> first | rfl | exact decide_eq_true h5 | exact hp⟩
 have e : FPo.parse [.agg [eP2.sl P, nilA]] = some ((P, ()), [true]) := by
   unfold FPo Form.cons
   dsimp only
   rw [pg_get]; rfl
 unfold KCk Form.K
 rw [e]
theorem pqC {L : List Cr4} (hL : L.all crB = true) : Con KPq [.c (.sl L.length 4 (eCr.el L))] (slN 36 (rowsL (paN L.length (eCr.el L)))) :=
 ⟨[eCr.oks L.length (eCr.el L), (eCr.list L.length (eCr.el L)).all crB], rfl, by
  rw [eCr.list_el, eCr.oks_mk, hL]; simp⟩
theorem rig_li {P : List P2} {w : L4} (hP : p1k P = true) (hw : lw w = true) (h3 : 3 ≤ P.length) (h5 : P.length ≤ 5) : (rig P w).all li = true := rig_ok hP hw h3 h5 _ (by simp [okU, okL])
theorem pg5 (R : List Cr4) : (pgC R).length ≤ 5 := by simp [pgC]; omega
theorem pgI {R : List Cr4} (hR : R.all crB = true) : (pgC R).all pi = true := List.all_eq_true.2 fun p hp => by
 have := pgC_ib hR p hp
 simp only [pi, Bool.and_eq_true]
 exact ⟨ib_mono this.1 (by decide), ib_mono this.2 (by decide)⟩
theorem pg1k {R : List Cr4} (hR : R.all crB = true) : p1k (pgC R) = true := List.all_eq_true.2 fun p hp => by
 have := pgC_ib hR p hp
 simp only [Bool.and_eq_true]
 exact ⟨ib_mono this.1 (by decide), ib_mono this.2 (by decide)⟩
theorem mF_true {R L : List Cr4} (hR : R.all crB = true) (hL : L.all crB = true) (h0 : 0 < R.length) (l : List P2 → List Cl → List Rg → List Rg → Option AV)
  (hl : smp (pgC R) = true → l (pgC R) ((lnL L).map lineIV) ((lnL L).map (rgO (pgC R))) (List.replicate (lnL L).length (rgO (pgC R) l40)) = some (boolA true)) : mF R L.length (eCr.el L) l = some (boolA true) := by
 obtain ⟨a1, a2⟩ := paW_lw hL
 change (lnL L).length ≤ 4 at a1
 change (lnL L).all lw = true at a2
 have eU : (((lnL L).map lineIV).map fun c => rgO (pgC R) (vL c)) = (lnL L).map (rgO (pgC R)) := by
  rw [List.map_map]
  exact List.map_congr_left fun w _ => by show rgO _ (vL (lineIV w)) = _; rw [vL_line]
 unfold mF
 dsimp only
 rw [eCr.list_el, eP2.list_el, tabC4.run, (poC h0 hR).run, (ckP (pg5 R) (pgI hR)).run]
 cases hs : smp (pgC R) with
 | false =>
  rw [show (asI (intA .i64 (ckR (pgC R))) != 0) = true by unfold ckR; rw [hs]; rfl, cond_true]
 | true =>
  have S := smp_simple hs
  have h3 := S.three
  have h5 := pg5 R
  have hP := pg1k hR
  have okp : ∀ c ∈ okP (pgC R), c = true := by
   simp only [okP, List.mem_cons, List.not_mem_nil, or_false]
   rintro c (rfl | rfl | rfl)
   ·exact decide_eq_true h3
   ·exact decide_eq_true h5
   ·exact hP
  have l0 : lw l40 = true := rfl
  have okr : ∀ w, lw w = true → (∀ c ∈ okR1 (rgO (pgC R) w), c = true) ∧ goodB (rgU (rgO (pgC R) w)) = true := fun w hw => ⟨okR_O hP hw h3 h5, by rw [rgU_O]; exact rig_good S w⟩
  have okU' : ∀ r ∈ (lnL L).map (rgO (pgC R)), (∀ c ∈ okR1 r, c = true) ∧ goodB (rgU r) = true := fun r hr => by
   obtain ⟨w, hw, rfl⟩ := List.mem_map.1 hr
   exact okr w (List.all_eq_true.1 a2 w hw)
  have okS : ∀ r ∈ List.replicate (lnL L).length (rgO (pgC R) l40), (∀ c ∈ okR1 r, c = true) ∧ goodB (rgU r) = true := fun r hr => by
   rw [List.eq_of_mem_replicate hr]
   exact okr l40 l0
  rw [show (asI (intA .i64 (ckR (pgC R))) != 0) = false by unfold ckR; rw [hs]; rfl, cond_false, (pqC hL).run, paN_ln, eU, List.length_map]
  rw [(rgC okp (okW_of a1 a2)).run, (pnC a1).run, (stC' a1 okp).run, (chC (by simpa using a1) okU').run, (chC (by simpa using a1) okS).run, (doC (by simpa using a1)).run, (doC (by simpa using a1)).run, (moC a1).run]
  exact hl hs
theorem mom_get {k i : Nat} (hi : i < (mosK k).length) (hk : k ≤ 4) : ∃ j t q, (mosK k)[i]? = some (j, t) ∧ j < k ∧ aggI t = ratA q ∧ Bnd 14 2 q := by
 have hm := List.getElem_mem hi
 obtain ⟨h1, h2⟩ := mos_mem (k := k) (j := (mosK k)[i].1) (t := (mosK k)[i].2) hm
 have := List.all_eq_true.1 (mom_ok _ (show (mosK k)[i].1 < 4 by omega)) _ h2
 simp only [Bool.and_eq_true] at this
 refine ⟨_, _, ratV ((mosK k)[i].2.map .c), List.getElem?_eq_getElem hi, h1, ?_, bndB_iff.1 this.2⟩
 show AV.agg ((mosK k)[i].2.map .c) = .agg (ratCells _)
 rw [← ratOk_eq this.1]
theorem lnL_get {L : List Cr4} {j : Nat} (h : j < (lnL L).length) : ∃ c ∈ L, j < 4 ∧ (lnL L)[j] = lnC c ((2 * j : Nat) : Int) := by
 unfold lnL at h ⊢
 simp only [List.length_map, List.length_zipIdx, List.length_take] at h
 refine ⟨L[j], List.getElem_mem _, by omega, ?_⟩
 simp [lnQ]
theorem endF_true {R L : List Cr4} (hR : R.all crB = true) (hL : L.all crB = true) (hL0 : 0 < L.length) (hs : smp (pgC R) = true) :
  endF (pgC R) ((lnL L).map lineIV) ((lnL L).map (rgO (pgC R))) (List.replicate (lnL L).length (rgO (pgC R) l40)) = some (boolA true) := by
 obtain ⟨a1, a2⟩ := paW_lw hL
 change (lnL L).length ≤ 4 at a1
 change (lnL L).all lw = true at a2
 have S := smp_simple hs
 have h3 := S.three
 have h5 := pg5 R
 have hP := pg1k hR
 have n0 : 0 < (lnL L).length := by unfold lnL; simp; omega
 unfold endF
 rw [preF_iff.2 ⟨rfl, ?_⟩, cond_true]
 refine ⟨by simpa using n0, by simpa using a1, ?_, by simp, by simp, fun i hi => ?_⟩
 ·exact okW_of a1 a2 _ (by simp [okW])
 ·rw [List.length_map] at hi
  obtain ⟨j, t, q, e1, hj, e2, hq⟩ := mom_get hi a1
  obtain ⟨c, hc, hj4, ew⟩ := lnL_get hj
  have hw := List.all_eq_true.1 a2 _ (List.getElem_mem hj)
  have hb := lnC_pb (List.all_eq_true.1 hL c hc) (a := 2 * j) (by omega) hq
  unfold rdF
  rw [List.length_map, e1]
  dsimp only
  rw [show ((lnL L).map (rgO (pgC R))).getD j (0, noE) = rgO (pgC R) (lnL L)[j] by simp [List.getD_eq_getElem?_getD, hj],
   show (List.replicate (lnL L).length (rgO (pgC R) l40)).getD j (0, noE) = rgO (pgC R) l40 by simp [List.getD_eq_getElem?_getD, hj],
   show ((lnL L).map lineIV).getD j [] = lineIV (lnL L)[j] by simp [List.getD_eq_getElem?_getD, hj], lineIV_cells, e2]
  exact mo_round (P := pgC R) (w := (lnL L)[j]) (q := q) ⟨h3, h5, hq, lw_li hw, rig_li hP hw h3 h5, rig_li hP rfl h3 h5, by rw [ew]; exact hb, pgC_ib hR⟩ _
end Go.Vse
set_option maxRecDepth 1000000
set_option maxHeartbeats 4000000
namespace Go.Vse
open Go.Proofs
noncomputable def Γ0 (P : Program) : FuncId → Option Spec := inlΓ P (gOr [(4, tabK rows4)] Γv) msU 70 20
theorem Γ0_ok : ∀ f s, Γ0 Tryz.prog f = some s → SpecOk Tryz.prog f s := inlΓ_ok prog_mixed (gOr_ok (okCons tab4_ok okNil) Γv_ok) 20
theorem t_E (e : Nat → List IV) (n : Nat) (el : Nat → List IV) : (execFn Tryz.prog (Γ0 Tryz.prog) noL 70 Tryz.f3 [.c (.sl 0 4 e), .c (.sl n 4 el)]).run = call (tabK rows4) [] fun _ => some (boolA true) := by kernel_rfl
end Go.Vse
set_option maxRecDepth 1000000
set_option maxHeartbeats 4000000
namespace Go.Vse
open Go.Proofs
theorem tL_1 (R : List Cr4) (el : Nat → List IV) : (execFzL Tryz.prog (Γ3 Tryz.prog) (oneK 0 2 (lF3 R 1 el)) 70 Tryz.f3 9 [eCr.sl R, .c (.sl 1 4 el)]).run = mF R 1 el endF := by kernel_rfl
end Go.Vse
set_option maxRecDepth 1000000
set_option maxHeartbeats 4000000
namespace Go.Vse
open Go.Proofs
theorem tL_2 (R : List Cr4) (el : Nat → List IV) : (execFzL Tryz.prog (Γ3 Tryz.prog) (oneK 0 2 (lF3 R 2 el)) 70 Tryz.f3 9 [eCr.sl R, .c (.sl 2 4 el)]).run = mF R 2 el endF := by kernel_rfl
end Go.Vse
set_option maxRecDepth 1000000
set_option maxHeartbeats 4000000
namespace Go.Vse
open Go.Proofs
theorem tL_3 (R : List Cr4) (el : Nat → List IV) : (execFzL Tryz.prog (Γ3 Tryz.prog) (oneK 0 2 (lF3 R 3 el)) 70 Tryz.f3 9 [eCr.sl R, .c (.sl 3 4 el)]).run = mF R 3 el endF := by kernel_rfl
end Go.Vse
set_option maxRecDepth 1000000
set_option maxHeartbeats 4000000
namespace Go.Vse
open Go.Proofs
theorem tL_4 (R : List Cr4) (m : Nat) (el : Nat → List IV) : (execFzL Tryz.prog (Γ3 Tryz.prog) (oneK 0 2 (lF3 R (m + 4) el)) 70 Tryz.f3 9 [eCr.sl R, .c (.sl (m + 4) 4 el)]).run = mF R (m + 4) el endF := by kernel_rfl
end Go.Vse
set_option maxRecDepth 1000000
set_option maxHeartbeats 4000000
namespace Go.Vse
open Go.Proofs
theorem run_sees {T : Tr AV} {v : AV} (h : T.run = some v) (hv : Vse.noPtr v = true) : T.sat fun r => Vse.noPtr r = true ∧ Sees r v := Tr.sat_mono (fun r hr => ⟨by rw [hr]; exact hv, Sees.of_eq hr⟩) (Tr.run_sat h)
abbrev FRd := Form.cons eCr.arg (Form.cons eCr.arg Form.nil)
noncomputable def KRd3 : KF := FRd.K (fun _ => boolA true) fun x => [x.1.all crB, x.2.1.all crB]
theorem rd_at {R L : List Cr4} {Q : (List Cr4 × List Cr4 × Unit) → Prop} (h : R.all crB = true → L.all crB = true → Q (R, L, ())) (x : List Cr4 × List Cr4 × Unit) {b : Bool} (hb : b = true → (x.1, x.2.1) = (R, L)) (hx : ∀ p ∈ [x.1.all crB, x.2.1.all crB] ++ [b], p = true) : Q x := by
 obtain ⟨R', L', ⟨⟩⟩ := x
 have := hb (hx b (by simp))
 simp only [Prod.mk.injEq] at this
 obtain ⟨rfl, rfl⟩ := this
 exact h (hx _ (by simp)) (hx _ (by simp))
theorem rd_args (R L : List Cr4) : FRd.args (R, L, ()) = [eCr.sl R, eCr.sl L] := rfl
theorem rd_sl (R : List Cr4) : eCr.sl R = .c (.sl R.length 4 (eCr.el R)) := rfl
theorem rd_E (L : List Cr4) : (execFn Tryz.prog (Γ0 Tryz.prog) noL 70 Tryz.f3 (FRd.args (([] : List Cr4), L, ()))).run = some (boolA true) := by
 rw [rd_args, rd_sl, rd_sl]
 exact (t_E (eCr.el []) L.length (eCr.el L)).trans (tabC4.run _)
theorem rd_0 {R : List Cr4} (h0 : 0 < R.length) (hR : R.all crB = true) (hL : ([] : List Cr4).all crB = true) : (execFn Tryz.prog (Γ3 Tryz.prog) noL 70 Tryz.f3 (FRd.args (R, ([] : List Cr4), ()))).run = some (boolA true) := by
 rw [rd_args, rd_sl []]
 exact (t_0 R (eCr.el [])).trans (mF_true (L := []) hR hL h0 _ fun _ => rfl)
theorem rd_N {R L : List Cr4} (h0 : 0 < R.length) (hL0 : 0 < L.length) (ht : (execFzL Tryz.prog (Γ3 Tryz.prog) (oneK 0 2 (lF3 R L.length (eCr.el L))) 70 Tryz.f3 9 [eCr.sl R, .c (.sl L.length 4 (eCr.el L))]).run = mF R L.length (eCr.el L) endF) (hR : R.all crB = true) (hL : L.all crB = true) :
  (execFzL Tryz.prog (Γ3 Tryz.prog) (oneK 0 2 (lF3 R L.length (eCr.el L))) 70 Tryz.f3 9 (FRd.args (R, L, ()))).run = some (boolA true) := by
 rw [rd_args, rd_sl L]
 exact ht.trans (mF_true hR hL h0 _ fun hs => endF_true hR hL hL0 hs)
abbrev rd_pre (o : (List Cr4 × List Cr4 × Unit) → Bool) (x : List Cr4 × List Cr4 × Unit) : List Bool := [x.1.all crB, x.2.1.all crB] ++ [o x]
theorem f3_E {L : List Cr4} {o : (List Cr4 × List Cr4 × Unit) → Bool} (ho : ∀ x, o x = true → (x.1, x.2.1) = ([], L)) : PureOk Tryz.prog 3 (FRd.K (fun _ => boolA true) (rd_pre o)) :=
 Form.rk FRd (val := fun _ => boolA true) (pre := rd_pre o) (fun _ => some (boolA true)) Γ0_ok (N := 70) (fn := Tryz.f3) (fun x hx => rd_at (R := []) (L := L) (Q := fun x => (execFn Tryz.prog (Γ0 Tryz.prog) noL 70 Tryz.f3 (FRd.args x)).run = some (boolA true)) (fun _ _ => rd_E L) x (ho x) hx) (fun _ _ => rfl)
theorem f3_0 {R : List Cr4} (h0 : 0 < R.length) {o : (List Cr4 × List Cr4 × Unit) → Bool} (ho : ∀ x, o x = true → (x.1, x.2.1) = (R, [])) : PureOk Tryz.prog 3 (FRd.K (fun _ => boolA true) (rd_pre o)) :=
 Form.rk FRd (val := fun _ => boolA true) (pre := rd_pre o) (fun _ => some (boolA true)) Γ3_ok (N := 70) (fn := Tryz.f3) (fun x hx => rd_at (R := R) (L := []) (Q := fun x => (execFn Tryz.prog (Γ3 Tryz.prog) noL 70 Tryz.f3 (FRd.args x)).run = some (boolA true)) (fun hR hL => rd_0 h0 hR hL) x (ho x) hx) (fun _ _ => rfl)
theorem f3_n {R L : List Cr4} (h0 : 0 < R.length) (hL0 : 0 < L.length) (ht : (execFzL Tryz.prog (Γ3 Tryz.prog) (oneK 0 2 (lF3 R L.length (eCr.el L))) 70 Tryz.f3 9 [eCr.sl R, .c (.sl L.length 4 (eCr.el L))]).run = mF R L.length (eCr.el L) endF)
  {o : (List Cr4 × List Cr4 × Unit) → Bool} (ho : ∀ x, o x = true → (x.1, x.2.1) = (R, L)) : PureOk Tryz.prog 3 (FRd.K (fun _ => boolA true) (rd_pre o)) :=
 Form.fz FRd (val := fun _ => boolA true) (pre := rd_pre o) (L := oneK 0 2 (lF3 R L.length (eCr.el L))) (N := 70) (fn := Tryz.f3) 9 Γ3_ok (F_loops _ _ _ _) fun x hx => by
  have key : (execFzL Tryz.prog (Γ3 Tryz.prog) (oneK 0 2 (lF3 R L.length (eCr.el L))) 70 Tryz.f3 9 (FRd.args x)).run = some (boolA true) := rd_at (R := R) (L := L) (Q := fun x => (execFzL Tryz.prog (Γ3 Tryz.prog) (oneK 0 2 (lF3 R L.length (eCr.el L))) 70 Tryz.f3 9 (FRd.args x)).run = some (boolA true)) (fun hR hL => rd_N h0 hL0 ht hR hL) x (ho x) hx
  revert key
  generalize execFzL Tryz.prog (Γ3 Tryz.prog) (oneK 0 2 (lF3 R L.length (eCr.el L))) 70 Tryz.f3 9 (FRd.args x) = T
  intro key
  exact run_sees key rfl
theorem rd_any {R L : List Cr4} {o : (List Cr4 × List Cr4 × Unit) → Bool} (ho : ∀ x, o x = true → (x.1, x.2.1) = (R, L)) : PureOk Tryz.prog 3 (FRd.K (fun _ => boolA true) (rd_pre o)) := by
 by_cases hR : R = []
 ·subst hR; exact f3_E ho
 ·have h0 : 0 < R.length := List.length_pos_iff.2 hR
  match hm : L.length with
  | 0 =>
   obtain rfl := List.length_eq_zero_iff.1 hm
   exact f3_0 h0 ho
  | 1 => exact f3_n (R := R) (L := L) h0 (by omega) (by rw [hm]; exact tL_1 R (eCr.el L)) ho
  | 2 => exact f3_n (R := R) (L := L) h0 (by omega) (by rw [hm]; exact tL_2 R (eCr.el L)) ho
  | 3 => exact f3_n (R := R) (L := L) h0 (by omega) (by rw [hm]; exact tL_3 R (eCr.el L)) ho
  | m + 4 => exact f3_n (R := R) (L := L) h0 (by omega) (by rw [hm]; exact tL_4 R m (eCr.el L)) ho
open Classical in
theorem f3_ok : PureOk Tryz.prog 3 KRd3 :=
 Form.orc (F := FRd) (val := fun _ => boolA true) (pre := fun x => [x.1.all crB, x.2.1.all crB]) (B := List Cr4 × List Cr4) (fun x => (x.1, x.2.1)) fun b =>
  rd_any (R := b.1) (L := b.2) (o := fun x => decide ((x.1, x.2.1) = b)) fun x h => of_decide_eq_true h
end Go.Vse
set_option maxRecDepth 100000
namespace Go.Vse
open Go.Proofs Go.RowKit
def intV : Value → Int
 | .int _ n => n
 | _ => 0
theorem cellD_is {w : World} {a : Addr} {v : Value} (h : w.cell? a = some v) : cellD w a = v := by simp [cellD, h]
def cornerAt (W : World) (b off i : Nat) : Cr4 := ⟨intV (cellD W ⟨b, off + (i * 4 + 0), none⟩), intV (cellD W ⟨b, off + (i * 4 + 1), none⟩), intV (cellD W ⟨b, off + (i * 4 + 2), none⟩), intV (cellD W ⟨b, off + (i * 4 + 3), none⟩)⟩
theorem corners_of_cells {W : World} {b off len cap : Nat} (hb : b < W.heap.size) (hc : len ≤ cap)
  (h : ∀ i, i < len → ∀ j, j < 4 → ∃ n, W.cell? ⟨b, off + (i * 4 + j), none⟩ = some (.int .i8 n) ∧ -128 ≤ n ∧ n ≤ 127) :
  ∃ C : List Cr4, C.all crB = true ∧ IRel (fun _ => False) W (.sl C.length 4 (eCr.el C)) (.slice (some ⟨b, off, none⟩) len cap) := by
 have hlen : ((List.range len).map (cornerAt W b off)).length = len := by simp
 have hel : ∀ k, k < len → eCr.el ((List.range len).map (cornerAt W b off)) k = eCr.iv (cornerAt W b off k) := by
  intro k hk
  unfold Elt.el
  congr 1
  simp [List.getD_eq_getElem?_getD, hk]
 refine ⟨(List.range len).map (cornerAt W b off), List.all_eq_true.2 fun r hr => ?_, ?_⟩
 ·obtain ⟨i, hi, rfl⟩ := List.mem_map.1 hr
  have h1 := h i (List.mem_range.1 hi)
  have g : ∀ j, j < 4 → -128 ≤ intV (cellD W ⟨b, off + (i * 4 + j), none⟩) ∧ intV (cellD W ⟨b, off + (i * 4 + j), none⟩) ≤ 127 := fun j hj => by
   obtain ⟨n, hn, hrn⟩ := h1 j hj
   rw [cellD_is hn]; exact hrn
  unfold crB cornerAt
  rw [decide_eq_true (g 0 (by omega)), decide_eq_true (g 1 (by omega)), decide_eq_true (g 2 (by omega)), decide_eq_true (g 3 (by omega))]
  rfl
 ·rw [hlen]
  refine .sl len 4 _ b off cap (fun h => h) hb hc (fun k hk => by rw [hel k hk]; rfl) (fun k j hk hj => ?_) (fun k j hk hj => ?_)
  ·obtain ⟨n, hn, _⟩ := h k hk j hj
   exact ⟨by rw [hn]; rfl, by rw [cellD_is hn]; rfl⟩
  ·rw [hel k hk]
   have key : ∀ j, j < 4 → IRel (fun _ => False) W (.v (.int .i8 (intV (cellD W ⟨b, off + (k * 4 + j), none⟩)))) (cellD W ⟨b, off + (k * 4 + j), none⟩) := fun j hj => by
    obtain ⟨n, hn, _⟩ := h k hk j hj
    rw [cellD_is hn]
    exact .v _
   rcases (show j = 0 ∨ j = 1 ∨ j = 2 ∨ j = 3 by omega) with rfl | rfl | rfl | rfl
   ·exact key 0 (by omega)
   ·exact key 1 (by omega)
   ·exact key 2 (by omega)
   ·exact key 3 (by omega)
theorem f3_calls {R L : List Cr4} (hR : R.all crB = true) (hL : L.all crB = true) (W : World) {v0 v1 : Value} (h0 : IRel (fun _ => False) W (.sl R.length 4 (eCr.el R)) v0) (h1 : IRel (fun _ => False) W (.sl L.length 4 (eCr.el L)) v1) :
  Calls Tryz.prog 3 #[v0, v1] W fun e w' => e = .returned (.bool true) ∧ Below W.heap.size W w' := by
 have hk : KRd3 [eCr.sl R, eCr.sl L] = some (boolA true, [eCr.oks R.length (eCr.el R), eCr.oks L.length (eCr.el L), (eCr.list R.length (eCr.el R)).all crB, (eCr.list L.length (eCr.el L)).all crB]) := rfl
 have hs := (f3_ok.sound _ _ _ hk).2 (fun _ => False) W [v0, v1] (fun b h => h.elim) (by
  intro p hp
  simp only [List.mem_cons, List.not_mem_nil, or_false, eCr.list_el, eCr.oks_mk] at hp
  rcases hp with rfl | rfl | rfl | rfl
  ·rfl
  ·rfl
  ·exact hR
  ·exact hL) (Rels.cons (.c _ _ h0) (Rels.cons (.c _ _ h1) .nil))
 have henter := callFunc_enter (P := Tryz.prog) (f := 3) (fn := Tryz.f3) (c := codeOf Tryz.f3) (by kernel_rfl) (by kernel_rfl) (by kernel_rfl) #[v0, v1] W
 rcases hs with ⟨_, ⟨_, hcalls⟩ | ⟨v, w', hval, _⟩⟩ | ⟨hy, _⟩
 ·refine hcalls.mono ?_
  rintro e w' ⟨u, rfl, hr, hb⟩
  rw [show u = .bool true from hr.plain]
  exact ⟨rfl, hb⟩
 ·have e2 : (callFunc 3 #[v0, v1]).run Tryz.prog W = .ok (.value v) w' := hval
  rw [henter] at e2
  cases e2
 ·exact absurd hy (by decide)
end Go.Vse
namespace Go.Proofs.YtahaekeikoibmaaGreatDoor
open Go Go.ChangeShapes Go.WideShapes Go.ChangeAt Go.WideMaps Go.WideElems Go.RowKit
section
variable {H : Type} {enc : TypeId × Value → H} {P : Program}
theorem closing {f : Func} {s : ChangeSpec} {apart fresh handsOn again : Bool} {W W' : World} {args : Array Value} {v : Value} {ds gs : List (DataW H)} {before pa pv : List MemPlace}
   (hW : DataW.Whole enc P f.params.toList s.vars apart W args.toList ds gs before)
   (hres : ∀ (b : Nat) (sp : Nat → Bool) (hd : Bool), DataW.TrodAll enc P W' b sp hd f.resultTypes.toList (v.resultList f.resultTypes.size) (s.fn H (ds ++ gs)).results [])
   (hargs : ∀ sp : Nat → Bool, (∀ p ∈ before, sp p.block = true) → DataW.TrodAll enc P W' 0 sp true f.params.toList args.toList (s.fn H (ds ++ gs)).args pa)
   (hvars : ∀ sp : Nat → Bool, (∀ p ∈ before, sp p.block = true) → DataW.TrodVars enc P W' sp s.vars (s.fn H (ds ++ gs)).vars pv)
   (hps : before = pa ++ pv) (hb : Below W.heap.size W W')
   (hok : ∀ (j : Nat) (t : TypeId) (r : Value), f.resultTypes[j]? = some t → (v.resultList f.resultTypes.size)[j]? = some r → Value.okWide P W' .any 0 t r) :
   s.post enc P f apart fresh handsOn again W args v W' := by
 have hlt : ∀ p ∈ before, p.block < W.heap.size := fun p hp => hW.lt p hp
 have hold : ∀ p ∈ before, (fun b => decide (b < W.heap.size)) p.block = true := fun p hp => by simpa using hlt p hp
 refine ⟨ds, gs, before, [], pa, pv, hW, hres _ _ _, hargs _ hold, hvars _ hold, World.keptBut_mono (fun p hp => ⟨hp, ?_⟩) (hb.frame (· ∈ before)), fun _ => ?_⟩
 · rw [hps, List.mem_append] at hp
   exact Or.inr hp
 · obtain ⟨_, _, _, _, _, hz, hn⟩ := hW
   refine ⟨hok, _, _, ([] ++ pa) ++ pv, ⟨[] ++ pa, pv, trodAll_append (hargs _ (fun _ _ => rfl)) (hres _ _ _), hvars _ (fun _ _ => rfl), rfl, ?_, ?_⟩, ?_⟩
   · intro b off hp
     have hin : MemPlace.cell b off ∈ before := by rw [hps]; simpa using hp
     rw [hb.frozen (hlt _ hin)]
     exact hz b off hin
   · intro ha
     have := hn ha
     rw [hps] at this
     simpa using this
   · intro p hp _
     rw [hps]
     simpa using hp
end
theorem own : ownKnob Tryz.prog.godebug = none := by kernel_rfl
abbrev laids : List (String × DataW Unit) := Rows.movingregionRigidRow.laid
theorem laid_met (os : Os) (args : Array Value) : laidMetH Tryz.prog laids ((World.laidAll Tryz.prog os laids).forCall (fun _ _ => 0) ⟨#[], args, []⟩).memory := by
 rw [MakeChecks.laidMetH_plain _ _ _ (by kernel_rfl)]
 exact laidMet_laidAll _ (by kernel_rfl) (by kernel_rfl)
theorem u59 : Tryz.prog.underlying 80 = some (.int .i8) := by kernel_rfl
theorem u3 : Tryz.prog.underlying 3 = some (.int .i64) := by kernel_rfl
theorem u4 : Tryz.prog.underlying 4 = some .bool := by kernel_rfl
end Go.Proofs.YtahaekeikoibmaaGreatDoor
set_option maxRecDepth 100000
namespace Go.Proofs.YtahaekeikoibmaaGreatDoor
open Go Go.ChangeShapes Go.WideShapes Go.ChangeAt Go.WideMaps Go.WideElems Go.RowKit Go.ChangeMaps Go.Deep Go.Joins
section
variable {H : Type} {enc : TypeId × Value → H} {P : Program} {w : World} {base : Nat} {spare : Nat → Bool} {held : Bool}
theorem openRows {t e : TypeId} {fs : Array Field} {fuel : Nat} {cs : List Value} {x : DataW H × List MemPlace} (ht : P.underlying t = some (.slice e)) (he : P.underlying e = some (.struct fs))
  (hone : oneCellFields P fs = true) (hC : P.cellsOf e = fs.size) (h : DataW.trod enc P w base spare held fuel t cs = some x) :
  cs = [.slice none 0 0] ∨
  ∃ (a : Addr) (len cap : Nat), cs = [.slice (some a) len cap] ∧ len ≤ cap ∧ cap ≤ maxLen ∧
   ∀ i, i < (if spare a.block then cap else len) → ∀ (j : Nat) (f : Field), fs[j]? = some f → ∃ (v : Value) (n : Nat) (y : DataW H × List MemPlace), w.cell? (a.add (i * fs.size + j)) = some v ∧ DataW.trod enc P w base spare held n f.type [v] = some y := by
 rcases open_slice ht h with h0 | ⟨a, len, cap, m, n, D, Pl, hcs, hb, hl, hm, hmm, hx, hi⟩
 ·exact .inl h0.1
 ·refine .inr ⟨a, len, cap, hcs, hl, hm, fun i hlt j f hj => ?_⟩
  have him : i < m := by rw [hmm]; exact hlt
  obtain ⟨cs', hc, ht'⟩ := hi i him
  rw [hC] at hc
  obtain ⟨ys, n', hn', hy, hlen, hyl, hf⟩ := DataW.trod_struct he ht'
  obtain ⟨_, hcl, hat⟩ := World.cells?_some hc
  obtain ⟨ho, hk⟩ := hone_of hone j f hj
  have hjl : j < fs.size := (Array.getElem?_eq_some_iff.1 hj).1
  have hcell := hat j hjl
  have hv : cs'[j]? = some (cs'[j]'(by omega)) := List.getElem?_eq_getElem (by omega)
  have h1 := hf j f hj
  rw [ho, hk] at h1
  have hone' : (cs'.drop j).take 1 = [cs'[j]'(by omega)] := by
   rw [List.drop_eq_getElem_cons (by omega)]
   rfl
  rw [hone'] at h1
  have hys : ys[j]? = some (ys[j]'(by omega)) := List.getElem?_eq_getElem (by omega)
  refine ⟨_, _, _, ?_, h1.trans hys⟩
  rw [← Go.Deep.add_add, hcell, hv]
end
theorem u22 : Tryz.prog.underlying 22 = some (.slice 82) := by kernel_rfl
noncomputable def fs82 : Array Field := match Tryz.prog.underlying 82 with | some (.struct fs) => fs | _ => #[]
theorem u82 : Tryz.prog.underlying 82 = some (.struct fs82) := by kernel_rfl
theorem size82 : fs82.size = 4 := by kernel_rfl
theorem field82 : ((List.range 4).all fun j => decide ((fs82[j]?).map (·.type) = some 80)) = true := by kernel_rfl
theorem one82 : oneCellFields Tryz.prog fs82 = true := by kernel_rfl
theorem cells82 : Tryz.prog.cellsOf 82 = fs82.size := by kernel_rfl
theorem fun3 : Tryz.prog.funcs[3]? = some Tryz.f3 := by kernel_rfl
theorem pars3 : Tryz.f3.params.toList = [22, 22] := by kernel_rfl
theorem wf_i8 {n : Int} (hn : (Lit.int .i8 n).wf = true) : -128 ≤ n ∧ n ≤ 127 := by
 simp only [Lit.wf, IntKind.min, IntKind.max, IntKind.signed, IntKind.bits, Bool.and_eq_true, decide_eq_true_eq] at hn
 have h1 := hn.1
 have h2 := hn.2
 constructor
 ·simpa using h1
 ·simpa using h2
theorem cell_plain {W : World} {a : Addr} {v : Value} (h : W.cell? a = some v) : a.spot = none ∧ a.block < W.heap.size := by
 refine ⟨World.cell?_spot h, ?_⟩
 unfold World.cell? at h
 split at h
 ·rename_i hh
  exact (Array.getElem?_eq_some_iff.1 hh).1
 ·cases h
section
variable {H : Type} {enc : TypeId × Value → H} {W : World} {base : Nat} {held : Bool}
abbrev allSp : Nat → Bool := fun _ => true
theorem open_corners {fuel : Nat} {v : Value} {x : DataW H × List MemPlace} (h : DataW.trod enc Tryz.prog W base allSp held fuel 22 [v] = some x) :
   ∃ C : List Vse.Cr4, C.all Vse.crB = true ∧ Vse.IRel (fun _ => False) W (.sl C.length 4 (Vse.eCr.el C)) v := by
 rcases openRows u22 u82 one82 cells82 h with h0 | ⟨a, len, cap, h0, hl, hm, hf⟩
 · obtain rfl : v = .slice none 0 0 := by simpa using h0
   exact ⟨[], rfl, .nil _ _⟩
 · obtain rfl : v = .slice (some a) len cap := by simpa using h0
   rw [if_pos rfl] at hf
   have cell : ∀ i, i < cap → ∀ j, j < 4 → ∃ n, W.cell? (a.add (i * 4 + j)) = some (.int .i8 n) ∧ -128 ≤ n ∧ n ≤ 127 := by
     intro i hi j hj
     have ht : (fs82[j]?).map (·.type) = some 80 := of_decide_eq_true (List.all_eq_true.1 field82 j (List.mem_range.2 hj))
     obtain ⟨f, hf1, hf2⟩ := Option.map_eq_some_iff.1 ht
     obtain ⟨v, n, y, hc, hy⟩ := hf i hi j f hf1
     rw [hf2] at hy
     obtain ⟨k, hk, _, hw⟩ := DataW.trod_int u59 hy
     obtain rfl : v = .int .i8 k := by simpa using hk
     rw [size82] at hc
     exact ⟨k, hc, wf_i8 hw⟩
   by_cases h0 : cap = 0
   · subst h0
     obtain rfl : len = 0 := by omega
     exact ⟨[], rfl, .zero _ _ _⟩
   · obtain ⟨n0, hc0, _⟩ := cell 0 (by omega) 0 (by omega)
     obtain ⟨hs, hb⟩ := cell_plain hc0
     obtain ⟨b, off, sp⟩ := a
     obtain rfl : sp = none := by simpa [Addr.add] using hs
     have hb : b < W.heap.size := by simpa [Addr.add] using hb
     exact Vse.corners_of_cells (W := W) (b := b) (off := off) (len := len) (cap := cap) hb hl fun i hi j hj => by
       obtain ⟨n, hn, hw⟩ := cell i (by omega) j hj
       rw [add_plain] at hn
       exact ⟨n, hn, hw⟩
theorem open_corners' {b0 : Nat} {v : Value} {d : DataW H} {ps : List MemPlace} (hv : Value.okWide Tryz.prog W .any b0 22 v) (h : DataW.Trod enc Tryz.prog W base allSp held 22 v d ps) :
  ∃ C : List Vse.Cr4, C.all Vse.crB = true ∧ Vse.IRel (fun _ => False) W (.sl C.length 4 (Vse.eCr.el C)) v := by
 obtain ⟨a, len, cap, rfl⟩ := okWide_slice u22 hv
 obtain ⟨fuel, hf⟩ := h
 exact open_corners hf
end
end Go.Proofs.YtahaekeikoibmaaGreatDoor
