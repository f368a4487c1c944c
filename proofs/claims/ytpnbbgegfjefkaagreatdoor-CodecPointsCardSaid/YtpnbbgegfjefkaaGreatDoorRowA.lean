/- Helpers for the proof: no statement of its own. -/
import Derived.Test.YtpnbbgegfjefkaaGreatDoorRows
import Derived.Test.YtpnbbgegfjefkaaGreatDoorTie
import Derived.Test.YtpnbbgegfjefkaaGreatDoorCards
import Derived.ProofKit
import Derived.LaidMore
import Derived.OpenShut
import Derived.Stop.Joined
import Derived.Below
import Derived.Lay
import Derived.MakeChecks
import Derived.ChangeSame
import Derived.SevenTiedAt
import Derived.Test.YtpnbbgegfjefkaaGreatDoorCodF
import Derived.Deep.Slices
import Derived.Deep.Fields
import Derived.Lib.SmallJoins
import Derived.Carry
set_option linter.unusedVariables false
set_option linter.unusedSimpArgs false
set_option linter.unnecessarySimpa false
set_option linter.deprecated false
namespace Go.Proofs.YtpnbbgegfjefkaaGreatDoor
open Go Go.ChangeShapes Go.WideShapes Go.ChangeAt Go.WideMaps Go.WideElems Go.RowKit
section
variable {H : Type} {enc : TypeId × Value → H} {P : Program}
theorem closing {f : Func} {s : ChangeSpec} {apart fresh handsOn again : Bool} {W W' : World} {args : Array Value} {v : Value} {ds gs : List (DataW H)} {before pa pv : List MemPlace}
   (hW : DataW.Whole enc P f.params.toList s.vars apart W args.toList ds gs before)
   (hres : ∀ (b : Nat) (sp : Nat → Bool) (hd : Bool), DataW.TrodAll enc P W' b sp hd f.resultTypes.toList (v.resultList f.resultTypes.size) (s.fn H (ds ++ gs)).results [])
   (hargs : ∀ sp : Nat → Bool, (∀ p ∈ before, sp p.block = true) → DataW.TrodAll enc P W' 0 sp true f.params.toList args.toList (s.fn H (ds ++ gs)).args pa)
   (hvars : ∀ sp : Nat → Bool, (∀ p ∈ before, sp p.block = true) → DataW.TrodVars enc P W' sp s.vars (s.fn H (ds ++ gs)).vars pv)
   (hps : before = pa ++ pv) (hb : Below W.heap.size W W')
   (hok : ∀ (j : Nat) (t : TypeId) (r : Value), f.resultTypes[j]? = some t → (v.resultList f.resultTypes.size)[j]? = some r → Value.okWide P W' .any 0 t r) :
   s.post enc P f apart fresh handsOn again W args v W' := by
 have hlt : ∀ p ∈ before, p.block < W.heap.size := fun p hp => hW.lt p hp
 have hold : ∀ p ∈ before, (fun b => decide (b < W.heap.size)) p.block = true := fun p hp => by simpa using hlt p hp
 refine ⟨ds, gs, before, [], pa, pv, hW, hres _ _ _, hargs _ hold, hvars _ hold, World.keptBut_mono (fun p hp => ⟨hp, ?_⟩) (hb.frame (· ∈ before)), fun _ => ?_⟩
 · rw [hps, List.mem_append] at hp
   exact Or.inr hp
 · obtain ⟨_, _, _, _, _, hz, hn⟩ := hW
   refine ⟨hok, _, _, ([] ++ pa) ++ pv, ⟨[] ++ pa, pv, trodAll_append (hargs _ (fun _ _ => rfl)) (hres _ _ _), hvars _ (fun _ _ => rfl), rfl, ?_, ?_⟩, ?_⟩
   · intro b off hp
     have hin : MemPlace.cell b off ∈ before := by rw [hps]; simpa using hp
     rw [hb.frozen (hlt _ hin)]
     exact hz b off hin
   · intro ha
     have := hn ha
     rw [hps] at this
     simpa using this
   · intro p hp _
     rw [hps]
     simpa using hp
end
theorem own : ownKnob Tryz.prog.godebug = none := by kernel_rfl
abbrev laids : List (String × DataW Unit) := Rows.codecPointsRow.laid
theorem laid_met (os : Os) (args : Array Value) : laidMetH Tryz.prog laids ((World.laidAll Tryz.prog os laids).forCall (fun _ _ => 0) ⟨#[], args, []⟩).memory := by
 rw [MakeChecks.laidMetH_plain _ _ _ (by kernel_rfl)]
 exact laidMet_laidAll _ (by kernel_rfl) (by kernel_rfl)
theorem u5 : Tryz.prog.underlying 5 = some (.int .u8) := by kernel_rfl
theorem u4 : Tryz.prog.underlying 4 = some .bool := by kernel_rfl
end Go.Proofs.YtpnbbgegfjefkaaGreatDoor
set_option maxRecDepth 100000
namespace Go.Vse
open Go.Proofs Go.RowKit
theorem cell_plain {W : World} {a : Addr} {v : Value} (h : W.cell? a = some v) : a.spot = none ∧ a.block < W.heap.size := by
 refine ⟨World.cell?_spot h, ?_⟩
 unfold World.cell? at h
 split at h
 ·rename_i hh
  exact (Array.getElem?_eq_some_iff.1 hh).1
 ·cases h
theorem pick_list {α : Type} (d : α) {P : Nat → α → Prop} : ∀ n : Nat, (∀ i, i < n → ∃ x, P i x) → ∃ l : List α, l.length = n ∧ ∀ i, i < n → P i (l.getD i d)
 | 0, _ => ⟨[], rfl, fun i hi => by omega⟩
 | n + 1, h => by
   obtain ⟨l, hl, hp⟩ := pick_list d n fun i hi => h i (by omega)
   obtain ⟨x, hx⟩ := h n (by omega)
   refine ⟨l ++ [x], by simp [hl], fun i hi => ?_⟩
   by_cases hin : i < n
   · have : (l ++ [x]).getD i d = l.getD i d := by
       simp [List.getD_eq_getElem?_getD, List.getElem?_append_left (by omega : i < l.length)]
     rw [this]
     exact hp i hin
   · obtain rfl : i = n := by omega
     have : (l ++ [x]).getD i d = x := by
       simp [List.getD_eq_getElem?_getD, hl]
     rw [this]
     exact hx
theorem four_cells {W : World} {b off : Nat} {x0 x1 x2 x3 : Int} (h0 : W.cell? ⟨b, off + 0, none⟩ = some (.int .u8 x0)) (h1 : W.cell? ⟨b, off + 1, none⟩ = some (.int .u8 x1)) (h2 : W.cell? ⟨b, off + 2, none⟩ = some (.int .u8 x2)) (h3 : W.cell? ⟨b, off + 3, none⟩ = some (.int .u8 x3)) :
  ∀ j, j < 4 → ∃ n, W.cell? ⟨b, off + j, none⟩ = some (.int .u8 n) ∧ ([.v (.int .u8 x0), .v (.int .u8 x1), .v (.int .u8 x2), .v (.int .u8 x3)] : List IV).getD j (.v undef) = .v (.int .u8 n) := by
 intro j hj
 rcases (show j = 0 ∨ j = 1 ∨ j = 2 ∨ j = 3 by omega) with rfl | rfl | rfl | rfl
 ·exact ⟨x0, h0, rfl⟩
 ·exact ⟨x1, h1, rfl⟩
 ·exact ⟨x2, h2, rfl⟩
 ·exact ⟨x3, h3, rfl⟩
theorem steps_of_cells {W : World} {b off len cap : Nat} (hb : b < W.heap.size) (hc : len ≤ cap)
  (h : ∀ i, i < len → ∀ j, j < 4 → ∃ n, W.cell? ⟨b, off + (i * 4 + j), none⟩ = some (.int .u8 n) ∧ u8B n = true) :
  ∃ S : List Stp, S.all Stp.ok = true ∧ IRel (fun _ => False) W (.sl S.length 4 (stEl S)) (.slice (some ⟨b, off, none⟩) len cap) := by
 obtain ⟨S, hS, hp⟩ := pick_list (P := fun i s => s.ok = true ∧ ∀ j, j < 4 → ∃ n, W.cell? ⟨b, off + (i * 4 + j), none⟩ = some (.int .u8 n) ∧ (stIV s).getD j (.v undef) = .v (.int .u8 n)) st0 len fun i hi => by
  obtain ⟨x0, e0, o0⟩ := h i hi 0 (by omega)
  obtain ⟨x1, e1, o1⟩ := h i hi 1 (by omega)
  obtain ⟨x2, e2, o2⟩ := h i hi 2 (by omega)
  obtain ⟨x3, e3, o3⟩ := h i hi 3 (by omega)
  refine ⟨⟨x0, x1, x2, x3⟩, by show (u8B x0 && (u8B x1 && (u8B x2 && u8B x3))) = true; rw [o0, o1, o2, o3]; rfl, fun j hj => ?_⟩
  have := four_cells (off := off + i * 4) (by rw [Nat.add_assoc]; exact e0) (by rw [Nat.add_assoc]; exact e1) (by rw [Nat.add_assoc]; exact e2) (by rw [Nat.add_assoc]; exact e3) j hj
  rw [Nat.add_assoc] at this
  exact this
 subst hS
 refine ⟨S, List.all_eq_true.2 fun r hr => ?_, ?_⟩
 ·obtain ⟨i, hi, rfl⟩ := List.mem_iff_getElem.1 hr
  have := (hp i hi).1
  simpa [List.getD_eq_getElem?_getD, hi] using this
 ·refine .sl S.length 4 _ b off cap (fun h => h) hb hc (fun k _ => rfl) (fun k j hk hj => ?_) (fun k j hk hj => ?_)
  ·obtain ⟨n, hn, _⟩ := (hp k hk).2 j hj
   exact ⟨by rw [hn]; rfl, by rw [cellD_eq hn]; rfl⟩
  ·obtain ⟨n, hn, he⟩ := (hp k hk).2 j hj
   rw [cellD_eq hn]
   show IRel _ W ((stIV (S.getD k st0)).getD j (.v undef)) _
   rw [he]
   exact .v _
structure CarAt (W : World) (b off i : Nat) (c : Cw) : Prop where
 ok : c.ok = true
 t : W.cell? ⟨b, off + (i * 4 + 0), none⟩ = some (.int .u8 c.t)
 x : W.cell? ⟨b, off + (i * 4 + 1), none⟩ = some (.int .u8 c.x)
 y : W.cell? ⟨b, off + (i * 4 + 2), none⟩ = some (.int .u8 c.y)
 s : ∃ v, W.cell? ⟨b, off + (i * 4 + 3), none⟩ = some v ∧ v.oneCell' = true ∧ IRel (fun _ => False) W (.sl c.m 4 c.e) v
theorem cars_of_cells {W : World} {b off len cap : Nat} (hb : b < W.heap.size) (hc : len ≤ cap) (h : ∀ i, i < len → ∃ c, CarAt W b off i c) :
  ∃ C : List Cw, C.length = len ∧ C.all Cw.ok = true ∧ IRel (fun _ => False) W (.sl C.length 4 (cwEl C)) (.slice (some ⟨b, off, none⟩) len cap) := by
 obtain ⟨C, hC, hp⟩ := pick_list cw0 len h
 subst hC
 refine ⟨C, rfl, List.all_eq_true.2 fun r hr => ?_, ?_⟩
 ·obtain ⟨i, hi, rfl⟩ := List.mem_iff_getElem.1 hr
  have := (hp i hi).ok
  simpa [List.getD_eq_getElem?_getD, hi] using this
 ·have key : ∀ k j, k < C.length → j < 4 → ∃ v, W.cell? ⟨b, off + (k * 4 + j), none⟩ = some v ∧ v.oneCell' = true ∧ IRel (fun _ => False) W ((cwEl C k).getD j (.v undef)) v := by
   intro k j hk hj
   have hh := hp k hk
   obtain ⟨v, e3, o3, r3⟩ := hh.s
   rcases (show j = 0 ∨ j = 1 ∨ j = 2 ∨ j = 3 by omega) with rfl | rfl | rfl | rfl
   ·exact ⟨_, hh.t, rfl, .v _⟩
   ·exact ⟨_, hh.x, rfl, .v _⟩
   ·exact ⟨_, hh.y, rfl, .v _⟩
   ·exact ⟨v, e3, o3, r3⟩
  refine .sl C.length 4 _ b off cap (fun h => h) hb hc (fun k _ => rfl) (fun k j hk hj => ?_) (fun k j hk hj => ?_)
  ·obtain ⟨v, hv, ho, _⟩ := key k j hk hj
   exact ⟨by rw [hv]; rfl, by rw [cellD_eq hv]; exact ho⟩
  ·obtain ⟨v, hv, _, hr⟩ := key k j hk hj
   rw [cellD_eq hv]; exact hr
theorem fl_rel {W : World} {x : Fl} {v0 v1 : Value} (h0 : IRel (fun _ => False) W (.sl x.1.length 4 (cwEl x.1)) v0) (h1 : IRel (fun _ => False) W (.sl x.2.1 x.2.2.1 x.2.2.2) v1) :
   ARel (fun _ => False) (fun _ => none) W (.agg (flCells x)) (.agg #[v0, v1]) :=
 .agg _ _ rfl fun j hj => by
   rcases (show j = 0 ∨ j = 1 by have : j < 2 := hj; omega) with rfl | rfl
   · exact .c _ _ h0
   · exact .c _ _ h1
theorem f3_calls {x : Fl} (hc : x.1.all Cw.ok = true) (hl : x.1.length ≤ 9223372036854775807) (W : World) {v0 : Value} (h0 : ARel (fun _ => False) (fun _ => none) W (.agg (flCells x)) v0) :
  Calls Tryz.prog 3 #[v0] W fun e w' => e = .returned (.bool true) ∧ Below W.heap.size W w' := by
 obtain ⟨C, a, z, e⟩ := x
 have hk : K3 [.agg (flCells (C, a, z, e))] = some (boolA true, [cwsI C.length (cwEl C), (cwsOf C.length (cwEl C)).all Cw.ok, decide ((cwsOf C.length (cwEl C)).length ≤ 9223372036854775807)]) := rfl
 have hs := (f3_ok.sound _ _ _ hk).2 (fun _ => False) W [v0] (fun b h => h.elim) (by
  intro p hp
  simp only [List.mem_cons, List.not_mem_nil, or_false, cwsOf_el, cwsI_cws] at hp
  rcases hp with rfl | rfl | rfl
  ·rfl
  ·exact hc
  ·exact decide_eq_true hl) (Rels.cons h0 .nil)
 have henter := callFunc_enter (P := Tryz.prog) (f := 3) (fn := Tryz.f3) (c := codeOf Tryz.f3) (by kernel_rfl) (by kernel_rfl) (by kernel_rfl) #[v0] W
 rcases hs with ⟨_, ⟨_, hcalls⟩ | ⟨v, w', hval, _⟩⟩ | ⟨hy, _⟩
 ·refine hcalls.mono ?_
  rintro e w' ⟨u, rfl, hr, hb⟩
  rw [show u = .bool true from hr.plain]
  exact ⟨rfl, hb⟩
 ·have e2 : (callFunc 3 #[v0]).run Tryz.prog W = .ok (.value v) w' := hval
  rw [henter] at e2
  cases e2
 ·exact absurd hy (by decide)
end Go.Vse
set_option maxRecDepth 100000
namespace Go.Proofs.YtpnbbgegfjefkaaGreatDoor
open Go Go.ChangeShapes Go.WideShapes Go.ChangeAt Go.WideMaps Go.WideElems Go.RowKit Go.ChangeMaps Go.Deep Go.Joins
section
variable {H : Type} {enc : TypeId × Value → H} {P : Program} {w : World} {base : Nat} {spare : Nat → Bool} {held : Bool}
theorem openRows {t e : TypeId} {fs : Array Field} {fuel : Nat} {cs : List Value} {x : DataW H × List MemPlace} (ht : P.underlying t = some (.slice e)) (he : P.underlying e = some (.struct fs))
  (hone : oneCellFields P fs = true) (hC : P.cellsOf e = fs.size) (h : DataW.trod enc P w base spare held fuel t cs = some x) :
  cs = [.slice none 0 0] ∨
  ∃ (a : Addr) (len cap : Nat), cs = [.slice (some a) len cap] ∧ len ≤ cap ∧ cap ≤ maxLen ∧
   ∀ i, i < (if spare a.block then cap else len) → ∀ (j : Nat) (f : Field), fs[j]? = some f → ∃ (v : Value) (n : Nat) (y : DataW H × List MemPlace), w.cell? (a.add (i * fs.size + j)) = some v ∧ DataW.trod enc P w base spare held n f.type [v] = some y := by
 rcases open_slice ht h with h0 | ⟨a, len, cap, m, n, D, Pl, hcs, hb, hl, hm, hmm, hx, hi⟩
 ·exact .inl h0.1
 ·refine .inr ⟨a, len, cap, hcs, hl, hm, fun i hlt j f hj => ?_⟩
  have him : i < m := by rw [hmm]; exact hlt
  obtain ⟨cs', hc, ht'⟩ := hi i him
  rw [hC] at hc
  obtain ⟨ys, n', hn', hy, hlen, hyl, hf⟩ := DataW.trod_struct he ht'
  obtain ⟨_, hcl, hat⟩ := World.cells?_some hc
  obtain ⟨ho, hk⟩ := hone_of hone j f hj
  have hjl : j < fs.size := (Array.getElem?_eq_some_iff.1 hj).1
  have hcell := hat j hjl
  have hv : cs'[j]? = some (cs'[j]'(by omega)) := List.getElem?_eq_getElem (by omega)
  have h1 := hf j f hj
  rw [ho, hk] at h1
  have hone' : (cs'.drop j).take 1 = [cs'[j]'(by omega)] := by
   rw [List.drop_eq_getElem_cons (by omega)]
   rfl
  rw [hone'] at h1
  have hys : ys[j]? = some (ys[j]'(by omega)) := List.getElem?_eq_getElem (by omega)
  refine ⟨_, _, _, ?_, h1.trans hys⟩
  rw [← Go.Deep.add_add, hcell, hv]
end
theorem u22 : Tryz.prog.underlying 22 = some (.slice 70) := by kernel_rfl
theorem u23 : Tryz.prog.underlying 23 = some (.slice 467) := by kernel_rfl
theorem u68 : Tryz.prog.underlying 68 = some (.slice 104) := by kernel_rfl
noncomputable def fsOf (t : TypeId) : Array Field := match Tryz.prog.underlying t with | some (.struct fs) => fs | _ => #[]
theorem u25 : Tryz.prog.underlying 25 = some (.struct (fsOf 25)) := by kernel_rfl
theorem u70 : Tryz.prog.underlying 70 = some (.struct (fsOf 70)) := by kernel_rfl
theorem u104 : Tryz.prog.underlying 104 = some (.struct (fsOf 104)) := by kernel_rfl
theorem u467 : Tryz.prog.underlying 467 = some (.struct (fsOf 467)) := by kernel_rfl
theorem size25 : (fsOf 25).size = 2 := by kernel_rfl
theorem size70 : (fsOf 70).size = 4 := by kernel_rfl
theorem size104 : (fsOf 104).size = 4 := by kernel_rfl
theorem field104 : ((List.range 4).all fun j => decide (((fsOf 104)[j]?).map (·.type) = some 5)) = true := by kernel_rfl
theorem field70 : ((fsOf 70)[0]?).map (·.type) = some 5 ∧ ((fsOf 70)[1]?).map (·.type) = some 5 ∧ ((fsOf 70)[2]?).map (·.type) = some 5 ∧ ((fsOf 70)[3]?).map (·.type) = some 68 := ⟨by kernel_rfl, by kernel_rfl, by kernel_rfl, by kernel_rfl⟩
theorem field467 : ((fsOf 467)[0]?).map (·.type) = some 5 := by kernel_rfl
theorem one104 : oneCellFields Tryz.prog (fsOf 104) = true := by kernel_rfl
theorem one70 : oneCellFields Tryz.prog (fsOf 70) = true := by kernel_rfl
theorem one467 : oneCellFields Tryz.prog (fsOf 467) = true := by kernel_rfl
theorem cells104 : Tryz.prog.cellsOf 104 = (fsOf 104).size := by kernel_rfl
theorem cells70 : Tryz.prog.cellsOf 70 = (fsOf 70).size := by kernel_rfl
theorem cells467 : Tryz.prog.cellsOf 467 = (fsOf 467).size := by kernel_rfl
theorem fun3 : Tryz.prog.funcs[3]? = some Tryz.f3 := by kernel_rfl
theorem pars3 : Tryz.f3.params.toList = [25] := by kernel_rfl
theorem wf_u8 {n : Int} (hn : (Lit.int .u8 n).wf = true) : Vse.u8B n = true := by
 simp only [Lit.wf, IntKind.min, IntKind.max, IntKind.signed, IntKind.bits, Bool.and_eq_true, decide_eq_true_eq] at hn
 have h1 : 0 ≤ n := by simpa using hn.1
 have h2 : n ≤ 255 := by simpa using hn.2
 simp only [Vse.u8B, Bool.and_eq_true, decide_eq_true_eq]
 omega
section
variable {H : Type} {enc : TypeId × Value → H} {W : World} {base : Nat} {held : Bool}
abbrev allSp : Nat → Bool := fun _ => true
theorem open_steps {fuel : Nat} {v : Value} {x : DataW H × List MemPlace} (h : DataW.trod enc Tryz.prog W base allSp held fuel 68 [v] = some x) :
   ∃ (m : Nat) (e : Nat → List Vse.IV), Vse.stsOk m e = true ∧ v.oneCell' = true ∧ Vse.IRel (fun _ => False) W (.sl m 4 e) v := by
 rcases openRows u68 u104 one104 cells104 h with h0 | ⟨a, len, cap, h0, hl, hm, hf⟩
 · obtain rfl : v = .slice none 0 0 := by simpa using h0
   exact ⟨0, fun _ => [], rfl, rfl, .nil _ _⟩
 · obtain rfl : v = .slice (some a) len cap := by simpa using h0
   rw [if_pos rfl] at hf
   have cell : ∀ i, i < cap → ∀ j, j < 4 → ∃ n, W.cell? (a.add (i * 4 + j)) = some (.int .u8 n) ∧ Vse.u8B n = true := by
     intro i hi j hj
     have ht : ((fsOf 104)[j]?).map (·.type) = some 5 := of_decide_eq_true (List.all_eq_true.1 field104 j (List.mem_range.2 hj))
     obtain ⟨f, hf1, hf2⟩ := Option.map_eq_some_iff.1 ht
     obtain ⟨v, n, y, hc, hy⟩ := hf i hi j f hf1
     rw [hf2] at hy
     obtain ⟨k, hk, _, hw⟩ := DataW.trod_int u5 hy
     obtain rfl : v = .int .u8 k := by simpa using hk
     rw [size104] at hc
     exact ⟨k, hc, wf_u8 hw⟩
   by_cases h0 : cap = 0
   · subst h0
     obtain rfl : len = 0 := by omega
     exact ⟨0, fun _ => [], rfl, rfl, .zero _ _ _⟩
   · obtain ⟨n0, hc0, _⟩ := cell 0 (by omega) 0 (by omega)
     obtain ⟨hs, hb⟩ := Vse.cell_plain hc0
     obtain ⟨b, off, sp⟩ := a
     obtain rfl : sp = none := by simpa [Addr.add] using hs
     have hb : b < W.heap.size := by simpa [Addr.add] using hb
     obtain ⟨S, hS, hr⟩ := Vse.steps_of_cells (W := W) (b := b) (off := off) (len := len) (cap := cap) hb hl fun i hi j hj => by
       obtain ⟨n, hn, hw⟩ := cell i (by omega) j hj
       rw [add_plain] at hn
       exact ⟨n, hn, hw⟩
     exact ⟨S.length, Vse.stEl S, Vse.stsOk_sts hS, rfl, hr⟩
theorem open_cars {fuel : Nat} {v : Value} {x : DataW H × List MemPlace} (h : DataW.trod enc Tryz.prog W base allSp held fuel 22 [v] = some x) :
   ∃ C : List Vse.Cw, C.all Vse.Cw.ok = true ∧ C.length ≤ 9223372036854775807 ∧ Vse.IRel (fun _ => False) W (.sl C.length 4 (Vse.cwEl C)) v := by
 rcases openRows u22 u70 one70 cells70 h with h0 | ⟨a, len, cap, h0, hl, hm, hf⟩
 · obtain rfl : v = .slice none 0 0 := by simpa using h0
   exact ⟨[], rfl, by decide, .nil _ _⟩
 · obtain rfl : v = .slice (some a) len cap := by simpa using h0
   rw [if_pos rfl] at hf
   have hm' : cap ≤ 9223372036854775807 := hm
   have part : ∀ i, i < cap → ∀ (j t : Nat), ((fsOf 70)[j]?).map (·.type) = some t → ∃ (v : Value) (n : Nat) (y : DataW H × List MemPlace), W.cell? (a.add (i * 4 + j)) = some v ∧ DataW.trod enc Tryz.prog W base allSp held n t [v] = some y := by
     intro i hi j t ht
     obtain ⟨f, hf1, hf2⟩ := Option.map_eq_some_iff.1 ht
     obtain ⟨v, n, y, hc, hy⟩ := hf i hi j f hf1
     rw [hf2] at hy
     rw [size70] at hc
     exact ⟨v, n, y, hc, hy⟩
   have num : ∀ i, i < cap → ∀ j, ((fsOf 70)[j]?).map (·.type) = some 5 → ∃ k, W.cell? (a.add (i * 4 + j)) = some (.int .u8 k) ∧ Vse.u8B k = true := by
     intro i hi j hj
     obtain ⟨v, n, y, hc, hy⟩ := part i hi j 5 hj
     obtain ⟨k, hk, _, hw⟩ := DataW.trod_int u5 hy
     obtain rfl : v = .int .u8 k := by simpa using hk
     exact ⟨k, hc, wf_u8 hw⟩
   obtain ⟨f0, f1, f2, f3⟩ := field70
   by_cases h0 : cap = 0
   · subst h0
     obtain rfl : len = 0 := by omega
     exact ⟨[], rfl, by decide, .zero _ _ _⟩
   · obtain ⟨n0, hc0, _⟩ := num 0 (by omega) 0 f0
     obtain ⟨hs, hb⟩ := Vse.cell_plain hc0
     obtain ⟨b, off, sp⟩ := a
     obtain rfl : sp = none := by simpa [Addr.add] using hs
     have hb : b < W.heap.size := by simpa [Addr.add] using hb
     obtain ⟨C, hC, hok, hr⟩ := Vse.cars_of_cells (W := W) (b := b) (off := off) (len := len) (cap := cap) hb hl fun i hi => by
       obtain ⟨x0, e0, o0⟩ := num i (by omega) 0 f0
       obtain ⟨x1, e1, o1⟩ := num i (by omega) 1 f1
       obtain ⟨x2, e2, o2⟩ := num i (by omega) 2 f2
       obtain ⟨v3, n3, y3, e3, t3⟩ := part i (by omega) 3 68 f3
       obtain ⟨m, e, so, oc, r3⟩ := open_steps t3
       rw [add_plain] at e0 e1 e2 e3
       exact ⟨⟨x0, x1, x2, m, e⟩, ⟨by show (Vse.u8B x0 && (Vse.u8B x1 && (Vse.u8B x2 && Vse.stsOk m e))) = true; rw [o0, o1, o2, so]; rfl, e0, e1, e2, v3, e3, oc, r3⟩⟩
     exact ⟨C, hok, by omega, hr⟩
theorem open_areas {fuel : Nat} {v : Value} {x : DataW H × List MemPlace} (h : DataW.trod enc Tryz.prog W base allSp held fuel 23 [v] = some x) :
   ∃ (a z : Nat) (e : Nat → List Vse.IV), Vse.IRel (fun _ => False) W (.sl a z e) v := by
 rcases openRows u23 u467 one467 cells467 h with h0 | ⟨a, len, cap, h0, hl, hm, hf⟩
 · obtain rfl : v = .slice none 0 0 := by simpa using h0
   exact ⟨0, 0, fun _ => [], .nil _ _⟩
 · obtain rfl : v = .slice (some a) len cap := by simpa using h0
   rw [if_pos rfl] at hf
   by_cases h0 : cap = 0
   · subst h0
     obtain rfl : len = 0 := by omega
     exact ⟨0, 0, fun _ => [], .zero _ _ _⟩
   · obtain ⟨f, hf1, _⟩ := Option.map_eq_some_iff.1 field467
     obtain ⟨v, n, y, hc0, _⟩ := hf 0 (by omega) 0 f hf1
     obtain ⟨hs, hb⟩ := Vse.cell_plain hc0
     obtain ⟨b, off, sp⟩ := a
     obtain rfl : sp = none := by simpa [Addr.add] using hs
     have hb : b < W.heap.size := by simpa [Addr.add] using hb
     exact ⟨len, 0, fun _ => [], .sl len 0 _ b off cap (fun h => h) hb hl (fun _ _ => rfl) (fun k j _ hj => by omega) (fun k j _ hj => by omega)⟩
theorem array2 {cs : Array Value} (h : cs.size = 2) : ∃ v0 v1, cs = #[v0, v1] := by
 obtain ⟨l⟩ := cs
 match l, h with
 | [a, b], _ => exact ⟨a, b, rfl⟩
theorem open_fleet {b0 : Nat} {v : Value} {d : DataW H} {ps : List MemPlace} (hv : Value.okWide Tryz.prog W .any b0 25 v) (h : DataW.Trod enc Tryz.prog W base allSp held 25 v d ps) :
  ∃ x : Vse.Fl, x.1.all Vse.Cw.ok = true ∧ x.1.length ≤ 9223372036854775807 ∧ Vse.ARel (fun _ => False) (fun _ => none) W (.agg (Vse.flCells x)) v := by
 simp only [Value.okWide, u25] at hv
 obtain ⟨cs, rfl, hsz, ts, hts, _, hcells⟩ := hv
 have h2 : Tryz.prog.cellsOf 25 = 2 := by kernel_rfl
 obtain ⟨v0, v1, rfl⟩ := array2 (hsz.trans h2)
 obtain ⟨fuel, hf⟩ := h
 obtain ⟨xs, n, _, _, _, _, hg⟩ := DataW.trod_struct u25 hf
 have hx : ∀ j, j < 2 → ∃ y, xs[j]? = some y := fun j hj => by
  have hl : xs.length = 2 := by
   have : (fsOf 25).size = 2 := size25
   omega
  exact ⟨_, List.getElem?_eq_getElem (by omega)⟩
 have part : ∀ (j t : Nat) (u : Value), (((fsOf 25)[j]?).map fun f => (f.type, f.offset)) = some (t, j) → Tryz.prog.cellsOf t = 1 → j < 2 → (#[v0, v1] : Array Value)[j]? = some u → ∃ y, DataW.trod enc Tryz.prog W base allSp held n t [u] = some y := by
  intro j t u hft hct hj hu
  obtain ⟨g, hg1, hg2⟩ := Option.map_eq_some_iff.1 hft
  simp only [Prod.mk.injEq] at hg2
  have t0 := hg j g hg1
  rw [hg2.1, hg2.2, hct] at t0
  have x0 : ((Value.agg #[v0, v1]).cells.toList.drop j).take 1 = [u] := by
   have hl : j < (#[v0, v1] : Array Value).toList.length := hj
   have hu' : (#[v0, v1] : Array Value).toList[j]'hl = u := by
    have := (Array.getElem?_eq_some_iff.1 hu).2
    simpa using this
   show ((#[v0, v1] : Array Value).toList.drop j).take 1 = [u]
   rw [List.drop_eq_getElem_cons hl, hu']
   rfl
  rw [x0] at t0
  obtain ⟨y, hy⟩ := hx j hj
  exact ⟨y, t0.trans hy⟩
 obtain ⟨_, t0⟩ := part 0 22 v0 (by kernel_rfl) (by kernel_rfl) (by omega) rfl
 obtain ⟨_, t1⟩ := part 1 23 v1 (by kernel_rfl) (by kernel_rfl) (by omega) rfl
 obtain ⟨C, hC, hl, r0⟩ := open_cars t0
 obtain ⟨a, z, e, r1⟩ := open_areas t1
 exact ⟨(C, a, z, e), hC, hl, Vse.fl_rel (x := (C, a, z, e)) r0 r1⟩
end
end Go.Proofs.YtpnbbgegfjefkaaGreatDoor
