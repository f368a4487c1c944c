/- Helpers for the proof: no statement of its own. -/
import Derived.Test.YtaidphfhmbpelaaGreatDoorRows
import Derived.Test.YtaidphfhmbpelaaGreatDoorTie
import Derived.Test.YtaidphfhmbpelaaGreatDoorCards
import Derived.ProofKit
import Derived.LaidMore
import Derived.OpenShut
import Derived.Stop.Joined
import Derived.Below
import Derived.Lay
import Derived.MakeChecks
import Derived.ChangeSame
import Derived.SevenTiedAt
import Derived.Test.YtaidphfhmbpelaaGreatDoorLawB
import Derived.Deep.Slices
import Derived.Deep.Fields
import Derived.Lib.SmallJoins
import Derived.Carry
set_option linter.unusedVariables false
set_option linter.unusedSimpArgs false
set_option linter.unnecessarySimpa false
set_option linter.deprecated false
namespace Go.Proofs.YtaidphfhmbpelaaGreatDoor
open Go Go.ChangeShapes Go.WideShapes Go.ChangeAt Go.WideMaps Go.WideElems Go.RowKit
section
variable {H : Type} {enc : TypeId × Value → H} {P : Program}
theorem closing {f : Func} {s : ChangeSpec} {apart fresh handsOn again : Bool} {W W' : World} {args : Array Value} {v : Value} {ds gs : List (DataW H)} {before pa pv : List MemPlace}
   (hW : DataW.Whole enc P f.params.toList s.vars apart W args.toList ds gs before)
   (hres : ∀ (b : Nat) (sp : Nat → Bool) (hd : Bool), DataW.TrodAll enc P W' b sp hd f.resultTypes.toList (v.resultList f.resultTypes.size) (s.fn H (ds ++ gs)).results [])
   (hargs : ∀ sp : Nat → Bool, (∀ p ∈ before, sp p.block = true) → DataW.TrodAll enc P W' 0 sp true f.params.toList args.toList (s.fn H (ds ++ gs)).args pa)
   (hvars : ∀ sp : Nat → Bool, (∀ p ∈ before, sp p.block = true) → DataW.TrodVars enc P W' sp s.vars (s.fn H (ds ++ gs)).vars pv)
   (hps : before = pa ++ pv) (hb : Below W.heap.size W W')
   (hok : ∀ (j : Nat) (t : TypeId) (r : Value), f.resultTypes[j]? = some t → (v.resultList f.resultTypes.size)[j]? = some r → Value.okWide P W' .any 0 t r) :
   s.post enc P f apart fresh handsOn again W args v W' := by
 have hlt : ∀ p ∈ before, p.block < W.heap.size := fun p hp => hW.lt p hp
 have hold : ∀ p ∈ before, (fun b => decide (b < W.heap.size)) p.block = true := fun p hp => by simpa using hlt p hp
 refine ⟨ds, gs, before, [], pa, pv, hW, hres _ _ _, hargs _ hold, hvars _ hold, World.keptBut_mono (fun p hp => ⟨hp, ?_⟩) (hb.frame (· ∈ before)), fun _ => ?_⟩
 · rw [hps, List.mem_append] at hp
   exact Or.inr hp
 · obtain ⟨_, _, _, _, _, hz, hn⟩ := hW
   refine ⟨hok, _, _, ([] ++ pa) ++ pv, ⟨[] ++ pa, pv, trodAll_append (hargs _ (fun _ _ => rfl)) (hres _ _ _), hvars _ (fun _ _ => rfl), rfl, ?_, ?_⟩, ?_⟩
   · intro b off hp
     have hin : MemPlace.cell b off ∈ before := by rw [hps]; simpa using hp
     rw [hb.frozen (hlt _ hin)]
     exact hz b off hin
   · intro ha
     have := hn ha
     rw [hps] at this
     simpa using this
   · intro p hp _
     rw [hps]
     simpa using hp
end
theorem own : ownKnob Tryz.prog.godebug = none := by kernel_rfl
abbrev laids : List (String × DataW Unit) := Rows.movingregionRulesRow.laid
theorem laid_met (os : Os) (args : Array Value) : laidMetH Tryz.prog laids ((World.laidAll Tryz.prog os laids).forCall (fun _ _ => 0) ⟨#[], args, []⟩).memory := by
 rw [MakeChecks.laidMetH_plain _ _ _ (by kernel_rfl)]
 exact laidMet_laidAll _ (by kernel_rfl) (by kernel_rfl)
theorem u5 : Tryz.prog.underlying 5 = some (.int .u8) := by kernel_rfl
theorem u59 : Tryz.prog.underlying 59 = some (.int .i8) := by kernel_rfl
theorem u4 : Tryz.prog.underlying 4 = some .bool := by kernel_rfl
end Go.Proofs.YtaidphfhmbpelaaGreatDoor
set_option maxRecDepth 100000
namespace Go.Vse
open Go.Proofs Go.RowKit
def intV : Value → Int
 | .int _ n => n
 | _ => 0
theorem cellD_is {w : World} {a : Addr} {v : Value} (h : w.cell? a = some v) : cellD w a = v := by simp [cellD, h]
def cornerAt (W : World) (b off i : Nat) : C4 := ⟨intV (cellD W ⟨b, off + (i * 4 + 0), none⟩), intV (cellD W ⟨b, off + (i * 4 + 1), none⟩), intV (cellD W ⟨b, off + (i * 4 + 2), none⟩), intV (cellD W ⟨b, off + (i * 4 + 3), none⟩)⟩
theorem corners_of_cells {W : World} {b off len cap : Nat} (hb : b < W.heap.size) (hc : len ≤ cap)
   (h : ∀ i, i < len → ∀ j, j < 4 → ∃ n, W.cell? ⟨b, off + (i * 4 + j), none⟩ = some (.int .i8 n) ∧ i8B n = true) :
   ∃ C : List C4, C.all cok = true ∧ IRel (fun _ => False) W (.sl C.length 4 (crnEl C)) (.slice (some ⟨b, off, none⟩) len cap) := by
 have hlen : ((List.range len).map (cornerAt W b off)).length = len := by simp
 have hel : ∀ k, k < len → crnEl ((List.range len).map (cornerAt W b off)) k = crnIV (cornerAt W b off k) := by
   intro k hk
   unfold crnEl
   congr 1
   simp [List.getD_eq_getElem?_getD, hk]
 refine ⟨(List.range len).map (cornerAt W b off), List.all_eq_true.2 fun r hr => ?_, ?_⟩
 · obtain ⟨i, hi, rfl⟩ := List.mem_map.1 hr
   have h1 := h i (List.mem_range.1 hi)
   have g : ∀ j, j < 4 → i8B (intV (cellD W ⟨b, off + (i * 4 + j), none⟩)) = true := fun j hj => by
     obtain ⟨n, hn, hrn⟩ := h1 j hj
     rw [cellD_is hn]; exact hrn
   simp only [cok, cornerAt, g 0 (by omega), g 1 (by omega), g 2 (by omega), g 3 (by omega), Bool.and_self]
 · rw [hlen]
   refine .sl len 4 _ b off cap (fun h => h) hb hc (fun k hk => by rw [hel k hk]; rfl) (fun k j hk hj => ?_) (fun k j hk hj => ?_)
   · obtain ⟨n, hn, _⟩ := h k hk j hj
     exact ⟨by rw [hn]; rfl, by rw [cellD_is hn]; rfl⟩
   · rw [hel k hk]
     have key : ∀ j, j < 4 → IRel (fun _ => False) W (.v (.int .i8 (intV (cellD W ⟨b, off + (k * 4 + j), none⟩)))) (cellD W ⟨b, off + (k * 4 + j), none⟩) := fun j hj => by
       obtain ⟨n, hn, _⟩ := h k hk j hj
       rw [cellD_is hn]
       exact .v _
     rcases (show j = 0 ∨ j = 1 ∨ j = 2 ∨ j = 3 by omega) with rfl | rfl | rfl | rfl
     · exact key 0 (by omega)
     · exact key 1 (by omega)
     · exact key 2 (by omega)
     · exact key 3 (by omega)
structure FrIn (F : Fr) : Prop where
 x : 0 ≤ F.x ∧ F.x < 256
 y : 0 ≤ F.y ∧ F.y < 256
 C : F.C.all cok = true
 H : F.H.all cok = true
theorem cu_cells {F : Fr} (h : FrIn F) : pz.cu (frCells F) = true := by
 have h1 : frOk (frCells F) = true := by
   show (crnsI F.C.length (crnEl F.C) && crnsI F.H.length (crnEl F.H)) = true
   rw [crnsI_lines, crnsI_lines]; rfl
 show (frOk (frCells F) && (decide (0 ≤ (frV (frCells F)).x ∧ (frV (frCells F)).x < 256) && (decide (0 ≤ (frV (frCells F)).y ∧ (frV (frCells F)).y < 256) && ((frV (frCells F)).C.all cok && (frV (frCells F)).H.all cok)))) = true
 rw [h1, frV_cells, decide_eq_true h.x, decide_eq_true h.y, h.C, h.H]
 rfl
theorem fr_rel {W : World} {F : Fr} {v5 v6 : Value} (h5 : IRel (fun _ => False) W (.sl F.C.length 4 (crnEl F.C)) v5) (h6 : IRel (fun _ => False) W (.sl F.H.length 4 (crnEl F.H)) v6) :
   ARel (fun _ => False) (fun _ => none) W (.agg (frCells F)) (.agg #[.int .u8 F.x, .int .u8 F.y, .bool F.root, .bool F.oa, .bool F.ob, v5, v6]) :=
 .agg _ _ rfl fun j hj => by
   rcases (show j = 0 ∨ j = 1 ∨ j = 2 ∨ j = 3 ∨ j = 4 ∨ j = 5 ∨ j = 6 by have : j < 7 := hj; omega) with rfl | rfl | rfl | rfl | rfl | rfl | rfl
   · exact ARel.lit _
   · exact ARel.lit _
   · exact ARel.lit _
   · exact ARel.lit _
   · exact ARel.lit _
   · exact .c _ _ h5
   · exact .c _ _ h6
theorem f3_calls (h3 : PureOk Tryz.prog 3 K3) {F G : Fr} (hF : FrIn F) (hG : FrIn G) {t : Int} (ht : 0 ≤ t ∧ t < 256) (W : World) {v0 v1 : Value} (h0 : ARel (fun _ => False) (fun _ => none) W (.agg (frCells F)) v0) (h1 : ARel (fun _ => False) (fun _ => none) W (.agg (frCells G)) v1) :
   Calls Tryz.prog 3 #[v0, v1, .int .u8 t] W fun e w' => e = .returned (.bool true) ∧ Below W.heap.size W w' := by
 have hk : K3 [.agg (frCells F), .agg (frCells G), .c (.v (.int .u8 t))] = some (boolA true, [pz.cu (frCells F), pz.cu (frCells G), decide (0 ≤ t ∧ t < 256)]) := rfl
 have hs := (h3.sound _ _ _ hk).2 (fun _ => False) W [v0, v1, .int .u8 t] (fun b h => h.elim) (by
   intro p hp
   simp only [List.mem_cons, List.not_mem_nil, or_false] at hp
   rcases hp with rfl | rfl | rfl
   · exact cu_cells hF
   · exact cu_cells hG
   · exact decide_eq_true ht) (Rels.cons h0 (Rels.cons h1 (Rels.cons (ARel.lit _) .nil)))
 have henter := callFunc_enter (P := Tryz.prog) (f := 3) (fn := Tryz.f3) (c := codeOf Tryz.f3) (by kernel_rfl) (by kernel_rfl) (by kernel_rfl) #[v0, v1, .int .u8 t] W
 rcases hs with ⟨_, ⟨_, hcalls⟩ | ⟨v, w', hval, _⟩⟩ | ⟨hy, _⟩
 · refine hcalls.mono ?_
   rintro e w' ⟨u, rfl, hr, hb⟩
   rw [show u = .bool true from hr.plain]
   exact ⟨rfl, hb⟩
 · have e2 : (callFunc 3 #[v0, v1, .int .u8 t]).run Tryz.prog W = .ok (.value v) w' := hval
   rw [henter] at e2
   cases e2
 · exact absurd hy (by decide)
end Go.Vse
set_option maxRecDepth 100000
namespace Go.Proofs.YtaidphfhmbpelaaGreatDoor
open Go Go.ChangeShapes Go.WideShapes Go.ChangeAt Go.WideMaps Go.WideElems Go.RowKit Go.ChangeMaps Go.Deep Go.Joins
section
variable {H : Type} {enc : TypeId × Value → H} {P : Program} {w : World} {base : Nat} {spare : Nat → Bool} {held : Bool}
theorem openRows {t e : TypeId} {fs : Array Field} {fuel : Nat} {cs : List Value} {x : DataW H × List MemPlace} (ht : P.underlying t = some (.slice e)) (he : P.underlying e = some (.struct fs))
   (hone : oneCellFields P fs = true) (hC : P.cellsOf e = fs.size) (h : DataW.trod enc P w base spare held fuel t cs = some x) :
   cs = [.slice none 0 0] ∨
   ∃ (a : Addr) (len cap : Nat), cs = [.slice (some a) len cap] ∧ len ≤ cap ∧
     ∀ i, i < len → ∀ (j : Nat) (f : Field), fs[j]? = some f → ∃ (v : Value) (n : Nat) (y : DataW H × List MemPlace), w.cell? (a.add (i * fs.size + j)) = some v ∧ DataW.trod enc P w base spare held n f.type [v] = some y := by
 rcases open_slice ht h with h0 | ⟨a, len, cap, m, n, D, Pl, hcs, hb, hl, hm, hmm, hx, hi⟩
 · exact .inl h0.1
 · refine .inr ⟨a, len, cap, hcs, hl, fun i hlt j f hj => ?_⟩
   have him : i < m := by rw [hmm]; split <;> omega
   obtain ⟨cs', hc, ht'⟩ := hi i him
   rw [hC] at hc
   obtain ⟨ys, n', hn', hy, hlen, hyl, hf⟩ := DataW.trod_struct he ht'
   obtain ⟨_, hcl, hat⟩ := World.cells?_some hc
   obtain ⟨ho, hk⟩ := hone_of hone j f hj
   have hjl : j < fs.size := (Array.getElem?_eq_some_iff.1 hj).1
   have hcell := hat j hjl
   have hv : cs'[j]? = some (cs'[j]'(by omega)) := List.getElem?_eq_getElem (by omega)
   have h1 := hf j f hj
   rw [ho, hk] at h1
   have hone' : (cs'.drop j).take 1 = [cs'[j]'(by omega)] := by
     rw [List.drop_eq_getElem_cons (by omega)]
     rfl
   rw [hone'] at h1
   have hys : ys[j]? = some (ys[j]'(by omega)) := List.getElem?_eq_getElem (by omega)
   refine ⟨_, _, _, ?_, h1.trans hys⟩
   rw [← Go.Deep.add_add, hcell, hv]
end
theorem u22 : Tryz.prog.underlying 22 = some (.slice 61) := by kernel_rfl
noncomputable def fs24 : Array Field := match Tryz.prog.underlying 24 with | some (.struct fs) => fs | _ => #[]
noncomputable def fs61 : Array Field := match Tryz.prog.underlying 61 with | some (.struct fs) => fs | _ => #[]
theorem u24 : Tryz.prog.underlying 24 = some (.struct fs24) := by kernel_rfl
theorem u61 : Tryz.prog.underlying 61 = some (.struct fs61) := by kernel_rfl
theorem size61 : fs61.size = 4 := by kernel_rfl
theorem size24 : fs24.size = 7 := by kernel_rfl
theorem field61 : ((List.range 4).all fun j => decide ((fs61[j]?).map (·.type) = some 59)) = true := by kernel_rfl
theorem types24 : Tryz.prog.cellTypes Tryz.prog.depth 24 = some [5, 5, 4, 4, 4, 22, 22] := by kernel_rfl
theorem one61 : oneCellFields Tryz.prog fs61 = true := by kernel_rfl
theorem cells61 : Tryz.prog.cellsOf 61 = fs61.size := by kernel_rfl
theorem fun3 : Tryz.prog.funcs[3]? = some Tryz.f3 := by kernel_rfl
theorem pars3 : Tryz.f3.params.toList = [24, 24, 5] := by kernel_rfl
theorem wf_i8 {n : Int} (hn : (Lit.int .i8 n).wf = true) : Vse.i8B n = true := by
 simp only [Lit.wf, IntKind.min, IntKind.max, IntKind.signed, IntKind.bits, Bool.and_eq_true, decide_eq_true_eq] at hn
 simp only [Vse.i8B, Bool.and_eq_true, decide_eq_true_eq]
 simpa using hn
theorem wf_u8 {n : Int} (hn : (Lit.int .u8 n).wf = true) : 0 ≤ n ∧ n < 256 := by
 simp only [Lit.wf, IntKind.min, IntKind.max, IntKind.signed, IntKind.bits, Bool.and_eq_true, decide_eq_true_eq] at hn
 have h1 := hn.1
 have h2 := hn.2
 constructor
 · simpa using h1
 · have : n ≤ 255 := by simpa using h2
   omega
theorem has_plain {W : World} {r : Reach} {base : Nat} {a : Addr} {e : TypeId} {n : Nat} (h : W.has Tryz.prog r base a e n) : a.spot = none ∧ a.block < W.heap.size := by
 obtain ⟨_, hs, row, cells, hsh, _⟩ := h
 refine ⟨hs, ?_⟩
 unfold World.shape? at hsh
 split at hsh
 · rename_i hh
   exact (Array.getElem?_eq_some_iff.1 hh).1
 · cases hsh
section
variable {H : Type} {enc : TypeId × Value → H} {W : World} {base b0 : Nat} {spare : Nat → Bool} {held : Bool}
theorem open_corners {fuel : Nat} {v : Value} {x : DataW H × List MemPlace} (hv : Cell.okWide Tryz.prog W .any b0 22 v) (h : DataW.trod enc Tryz.prog W base spare held fuel 22 [v] = some x) :
   ∃ C : List Vse.C4, C.all Vse.cok = true ∧ Vse.IRel (fun _ => False) W (.sl C.length 4 (Vse.crnEl C)) v := by
 rcases openRows u22 u61 one61 cells61 h with h0 | ⟨a, len, cap, h0, hl, hf⟩
 · obtain rfl : v = .slice none 0 0 := by simpa using h0
   exact ⟨[], rfl, .nil _ _⟩
 · obtain rfl : v = .slice (some a) len cap := by simpa using h0
   have hh : W.has Tryz.prog .any b0 a 61 cap := by
     simp only [Cell.okWide, Cell.ok, u22] at hv
     exact hv.2.2
   obtain ⟨hs, hb⟩ := has_plain hh
   obtain ⟨b, off, sp⟩ := a
   simp only at hs hb
   subst hs
   have key : ∀ i, i < len → ∀ j, j < 4 → ∃ n, W.cell? ⟨b, off + (i * 4 + j), none⟩ = some (.int .i8 n) ∧ Vse.i8B n = true := by
     intro i hi j hj
     have ht : (fs61[j]?).map (·.type) = some 59 := of_decide_eq_true (List.all_eq_true.1 field61 j (List.mem_range.2 hj))
     obtain ⟨f, hf1, hf2⟩ := Option.map_eq_some_iff.1 ht
     obtain ⟨v, n, y, hc, hy⟩ := hf i hi j f hf1
     rw [hf2] at hy
     obtain ⟨k, hk, _, hw⟩ := DataW.trod_int u59 hy
     obtain rfl : v = .int .i8 k := by simpa using hk
     rw [size61, add_plain] at hc
     exact ⟨k, hc, wf_i8 hw⟩
   exact Vse.corners_of_cells (W := W) (b := b) (off := off) (len := len) (cap := cap) hb hl key
theorem array7 {cs : Array Value} (h : cs.size = 7) : ∃ v0 v1 v2 v3 v4 v5 v6, cs = #[v0, v1, v2, v3, v4, v5, v6] := by
 obtain ⟨l⟩ := cs
 match l, h with
 | [a, b, c, d, e, f, g], _ => exact ⟨a, b, c, d, e, f, g, rfl⟩
theorem open_frame {v : Value} {d : DataW H} {ps : List MemPlace} (hv : Value.okWide Tryz.prog W .any b0 24 v) (h : DataW.Trod enc Tryz.prog W base spare held 24 v d ps) :
   ∃ F, Vse.FrIn F ∧ Vse.ARel (fun _ => False) (fun _ => none) W (.agg (Vse.frCells F)) v := by
 simp only [Value.okWide, u24] at hv
 obtain ⟨cs, rfl, hsz, ts, hts, _, hcells⟩ := hv
 obtain rfl := Option.some.inj (types24.symm.trans hts)
 have h2 : Tryz.prog.cellsOf 24 = 7 := by kernel_rfl
 obtain ⟨v0, v1, v2, v3, v4, v5, v6, rfl⟩ := array7 (hsz.trans h2)
 obtain ⟨fuel, hf⟩ := h
 obtain ⟨xs, n, _, _, _, _, hg⟩ := DataW.trod_struct u24 hf
 have hx : ∀ j, j < 7 → ∃ y, xs[j]? = some y := fun j hj => by
   have hl : xs.length = 7 := by
     have : fs24.size = 7 := size24
     omega
   exact ⟨_, List.getElem?_eq_getElem (by omega)⟩
 have part : ∀ (j t : Nat) (u : Value), ((fs24[j]?).map fun f => (f.type, f.offset)) = some (t, j) → Tryz.prog.cellsOf t = 1 → j < 7 → (#[v0, v1, v2, v3, v4, v5, v6] : Array Value)[j]? = some u → ∃ y, DataW.trod enc Tryz.prog W base spare held n t [u] = some y := by
   intro j t u hft hct hj hu
   obtain ⟨g, hg1, hg2⟩ := Option.map_eq_some_iff.1 hft
   simp only [Prod.mk.injEq] at hg2
   have t0 := hg j g hg1
   rw [hg2.1, hg2.2, hct] at t0
   have x0 : ((Value.agg #[v0, v1, v2, v3, v4, v5, v6]).cells.toList.drop j).take 1 = [u] := by
     have hl : j < (#[v0, v1, v2, v3, v4, v5, v6] : Array Value).toList.length := hj
     have hu' : (#[v0, v1, v2, v3, v4, v5, v6] : Array Value).toList[j]'hl = u := by
       have := (Array.getElem?_eq_some_iff.1 hu).2
       simpa using this
     show ((#[v0, v1, v2, v3, v4, v5, v6] : Array Value).toList.drop j).take 1 = [u]
     rw [List.drop_eq_getElem_cons hl, hu']
     rfl
   rw [x0] at t0
   obtain ⟨y, hy⟩ := hx j hj
   exact ⟨y, t0.trans hy⟩
 have k5 : Tryz.prog.cellsOf 5 = 1 := by kernel_rfl
 have k4 : Tryz.prog.cellsOf 4 = 1 := by kernel_rfl
 have k22 : Tryz.prog.cellsOf 22 = 1 := by kernel_rfl
 obtain ⟨_, t0⟩ := part 0 5 v0 (by kernel_rfl) k5 (by omega) rfl
 obtain ⟨_, t1⟩ := part 1 5 v1 (by kernel_rfl) k5 (by omega) rfl
 obtain ⟨_, t2⟩ := part 2 4 v2 (by kernel_rfl) k4 (by omega) rfl
 obtain ⟨_, t3⟩ := part 3 4 v3 (by kernel_rfl) k4 (by omega) rfl
 obtain ⟨_, t4⟩ := part 4 4 v4 (by kernel_rfl) k4 (by omega) rfl
 obtain ⟨_, t5⟩ := part 5 22 v5 (by kernel_rfl) k22 (by omega) rfl
 obtain ⟨_, t6⟩ := part 6 22 v6 (by kernel_rfl) k22 (by omega) rfl
 obtain ⟨x, hx0, _, wx⟩ := DataW.trod_int u5 t0
 obtain ⟨y, hy0, _, wy⟩ := DataW.trod_int u5 t1
 obtain ⟨r, hr0, _⟩ := DataW.trod_bool u4 t2
 obtain ⟨oa, ho0, _⟩ := DataW.trod_bool u4 t3
 obtain ⟨ob, hp0, _⟩ := DataW.trod_bool u4 t4
 obtain rfl : v0 = .int .u8 x := by simpa using hx0
 obtain rfl : v1 = .int .u8 y := by simpa using hy0
 obtain rfl : v2 = .bool r := by simpa using hr0
 obtain rfl : v3 = .bool oa := by simpa using ho0
 obtain rfl : v4 = .bool ob := by simpa using hp0
 obtain ⟨w5, e5, o5⟩ := hcells 5 v5 rfl
 obtain ⟨w6, e6, o6⟩ := hcells 6 v6 rfl
 obtain rfl : 22 = w5 := Option.some.inj e5
 obtain rfl : 22 = w6 := Option.some.inj e6
 obtain ⟨Co, hC, i5⟩ := open_corners o5 t5
 obtain ⟨Ho, hH, i6⟩ := open_corners o6 t6
 exact ⟨⟨x, y, r, oa, ob, Co, Ho⟩, ⟨wf_u8 wx, wf_u8 wy, hC, hH⟩, Vse.fr_rel (F := ⟨x, y, r, oa, ob, Co, Ho⟩) i5 i6⟩
end
end Go.Proofs.YtaidphfhmbpelaaGreatDoor
