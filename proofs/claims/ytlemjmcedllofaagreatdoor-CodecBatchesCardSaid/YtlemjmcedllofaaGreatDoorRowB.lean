/- Helpers for the proof: no statement of its own. -/
import Derived.Test.YtlemjmcedllofaaGreatDoorRowA
import Derived.Test.YtlemjmcedllofaaGreatDoorBatB
import Derived.Deep.Slices
import Derived.Deep.Fields
import Derived.Lib.SmallJoins
set_option linter.unusedVariables false
set_option linter.unusedSimpArgs false
set_option linter.unnecessarySimpa false
set_option linter.deprecated false
set_option maxRecDepth 100000
namespace Go.Proofs.YtlemjmcedllofaaGreatDoor
open Go Go.ChangeShapes Go.WideShapes Go.ChangeAt Go.WideMaps Go.WideElems Go.RowKit Go.ChangeMaps Go.Deep Go.Joins
section
variable {H : Type} {enc : TypeId × Value → H} {P : Program} {w : World} {base : Nat} {spare : Nat → Bool} {held : Bool}
/-- a slice of structs of one-cell fields (after the guide's open_slice_fields) -/
theorem openRows {t e : TypeId} {fs : Array Field} {fuel : Nat} {cs : List Value} {x : DataW H × List MemPlace} (ht : P.underlying t = some (.slice e)) (he : P.underlying e = some (.struct fs))
    (hone : oneCellFields P fs = true) (hC : P.cellsOf e = fs.size) (h : DataW.trod enc P w base spare held fuel t cs = some x) :
    cs = [.slice none 0 0] ∨
    ∃ (a : Addr) (len cap : Nat), cs = [.slice (some a) len cap] ∧ len ≤ cap ∧
      ∀ i, i < len → ∀ (j : Nat) (f : Field), fs[j]? = some f → ∃ (v : Value) (n : Nat) (y : DataW H × List MemPlace), w.cell? (a.add (i * fs.size + j)) = some v ∧ DataW.trod enc P w base spare held n f.type [v] = some y := by
  rcases open_slice ht h with h0 | ⟨a, len, cap, m, n, D, Pl, hcs, hb, hl, hm, hmm, hx, hi⟩
  · exact .inl h0.1
  · refine .inr ⟨a, len, cap, hcs, hl, fun i hlt j f hj => ?_⟩
    have him : i < m := by rw [hmm]; split <;> omega
    obtain ⟨cs', hc, ht'⟩ := hi i him
    rw [hC] at hc
    obtain ⟨ys, n', hn', hy, hlen, hyl, hf⟩ := DataW.trod_struct he ht'
    obtain ⟨_, hcl, hat⟩ := World.cells?_some hc
    obtain ⟨ho, hk⟩ := hone_of hone j f hj
    have hjl : j < fs.size := (Array.getElem?_eq_some_iff.1 hj).1
    have hcell := hat j hjl
    have hv : cs'[j]? = some (cs'[j]'(by omega)) := List.getElem?_eq_getElem (by omega)
    have h1 := hf j f hj
    rw [ho, hk] at h1
    have hone' : (cs'.drop j).take 1 = [cs'[j]'(by omega)] := by
      rw [List.drop_eq_getElem_cons (by omega)]
      rfl
    rw [hone'] at h1
    have hys : ys[j]? = some (ys[j]'(by omega)) := List.getElem?_eq_getElem (by omega)
    refine ⟨_, _, _, ?_, h1.trans hys⟩
    rw [← Go.Deep.add_add, hcell, hv]
end
theorem u29 : Tryz.prog.underlying 29 = some (.slice 37) := by kernel_rfl
theorem u30 : Tryz.prog.underlying 30 = some (.slice 39) := by kernel_rfl
noncomputable def fs32 : Array Field := match Tryz.prog.underlying 32 with | some (.struct fs) => fs | _ => #[]
noncomputable def fs37 : Array Field := match Tryz.prog.underlying 37 with | some (.struct fs) => fs | _ => #[]
noncomputable def fs39 : Array Field := match Tryz.prog.underlying 39 with | some (.struct fs) => fs | _ => #[]
theorem u32 : Tryz.prog.underlying 32 = some (.struct fs32) := by kernel_rfl
theorem u37 : Tryz.prog.underlying 37 = some (.struct fs37) := by kernel_rfl
theorem u39 : Tryz.prog.underlying 39 = some (.struct fs39) := by kernel_rfl
theorem size37 : fs37.size = 8 := by kernel_rfl
theorem size39 : fs39.size = 5 := by kernel_rfl
theorem field37 : ((List.range 7).all fun j => decide ((fs37[j]?).map (·.type) = some 3)) = true := by kernel_rfl
theorem field37b : (fs37[7]?).map (·.type) = some 4 := by kernel_rfl
theorem field39 : ((List.range 5).all fun j => decide ((fs39[j]?).map (·.type) = some 3)) = true := by kernel_rfl
theorem types32 : Tryz.prog.cellTypes Tryz.prog.depth 32 = some [29, 30] := by kernel_rfl
theorem one37 : oneCellFields Tryz.prog fs37 = true := by kernel_rfl
theorem one39 : oneCellFields Tryz.prog fs39 = true := by kernel_rfl
theorem cells37 : Tryz.prog.cellsOf 37 = fs37.size := by kernel_rfl
theorem cells39 : Tryz.prog.cellsOf 39 = fs39.size := by kernel_rfl
theorem fun5 : Tryz.prog.funcs[5]? = some Tryz.f5 := by kernel_rfl
theorem pars5 : Tryz.f5.params.toList = [32] := by kernel_rfl
theorem wf_range {n : Int} (hn : (Lit.int .i64 n).wf = true) : Vse.rangeB n = true := by
  simp only [Lit.wf, IntKind.min, IntKind.max, IntKind.signed, IntKind.bits, Bool.and_eq_true, decide_eq_true_eq] at hn
  simp only [Vse.rangeB, Bool.and_eq_true, decide_eq_true_eq]
  simpa using hn
/-- an address whose row is there -/
theorem has_plain {W : World} {r : Reach} {base : Nat} {a : Addr} {e : TypeId} {n : Nat} (h : W.has Tryz.prog r base a e n) : a.spot = none ∧ a.block < W.heap.size := by
  obtain ⟨_, hs, row, cells, hsh, _⟩ := h
  refine ⟨hs, ?_⟩
  unfold World.shape? at hsh
  split at hsh
  · rename_i hh
    exact (Array.getElem?_eq_some_iff.1 hh).1
  · cases hsh
section
variable {H : Type} {enc : TypeId × Value → H} {W : World} {base b0 : Nat} {spare : Nat → Bool} {held : Bool}
theorem open_reports {fuel : Nat} {v : Value} {x : DataW H × List MemPlace} (hv : Cell.okWide Tryz.prog W .any b0 29 v) (h : DataW.trod enc Tryz.prog W base spare held fuel 29 [v] = some x) :
    ∃ rs : List Vse.Rep, Vse.repsOk rs = true ∧ Vse.IRel (fun _ => False) W (.sl rs.length 8 (Vse.repEl rs)) v := by
  rcases openRows u29 u37 one37 cells37 h with h0 | ⟨a, len, cap, h0, hl, hf⟩
  · obtain rfl : v = .slice none 0 0 := by simpa using h0
    exact ⟨[], rfl, .nil _ _⟩
  · obtain rfl : v = .slice (some a) len cap := by simpa using h0
    have hh : W.has Tryz.prog .any b0 a 37 cap := by
      simp only [Cell.okWide, Cell.ok, u29] at hv
      exact hv.2.2
    obtain ⟨hs, hb⟩ := has_plain hh
    obtain ⟨b, off, sp⟩ := a
    simp only at hs hb
    subst hs
    have key : ∀ i, i < len → (∀ j, j < 7 → ∃ n, W.cell? ⟨b, off + (i * 8 + j), none⟩ = some (.int .i64 n) ∧ Vse.rangeB n = true) ∧ ∃ k, W.cell? ⟨b, off + (i * 8 + 7), none⟩ = some (.bool k) := by
      intro i hi
      refine ⟨fun j hj => ?_, ?_⟩
      · have ht : (fs37[j]?).map (·.type) = some 3 := of_decide_eq_true (List.all_eq_true.1 field37 j (List.mem_range.2 hj))
        obtain ⟨f, hf1, hf2⟩ := Option.map_eq_some_iff.1 ht
        obtain ⟨v, n, y, hc, hy⟩ := hf i hi j f hf1
        rw [hf2] at hy
        obtain ⟨k, hk, _, hw⟩ := DataW.trod_int u3 hy
        obtain rfl : v = .int .i64 k := by simpa using hk
        rw [size37, add_plain] at hc
        exact ⟨k, hc, wf_range hw⟩
      · obtain ⟨f, hf1, hf2⟩ := Option.map_eq_some_iff.1 field37b
        obtain ⟨v, n, y, hc, hy⟩ := hf i hi 7 f hf1
        rw [hf2] at hy
        obtain ⟨k, hk, _⟩ := DataW.trod_bool u4 hy
        obtain rfl : v = .bool k := by simpa using hk
        rw [size37, add_plain] at hc
        exact ⟨k, hc⟩
    obtain ⟨rs, _, h2, h3⟩ := Vse.reps_of_cells (W := W) (b := b) (off := off) (len := len) (cap := cap) hb hl key
    exact ⟨rs, h2, h3⟩
theorem open_exchanges {fuel : Nat} {v : Value} {x : DataW H × List MemPlace} (hv : Cell.okWide Tryz.prog W .any b0 30 v) (h : DataW.trod enc Tryz.prog W base spare held fuel 30 [v] = some x) :
    ∃ rs : List Vse.Exc, Vse.excsOk rs = true ∧ Vse.IRel (fun _ => False) W (.sl rs.length 5 (Vse.excEl rs)) v := by
  rcases openRows u30 u39 one39 cells39 h with h0 | ⟨a, len, cap, h0, hl, hf⟩
  · obtain rfl : v = .slice none 0 0 := by simpa using h0
    exact ⟨[], rfl, .nil _ _⟩
  · obtain rfl : v = .slice (some a) len cap := by simpa using h0
    have hh : W.has Tryz.prog .any b0 a 39 cap := by
      simp only [Cell.okWide, Cell.ok, u30] at hv
      exact hv.2.2
    obtain ⟨hs, hb⟩ := has_plain hh
    obtain ⟨b, off, sp⟩ := a
    simp only at hs hb
    subst hs
    have key : ∀ i, i < len → ∀ j, j < 5 → ∃ n, W.cell? ⟨b, off + (i * 5 + j), none⟩ = some (.int .i64 n) ∧ Vse.rangeB n = true := by
      intro i hi j hj
      have ht : (fs39[j]?).map (·.type) = some 3 := of_decide_eq_true (List.all_eq_true.1 field39 j (List.mem_range.2 hj))
      obtain ⟨f, hf1, hf2⟩ := Option.map_eq_some_iff.1 ht
      obtain ⟨v, n, y, hc, hy⟩ := hf i hi j f hf1
      rw [hf2] at hy
      obtain ⟨k, hk, _, hw⟩ := DataW.trod_int u3 hy
      obtain rfl : v = .int .i64 k := by simpa using hk
      rw [size39, add_plain] at hc
      exact ⟨k, hc, wf_range hw⟩
    obtain ⟨rs, _, h2, h3⟩ := Vse.excs_of_cells (W := W) (b := b) (off := off) (len := len) (cap := cap) hb hl key
    exact ⟨rs, h2, h3⟩
theorem open_batch {v : Value} {d : DataW H} {ps : List MemPlace} (hv : Value.okWide Tryz.prog W .any b0 32 v) (h : DataW.Trod enc Tryz.prog W base spare held 32 v d ps) :
    ∃ rs es, Vse.repsOk rs = true ∧ Vse.excsOk es = true ∧ Vse.ARel (fun _ => False) (fun _ => none) W (Vse.barg rs es) v := by
  simp only [Value.okWide, u32] at hv
  obtain ⟨cs, rfl, hsz, ts, hts, _, hcells⟩ := hv
  obtain rfl := Option.some.inj (types32.symm.trans hts)
  have h2 : Tryz.prog.cellsOf 32 = 2 := by kernel_rfl
  obtain ⟨v0, v1, rfl⟩ := array2 (hsz.trans h2)
  obtain ⟨fuel, hf⟩ := h
  obtain ⟨xs, n, _, _, _, _, hg⟩ := DataW.trod_struct u32 hf
  obtain ⟨w0, e0, o0⟩ := hcells 0 v0 rfl
  obtain ⟨w1, e1, o1⟩ := hcells 1 v1 rfl
  obtain rfl : 29 = w0 := Option.some.inj e0
  obtain rfl : 30 = w1 := Option.some.inj e1
  have f0 : (fs32[0]?).map (fun f => (f.type, f.offset)) = some (29, 0) := by kernel_rfl
  have f1 : (fs32[1]?).map (fun f => (f.type, f.offset)) = some (30, 1) := by kernel_rfl
  obtain ⟨g0, a0, b0'⟩ := Option.map_eq_some_iff.1 f0
  obtain ⟨g1, a1, b1'⟩ := Option.map_eq_some_iff.1 f1
  simp only [Prod.mk.injEq] at b0' b1'
  have t0 := hg 0 g0 a0
  have t1 := hg 1 g1 a1
  have k29 : Tryz.prog.cellsOf 29 = 1 := by kernel_rfl
  have k30 : Tryz.prog.cellsOf 30 = 1 := by kernel_rfl
  rw [b0'.1, b0'.2, k29] at t0
  rw [b1'.1, b1'.2, k30] at t1
  have x0 : ((Value.agg #[v0, v1]).cells.toList.drop 0).take 1 = [v0] := by simp [Value.cells]
  have x1 : ((Value.agg #[v0, v1]).cells.toList.drop 1).take 1 = [v1] := by simp [Value.cells]
  rw [x0] at t0
  rw [x1] at t1
  have hx : ∀ j, j < 2 → ∃ y, xs[j]? = some y := fun j hj => by
    have hl : xs.length = 2 := by
      have : fs32.size = 2 := by kernel_rfl
      omega
    exact ⟨_, List.getElem?_eq_getElem (by omega)⟩
  obtain ⟨y0, hy0⟩ := hx 0 (by omega)
  obtain ⟨y1, hy1⟩ := hx 1 (by omega)
  obtain ⟨rs, hr, i0⟩ := open_reports o0 (t0.trans hy0)
  obtain ⟨es, he, i1⟩ := open_exchanges o1 (t1.trans hy1)
  exact ⟨rs, es, hr, he, Vse.barg_rel i0 i1⟩
end
end Go.Proofs.YtlemjmcedllofaaGreatDoor
