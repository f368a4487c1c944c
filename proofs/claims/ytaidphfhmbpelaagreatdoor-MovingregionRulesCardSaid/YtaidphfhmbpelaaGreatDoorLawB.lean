/- Helpers for the proof: no statement of its own. -/
import Derived.Test.YtaidphfhmbpelaaGreatDoorRunC
import Derived.Test.YtaidphfhmbpelaaGreatDoorRunD
import Derived.Test.YtaidphfhmbpelaaGreatDoorRunE
import Derived.Test.YtaidphfhmbpelaaGreatDoorRunF
import Derived.Test.YtaidphfhmbpelaaGreatDoorRunA
import Derived.Test.YtaidphfhmbpelaaGreatDoorRunB
set_option linter.unusedVariables false
set_option linter.unusedSimpArgs false
set_option linter.unnecessarySimpa false
set_option linter.deprecated false
set_option maxRecDepth 100000
set_option maxHeartbeats 4000000
namespace Go.Vse
open Go.Proofs
def holX2 : Option (List L4) → IV
 | none => .v (Value.slice none 0 0)
 | some M => .sl 1 1 fun _ => [slI M]
theorem sh2_sl (L : List L4) (M : Option (List L4)) : sh2 (slI L) (holX2 M) = some (L, M) := by
 cases M with
 | none => show some (linesOf L.length (lineEl L), none) = _; rw [linesOf_el]
 | some M => show some (linesOf L.length (lineEl L), some (linesOf M.length (lineEl M))) = _; rw [linesOf_el, linesOf_el]
theorem okS_sl (L : List L4) (M : Option (List L4)) : okS (slI L) (holX2 M) = true := by
 cases M with
 | none => exact linesOk_lines L
 | some M => show (linesOk L.length (lineEl L) && linesOk M.length (lineEl M)) = true; rw [linesOk_lines, linesOk_lines]; rfl
theorem raw_sl (L : List L4) (M : Option (List L4)) : rawB (.agg [.c (slI L), .c (holX2 M)]) = false := by
 have h := rawB_sh L M
 cases M with
 | none => exact h
 | some M => exact h
theorem rb_rl {L : List L4} (h : rb L = true) : rl L = true := by
 unfold rb at h
 simp only [Bool.and_eq_true] at h
 exact h.2
theorem allO_rb_rl {M : Option (List L4)} (h : allO rb M = true) : allO rl M = true := by
 cases M with
 | none => rfl
 | some M => exact rb_rl h
theorem rd_n (L : List L4) (M : Option (List L4)) (t : R3) : pz.rn (slI L) (holX2 M) (realCells t) = (L.map (redL t)).length := by
 show on2 0 _ _ _ = _
 rw [on2_val (sh2_sl L M), realV_cells]
theorem rd_el (L : List L4) (M : Option (List L4)) (t : R3) : pz.rel (slI L) (holX2 M) (realCells t) = lineEl (L.map (redL t)) := by
 show on2 (fun _ => []) _ _ _ = _
 rw [on2_val (sh2_sl L M), realV_cells]
theorem rd_he (L : List L4) (M : Option (List L4)) (t : R3) : pz.rhe (slI L) (holX2 M) (realCells t) = fun _ => [slI (lnO (redS t M))] := by
 show on2 (fun _ => []) _ _ _ = _
 rw [on2_val (sh2_sl L M), realV_cells]
theorem sm_v (L L' : List L4) (M M' : Option (List L4)) (t : R3) : pz.sm (slI L) (holX2 M) (slI L') (holX2 M') (realCells t) = eqRings (sameL t) L M L' M' := by
 show on4 false _ _ _ _ _ = _
 rw [on4_val (sh2_sl L M) (sh2_sl L' M'), realV_cells]
theorem eq_v (L L' : List L4) (M M' : Option (List L4)) : pz.eq (slI L) (holX2 M) (slI L') (holX2 M') = eqRings eqL L M L' M' := by
 show on4 false _ _ _ _ _ = _
 rw [on4_val (sh2_sl L M) (sh2_sl L' M')]
theorem cSm_v {L L' : List L4} {M M' : Option (List L4)} {t : R3} (h1 : rb L = true) (h2 : allO rb M = true) (h3 : rb L' = true) (h4 : allO rb M' = true) (ht : tbB t = true) : pz.cSm (slI L) (holX2 M) (slI L') (holX2 M') (realCells t) = true := by
 show on4 false _ _ _ _ _ = _
 rw [on4_val (sh2_sl L M) (sh2_sl L' M'), realV_cells, realOk_cells, okS_sl, okS_sl, h1, h2, h3, h4, ht]
 rfl
theorem cEq_v {L L' : List L4} {M M' : Option (List L4)} (h1 : rb L = true) (h2 : allO rb M = true) (h3 : rb L' = true) (h4 : allO rb M' = true) : pz.cEq (slI L) (holX2 M) (slI L') (holX2 M') = true := by
 show on4 false _ _ _ _ _ = _
 rw [on4_val (sh2_sl L M) (sh2_sl L' M'), okS_sl, okS_sl, rb_rl h1, allO_rb_rl h2, rb_rl h3, allO_rb_rl h4]
 rfl
theorem cRd_v {L : List L4} {M : Option (List L4)} {t : R3} (h1 : rb L = true) (h2 : allO rb M = true) (ht : tbB t = true) : pz.cRd (slI L) (holX2 M) (realCells t) = true := by
 show on2 false _ _ _ = _
 rw [on2_val (sh2_sl L M), realV_cells, realOk_cells, okS_sl, h1, h2, ht]
 rfl
theorem cV_v {L : List L4} {M : Option (List L4)} (h1 : rb L = true) (h2 : allO rb M = true) : pz.cV (slI L) (holX2 M) = true := by
 show on2 false _ _ _ = _
 rw [on2_val (sh2_sl L M), okS_sl, rb_rl h1, allO_rb_rl h2]
 rfl
theorem cCk_v {L : List L4} {M : Option (List L4)} (h1 : rb L = true) (h2 : allO rb M = true) (h3 : holB M = true) : pz.cCk (slI L) (holX2 M) = true := by
 show on2 false _ _ _ = _
 rw [on2_val (sh2_sl L M), okS_sl, h1, h2, h3]
 simp
theorem ck_v {L : List L4} {M : Option (List L4)} (h : chk L M = 0) : pz.ck (slI L) (holX2 M) = 0 := by
 show on2 0 _ _ _ = _
 rw [on2_val (sh2_sl L M), raw_sl, cond_false, h]
abbrev wideI : IV := (IV.sl (Int.toNat 13) (15 + 1) fun x => List.map IV.v [Value.bool false, Value.string { data := #[] }, Value.bool false, Value.string { data := #[] }, Value.bool false, Value.string { data := #[] }, Value.bool false, Value.string { data := #[] }, Value.bool false, Value.string { data := #[] }, Value.bool false, Value.string { data := #[] }, Value.bool false, Value.string { data := #[] }, Value.bool false, Value.string { data := #[] }])
abbrev rawI : IV := (IV.sl 1 (15 + 1) fun k => List.take (15 + 1) (List.drop (k * (15 + 1)) [IV.v (Value.string { data := #[] }), IV.v (Value.bool false), IV.v (Value.string { data := #[] }), IV.v (Value.bool false), IV.v (Value.string { data := #[] }), IV.v (Value.bool false), IV.v (Value.string { data := #[] }), IV.v (Value.bool false), IV.v (Value.string { data := #[] }), IV.v (Value.bool false), IV.v (Value.string { data := #[] }), IV.v (Value.bool false), IV.v (Value.string { data := #[1] }), IV.v (Value.bool false), IV.v (Value.string { data := #[] }), IV.v (Value.bool false)].reverse))
abbrev nilI : IV := .v (Value.slice none 0 0)
theorem wide_ck : pz.ck wideI nilI = 3 := by decide
theorem wide_cck : pz.cCk wideI nilI = true := by decide
theorem raw_ck : pz.ck rawI nilI = 5 := by decide
theorem raw_cck : pz.cCk rawI nilI = true := by decide
theorem rest_ok (L L' : List L4) (M M' : Option (List L4)) (t : R3) (A B : List L4) (s e : Bool) (i : Int)
  (h1 : rb L = true) (h2 : allO rb M = true) (h3 : rb L' = true) (h4 : allO rb M' = true) (ht : tbB t = true) (hb : holB M = true) (hk : chk L M = 0)
  (r1 : rb (L.map (redL t)) = true) (r2 : allO rb (redS t M) = true) (r3 : rb (L'.map (redL t)) = true) (r4 : allO rb (redS t M') = true)
  (hs : eqRings (sameL t) L M L' M' = s) (he : eqRings eqL L M L' M' = e) :
  (restRun Tryz.prog (Γ3x pz) L3 1010 Tryz.f3 (restOf 10 (codeOf Tryz.f3)) (mkSt nrm3 (head3 ⟨slI L, holX2 M, slI L', holX2 M', t, A, B, s, e, i⟩))).sat fun r => r = boolA true := by
 have q1 : IV.sl (pz.rn (slI L) (holX2 M) (realCells t)) 16 (pz.rel (slI L) (holX2 M) (realCells t)) = slI (L.map (redL t)) := by rw [rd_n, rd_el]; rfl
 have q2 : IV.sl (pz.rn (slI L') (holX2 M') (realCells t)) 16 (pz.rel (slI L') (holX2 M') (realCells t)) = slI (L'.map (redL t)) := by rw [rd_n, rd_el]; rfl
 have g1 := cSm_v h1 h2 h3 h4 ht
 have g2 := (sm_v L L' M M' t).trans hs
 have g3 := cEq_v h1 h2 h3 h4
 have g4 := (eq_v L L' M M').trans he
 have g5 := cRd_v h1 h2 ht
 have g6 := cRd_v h3 h4 ht
 have g7 := cEq_v r1 r2 r3 r4
 have g8 := (eq_v (L.map (redL t)) (L'.map (redL t)) (redS t M) (redS t M')).trans ((red_rings t L M L' M').trans hs)
 have g9 := cSm_v r1 r2 h1 h2 ht
 have g10 := (sm_v (L.map (redL t)) L (redS t M) M t).trans (self_rings t L M)
 have g11 := cCk_v h1 h2 hb
 have g12 := ck_v hk
 cases M with
 | none =>
  cases M' with
  | none =>
   rw [show holX2 none = IV.v (Value.slice none 0 0) from rfl] at *
   rw [M21nn_eq pz (slI L) (slI L') (fun _ => []) (fun _ => []) t A B s e i]
   exact M21nn_sat pz (slI L) (slI L') (fun _ => []) (fun _ => []) t A B s e i _ _ rfl rfl g1 g2 g3 g4 g5 g6 (by rw [q1, q2]; exact g7) (by rw [q1, q2]; exact g8) (by rw [q1]; exact g9) (by rw [q1]; exact g10) g11 g12 wide_cck wide_ck raw_cck raw_ck
  | some M' =>
   have w2 := rd_he L' (some M') t
   rw [show holX2 none = IV.v (Value.slice none 0 0) from rfl] at *
   rw [show holX2 (some M') = IV.sl 1 1 (fun _ => [slI M']) from rfl] at *
   rw [M21ns_eq pz (slI L) (slI L') (fun _ => []) (fun _ => [slI M']) t A B s e i]
   exact M21ns_sat pz (slI L) (slI L') (fun _ => []) (fun _ => [slI M']) t A B s e i _ _ rfl rfl g1 g2 g3 g4 g5 g6 (by rw [q1, q2, w2]; exact g7) (by rw [q1, q2, w2]; exact g8) (by rw [q1]; exact g9) (by rw [q1]; exact g10) g11 g12 wide_cck wide_ck raw_cck raw_ck
 | some M =>
  have w1 := rd_he L (some M) t
  cases M' with
  | none =>
   rw [show holX2 none = IV.v (Value.slice none 0 0) from rfl] at *
   rw [show holX2 (some M) = IV.sl 1 1 (fun _ => [slI M]) from rfl] at *
   rw [M21sn_eq pz (slI L) (slI L') (fun _ => [slI M]) (fun _ => []) t A B s e i]
   exact M21sn_sat pz (slI L) (slI L') (fun _ => [slI M]) (fun _ => []) t A B s e i _ _ rfl rfl g1 g2 g3 g4 g5 g6 (by rw [q1, q2, w1]; exact g7) (by rw [q1, q2, w1]; exact g8) (by rw [q1, w1]; exact g9) (by rw [q1, w1]; exact g10) g11 g12 wide_cck wide_ck raw_cck raw_ck
  | some M' =>
   have w2 := rd_he L' (some M') t
   rw [show holX2 (some M) = IV.sl 1 1 (fun _ => [slI M]) from rfl] at *
   rw [show holX2 (some M') = IV.sl 1 1 (fun _ => [slI M']) from rfl] at *
   rw [M21ss_eq pz (slI L) (slI L') (fun _ => [slI M]) (fun _ => [slI M']) t A B s e i]
   exact M21ss_sat pz (slI L) (slI L') (fun _ => [slI M]) (fun _ => [slI M']) t A B s e i _ _ rfl rfl g1 g2 g3 g4 g5 g6 (by rw [q1, q2, w1, w2]; exact g7) (by rw [q1, q2, w1, w2]; exact g8) (by rw [q1, w1]; exact g9) (by rw [q1, w1]; exact g10) g11 g12 wide_cck wide_ck raw_cck raw_ck
end Go.Vse
set_option maxRecDepth 100000
set_option maxHeartbeats 4000000
namespace Go.Vse
open Go.Proofs
def fRb (F : Fr) : Prop := rb (outerF F) = true ∧ allO rb (holeF F) = true ∧ holB (holeF F) = true ∧ chk (outerF F) (holeF F) = 0
theorem rb_of {L : List L4} (h : ∀ x ∈ L, lbB x = true) (hn : L.length ≤ 12) : rb L = true := by
 unfold rb
 rw [List.all_eq_true.2 h, decide_eq_true (by omega)]
 rfl
theorem abF {F : Fr} (hx : 0 ≤ F.x) (hy : 0 ≤ F.y) : abB (fa F) (fb F) = true := by
 unfold abB fb fa
 have h1 := Int.emod_nonneg F.x (b := 8) (by decide)
 have h2 := Int.emod_lt_of_pos F.x (b := 8) (by decide)
 have h3 := Int.emod_nonneg F.y (b := 4) (by decide)
 have h4 := Int.emod_lt_of_pos F.y (b := 4) (by decide)
 simp only [Bool.and_eq_true, decide_eq_true_eq]
 omega
theorem outer_red {F : Fr} (hx : 0 ≤ F.x) (hy : 0 ≤ F.y) (hC : F.C.all cok = true) (t : R3) (T : Int) (ht : t.p = (T : Rat)) (hT : 0 ≤ T ∧ T ≤ 7) : rb ((outerF F).map (redL t)) = true := by
 refine rb_of ?_ (by simp only [outerF, List.length_map, List.length_take]; omega)
 intro x hx'
 simp only [outerF, List.map_map, List.mem_map] at hx'
 obtain ⟨c, hc, rfl⟩ := hx'
 exact redC_lb _ _ T c (List.all_eq_true.1 hC c (List.mem_of_mem_take hc)) (abF hx hy) t ht hT
theorem outer_rb {F : Fr} (hx : 0 ≤ F.x) (hy : 0 ≤ F.y) (hC : F.C.all cok = true) : rb (outerF F) = true := by
 refine rb_of ?_ (by simp only [outerF, List.length_map, List.length_take]; omega)
 intro x hx'
 simp only [outerF, List.mem_map] at hx'
 obtain ⟨c, hc, rfl⟩ := hx'
 exact lineC_lb _ _ c (List.all_eq_true.1 hC c (List.mem_of_mem_take hc)) (abF hx hy)
theorem hole_red {F : Fr} (hx : 0 ≤ F.x) (hy : 0 ≤ F.y) (hC : F.H.all cok = true) (t : R3) (T : Int) (ht : t.p = (T : Rat)) (hT : 0 ≤ T ∧ T ≤ 7) : allO rb (redS t (holeF F)) = true := by
 unfold holeF
 cases F.H.isEmpty with
 | true => rfl
 | false =>
   refine rb_of ?_ (by simp only [List.length_map, List.length_take]; omega)
   intro x hx'
   simp only [List.map_map, List.mem_map] at hx'
   obtain ⟨c, hc, rfl⟩ := hx'
   exact redC_lb _ _ T c (List.all_eq_true.1 hC c (List.mem_of_mem_take hc)) (abF hx hy) t ht hT
theorem hole_rb {F : Fr} (hx : 0 ≤ F.x) (hy : 0 ≤ F.y) (hC : F.H.all cok = true) : allO rb (holeF F) = true := by
 unfold holeF
 cases F.H.isEmpty with
 | true => rfl
 | false =>
   refine rb_of ?_ (by simp only [List.length_map, List.length_take]; omega)
   intro x hx'
   simp only [List.mem_map] at hx'
   obtain ⟨c, hc, rfl⟩ := hx'
   exact lineC_lb _ _ c (List.all_eq_true.1 hC c (List.mem_of_mem_take hc)) (abF hx hy)
theorem hole_hol (F : Fr) : holB (holeF F) = true := by
 unfold holeF
 cases h : F.H with
 | nil => rfl
 | cons c l =>
  show decide (0 < (List.map (lineC (fa F) (fb F)) (List.take 3 (c :: l))).length) = true
  simp
theorem chkF (F : Fr) : chk (outerF F) (holeF F) = 0 := by
 have h1 : (outerF F).length ≤ 5 := by simp only [outerF, List.length_map, List.length_take]; omega
 have h2 : bigO (holeF F) = false := by
   unfold holeF
   cases F.H.isEmpty with
   | true => rfl
   | false =>
     show decide _ = false
     refine decide_eq_false ?_
     simp only [List.length_map, List.length_take]
     omega
 unfold chk idx52
 rw [decide_eq_false (show ¬ ((outerF F).length : Int) > 12 by omega), h2]
 rfl
structure Side (l : List AV) (B : IV) : Prop where
 x0 : 0 ≤ (frV l).x
 y0 : 0 ≤ (frV l).y
 C : (frV l).C.all cok = true
 H : (frV l).H.all cok = true
 B : B = holX2 (holeF (frV l))
theorem Side.of {l : List AV} {B : IV} (h : pz.cu l = true) (hB : B = holX2 (holeF (frV l))) : Side l B := by
 simp only [pz, Bool.and_eq_true] at h
 obtain ⟨_, h2, h3, h4, h5⟩ := h
 exact ⟨(of_decide_eq_true h2).1, (of_decide_eq_true h3).1, h4, h5, hB⟩
abbrev aI (l : List AV) : IV := .sl (pz.n l) 16 (pz.el l)
theorem Side.sh {l : List AV} {B : IV} (s : Side l B) : sh2 (aI l) B = some (outerF (frV l), holeF (frV l)) := by
 rw [s.B]; exact sh2_sl _ _
theorem Side.cV {l : List AV} {B : IV} (s : Side l B) : pz.cV (aI l) B = true := by
 rw [s.B]; exact cV_v (outer_rb s.x0 s.y0 s.C) (hole_rb s.x0 s.y0 s.H)
theorem Side.vs {l : List AV} {B : IV} (s : Side l B) : vs2 (aI l) B = outerF (frV l) ++ lnO (holeF (frV l)) := vs2_val s.sh
theorem rb_len {L : List L4} (h : rb L = true) : L.length ≤ 1000 := by
 unfold rb at h
 simp only [Bool.and_eq_true, decide_eq_true_eq] at h
 exact h.2
theorem rb_lb {L : List L4} (h : rb L = true) : L.all lbB = true := by
 unfold rb at h
 simp only [Bool.and_eq_true] at h
 exact h.1
theorem Side.len {l : List AV} {B : IV} (s : Side l B) : (vs2 (aI l) B).length ≤ 2000 := by
 rw [s.vs, List.length_append]
 have h1 := rb_len (outer_rb s.x0 s.y0 s.C)
 have h2 := hole_rb s.x0 s.y0 s.H
 have h3 : (lnO (holeF (frV l))).length ≤ 1000 := by
  generalize holeF (frV l) = M at h2
  cases M with
  | none => exact Nat.zero_le _
  | some M => exact rb_len h2
 omega
theorem Side.lb {l : List AV} {B : IV} (s : Side l B) : (vs2 (aI l) B).all lbB = true := by
 rw [s.vs, List.all_append, rb_lb (outer_rb s.x0 s.y0 s.C)]
 have h2 := hole_rb s.x0 s.y0 s.H
 generalize holeF (frV l) = M at h2
 cases M with
 | none => rfl
 | some M => exact rb_lb h2
theorem beq_cast (a b : Nat) : (((a : Nat) : Int) == ((b : Nat) : Int)) = decide (a = b) := by
 by_cases h : a = b
 ·subst h; simp
 ·rw [decide_eq_false h]
  exact beq_eq_false_iff_ne.2 (fun e => h (by omega))
theorem s0_rings {l1 l2 : List AV} {B1 B2 : IV} (s1 : Side l1 B1) (s2 : Side l2 B2) (hb : Bool) (hh : hb = decide (hN (holeF (frV l1)) = hN (holeF (frV l2)))) (f : L4 → L4 → Bool) (g : L4 → L4 → Bool) (hfg : ∀ x y, f x y = g x y) :
  ((bif (((pz.n l1 : Nat) : Int) == ((pz.n l2 : Nat) : Int)) then bif hb then (((pz.vn (aI l1) B1 : Nat) : Int) == ((pz.vn (aI l2) B2 : Nat) : Int)) else false else false) && eqAll f (vs2 (aI l1) B1) (vs2 (aI l2) B2)) = eqRings g (outerF (frV l1)) (holeF (frV l1)) (outerF (frV l2)) (holeF (frV l2)) := by
 rw [eqAll_congr hfg, ← loop_rings g, hh, beq_cast, beq_cast, show pz.vn (aI l1) B1 = (vs2 (aI l1) B1).length from rfl, show pz.vn (aI l2) B2 = (vs2 (aI l2) B2).length from rfl, s1.vs, s2.vs]
 rfl
theorem s0_len {l1 l2 : List AV} {B1 B2 : IV} {hb : Bool} (h : (bif (((pz.n l1 : Nat) : Int) == ((pz.n l2 : Nat) : Int)) then bif hb then (((pz.vn (aI l1) B1 : Nat) : Int) == ((pz.vn (aI l2) B2 : Nat) : Int)) else false else false) = true) :
  (vs2 (aI l1) B1).length = (vs2 (aI l2) B2).length := by
 rw [beq_cast, beq_cast] at h
 cases h1 : decide (pz.n l1 = pz.n l2) with
 | false => rw [h1] at h; cases h
 | true =>
  rw [h1] at h
  cases hb with
  | false => cases h
  | true => exact of_decide_eq_true h
theorem tb_t (T : Int) (h0 : 0 ≤ T) (h1 : T ≤ 7) (r : Rat) (hr : r = 0 ∨ r = 2) : tbB ⟨(T : Rat), r, false⟩ = true := by
 unfold tbB
 simp only [Bool.and_eq_true, Bool.or_eq_true, decide_eq_true_eq, bndB_iff]
 exact ⟨⟨hr, rfl⟩, (Bnd.int T).mono (by omega) (Nat.le_refl _)⟩
theorem rest_F {l1 l2 : List AV} {B1 B2 : IV} (s1 : Side l1 B1) (s2 : Side l2 B2) (T : Int) (h0 : 0 ≤ T) (h1 : T ≤ 7) (r : Rat) (hr : r = 0 ∨ r = 2) (hb : Bool) (hh : hb = decide (hN (holeF (frV l1)) = hN (holeF (frV l2)))) (i : Int) :
  (restRun Tryz.prog (Γ3x pz) L3 1010 Tryz.f3 (restOf 10 (codeOf Tryz.f3)) (mkSt nrm3 (head3 ⟨aI l1, B1, aI l2, B2, ⟨(T : Rat), r, false⟩, vs2 (aI l1) B1, vs2 (aI l2) B2,
   (bif (((pz.n l1 : Nat) : Int) == ((pz.n l2 : Nat) : Int)) then bif hb then (((pz.vn (aI l1) B1 : Nat) : Int) == ((pz.vn (aI l2) B2 : Nat) : Int)) else false else false) && eqAll (zeroL ⟨(T : Rat), r, false⟩) (vs2 (aI l1) B1) (vs2 (aI l2) B2),
   (bif (((pz.n l1 : Nat) : Int) == ((pz.n l2 : Nat) : Int)) then bif hb then (((pz.vn (aI l1) B1 : Nat) : Int) == ((pz.vn (aI l2) B2 : Nat) : Int)) else false else false) && eqAll eqL (vs2 (aI l1) B1) (vs2 (aI l2) B2), i⟩))).sat fun r => r = boolA true := by
 have ht := tb_t T h0 h1 r hr
 rw [s0_rings s1 s2 hb hh _ (sameL ⟨(T : Rat), r, false⟩) (zeroL_same _ ht), s0_rings s1 s2 hb hh _ eqL (fun _ _ => rfl)]
 have e1 := s1.B
 have e2 := s2.B
 subst e1 e2
 exact rest_ok (outerF (frV l1)) (outerF (frV l2)) (holeF (frV l1)) (holeF (frV l2)) ⟨(T : Rat), r, false⟩ _ _ _ _ i (outer_rb s1.x0 s1.y0 s1.C) (hole_rb s1.x0 s1.y0 s1.H) (outer_rb s2.x0 s2.y0 s2.C) (hole_rb s2.x0 s2.y0 s2.H) ht (hole_hol _) (chkF _)
  (outer_red s1.x0 s1.y0 s1.C _ T rfl ⟨h0, h1⟩) (hole_red s1.x0 s1.y0 s1.H _ T rfl ⟨h0, h1⟩) (outer_red s2.x0 s2.y0 s2.C _ T rfl ⟨h0, h1⟩) (hole_red s2.x0 s2.y0 s2.H _ T rfl ⟨h0, h1⟩) rfl rfl
theorem wrap8 {tt : Int} (ht : 0 ≤ tt ∧ tt < 256) : 0 ≤ IntKind.i64.wrap (tt.tmod 8) ∧ IntKind.i64.wrap (tt.tmod 8) ≤ 7 ∧ pz.cz (IntKind.i64.wrap (tt.tmod 8)) = true ∧ pz.cy (IntKind.i64.wrap (tt.tmod 8)) = true := by
 have h : tt.tmod 8 = tt % 8 := Int.tmod_eq_emod_of_nonneg ht.1
 have h1 := Int.emod_nonneg tt (b := 8) (by decide)
 have h2 := Int.emod_lt_of_pos tt (b := 8) (by decide)
 have hw : IntKind.i64.wrap (tt.tmod 8) = tt % 8 := by rw [h]; exact wrap_i64_id h1 (by omega)
 rw [hw]
 refine ⟨h1, by omega, ?_, ?_⟩
 ·show (decide _ && decide _) = true
  rw [decide_eq_true (by omega), decide_eq_true (by omega)]; rfl
 ·show (decide _ && decide _) = true
  rw [decide_eq_true (by omega), decide_eq_true (by omega)]; rfl
theorem two_cy : pz.cy 2 = true := rfl
theorem zrat : ratV litZ = 0 := ratV_z
theorem zratOk : ratOk litZ = true := by decide
theorem crns0 (el : Nat → List IV) : crnsOf 0 el = [] := rfl
theorem holeF_n {x y : Int} {r oa ob : Bool} {k : Nat} {ec el : Nat → List IV} : holeF (frV [.c (.v (.int .u8 x)), .c (.v (.int .u8 y)), .c (.v (.bool r)), .c (.v (.bool oa)), .c (.v (.bool ob)), .c (.sl k 4 ec), .c (.sl 0 4 el)]) = none := rfl
theorem holeF_s {x y : Int} {r oa ob : Bool} {k m : Nat} {ec el : Nat → List IV} : holeF (frV [.c (.v (.int .u8 x)), .c (.v (.int .u8 y)), .c (.v (.bool r)), .c (.v (.bool oa)), .c (.v (.bool ob)), .c (.sl k 4 ec), .c (.sl (m + 1) 4 el)]) = some (((frV [.c (.v (.int .u8 x)), .c (.v (.int .u8 y)), .c (.v (.bool r)), .c (.v (.bool oa)), .c (.v (.bool ob)), .c (.sl k 4 ec), .c (.sl (m + 1) 4 el)]).H.take 3).map (lineC (fa (frV [.c (.v (.int .u8 x)), .c (.v (.int .u8 y)), .c (.v (.bool r)), .c (.v (.bool oa)), .c (.v (.bool ob)), .c (.sl k 4 ec), .c (.sl (m + 1) 4 el)])) (fb (frV [.c (.v (.int .u8 x)), .c (.v (.int .u8 y)), .c (.v (.bool r)), .c (.v (.bool oa)), .c (.v (.bool ob)), .c (.sl k 4 ec), .c (.sl (m + 1) 4 el)])))) := by
 have he : (frV [.c (.v (.int .u8 x)), .c (.v (.int .u8 y)), .c (.v (.bool r)), .c (.v (.bool oa)), .c (.v (.bool ob)), .c (.sl k 4 ec), .c (.sl (m + 1) 4 el)]).H.isEmpty = false := crns_ne m el
 unfold holeF
 rw [he]
 rfl
theorem f3nn_ok (px1 py1 : Int) (pr1 poa1 pob1 : Bool) (pk1 pm1 : Nat) (pec1 pe1 : Nat → List IV) (px2 py2 : Int) (pr2 poa2 pob2 : Bool) (pk2 pm2 : Nat) (pec2 pe2 : Nat → List IV) (tt : Int) (h1 : pz.cu [.c (.v (.int .u8 px1)), .c (.v (.int .u8 py1)), .c (.v (.bool pr1)), .c (.v (.bool poa1)), .c (.v (.bool pob1)), .c (.sl pk1 4 pec1), .c (.sl 0 4 pe1)] = true) (h2 : pz.cu [.c (.v (.int .u8 px2)), .c (.v (.int .u8 py2)), .c (.v (.bool pr2)), .c (.v (.bool poa2)), .c (.v (.bool pob2)), .c (.sl pk2 4 pec2), .c (.sl 0 4 pe2)] = true) (ht : 0 ≤ tt ∧ tt < 256) :
  (execTo Tryz.prog (Γ3x pz) L3 1010 Tryz.f3 (cutN nrm3 take3 (fun x => restRun Tryz.prog (Γ3x pz) L3 1010 Tryz.f3 (restOf 10 (codeOf Tryz.f3)) (mkSt nrm3 (head3 x)))) 10 (codeOf Tryz.f3) (start [.agg [.c (.v (.int .u8 px1)), .c (.v (.int .u8 py1)), .c (.v (.bool pr1)), .c (.v (.bool poa1)), .c (.v (.bool pob1)), .c (.sl pk1 4 pec1), .c (.sl 0 4 pe1)], .agg [.c (.v (.int .u8 px2)), .c (.v (.int .u8 py2)), .c (.v (.bool pr2)), .c (.v (.bool poa2)), .c (.v (.bool pob2)), .c (.sl pk2 4 pec2), .c (.sl 0 4 pe2)], .c (.v (.int .u8 tt))] 182)).sat fun r => r = boolA true := by
 have s1 : Side [.c (.v (.int .u8 px1)), .c (.v (.int .u8 py1)), .c (.v (.bool pr1)), .c (.v (.bool poa1)), .c (.v (.bool pob1)), .c (.sl pk1 4 pec1), .c (.sl 0 4 pe1)] (IV.v (Value.slice none 0 0)) := Side.of h1 (by rw [holeF_n]; rfl)
 have s2 : Side [.c (.v (.int .u8 px2)), .c (.v (.int .u8 py2)), .c (.v (.bool pr2)), .c (.v (.bool poa2)), .c (.v (.bool pob2)), .c (.sl pk2 4 pec2), .c (.sl 0 4 pe2)] (IV.v (Value.slice none 0 0)) := Side.of h2 (by rw [holeF_n]; rfl)
 have hh : true = decide (hN (holeF (frV [.c (.v (.int .u8 px1)), .c (.v (.int .u8 py1)), .c (.v (.bool pr1)), .c (.v (.bool poa1)), .c (.v (.bool pob1)), .c (.sl pk1 4 pec1), .c (.sl 0 4 pe1)])) = hN (holeF (frV [.c (.v (.int .u8 px2)), .c (.v (.int .u8 py2)), .c (.v (.bool pr2)), .c (.v (.bool poa2)), .c (.v (.bool pob2)), .c (.sl pk2 4 pec2), .c (.sl 0 4 pe2)]))) := by rw [holeF_n, holeF_n]; rfl
 obtain ⟨hT0, hT1, hT2, hT3⟩ := wrap8 ht
 rw [M3nn_eq]
 exact M3nn_sat pz (fun x => restRun Tryz.prog (Γ3x pz) L3 1010 Tryz.f3 (restOf 10 (codeOf Tryz.f3)) (mkSt nrm3 (head3 x))) px1 py1 pr1 poa1 pob1 pk1 pm1 pec1 pe1 px2 py2 pr2 poa2 pob2 pk2 pm2 pec2 pe2 tt (IntKind.i64.wrap (tt.tmod 8)) (vs2 (aI [.c (.v (.int .u8 px1)), .c (.v (.int .u8 py1)), .c (.v (.bool pr1)), .c (.v (.bool poa1)), .c (.v (.bool pob1)), .c (.sl pk1 4 pec1), .c (.sl 0 4 pe1)]) (IV.v (Value.slice none 0 0))) (vs2 (aI [.c (.v (.int .u8 px2)), .c (.v (.int .u8 py2)), .c (.v (.bool pr2)), .c (.v (.bool poa2)), .c (.v (.bool pob2)), .c (.sl pk2 4 pec2), .c (.sl 0 4 pe2)]) (IV.v (Value.slice none 0 0))) ((IntKind.i64.wrap (tt.tmod 8) : Int) : Rat) 0 ((IntKind.i64.wrap (tt.tmod 8) : Int) : Rat) 2 _ _ _ _ _ _ _ _ rfl rfl rfl rfl rfl rfl rfl h1 h2 hT2 hT3 two_cy s1.cV s2.cV (linesOk_lines _) (linesOk_lines _) (linesOf_el _) (linesOf_el _) s1.len s1.lb s2.lb
  (ratV_cells _) (ratOk_cells _) zrat zratOk rfl (ratV_cells _) (ratOk_cells _) (ratV_cells ((2 : Int) : Rat)) (ratOk_cells ((2 : Int) : Rat)) rfl s0_len
  (tb_t _ hT0 hT1 0 (.inl rfl)) (fun i => rest_F s1 s2 _ hT0 hT1 0 (.inl rfl) true hh i) (tb_t _ hT0 hT1 2 (.inr rfl)) (fun i => rest_F s1 s2 _ hT0 hT1 2 (.inr rfl) true hh i)
theorem f3ns_ok (px1 py1 : Int) (pr1 poa1 pob1 : Bool) (pk1 pm1 : Nat) (pec1 pe1 : Nat → List IV) (px2 py2 : Int) (pr2 poa2 pob2 : Bool) (pk2 pm2 : Nat) (pec2 pe2 : Nat → List IV) (tt : Int) (h1 : pz.cu [.c (.v (.int .u8 px1)), .c (.v (.int .u8 py1)), .c (.v (.bool pr1)), .c (.v (.bool poa1)), .c (.v (.bool pob1)), .c (.sl pk1 4 pec1), .c (.sl 0 4 pe1)] = true) (h2 : pz.cu [.c (.v (.int .u8 px2)), .c (.v (.int .u8 py2)), .c (.v (.bool pr2)), .c (.v (.bool poa2)), .c (.v (.bool pob2)), .c (.sl pk2 4 pec2), .c (.sl (pm2 + 1) 4 pe2)] = true) (ht : 0 ≤ tt ∧ tt < 256) :
  (execTo Tryz.prog (Γ3x pz) L3 1010 Tryz.f3 (cutN nrm3 take3 (fun x => restRun Tryz.prog (Γ3x pz) L3 1010 Tryz.f3 (restOf 10 (codeOf Tryz.f3)) (mkSt nrm3 (head3 x)))) 10 (codeOf Tryz.f3) (start [.agg [.c (.v (.int .u8 px1)), .c (.v (.int .u8 py1)), .c (.v (.bool pr1)), .c (.v (.bool poa1)), .c (.v (.bool pob1)), .c (.sl pk1 4 pec1), .c (.sl 0 4 pe1)], .agg [.c (.v (.int .u8 px2)), .c (.v (.int .u8 py2)), .c (.v (.bool pr2)), .c (.v (.bool poa2)), .c (.v (.bool pob2)), .c (.sl pk2 4 pec2), .c (.sl (pm2 + 1) 4 pe2)], .c (.v (.int .u8 tt))] 182)).sat fun r => r = boolA true := by
 have s1 : Side [.c (.v (.int .u8 px1)), .c (.v (.int .u8 py1)), .c (.v (.bool pr1)), .c (.v (.bool poa1)), .c (.v (.bool pob1)), .c (.sl pk1 4 pec1), .c (.sl 0 4 pe1)] (IV.v (Value.slice none 0 0)) := Side.of h1 (by rw [holeF_n]; rfl)
 have s2 : Side [.c (.v (.int .u8 px2)), .c (.v (.int .u8 py2)), .c (.v (.bool pr2)), .c (.v (.bool poa2)), .c (.v (.bool pob2)), .c (.sl pk2 4 pec2), .c (.sl (pm2 + 1) 4 pe2)] (IV.sl 1 1 (pz.he [.c (.v (.int .u8 px2)), .c (.v (.int .u8 py2)), .c (.v (.bool pr2)), .c (.v (.bool poa2)), .c (.v (.bool pob2)), .c (.sl pk2 4 pec2), .c (.sl (pm2 + 1) 4 pe2)])) := Side.of h2 (by rw [holeF_s]; rfl)
 have hh : false = decide (hN (holeF (frV [.c (.v (.int .u8 px1)), .c (.v (.int .u8 py1)), .c (.v (.bool pr1)), .c (.v (.bool poa1)), .c (.v (.bool pob1)), .c (.sl pk1 4 pec1), .c (.sl 0 4 pe1)])) = hN (holeF (frV [.c (.v (.int .u8 px2)), .c (.v (.int .u8 py2)), .c (.v (.bool pr2)), .c (.v (.bool poa2)), .c (.v (.bool pob2)), .c (.sl pk2 4 pec2), .c (.sl (pm2 + 1) 4 pe2)]))) := by rw [holeF_n, holeF_s]; rfl
 obtain ⟨hT0, hT1, hT2, hT3⟩ := wrap8 ht
 rw [M3ns_eq]
 exact M3ns_sat pz (fun x => restRun Tryz.prog (Γ3x pz) L3 1010 Tryz.f3 (restOf 10 (codeOf Tryz.f3)) (mkSt nrm3 (head3 x))) px1 py1 pr1 poa1 pob1 pk1 pm1 pec1 pe1 px2 py2 pr2 poa2 pob2 pk2 pm2 pec2 pe2 tt (IntKind.i64.wrap (tt.tmod 8)) (vs2 (aI [.c (.v (.int .u8 px1)), .c (.v (.int .u8 py1)), .c (.v (.bool pr1)), .c (.v (.bool poa1)), .c (.v (.bool pob1)), .c (.sl pk1 4 pec1), .c (.sl 0 4 pe1)]) (IV.v (Value.slice none 0 0))) (vs2 (aI [.c (.v (.int .u8 px2)), .c (.v (.int .u8 py2)), .c (.v (.bool pr2)), .c (.v (.bool poa2)), .c (.v (.bool pob2)), .c (.sl pk2 4 pec2), .c (.sl (pm2 + 1) 4 pe2)]) (IV.sl 1 1 (pz.he [.c (.v (.int .u8 px2)), .c (.v (.int .u8 py2)), .c (.v (.bool pr2)), .c (.v (.bool poa2)), .c (.v (.bool pob2)), .c (.sl pk2 4 pec2), .c (.sl (pm2 + 1) 4 pe2)]))) ((IntKind.i64.wrap (tt.tmod 8) : Int) : Rat) 0 ((IntKind.i64.wrap (tt.tmod 8) : Int) : Rat) 2 _ _ _ _ _ _ _ _ rfl rfl rfl rfl rfl rfl rfl h1 h2 hT2 hT3 two_cy s1.cV s2.cV (linesOk_lines _) (linesOk_lines _) (linesOf_el _) (linesOf_el _) s1.len s1.lb s2.lb
  (ratV_cells _) (ratOk_cells _) zrat zratOk rfl (ratV_cells _) (ratOk_cells _) (ratV_cells ((2 : Int) : Rat)) (ratOk_cells ((2 : Int) : Rat)) rfl s0_len
  (tb_t _ hT0 hT1 0 (.inl rfl)) (fun i => rest_F s1 s2 _ hT0 hT1 0 (.inl rfl) false hh i) (tb_t _ hT0 hT1 2 (.inr rfl)) (fun i => rest_F s1 s2 _ hT0 hT1 2 (.inr rfl) false hh i)
theorem f3sn_ok (px1 py1 : Int) (pr1 poa1 pob1 : Bool) (pk1 pm1 : Nat) (pec1 pe1 : Nat → List IV) (px2 py2 : Int) (pr2 poa2 pob2 : Bool) (pk2 pm2 : Nat) (pec2 pe2 : Nat → List IV) (tt : Int) (h1 : pz.cu [.c (.v (.int .u8 px1)), .c (.v (.int .u8 py1)), .c (.v (.bool pr1)), .c (.v (.bool poa1)), .c (.v (.bool pob1)), .c (.sl pk1 4 pec1), .c (.sl (pm1 + 1) 4 pe1)] = true) (h2 : pz.cu [.c (.v (.int .u8 px2)), .c (.v (.int .u8 py2)), .c (.v (.bool pr2)), .c (.v (.bool poa2)), .c (.v (.bool pob2)), .c (.sl pk2 4 pec2), .c (.sl 0 4 pe2)] = true) (ht : 0 ≤ tt ∧ tt < 256) :
  (execTo Tryz.prog (Γ3x pz) L3 1010 Tryz.f3 (cutN nrm3 take3 (fun x => restRun Tryz.prog (Γ3x pz) L3 1010 Tryz.f3 (restOf 10 (codeOf Tryz.f3)) (mkSt nrm3 (head3 x)))) 10 (codeOf Tryz.f3) (start [.agg [.c (.v (.int .u8 px1)), .c (.v (.int .u8 py1)), .c (.v (.bool pr1)), .c (.v (.bool poa1)), .c (.v (.bool pob1)), .c (.sl pk1 4 pec1), .c (.sl (pm1 + 1) 4 pe1)], .agg [.c (.v (.int .u8 px2)), .c (.v (.int .u8 py2)), .c (.v (.bool pr2)), .c (.v (.bool poa2)), .c (.v (.bool pob2)), .c (.sl pk2 4 pec2), .c (.sl 0 4 pe2)], .c (.v (.int .u8 tt))] 182)).sat fun r => r = boolA true := by
 have s1 : Side [.c (.v (.int .u8 px1)), .c (.v (.int .u8 py1)), .c (.v (.bool pr1)), .c (.v (.bool poa1)), .c (.v (.bool pob1)), .c (.sl pk1 4 pec1), .c (.sl (pm1 + 1) 4 pe1)] (IV.sl 1 1 (pz.he [.c (.v (.int .u8 px1)), .c (.v (.int .u8 py1)), .c (.v (.bool pr1)), .c (.v (.bool poa1)), .c (.v (.bool pob1)), .c (.sl pk1 4 pec1), .c (.sl (pm1 + 1) 4 pe1)])) := Side.of h1 (by rw [holeF_s]; rfl)
 have s2 : Side [.c (.v (.int .u8 px2)), .c (.v (.int .u8 py2)), .c (.v (.bool pr2)), .c (.v (.bool poa2)), .c (.v (.bool pob2)), .c (.sl pk2 4 pec2), .c (.sl 0 4 pe2)] (IV.v (Value.slice none 0 0)) := Side.of h2 (by rw [holeF_n]; rfl)
 have hh : false = decide (hN (holeF (frV [.c (.v (.int .u8 px1)), .c (.v (.int .u8 py1)), .c (.v (.bool pr1)), .c (.v (.bool poa1)), .c (.v (.bool pob1)), .c (.sl pk1 4 pec1), .c (.sl (pm1 + 1) 4 pe1)])) = hN (holeF (frV [.c (.v (.int .u8 px2)), .c (.v (.int .u8 py2)), .c (.v (.bool pr2)), .c (.v (.bool poa2)), .c (.v (.bool pob2)), .c (.sl pk2 4 pec2), .c (.sl 0 4 pe2)]))) := by rw [holeF_s, holeF_n]; rfl
 obtain ⟨hT0, hT1, hT2, hT3⟩ := wrap8 ht
 rw [M3sn_eq]
 exact M3sn_sat pz (fun x => restRun Tryz.prog (Γ3x pz) L3 1010 Tryz.f3 (restOf 10 (codeOf Tryz.f3)) (mkSt nrm3 (head3 x))) px1 py1 pr1 poa1 pob1 pk1 pm1 pec1 pe1 px2 py2 pr2 poa2 pob2 pk2 pm2 pec2 pe2 tt (IntKind.i64.wrap (tt.tmod 8)) (vs2 (aI [.c (.v (.int .u8 px1)), .c (.v (.int .u8 py1)), .c (.v (.bool pr1)), .c (.v (.bool poa1)), .c (.v (.bool pob1)), .c (.sl pk1 4 pec1), .c (.sl (pm1 + 1) 4 pe1)]) (IV.sl 1 1 (pz.he [.c (.v (.int .u8 px1)), .c (.v (.int .u8 py1)), .c (.v (.bool pr1)), .c (.v (.bool poa1)), .c (.v (.bool pob1)), .c (.sl pk1 4 pec1), .c (.sl (pm1 + 1) 4 pe1)]))) (vs2 (aI [.c (.v (.int .u8 px2)), .c (.v (.int .u8 py2)), .c (.v (.bool pr2)), .c (.v (.bool poa2)), .c (.v (.bool pob2)), .c (.sl pk2 4 pec2), .c (.sl 0 4 pe2)]) (IV.v (Value.slice none 0 0))) ((IntKind.i64.wrap (tt.tmod 8) : Int) : Rat) 0 ((IntKind.i64.wrap (tt.tmod 8) : Int) : Rat) 2 _ _ _ _ _ _ _ _ rfl rfl rfl rfl rfl rfl rfl h1 h2 hT2 hT3 two_cy s1.cV s2.cV (linesOk_lines _) (linesOk_lines _) (linesOf_el _) (linesOf_el _) s1.len s1.lb s2.lb
  (ratV_cells _) (ratOk_cells _) zrat zratOk rfl (ratV_cells _) (ratOk_cells _) (ratV_cells ((2 : Int) : Rat)) (ratOk_cells ((2 : Int) : Rat)) rfl s0_len
  (tb_t _ hT0 hT1 0 (.inl rfl)) (fun i => rest_F s1 s2 _ hT0 hT1 0 (.inl rfl) false hh i) (tb_t _ hT0 hT1 2 (.inr rfl)) (fun i => rest_F s1 s2 _ hT0 hT1 2 (.inr rfl) false hh i)
theorem f3ss_ok (px1 py1 : Int) (pr1 poa1 pob1 : Bool) (pk1 pm1 : Nat) (pec1 pe1 : Nat → List IV) (px2 py2 : Int) (pr2 poa2 pob2 : Bool) (pk2 pm2 : Nat) (pec2 pe2 : Nat → List IV) (tt : Int) (h1 : pz.cu [.c (.v (.int .u8 px1)), .c (.v (.int .u8 py1)), .c (.v (.bool pr1)), .c (.v (.bool poa1)), .c (.v (.bool pob1)), .c (.sl pk1 4 pec1), .c (.sl (pm1 + 1) 4 pe1)] = true) (h2 : pz.cu [.c (.v (.int .u8 px2)), .c (.v (.int .u8 py2)), .c (.v (.bool pr2)), .c (.v (.bool poa2)), .c (.v (.bool pob2)), .c (.sl pk2 4 pec2), .c (.sl (pm2 + 1) 4 pe2)] = true) (ht : 0 ≤ tt ∧ tt < 256) :
  (execTo Tryz.prog (Γ3x pz) L3 1010 Tryz.f3 (cutN nrm3 take3 (fun x => restRun Tryz.prog (Γ3x pz) L3 1010 Tryz.f3 (restOf 10 (codeOf Tryz.f3)) (mkSt nrm3 (head3 x)))) 10 (codeOf Tryz.f3) (start [.agg [.c (.v (.int .u8 px1)), .c (.v (.int .u8 py1)), .c (.v (.bool pr1)), .c (.v (.bool poa1)), .c (.v (.bool pob1)), .c (.sl pk1 4 pec1), .c (.sl (pm1 + 1) 4 pe1)], .agg [.c (.v (.int .u8 px2)), .c (.v (.int .u8 py2)), .c (.v (.bool pr2)), .c (.v (.bool poa2)), .c (.v (.bool pob2)), .c (.sl pk2 4 pec2), .c (.sl (pm2 + 1) 4 pe2)], .c (.v (.int .u8 tt))] 182)).sat fun r => r = boolA true := by
 have s1 : Side [.c (.v (.int .u8 px1)), .c (.v (.int .u8 py1)), .c (.v (.bool pr1)), .c (.v (.bool poa1)), .c (.v (.bool pob1)), .c (.sl pk1 4 pec1), .c (.sl (pm1 + 1) 4 pe1)] (IV.sl 1 1 (pz.he [.c (.v (.int .u8 px1)), .c (.v (.int .u8 py1)), .c (.v (.bool pr1)), .c (.v (.bool poa1)), .c (.v (.bool pob1)), .c (.sl pk1 4 pec1), .c (.sl (pm1 + 1) 4 pe1)])) := Side.of h1 (by rw [holeF_s]; rfl)
 have s2 : Side [.c (.v (.int .u8 px2)), .c (.v (.int .u8 py2)), .c (.v (.bool pr2)), .c (.v (.bool poa2)), .c (.v (.bool pob2)), .c (.sl pk2 4 pec2), .c (.sl (pm2 + 1) 4 pe2)] (IV.sl 1 1 (pz.he [.c (.v (.int .u8 px2)), .c (.v (.int .u8 py2)), .c (.v (.bool pr2)), .c (.v (.bool poa2)), .c (.v (.bool pob2)), .c (.sl pk2 4 pec2), .c (.sl (pm2 + 1) 4 pe2)])) := Side.of h2 (by rw [holeF_s]; rfl)
 have hh : true = decide (hN (holeF (frV [.c (.v (.int .u8 px1)), .c (.v (.int .u8 py1)), .c (.v (.bool pr1)), .c (.v (.bool poa1)), .c (.v (.bool pob1)), .c (.sl pk1 4 pec1), .c (.sl (pm1 + 1) 4 pe1)])) = hN (holeF (frV [.c (.v (.int .u8 px2)), .c (.v (.int .u8 py2)), .c (.v (.bool pr2)), .c (.v (.bool poa2)), .c (.v (.bool pob2)), .c (.sl pk2 4 pec2), .c (.sl (pm2 + 1) 4 pe2)]))) := by rw [holeF_s, holeF_s]; rfl
 obtain ⟨hT0, hT1, hT2, hT3⟩ := wrap8 ht
 rw [M3ss_eq]
 exact M3ss_sat pz (fun x => restRun Tryz.prog (Γ3x pz) L3 1010 Tryz.f3 (restOf 10 (codeOf Tryz.f3)) (mkSt nrm3 (head3 x))) px1 py1 pr1 poa1 pob1 pk1 pm1 pec1 pe1 px2 py2 pr2 poa2 pob2 pk2 pm2 pec2 pe2 tt (IntKind.i64.wrap (tt.tmod 8)) (vs2 (aI [.c (.v (.int .u8 px1)), .c (.v (.int .u8 py1)), .c (.v (.bool pr1)), .c (.v (.bool poa1)), .c (.v (.bool pob1)), .c (.sl pk1 4 pec1), .c (.sl (pm1 + 1) 4 pe1)]) (IV.sl 1 1 (pz.he [.c (.v (.int .u8 px1)), .c (.v (.int .u8 py1)), .c (.v (.bool pr1)), .c (.v (.bool poa1)), .c (.v (.bool pob1)), .c (.sl pk1 4 pec1), .c (.sl (pm1 + 1) 4 pe1)]))) (vs2 (aI [.c (.v (.int .u8 px2)), .c (.v (.int .u8 py2)), .c (.v (.bool pr2)), .c (.v (.bool poa2)), .c (.v (.bool pob2)), .c (.sl pk2 4 pec2), .c (.sl (pm2 + 1) 4 pe2)]) (IV.sl 1 1 (pz.he [.c (.v (.int .u8 px2)), .c (.v (.int .u8 py2)), .c (.v (.bool pr2)), .c (.v (.bool poa2)), .c (.v (.bool pob2)), .c (.sl pk2 4 pec2), .c (.sl (pm2 + 1) 4 pe2)]))) ((IntKind.i64.wrap (tt.tmod 8) : Int) : Rat) 0 ((IntKind.i64.wrap (tt.tmod 8) : Int) : Rat) 2 _ _ _ _ _ _ _ _ rfl rfl rfl rfl rfl rfl rfl h1 h2 hT2 hT3 two_cy s1.cV s2.cV (linesOk_lines _) (linesOk_lines _) (linesOf_el _) (linesOf_el _) s1.len s1.lb s2.lb
  (ratV_cells _) (ratOk_cells _) zrat zratOk rfl (ratV_cells _) (ratOk_cells _) (ratV_cells ((2 : Int) : Rat)) (ratOk_cells ((2 : Int) : Rat)) rfl s0_len
  (tb_t _ hT0 hT1 0 (.inl rfl)) (fun i => rest_F s1 s2 _ hT0 hT1 0 (.inl rfl) true hh i) (tb_t _ hT0 hT1 2 (.inr rfl)) (fun i => rest_F s1 s2 _ hT0 hT1 2 (.inr rfl) true hh i)
end Go.Vse
set_option maxRecDepth 100000
set_option maxHeartbeats 4000000
namespace Go.Vse
open Go.Proofs
def K3 : List AV → Option (AV × List Bool)
 | [.agg [.c (.v (.int .u8 x)), .c (.v (.int .u8 y)), .c (.v (.bool r)), .c (.v (.bool oa)), .c (.v (.bool ob)), .c (.sl k 4 ec), .c (.sl m 4 el)], .agg [.c (.v (.int .u8 x')), .c (.v (.int .u8 y')), .c (.v (.bool r')), .c (.v (.bool oa')), .c (.v (.bool ob')), .c (.sl k' 4 ec'), .c (.sl m' 4 el')], .c (.v (.int .u8 t))] =>
   some (boolA true, [pz.cu [.c (.v (.int .u8 x)), .c (.v (.int .u8 y)), .c (.v (.bool r)), .c (.v (.bool oa)), .c (.v (.bool ob)), .c (.sl k 4 ec), .c (.sl m 4 el)],
     pz.cu [.c (.v (.int .u8 x')), .c (.v (.int .u8 y')), .c (.v (.bool r')), .c (.v (.bool oa')), .c (.v (.bool ob')), .c (.sl k' 4 ec'), .c (.sl m' 4 el')], decide (0 ≤ t ∧ t < 256)])
 | _ => none
theorem Γ3x_ok (h4 : PureOk Tryz.prog 4 K4) : ∀ f s, Γ3x pz f = some s → SpecOk Tryz.prog f s := by
 intro f s h
 unfold Γ3x at h
 have key : ∀ (n : Nat) (K : List AV → Option (AV × List Bool)) (o : Option Spec), PureOk Tryz.prog n K → ((bif Nat.beq f n then some (pureSpec K) else o) = some s) → SpecOk Tryz.prog f s ∨ o = some s := by
   intro n K o hK h
   cases hb : Nat.beq f n with
   | true =>
     rw [hb] at h
     cases h
     rw [Nat.eq_of_beq_eq_true hb]
     exact .inl hK.spec
   | false => rw [hb] at h; exact .inr h
 rcases key _ _ _ h4 h with h | h; exact h
 rcases key _ _ _ f6x_ok h with h | h; exact h
 rcases key _ _ _ f5x_ok h with h | h; exact h
 rcases key _ _ _ f7x_ok h with h | h; exact h
 rcases key _ _ _ f8x_ok h with h | h; exact h
 rcases key _ _ _ f9x_ok h with h | h; exact h
 rcases key _ _ _ f10_ok h with h | h; exact h
 rcases key _ _ _ f11_ok h with h | h; exact h
 rcases key _ _ _ f12x_ok h with h | h; exact h
 rcases key _ _ _ f13x_ok h with h | h; exact h
 rcases key _ _ _ f14x_ok h with h | h; exact h
 rcases key _ _ _ f15x_ok h with h | h; exact h
 cases h
theorem f3_ok_of (h4 : PureOk Tryz.prog 4 K4) : PureOk Tryz.prog 3 K3 := by
 refine pureOk_of_cut (Γ := Γ3x pz) (L := L3) (N := 1010) (nrm := nrm3) (take := take3) (head := head3) (G := fun x => restRun Tryz.prog (Γ3x pz) L3 1010 Tryz.f3 (restOf 10 (codeOf Tryz.f3)) (mkSt nrm3 (head3 x)))
   prog_mixed (Γ3x_ok h4) (fn := Tryz.f3) (c := codeOf Tryz.f3) (by kernel_rfl) (by kernel_rfl) (callFunc_enter (fn := Tryz.f3) (c := codeOf Tryz.f3) (by kernel_rfl) (by kernel_rfl) (by kernel_rfl)) 10 f3_loops take3_ok (fun x Q h => h) ?_ ?_
 · intro args v cs h
   unfold K3 at h
   split at h
   · cases h; rfl
   · cases h
 · intro args v cs h hc
   unfold K3 at h
   split at h
   · rename_i x y r oa ob k ec m el x' y' r' oa' ob' k' ec' m' el' t
     cases h
     have h1 := hc _ (List.mem_cons_self ..)
     have h2 := hc _ (List.mem_cons_of_mem _ (List.mem_cons_self ..))
     have h3 := of_decide_eq_true (hc _ (List.mem_cons_of_mem _ (List.mem_cons_of_mem _ (List.mem_cons_self ..))))
     refine ⟨_, SeesL.refl _, ?_⟩
     refine Tr.sat_mono (Q := fun r => r = boolA true) ?_ ?_
     · rintro r rfl
       exact ⟨rfl, Sees.refl _⟩
     · cases m with
       | zero =>
         cases m' with
         | zero => exact f3nn_ok x y r oa ob k 0 ec el x' y' r' oa' ob' k' 0 ec' el' t h1 h2 h3
         | succ m' => exact f3ns_ok x y r oa ob k 0 ec el x' y' r' oa' ob' k' m' ec' el' t h1 h2 h3
       | succ m =>
         cases m' with
         | zero => exact f3sn_ok x y r oa ob k m ec el x' y' r' oa' ob' k' 0 ec' el' t h1 h2 h3
         | succ m' => exact f3ss_ok x y r oa ob k m ec el x' y' r' oa' ob' k' m' ec' el' t h1 h2 h3
   · cases h
end Go.Vse
