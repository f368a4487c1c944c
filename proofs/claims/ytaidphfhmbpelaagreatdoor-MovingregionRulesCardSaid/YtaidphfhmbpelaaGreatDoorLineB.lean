/- Helpers for the proof: no statement of its own. -/
import Derived.Test.YtaidphfhmbpelaaGreatDoorLineA
set_option linter.unusedVariables false
set_option linter.unusedSimpArgs false
set_option linter.unnecessarySimpa false
set_option linter.deprecated false
set_option maxRecDepth 100000
namespace Go.Vse
open Go.Proofs
def ivR (q : Rat) : List IV := [.v (.bool (decide (q.num < 0))), .v (.string ⟨⟨magB q.num.natAbs⟩⟩), .v (.bool false), .v (.string ⟨⟨denB q.den⟩⟩)]
def lineIV (x : L4) : List IV := ivR x.x0 ++ (ivR x.x1 ++ (ivR x.y0 ++ ivR x.y1))
def l40 : L4 := ⟨0, 0, 0, 0⟩
def lineEl (L : List L4) : Nat → List IV := fun k => lineIV (L.getD k l40)
def lineL (l : List IV) : L4 := lineV (l.map .c)
def linesOf (n : Nat) (el : Nat → List IV) : List L4 := (List.range n).map fun k => lineL (el k)
def linesOk (n : Nat) (el : Nat → List IV) : Bool := (List.range n).all fun k => lineOk ((el k).map .c)
theorem lineIV_c (x : L4) : (lineIV x).map AV.c = lineCells x := rfl
theorem lineL_iv (x : L4) : lineL (lineIV x) = x := lineV_cells x
theorem map_c_inj : ∀ {l m : List IV}, l.map AV.c = m.map AV.c → l = m
 | [], [], _ => rfl
 | [], _ :: _, h => by cases h
 | _ :: _, [], h => by cases h
 | x :: l, y :: m, h => by
   simp only [List.map_cons, List.cons.injEq, AV.c.injEq] at h
   rw [h.1, map_c_inj h.2]
theorem linesOf_len (n : Nat) (el : Nat → List IV) : (linesOf n el).length = n := by simp [linesOf]
theorem linesOf_getD (n : Nat) (el : Nat → List IV) (k : Nat) (hk : k < n) : (linesOf n el).getD k l40 = lineL (el k) := by
 simp [linesOf, List.getD_eq_getElem?_getD, hk]
theorem linesOk_el {n : Nat} {el : Nat → List IV} (h : linesOk n el = true) : ∀ k, k < n → el k = lineEl (linesOf n el) k := fun k hk => by
 have h1 := List.all_eq_true.1 h k (List.mem_range.2 hk)
 have h2 := lineOk_eq h1
 unfold lineEl
 rw [linesOf_getD n el k hk]
 exact map_c_inj (h2.trans (lineIV_c _).symm)
theorem linesOf_el (L : List L4) : linesOf L.length (lineEl L) = L := by
 apply List.ext_getElem
 · simp [linesOf]
 · intro i h1 h2
   simp [linesOf, lineEl, lineL_iv, List.getD_eq_getElem?_getD, h2]
theorem linesOk_lines (L : List L4) : linesOk L.length (lineEl L) = true := by
 refine List.all_eq_true.2 fun k _ => ?_
 show lineOk (lineCells _) = true
 generalize L.getD k l40 = x
 show (ratOk (ratCells x.x0) && ratOk (ratCells x.x1) && ratOk (ratCells x.y0) && ratOk (ratCells x.y1)) = true
 rw [ratOk_cells, ratOk_cells, ratOk_cells, ratOk_cells]; rfl
def slA (L : List L4) : AV := .c (.sl L.length 16 (lineEl L))
def eqAll (f : L4 → L4 → Bool) : List L4 → List L4 → Bool
 | x :: l, y :: m => f x y && eqAll f l m
 | _, _ => true
def sameL (t : R3) (x y : L4) : Bool := sameQ (xQ x) (xQ y) t && sameQ (yQ x) (yQ y) t
def redL (t : R3) (x : L4) : L4 := ⟨red0 (xQ x) t, red1 (xQ x) t, red0 (yQ x) t, red1 (yQ x) t⟩
def holdL (x : L4) : L4 := ⟨hold x.x0, hold x.x1, hold x.y0, hold x.y1⟩
theorem lineOk_cells (x : L4) : lineOk (lineCells x) = true := by
 show (ratOk (ratCells x.x0) && ratOk (ratCells x.x1) && ratOk (ratCells x.y0) && ratOk (ratCells x.y1)) = true
 rw [ratOk_cells, ratOk_cells, ratOk_cells, ratOk_cells]; rfl
theorem realOk_cells (x : R3) : realOk (realCells x) = true := by
 show (ratOk (ratCells x.p) && ratOk (ratCells x.r) && boolOk [.c (.v (.bool x.neg))]) = true
 rw [ratOk_cells, ratOk_cells]; rfl
def K24 : MSpec
 | [some (.cells t 36)], [.agg l, .agg m, .ptr 0 0] => some { val := boolA (sameL (realV t) (lineV l) (lineV m)), outs := [some (.cells t 36)], conds := [realOk t, lineOk l, lineOk m, lbB (lineV l), lbB (lineV m), tbB (realV t)] }
 | _, _ => none
def K28 : MSpec
 | [some (.cells t 36)], [.agg l, .ptr 0 0] => some { val := lineA (holdL (redL (realV t) (lineV l))), outs := [some (.cells t 36)], conds := [realOk t, lineOk l, lbB (lineV l), tbB (realV t)] }
 | _, _ => none
structure W47 where
 L : List L4
 M : List L4
 t : R3
 i : Int
def head47 (x : W47) : List AV × List (Option Ent) := ([slA x.M, .fn 24 [.ptr 0 0], boolA false, slA x.L, intA .i64 (x.L.length : Nat), intA .i64 x.i], [some (.cells (realCells x.t) 36)])
def take47 : List AV × List (Option Ent) → Option (W47 × List Bool)
 | ([.c (.sl m 16 el'), .fn 24 [.ptr 0 0], .c (.v (.bool b)), .c (.sl n 16 el), .c (.v (.int .i64 nn)), .c (.v (.int .i64 i))], [some (.cells lt 36)]) => some (⟨linesOf n el, linesOf m el', realV lt, i⟩, [linesOk n el, linesOk m el', realOk lt, !b, decide (nn = (n : Int))])
 | _ => none
structure R47 where
 ret : Bool
 t : R3
def takeR47 : Ex × (List AV × List (Option Ent)) → Option (R47 × List Bool)
 | (.normal, ([.c (.v (.bool b))], [some (.cells lt 36)])) => some (⟨false, realV lt⟩, [!b, realOk lt])
 | (.ret, ([.c (.v (.bool b))], [some (.cells lt 36)])) => some (⟨true, realV lt⟩, [!b, realOk lt])
 | _ => none
def lp47 (w : Way2 W47 R47) : LoopSt W47 R47 where
 nIn := { nt := 32, live := [1, 2, 6, 15, 16, 17] }
 nOut := { nt := 32, live := [6] }
 head := head47
 take := take47
 out := fun r => (bif r.ret then .ret else .normal, ([boolA false], [some (.cells (realCells r.t) 36)]))
 takeR := takeR47
 res := w.res
 pre := w.pre
 split := fun r => .ite r.ret (.ret { r with ret := true }) (.ret { r with ret := false })
theorem lp47_good (w : Way2 W47 R47) : (lp47 w).Good2 where
 take := by
   intro q x cs h hc
   change take47 q = some (x, cs) at h
   unfold take47 at h
   split at h
   · rename_i m el' b n el nn i lt
     simp only [Option.some.injEq, Prod.mk.injEq] at h
     obtain ⟨rfl, rfl⟩ := h
     have h1 : linesOk n el = true := hc (linesOk n el) (by simp)
     have h2 : linesOk m el' = true := hc (linesOk m el') (by simp)
     have h3 : realOk lt = true := hc (realOk lt) (by simp)
     have h4 : (!b) = true := hc (!b) (by simp)
     have h5 : nn = (n : Int) := dec (hc (decide (nn = (n : Int))) (by simp))
     have h4 : b = false := by simpa using h4
     subst h4
     subst h5
     have e3 := realOk_eq h3
     change SeesL _ (head47 _).1 ∧ EntsEqv _ (head47 _).2
     simp only [head47, slA, linesOf_len]
     refine ⟨.cons (Sees.sl (linesOk_el h2)) (.cons (Sees.refl _) (.cons (Sees.refl _) (.cons (Sees.sl (linesOk_el h1)) (.cons (Sees.refl _) (.cons (Sees.refl _) .nil))))), ?_⟩
     rw [← e3]
     exact EntsEqv.refl _
   · cases h
 takeR := by
   intro e q r cs h hc
   change takeR47 (e, q) = some (r, cs) at h
   unfold takeR47 at h
   split at h
   all_goals first
     | (rename_i b lt hq; cases hq; cases h
        have h3 : realOk lt = true := hc (realOk lt) (by simp)
        have h4 : (!b) = true := hc (!b) (by simp)
        have h4 : b = false := by simpa using h4
        subst h4
        have e3 := realOk_eq h3
        refine ⟨rfl, SeesL.refl _, ?_⟩
        show EntsEqv [some (.cells lt 36)] [some (.cells (realCells (realV lt)) 36)]
        rw [← e3]
        exact EntsEqv.refl _)
     | cases h
 split := by
   intro r Q h
   obtain ⟨b, v⟩ := r
   cases b with
   | true => exact h.1 rfl
   | false => exact h.2 rfl
def way47 : Way2 W47 R47 := ⟨fun x => ⟨!eqAll (sameL x.t) (x.L.drop x.i.toNat) (x.M.drop x.i.toNat), x.t⟩,
 fun x => decide (x.L.length = x.M.length) && decide (0 ≤ x.i) && decide (x.i ≤ (x.L.length : Nat)) && decide (x.L.length ≤ 1000) && x.L.all lbB && x.M.all lbB && tbB x.t⟩
def L47 : Nat → Option (St → Tr (Ex × St)) := fun id => bif Nat.beq id 0 then some ((lp47 way47).g 1) else none
end Go.Vse
set_option maxRecDepth 100000
namespace Go.Vse
open Go.Proofs
def Γ24 : FuncId → Option Spec := fun f => bif Nat.beq f 25 then some (pureSpec K25) else none
theorem Γ24_ok : ∀ f s, Γ24 f = some s → SpecOk Tryz.prog f s := one_ok f25_ok.spec
def Γ28 : FuncId → Option Spec := fun f => bif Nat.beq f 29 then some (pureSpec K29) else none
theorem Γ28_ok : ∀ f s, Γ28 f = some s → SpecOk Tryz.prog f s := one_ok f29_ok.spec
def Γ47 : FuncId → Option Spec := fun f => bif Nat.beq f 24 then some (memSpec K24) else none
def M24 (x : L4) (y : L4) (t : R3) : Tr MemOut :=
 let x1 : List AV := [.c (.v (.bool (decide (x.x0.num < 0)))), .c (.v (.string ⟨⟨magB x.x0.num.natAbs⟩⟩)), .c (.v (.bool false)), .c (.v (.string ⟨⟨denB x.x0.den⟩⟩)), .c (.v (.bool (decide (x.x1.num < 0)))), .c (.v (.string ⟨⟨magB x.x1.num.natAbs⟩⟩)), .c (.v (.bool false)), .c (.v (.string ⟨⟨denB x.x1.den⟩⟩)), .c (.v (.bool (decide (x.y0.num < 0)))), .c (.v (.string ⟨⟨magB x.y0.num.natAbs⟩⟩)), .c (.v (.bool false)), .c (.v (.string ⟨⟨denB x.y0.den⟩⟩)), .c (.v (.bool (decide (x.y1.num < 0)))), .c (.v (.string ⟨⟨magB x.y1.num.natAbs⟩⟩)), .c (.v (.bool false)), .c (.v (.string ⟨⟨denB x.y1.den⟩⟩))]
 let x2 : List AV := [.c (.v (.bool (decide (y.x0.num < 0)))), .c (.v (.string ⟨⟨magB y.x0.num.natAbs⟩⟩)), .c (.v (.bool false)), .c (.v (.string ⟨⟨denB y.x0.den⟩⟩)), .c (.v (.bool (decide (y.x1.num < 0)))), .c (.v (.string ⟨⟨magB y.x1.num.natAbs⟩⟩)), .c (.v (.bool false)), .c (.v (.string ⟨⟨denB y.x1.den⟩⟩)), .c (.v (.bool (decide (y.y0.num < 0)))), .c (.v (.string ⟨⟨magB y.y0.num.natAbs⟩⟩)), .c (.v (.bool false)), .c (.v (.string ⟨⟨denB y.y0.den⟩⟩)), .c (.v (.bool (decide (y.y1.num < 0)))), .c (.v (.string ⟨⟨magB y.y1.num.natAbs⟩⟩)), .c (.v (.bool false)), .c (.v (.string ⟨⟨denB y.y1.den⟩⟩))]
 let x3 : List AV := [.c (.v (.bool (decide (t.p.num < 0)))), .c (.v (.string ⟨⟨magB t.p.num.natAbs⟩⟩)), .c (.v (.bool false)), .c (.v (.string ⟨⟨denB t.p.den⟩⟩)), .c (.v (.bool (decide (t.r.num < 0)))), .c (.v (.string ⟨⟨magB t.r.num.natAbs⟩⟩)), .c (.v (.bool false)), .c (.v (.string ⟨⟨denB t.r.den⟩⟩)), .c (.v (.bool t.neg))]
 .need (lineOk x1) (.need (lineOk x2) (.need (realOk x3) (.need (lbB (lineV x1)) (.need (lbB (lineV x2)) (.need (tbB (realV x3)) (.ret { val := .c (.v (.bool (sameQ (xQ (lineV x1)) (xQ (lineV x2)) (realV x3) && sameQ (yQ (lineV x1)) (yQ (lineV x2)) (realV x3)))), outs := [some (Ent.cells x3 36)] }))))))
def M28 (x : L4) (t : R3) : Tr MemOut :=
 let x1 : List AV := [.c (.v (.bool (decide (x.x0.num < 0)))), .c (.v (.string ⟨⟨magB x.x0.num.natAbs⟩⟩)), .c (.v (.bool false)), .c (.v (.string ⟨⟨denB x.x0.den⟩⟩)), .c (.v (.bool (decide (x.x1.num < 0)))), .c (.v (.string ⟨⟨magB x.x1.num.natAbs⟩⟩)), .c (.v (.bool false)), .c (.v (.string ⟨⟨denB x.x1.den⟩⟩)), .c (.v (.bool (decide (x.y0.num < 0)))), .c (.v (.string ⟨⟨magB x.y0.num.natAbs⟩⟩)), .c (.v (.bool false)), .c (.v (.string ⟨⟨denB x.y0.den⟩⟩)), .c (.v (.bool (decide (x.y1.num < 0)))), .c (.v (.string ⟨⟨magB x.y1.num.natAbs⟩⟩)), .c (.v (.bool false)), .c (.v (.string ⟨⟨denB x.y1.den⟩⟩))]
 let x2 : List AV := [.c (.v (.bool (decide (t.p.num < 0)))), .c (.v (.string ⟨⟨magB t.p.num.natAbs⟩⟩)), .c (.v (.bool false)), .c (.v (.string ⟨⟨denB t.p.den⟩⟩)), .c (.v (.bool (decide (t.r.num < 0)))), .c (.v (.string ⟨⟨magB t.r.num.natAbs⟩⟩)), .c (.v (.bool false)), .c (.v (.string ⟨⟨denB t.r.den⟩⟩)), .c (.v (.bool t.neg))]
 let x3 : Int := (hold (red0 (xQ (lineV x1)) (realV x2))).num
 let x4 : Int := (hold (red1 (xQ (lineV x1)) (realV x2))).num
 let x5 : Int := (hold (red0 (yQ (lineV x1)) (realV x2))).num
 let x6 : Int := (hold (red1 (yQ (lineV x1)) (realV x2))).num
 .need (lineOk x1) (.need (realOk x2) (.need (lbB (lineV x1)) (.need (tbB (realV x2)) (.ret { val := AV.agg [.c (.v (.bool (decide (x3 < 0)))), .c (.v (.string ⟨⟨magB x3.natAbs⟩⟩)), .c (.v (.bool false)), .c (.v (.string ⟨⟨denB (hold (red0 (xQ (lineV x1)) (realV x2))).den⟩⟩)), .c (.v (.bool (decide (x4 < 0)))), .c (.v (.string ⟨⟨magB x4.natAbs⟩⟩)), .c (.v (.bool false)), .c (.v (.string ⟨⟨denB (hold (red1 (xQ (lineV x1)) (realV x2))).den⟩⟩)), .c (.v (.bool (decide (x5 < 0)))), .c (.v (.string ⟨⟨magB x5.natAbs⟩⟩)), .c (.v (.bool false)), .c (.v (.string ⟨⟨denB (hold (red0 (yQ (lineV x1)) (realV x2))).den⟩⟩)), .c (.v (.bool (decide (x6 < 0)))), .c (.v (.string ⟨⟨magB x6.natAbs⟩⟩)), .c (.v (.bool false)), .c (.v (.string ⟨⟨denB (hold (red1 (yQ (lineV x1)) (realV x2))).den⟩⟩))], outs := [some (Ent.cells x2 36)] }))))
def step47 (L : List L4) (M : List L4) (t : R3) (i : Int) : Tr (W47 ⊕ R47) :=
 let x1 : Int := ↑L.length
 let x2 : Int := ↑M.length
 let x3 : List AV := [.c (.v (.bool (decide (t.p.num < 0)))), .c (.v (.string ⟨⟨magB t.p.num.natAbs⟩⟩)), .c (.v (.bool false)), .c (.v (.string ⟨⟨denB t.p.den⟩⟩)), .c (.v (.bool (decide (t.r.num < 0)))), .c (.v (.string ⟨⟨magB t.r.num.natAbs⟩⟩)), .c (.v (.bool false)), .c (.v (.string ⟨⟨denB t.r.den⟩⟩)), .c (.v (.bool t.neg))]
 let x4 : Int := (L.getD i.toNat l40).x0.num
 let x5 : Int := (L.getD i.toNat l40).x1.num
 let x6 : Int := (L.getD i.toNat l40).y0.num
 let x7 : Int := (L.getD i.toNat l40).y1.num
 let x8 : List AV := [.c (.v (.bool (decide (x4 < 0)))), .c (.v (.string ⟨⟨magB x4.natAbs⟩⟩)), .c (.v (.bool false)), .c (.v (.string ⟨⟨denB (L.getD i.toNat l40).x0.den⟩⟩)), .c (.v (.bool (decide (x5 < 0)))), .c (.v (.string ⟨⟨magB x5.natAbs⟩⟩)), .c (.v (.bool false)), .c (.v (.string ⟨⟨denB (L.getD i.toNat l40).x1.den⟩⟩)), .c (.v (.bool (decide (x6 < 0)))), .c (.v (.string ⟨⟨magB x6.natAbs⟩⟩)), .c (.v (.bool false)), .c (.v (.string ⟨⟨denB (L.getD i.toNat l40).y0.den⟩⟩)), .c (.v (.bool (decide (x7 < 0)))), .c (.v (.string ⟨⟨magB x7.natAbs⟩⟩)), .c (.v (.bool false)), .c (.v (.string ⟨⟨denB (L.getD i.toNat l40).y1.den⟩⟩))]
 let x9 : Int := (M.getD i.toNat l40).x0.num
 let x10 : Int := (M.getD i.toNat l40).x1.num
 let x11 : Int := (M.getD i.toNat l40).y0.num
 let x12 : Int := (M.getD i.toNat l40).y1.num
 let x13 : List AV := [.c (.v (.bool (decide (x9 < 0)))), .c (.v (.string ⟨⟨magB x9.natAbs⟩⟩)), .c (.v (.bool false)), .c (.v (.string ⟨⟨denB (M.getD i.toNat l40).x0.den⟩⟩)), .c (.v (.bool (decide (x10 < 0)))), .c (.v (.string ⟨⟨magB x10.natAbs⟩⟩)), .c (.v (.bool false)), .c (.v (.string ⟨⟨denB (M.getD i.toNat l40).x1.den⟩⟩)), .c (.v (.bool (decide (x11 < 0)))), .c (.v (.string ⟨⟨magB x11.natAbs⟩⟩)), .c (.v (.bool false)), .c (.v (.string ⟨⟨denB (M.getD i.toNat l40).y0.den⟩⟩)), .c (.v (.bool (decide (x12 < 0)))), .c (.v (.string ⟨⟨magB x12.natAbs⟩⟩)), .c (.v (.bool false)), .c (.v (.string ⟨⟨denB (M.getD i.toNat l40).y1.den⟩⟩))]
 .ite (decide (i < x1)) (.need (decide (0 ≤ i ∧ i < x1)) (.need (decide (0 ≤ i ∧ i < x2)) (.need (realOk x3) (.need (lineOk x8) (.need (lineOk x13) (.need (lbB (lineV x8)) (.need (lbB (lineV x13)) (.need (tbB (realV x3)) (.ite (!sameL (realV x3) (lineV x8) (lineV x13)) (.need true (.need (realOk x3) (.ret (Sum.inr { ret := true, t := realV x3 })))) (.need (linesOk L.length (lineEl L)) (.need (linesOk M.length (lineEl M)) (.need (realOk x3) (.need true (.need (decide (x1 = x1)) (.ret (Sum.inl { L := linesOf L.length (lineEl L), M := linesOf M.length (lineEl M), t := realV x3, i := IntKind.i64.wrap (i + 1) })))))))))))))))) (.need true (.need (realOk x3) (.ret (Sum.inr { ret := false, t := realV x3 }))))
def M47 (L : List L4) (M : List L4) (t : R3) : Tr MemOut :=
 let x1 : Int := ↑L.length
 let x2 : List AV := [.c (.v (.bool t.neg))]
 let x3 : List AV := .c (.v (.bool (decide (t.p.num < 0)))) :: .c (.v (.string ⟨⟨magB t.p.num.natAbs⟩⟩)) :: .c (.v (.bool false)) :: .c (.v (.string ⟨⟨denB t.p.den⟩⟩)) :: .c (.v (.bool (decide (t.r.num < 0)))) :: .c (.v (.string ⟨⟨magB t.r.num.natAbs⟩⟩)) :: .c (.v (.bool false)) :: .c (.v (.string ⟨⟨denB t.r.den⟩⟩)) :: x2
 let x4 : List L4 := linesOf L.length (lineEl L)
 let x5 : Nat := x4.length
 let x6 : List L4 := linesOf M.length (lineEl M)
 let x7 : Nat := x6.length
 let x8 : Int := ↑x5
 let x9 : Int := (ratV [.c (.v (.bool (decide (t.p.num < 0)))), .c (.v (.string ⟨⟨magB t.p.num.natAbs⟩⟩)), .c (.v (.bool false)), .c (.v (.string ⟨⟨denB t.p.den⟩⟩))]).num
 let x10 : Int := (ratV [.c (.v (.bool (decide (t.r.num < 0)))), .c (.v (.string ⟨⟨magB t.r.num.natAbs⟩⟩)), .c (.v (.bool false)), .c (.v (.string ⟨⟨denB t.r.den⟩⟩))]).num
 let x11 : List (Option Ent) := [some (Ent.cells [.c (.v (.bool (decide (x9 < 0)))), .c (.v (.string ⟨⟨magB x9.natAbs⟩⟩)), .c (.v (.bool false)), .c (.v (.string { data := { toList := denB (ratV [.c (.v (.bool (decide (t.p.num < 0)))), .c (.v (.string ⟨⟨magB t.p.num.natAbs⟩⟩)), .c (.v (.bool false)), .c (.v (.string ⟨⟨denB t.p.den⟩⟩))]).den } })), .c (.v (.bool (decide (x10 < 0)))), .c (.v (.string ⟨⟨magB x10.natAbs⟩⟩)), .c (.v (.bool false)), .c (.v (.string { data := { toList := denB (ratV [.c (.v (.bool (decide (t.r.num < 0)))), .c (.v (.string ⟨⟨magB t.r.num.natAbs⟩⟩)), .c (.v (.bool false)), .c (.v (.string ⟨⟨denB t.r.den⟩⟩))]).den } })), .c (.v (.bool (boolV x2)))] 36)]
 .ite (x1 != ↑M.length) (.ret { val := .c (.v (.bool false)), outs := [some (Ent.cells x3 36)] }) (.need (linesOk L.length (lineEl L)) (.need (linesOk M.length (lineEl M)) (.need (realOk x3) (.need true (.need (decide (x1 = x1)) (.need (decide (x5 = x7) && decide ((0 : Int) ≤ 0) && decide (0 ≤ x8) && decide (x5 ≤ 1000) && x4.all lbB && x6.all lbB && tbB (realV x3)) (.ite (!eqAll (sameL (realV x3)) (List.drop (Int.toNat 0) x4) (List.drop (Int.toNat 0) x6)) (.ret { val := .c (.v (.bool false)), outs := x11 }) (.ret { val := .c (.v (.bool true)), outs := x11 }))))))))
theorem M24_eq (x y : L4) (t : R3) : execM Tryz.prog Γ24 noL 1010 true Tryz.f24 [some (.cells (realCells t) 36)] [.agg (lineCells x), .agg (lineCells y), .ptr 0 0] = M24 x y t := by kernel_rfl
theorem M28_eq (x : L4) (t : R3) : execM Tryz.prog Γ28 noL 1010 true Tryz.f28 [some (.cells (realCells t) 36)] [.agg (lineCells x), .ptr 0 0] = M28 x t := by kernel_rfl
theorem step47_eq (w : Way2 W47 R47) (x : W47) : (exec Tryz.prog Γ47 noL 1010 (loopOf 0 (codeOf Tryz.f47)) (mkSt (lp47 w).nIn ((lp47 w).head x))).bind ((lp47 w).fin 1 0) = step47 x.L x.M x.t x.i := by
 obtain ⟨L, M, t, i⟩ := x
 kernel_rfl
theorem M47_eq (L M : List L4) (t : R3) : execM Tryz.prog Γ47 L47 1010 true Tryz.f47 [some (.cells (realCells t) 36)] [slA L, slA M, .fn 24 [.ptr 0 0]] = M47 L M t := by kernel_rfl
theorem l4_eta (x : L4) : (⟨x.x0, x.x1, x.y0, x.y1⟩ : L4) = x := rfl
theorem r3_eta (x : R3) : (⟨x.p, x.r, x.neg⟩ : R3) = x := rfl
theorem M24_sat (x y : L4) (t : R3) (h1 : lbB x = true) (h2 : lbB y = true) (h3 : tbB t = true) : (M24 x y t).sat fun o => o = { val := boolA (sameL t x y), outs := [some (.cells (realCells t) 36)] } := by
 simp only [M24, ratV_lit, ratOk_lit, quadV_lit, quadOk_lit, realV_lit, realOk_lit, lineV_lit, lineOk_lit, boolV_lit, List.take_succ_cons, List.take_zero, List.drop_succ_cons, List.drop_zero, Bool.and_self, l4_eta, r3_eta, linesOf_el, linesOk_lines, sat_true, h1, h2, h3]
 exact sat_ret rfl
theorem M28_sat (x : L4) (t : R3) (h1 : lbB x = true) (h3 : tbB t = true) : (M28 x t).sat fun o => o = { val := lineA (holdL (redL t x)), outs := [some (.cells (realCells t) 36)] } := by
 simp only [M28, ratV_lit, ratOk_lit, quadV_lit, quadOk_lit, realV_lit, realOk_lit, lineV_lit, lineOk_lit, boolV_lit, List.take_succ_cons, List.take_zero, List.drop_succ_cons, List.drop_zero, Bool.and_self, l4_eta, r3_eta, linesOf_el, linesOk_lines, sat_true, h1, h3]
 exact sat_ret rfl
theorem f24_ok : MemOk Tryz.prog 24 K24 := by
 refine memOk_of_exec (L := fun _ => noL) prog_mixed Γ24_ok (fn := Tryz.f24) (c := codeOf Tryz.f24) (by kernel_rfl) (by kernel_rfl) (callFunc_enter (fn := Tryz.f24) (c := codeOf Tryz.f24) (by kernel_rfl) (by kernel_rfl) (by kernel_rfl)) (N := 1010) (frz := true) ?_ ?_
 · intro ents args o h
   exact blocksOk_none _ _
 · intro ents args o h hc
   unfold K24 at h
   split at h
   · rename_i t l m
     cases h
     have h0 : realOk t = true := hc (realOk t) (by simp)
     have h1 : lineOk l = true := hc (lineOk l) (by simp)
     have h2 : lineOk m = true := hc (lineOk m) (by simp)
     have h3 : lbB (lineV l) = true := hc (lbB (lineV l)) (by simp)
     have h4 : lbB (lineV m) = true := hc (lbB (lineV m)) (by simp)
     have h5 : tbB (realV t) = true := hc (tbB (realV t)) (by simp)
     obtain ⟨t, rfl⟩ : ∃ x, t = realCells x := ⟨_, realOk_eq h0⟩
     obtain ⟨x, rfl⟩ : ∃ x, l = lineCells x := ⟨_, lineOk_eq h1⟩
     obtain ⟨y, rfl⟩ : ∃ x, m = lineCells x := ⟨_, lineOk_eq h2⟩
     simp only [realV_cells, lineV_cells] at *
     have hs := M24_sat x y t h3 h4 h5
     rw [← M24_eq] at hs
     generalize execM Tryz.prog Γ24 noL 1010 true Tryz.f24 [some (.cells (realCells t) 36)] [.agg (lineCells x), .agg (lineCells y), .ptr 0 0] = T at hs
     generalize sameL t x y = z at hs
     exact Tr.sat_mono (fun r hr => by subst hr; exact ⟨Sees.refl _, EntsEqv.refl _⟩) hs
   · cases h
theorem f28_ok : MemOk Tryz.prog 28 K28 := by
 refine memOk_of_exec (L := fun _ => noL) prog_mixed Γ28_ok (fn := Tryz.f28) (c := codeOf Tryz.f28) (by kernel_rfl) (by kernel_rfl) (callFunc_enter (fn := Tryz.f28) (c := codeOf Tryz.f28) (by kernel_rfl) (by kernel_rfl) (by kernel_rfl)) (N := 1010) (frz := true) ?_ ?_
 · intro ents args o h
   exact blocksOk_none _ _
 · intro ents args o h hc
   unfold K28 at h
   split at h
   · rename_i t l
     cases h
     have h0 : realOk t = true := hc (realOk t) (by simp)
     have h1 : lineOk l = true := hc (lineOk l) (by simp)
     have h3 : lbB (lineV l) = true := hc (lbB (lineV l)) (by simp)
     have h5 : tbB (realV t) = true := hc (tbB (realV t)) (by simp)
     obtain ⟨t, rfl⟩ : ∃ x, t = realCells x := ⟨_, realOk_eq h0⟩
     obtain ⟨x, rfl⟩ : ∃ x, l = lineCells x := ⟨_, lineOk_eq h1⟩
     simp only [realV_cells, lineV_cells] at *
     have hs := M28_sat x t h3 h5
     rw [← M28_eq] at hs
     generalize execM Tryz.prog Γ28 noL 1010 true Tryz.f28 [some (.cells (realCells t) 36)] [.agg (lineCells x), .ptr 0 0] = T at hs
     generalize holdL (redL t x) = z at hs
     exact Tr.sat_mono (fun r hr => by subst hr; exact ⟨Sees.refl _, EntsEqv.refl _⟩) hs
   · cases h
theorem Γ47_ok : ∀ f s, Γ47 f = some s → SpecOk Tryz.prog f s := one_ok f24_ok.spec
theorem getD_get {L : List L4} {i : Nat} (h : i < L.length) : L.getD i l40 = L[i] := by simp [List.getD_eq_getElem?_getD, h]
theorem all_get {L : List L4} (h : L.all lbB = true) {i : Nat} (hi : i < L.length) : lbB L[i] = true := List.all_eq_true.1 h _ (List.getElem_mem hi)
theorem step47_in (L M : List L4) (t : R3) (i : Nat) (h1 : i < L.length) (h2 : i < M.length) (hl : L.length ≤ 1000) (hL : L.all lbB = true) (hM : M.all lbB = true) (ht : tbB t = true) (Q : W47 ⊕ R47 → Prop)
   (hret : sameL t L[i] M[i] = false → Q (.inr ⟨true, t⟩)) (hgo : sameL t L[i] M[i] = true → Q (.inl ⟨L, M, t, ((i + 1 : Nat) : Int)⟩)) : (step47 L M t (i : Nat)).sat Q := by
 have g1 := getD_get h1
 have g2 := getD_get h2
 have b1 := all_get hL h1
 have b2 := all_get hM h2
 have hw : IntKind.i64.wrap ((i : Int) + 1) = ((i + 1 : Nat) : Int) := by rw [wrap_i64 (by omega)]; omega
 have c1 : decide ((0 : Int) ≤ (i : Int) ∧ (i : Int) < (L.length : Int)) = true := decide_eq_true (by omega)
 have c2 : decide ((0 : Int) ≤ (i : Int) ∧ (i : Int) < (M.length : Int)) = true := decide_eq_true (by omega)
 simp only [step47, ratV_lit, ratOk_lit, quadV_lit, quadOk_lit, realV_lit, realOk_lit, lineV_lit, lineOk_lit, boolV_lit, List.take_succ_cons, List.take_zero, List.drop_succ_cons, List.drop_zero, Bool.and_self, l4_eta, r3_eta, linesOf_el, linesOk_lines, sat_true, Int.toNat_natCast, g1, g2, b1, b2, ht, hw, c1, c2]
 refine sat_ite (fun _ => ?_) (fun h => absurd (show (i : Int) < (L.length : Int) by omega) (of_decide_eq_false h))
 simp only [sat_true]
 refine sat_ite (fun h => ?_) (fun h => ?_)
 · simp only [sat_true]
   exact sat_ret (hret (by simpa using h))
 · simp only [sat_true]
   exact sat_need (by simp) (sat_ret (hgo (by simpa using h)))
theorem step47_end (L M : List L4) (t : R3) (Q : W47 ⊕ R47 → Prop) (hq : Q (.inr ⟨false, t⟩)) : (step47 L M t (L.length : Nat)).sat Q := by
 simp only [step47, ratV_lit, ratOk_lit, quadV_lit, quadOk_lit, realV_lit, realOk_lit, lineV_lit, lineOk_lit, boolV_lit, List.take_succ_cons, List.take_zero, List.drop_succ_cons, List.drop_zero, Bool.and_self, l4_eta, r3_eta, linesOf_el, linesOk_lines, sat_true]
 refine sat_ite (fun h => absurd (of_decide_eq_true h) (Int.lt_irrefl _)) (fun _ => ?_)
 simp only [sat_true]
 exact sat_ret hq
theorem runs47 (L M : List L4) (t : R3) (hn : L.length = M.length) (hl : L.length ≤ 1000) (hL : L.all lbB = true) (hM : M.all lbB = true) (ht : tbB t = true) (Q : R47 → Prop) :
   ∀ (k i : Nat), i + k = L.length → Q ⟨!eqAll (sameL t) (L.drop i) (M.drop i), t⟩ → RunsX (fun x : W47 => step47 x.L x.M x.t x.i) Q (k + 1) ⟨L, M, t, (i : Nat)⟩
 | 0, i, hi, hq => by
   obtain rfl : i = L.length := by omega
   rw [List.drop_length] at hq
   exact step47_end L M t _ hq
 | k + 1, i, hi, hq => by
   have h1 : i < L.length := by omega
   have h2 : i < M.length := by omega
   have d1 : L.drop i = L[i] :: L.drop (i + 1) := List.drop_eq_getElem_cons h1
   have d2 : M.drop i = M[i] :: M.drop (i + 1) := List.drop_eq_getElem_cons h2
   rw [d1, d2] at hq
   have ih := runs47 L M t hn hl hL hM ht Q k (i + 1) (by omega)
   refine step47_in L M t i h1 h2 hl hL hM ht _ (fun h => ?_) (fun h => ?_)
   · simp only [eqAll, h, Bool.false_and, Bool.not_false] at hq
     exact hq
   · simp only [eqAll, h, Bool.true_and] at hq
     exact ih hq
theorem f47_loops : BlocksOk Tryz.prog 1 L47 (codeOf Tryz.f47) := by
 refine blocksOk_of (d := fun id => Nat.beq id 0) (fun id => by unfold L47; cases Nat.beq id 0 <;> rfl) _ ?_
 have hb : blocksOf (fun id => Nat.beq id 0) (codeOf Tryz.f47) = [(0, .loop (loopOf 0 (codeOf Tryz.f47)))] := by kernel_rfl
 rw [hb]
 intro p hp g hg
 simp only [List.mem_singleton] at hp
 subst hp
 have hh : L47 0 = some ((lp47 way47).g 1) := rfl
 rw [hh] at hg
 obtain rfl : g = (lp47 way47).g 1 := (Option.some.inj hg).symm
 refine LoopSt.ok2 (N := 1010) prog_mixed Γ47_ok (L := noL) (blocksOk_none 1 _) (lp47_good _) (step47_eq way47) ?_
 rintro ⟨L, M, t, i⟩ hx
 have hx : way47.pre ⟨L, M, t, i⟩ = true := hx
 simp only [way47, Bool.and_eq_true, decide_eq_true_eq] at hx
 obtain ⟨⟨⟨⟨⟨⟨h1, h2⟩, h3⟩, h4⟩, h5⟩, h6⟩, h7⟩ := hx
 obtain ⟨i, rfl⟩ : ∃ m : Nat, i = m := ⟨i.toNat, by omega⟩
 exact ⟨_, runs47 L M t h1 h4 h5 h6 h7 (· = way47.res ⟨L, M, t, i⟩) (L.length - i) i (by omega) (by simp [way47])⟩
def eqLines (f : L4 → L4 → Bool) (L M : List L4) : Bool := decide (L.length = M.length) && eqAll f L M
theorem M47_sat (L M : List L4) (t : R3) (hl : L.length ≤ 1000) (hL : L.all lbB = true) (hM : M.all lbB = true) (ht : tbB t = true) :
   (M47 L M t).sat fun o => o = { val := boolA (eqLines (sameL t) L M), outs := [some (.cells (realCells t) 36)] } := by
 have d0 : ∀ X : List L4, List.drop (Int.toNat 0) X = X := fun X => rfl
 simp only [M47, ratV_lit, ratOk_lit, quadV_lit, quadOk_lit, realV_lit, realOk_lit, lineV_lit, lineOk_lit, boolV_lit, List.take_succ_cons, List.take_zero, List.drop_succ_cons, List.drop_zero, Bool.and_self, l4_eta, r3_eta, linesOf_el, linesOk_lines, sat_true, hL, hM, ht, d0]
 refine sat_ite (fun h => sat_ret ?_) (fun h => ?_)
 · have h : ¬ (L.length : Int) = (M.length : Int) := by simpa using h
   have hd : decide (L.length = M.length) = false := decide_eq_false (by omega)
   unfold eqLines
   rw [hd]
   rfl
 · have h : L.length = M.length := by
     have : (L.length : Int) = (M.length : Int) := by simpa using h
     omega
   simp only [sat_true]
   refine sat_need (by simp) (sat_need ?_ (sat_ite (fun h1 => sat_ret ?_) (fun h1 => sat_ret ?_)))
   · simp [h]; omega
   · have h1 : eqAll (sameL t) L M = false := by simpa using h1
     unfold eqLines
     rw [h1, Bool.and_false]
     rfl
   · have h1 : eqAll (sameL t) L M = true := by simpa using h1
     unfold eqLines
     rw [h1, decide_eq_true h]
     rfl
def K47 : MSpec
 | [some (.cells t 36)], [.c (.sl n 16 el), .c (.sl m 16 el'), .fn 24 [.ptr 0 0]] => some { val := boolA (eqLines (sameL (realV t)) (linesOf n el) (linesOf m el')), outs := [some (.cells t 36)], conds := [realOk t, linesOk n el, linesOk m el', (linesOf n el).all lbB, (linesOf m el').all lbB, tbB (realV t), decide (n ≤ 1000)] }
 | _, _ => none
theorem f47_ok : MemOk Tryz.prog 47 K47 := by
 refine memOk_of_exec_c (L := fun _ => L47) prog_mixed Γ47_ok (fn := Tryz.f47) (c := codeOf Tryz.f47) (by kernel_rfl) (by kernel_rfl) (callFunc_enter (fn := Tryz.f47) (c := codeOf Tryz.f47) (by kernel_rfl) (by kernel_rfl) (by kernel_rfl)) (N := 1010) (frz := true) ?_ ?_
 · intro ents args o h
   unfold K47 at h
   split at h
   · exact f47_loops
   · cases h
 · intro ents args o h hc
   unfold K47 at h
   split at h
   · rename_i t n el m el'
     cases h
     have h0 : realOk t = true := hc (realOk t) (by simp)
     have h1 : linesOk n el = true := hc (linesOk n el) (by simp)
     have h2 : linesOk m el' = true := hc (linesOk m el') (by simp)
     have h3 : (linesOf n el).all lbB = true := hc ((linesOf n el).all lbB) (by simp)
     have h4 : (linesOf m el').all lbB = true := hc ((linesOf m el').all lbB) (by simp)
     have h5 : tbB (realV t) = true := hc (tbB (realV t)) (by simp)
     have h6 : n ≤ 1000 := dec (hc (decide (n ≤ 1000)) (by simp))
     obtain ⟨t, rfl⟩ : ∃ x, t = realCells x := ⟨_, realOk_eq h0⟩
     have e1 := linesOk_el h1
     have e2 := linesOk_el h2
     have l1 := linesOf_len n el
     have l2 := linesOf_len m el'
     simp only [realV_cells] at *
     generalize linesOf n el = L at *
     generalize linesOf m el' = M at *
     subst l1
     subst l2
     refine ⟨[some (.cells (realCells t) 36)], [slA L, slA M, .fn 24 [.ptr 0 0]], EntsEqv.refl _, .cons (Sees.sl e1) (.cons (Sees.sl e2) (SeesL.refl _)), ?_⟩
     have hs := M47_sat L M t h6 h3 h4 h5
     rw [← M47_eq] at hs
     generalize execM Tryz.prog Γ47 L47 1010 true Tryz.f47 [some (.cells (realCells t) 36)] [slA L, slA M, .fn 24 [.ptr 0 0]] = T at hs ⊢
     generalize eqLines (sameL t) L M = z at hs
     exact Tr.sat_mono (fun r hr => by subst hr; exact ⟨Sees.refl _, EntsEqv.refl _⟩) hs
   · cases h
end Go.Vse
set_option maxRecDepth 100000
namespace Go.Vse
open Go.Proofs
def fnE : AV := .c (.v (.func (.func 26) #[.agg #[]] #[]))
structure W47e where
 L : List L4
 M : List L4
 i : Int
def head47e (x : W47e) : List AV × List (Option Ent) := ([slA x.M, fnE, boolA false, slA x.L, intA .i64 (x.L.length : Nat), intA .i64 x.i], [])
def take47e : List AV × List (Option Ent) → Option (W47e × List Bool)
 | ([.c (.sl m 16 el'), .c (.v (.func (.func 26) ⟨[.agg ⟨[]⟩]⟩ ⟨[]⟩)), .c (.v (.bool b)), .c (.sl n 16 el), .c (.v (.int .i64 nn)), .c (.v (.int .i64 i))], []) => some (⟨linesOf n el, linesOf m el', i⟩, [linesOk n el, linesOk m el', !b, decide (nn = (n : Int))])
 | _ => none
structure R47e where
 ret : Bool
def takeR47e : Ex × (List AV × List (Option Ent)) → Option (R47e × List Bool)
 | (.normal, ([.c (.v (.bool b))], [])) => some (⟨false⟩, [!b])
 | (.ret, ([.c (.v (.bool b))], [])) => some (⟨true⟩, [!b])
 | _ => none
def lp47e (w : Way2 W47e R47e) : LoopSt W47e R47e where
 nIn := { nt := 32, live := [1, 2, 6, 15, 16, 17] }
 nOut := { nt := 32, live := [6] }
 head := head47e
 take := take47e
 out := fun r => (bif r.ret then .ret else .normal, ([boolA false], []))
 takeR := takeR47e
 res := w.res
 pre := w.pre
 split := fun r => .ite r.ret (.ret { r with ret := true }) (.ret { r with ret := false })
theorem lp47e_good (w : Way2 W47e R47e) : (lp47e w).Good2 where
 take := by
   intro q x cs h hc
   change take47e q = some (x, cs) at h
   unfold take47e at h
   split at h
   · rename_i m el' b n el nn i
     simp only [Option.some.injEq, Prod.mk.injEq] at h
     obtain ⟨rfl, rfl⟩ := h
     have h1 : linesOk n el = true := hc (linesOk n el) (by simp)
     have h2 : linesOk m el' = true := hc (linesOk m el') (by simp)
     have h4 : (!b) = true := hc (!b) (by simp)
     have h5 : nn = (n : Int) := dec (hc (decide (nn = (n : Int))) (by simp))
     have h4 : b = false := by simpa using h4
     subst h4
     subst h5
     change SeesL _ (head47e _).1 ∧ EntsEqv _ (head47e _).2
     simp only [head47e, slA, linesOf_len]
     refine ⟨.cons (Sees.sl (linesOk_el h2)) (.cons (Sees.refl _) (.cons (Sees.refl _) (.cons (Sees.sl (linesOk_el h1)) (.cons (Sees.refl _) (.cons (Sees.refl _) .nil))))), ?_⟩
     exact EntsEqv.refl _
   · cases h
 takeR := by
   intro e q r cs h hc
   change takeR47e (e, q) = some (r, cs) at h
   unfold takeR47e at h
   split at h
   all_goals first
     | (rename_i b hq; cases hq; cases h
        have h4 : (!b) = true := hc (!b) (by simp)
        have h4 : b = false := by simpa using h4
        subst h4
        exact ⟨rfl, SeesL.refl _, EntsEqv.refl _⟩)
     | cases h
 split := by
   intro r Q h
   obtain ⟨b⟩ := r
   cases b with
   | true => exact h.1 rfl
   | false => exact h.2 rfl
def way47e : Way2 W47e R47e := ⟨fun x => ⟨!eqAll eqL (x.L.drop x.i.toNat) (x.M.drop x.i.toNat)⟩,
 fun x => decide (x.L.length = x.M.length) && decide (0 ≤ x.i) && decide (x.i ≤ (x.L.length : Nat)) && decide (x.L.length ≤ 1000)⟩
def L47e : Nat → Option (St → Tr (Ex × St)) := fun id => bif Nat.beq id 0 then some ((lp47e way47e).g 0) else none
def Γ47e : FuncId → Option Spec := fun f => bif Nat.beq f 26 then some (pureSpec K26) else none
theorem Γ47e_ok : ∀ f s, Γ47e f = some s → SpecOk Tryz.prog f s := one_ok f26_ok.spec
def step47e (L : List L4) (M : List L4) (i : Int) : Tr (W47e ⊕ R47e) :=
 let x1 : Int := ↑L.length
 let x2 : Int := ↑M.length
 let x3 : Int := (L.getD i.toNat l40).x0.num
 let x4 : Int := (L.getD i.toNat l40).x1.num
 let x5 : Int := (L.getD i.toNat l40).y0.num
 let x6 : Int := (L.getD i.toNat l40).y1.num
 let x7 : List AV := [.c (.v (.bool (decide (x3 < 0)))), .c (.v (.string ⟨⟨magB x3.natAbs⟩⟩)), .c (.v (.bool false)), .c (.v (.string ⟨⟨denB (L.getD i.toNat l40).x0.den⟩⟩)), .c (.v (.bool (decide (x4 < 0)))), .c (.v (.string ⟨⟨magB x4.natAbs⟩⟩)), .c (.v (.bool false)), .c (.v (.string ⟨⟨denB (L.getD i.toNat l40).x1.den⟩⟩)), .c (.v (.bool (decide (x5 < 0)))), .c (.v (.string ⟨⟨magB x5.natAbs⟩⟩)), .c (.v (.bool false)), .c (.v (.string ⟨⟨denB (L.getD i.toNat l40).y0.den⟩⟩)), .c (.v (.bool (decide (x6 < 0)))), .c (.v (.string ⟨⟨magB x6.natAbs⟩⟩)), .c (.v (.bool false)), .c (.v (.string ⟨⟨denB (L.getD i.toNat l40).y1.den⟩⟩))]
 let x8 : Int := (M.getD i.toNat l40).x0.num
 let x9 : Int := (M.getD i.toNat l40).x1.num
 let x10 : Int := (M.getD i.toNat l40).y0.num
 let x11 : Int := (M.getD i.toNat l40).y1.num
 let x12 : List AV := [.c (.v (.bool (decide (x8 < 0)))), .c (.v (.string ⟨⟨magB x8.natAbs⟩⟩)), .c (.v (.bool false)), .c (.v (.string ⟨⟨denB (M.getD i.toNat l40).x0.den⟩⟩)), .c (.v (.bool (decide (x9 < 0)))), .c (.v (.string ⟨⟨magB x9.natAbs⟩⟩)), .c (.v (.bool false)), .c (.v (.string ⟨⟨denB (M.getD i.toNat l40).x1.den⟩⟩)), .c (.v (.bool (decide (x10 < 0)))), .c (.v (.string ⟨⟨magB x10.natAbs⟩⟩)), .c (.v (.bool false)), .c (.v (.string ⟨⟨denB (M.getD i.toNat l40).y0.den⟩⟩)), .c (.v (.bool (decide (x11 < 0)))), .c (.v (.string ⟨⟨magB x11.natAbs⟩⟩)), .c (.v (.bool false)), .c (.v (.string ⟨⟨denB (M.getD i.toNat l40).y1.den⟩⟩))]
 .ite (decide (i < x1)) (.need (decide (0 ≤ i ∧ i < x1)) (.need (decide (0 ≤ i ∧ i < x2)) (.need (lineOk x7) (.need (lineOk x12) (.ite (!eqL (lineV x7) (lineV x12)) (.need true (.ret (Sum.inr { ret := true }))) (.need (linesOk L.length (lineEl L)) (.need (linesOk M.length (lineEl M)) (.need true (.need (decide (x1 = x1)) (.ret (Sum.inl { L := linesOf L.length (lineEl L), M := linesOf M.length (lineEl M), i := IntKind.i64.wrap (i + 1) }))))))))))) (.need true (.ret (Sum.inr { ret := false })))
def M47e (L : List L4) (M : List L4) : Tr AV :=
 let x1 : Int := ↑L.length
 let x2 : List L4 := linesOf L.length (lineEl L)
 let x3 : Nat := x2.length
 let x4 : List L4 := linesOf M.length (lineEl M)
 let x5 : Nat := x4.length
 let x6 : Int := ↑x3
 .ite (x1 != ↑M.length) (.ret (.c (.v (.bool false)))) (.need (linesOk L.length (lineEl L)) (.need (linesOk M.length (lineEl M)) (.need true (.need (decide (x1 = x1)) (.need (decide (x3 = x5) && decide ((0 : Int) ≤ 0) && decide (0 ≤ x6) && decide (x3 ≤ 1000)) (.ite (!eqAll eqL (List.drop (Int.toNat 0) x2) (List.drop (Int.toNat 0) x4)) (.ret (.c (.v (.bool false)))) (.ret (.c (.v (.bool true))))))))))
theorem step47e_eq (w : Way2 W47e R47e) (x : W47e) : (exec Tryz.prog Γ47e noL 1010 (loopOf 0 (codeOf Tryz.f47)) (mkSt (lp47e w).nIn ((lp47e w).head x))).bind ((lp47e w).fin 0 0) = step47e x.L x.M x.i := by
 obtain ⟨L, M, i⟩ := x
 kernel_rfl
theorem M47e_eq (L M : List L4) : execFn Tryz.prog Γ47e L47e 1010 Tryz.f47 [slA L, slA M, fnE] = M47e L M := by kernel_rfl
theorem step47e_in (L M : List L4) (i : Nat) (h1 : i < L.length) (h2 : i < M.length) (hl : L.length ≤ 1000) (Q : W47e ⊕ R47e → Prop)
   (hret : eqL L[i] M[i] = false → Q (.inr ⟨true⟩)) (hgo : eqL L[i] M[i] = true → Q (.inl ⟨L, M, ((i + 1 : Nat) : Int)⟩)) : (step47e L M (i : Nat)).sat Q := by
 have g1 := getD_get h1
 have g2 := getD_get h2
 have hw : IntKind.i64.wrap ((i : Int) + 1) = ((i + 1 : Nat) : Int) := by rw [wrap_i64 (by omega)]; omega
 have c1 : decide ((0 : Int) ≤ (i : Int) ∧ (i : Int) < (L.length : Int)) = true := decide_eq_true (by omega)
 have c2 : decide ((0 : Int) ≤ (i : Int) ∧ (i : Int) < (M.length : Int)) = true := decide_eq_true (by omega)
 simp only [step47e, ratV_lit, ratOk_lit, quadV_lit, quadOk_lit, realV_lit, realOk_lit, lineV_lit, lineOk_lit, boolV_lit, List.take_succ_cons, List.take_zero, List.drop_succ_cons, List.drop_zero, Bool.and_self, l4_eta, r3_eta, linesOf_el, linesOk_lines, sat_true, Int.toNat_natCast, g1, g2, hw, c1, c2]
 refine sat_ite (fun _ => ?_) (fun h => absurd (show (i : Int) < (L.length : Int) by omega) (of_decide_eq_false h))
 simp only [sat_true]
 refine sat_ite (fun h => ?_) (fun h => ?_)
 · simp only [sat_true]
   exact sat_ret (hret (by simpa using h))
 · simp only [sat_true]
   exact sat_need (by simp) (sat_ret (hgo (by simpa using h)))
theorem step47e_end (L M : List L4) (Q : W47e ⊕ R47e → Prop) (hq : Q (.inr ⟨false⟩)) : (step47e L M (L.length : Nat)).sat Q := by
 simp only [step47e, ratV_lit, ratOk_lit, quadV_lit, quadOk_lit, realV_lit, realOk_lit, lineV_lit, lineOk_lit, boolV_lit, List.take_succ_cons, List.take_zero, List.drop_succ_cons, List.drop_zero, Bool.and_self, l4_eta, r3_eta, linesOf_el, linesOk_lines, sat_true]
 refine sat_ite (fun h => absurd (of_decide_eq_true h) (Int.lt_irrefl _)) (fun _ => ?_)
 simp only [sat_true]
 exact sat_ret hq
theorem runs47e (L M : List L4) (hn : L.length = M.length) (hl : L.length ≤ 1000) (Q : R47e → Prop) :
   ∀ (k i : Nat), i + k = L.length → Q ⟨!eqAll eqL (L.drop i) (M.drop i)⟩ → RunsX (fun x : W47e => step47e x.L x.M x.i) Q (k + 1) ⟨L, M, (i : Nat)⟩
 | 0, i, hi, hq => by
   obtain rfl : i = L.length := by omega
   rw [List.drop_length] at hq
   exact step47e_end L M _ hq
 | k + 1, i, hi, hq => by
   have h1 : i < L.length := by omega
   have h2 : i < M.length := by omega
   have d1 : L.drop i = L[i] :: L.drop (i + 1) := List.drop_eq_getElem_cons h1
   have d2 : M.drop i = M[i] :: M.drop (i + 1) := List.drop_eq_getElem_cons h2
   rw [d1, d2] at hq
   have ih := runs47e L M hn hl Q k (i + 1) (by omega)
   refine step47e_in L M i h1 h2 hl _ (fun h => ?_) (fun h => ?_)
   · simp only [eqAll, h, Bool.false_and, Bool.not_false] at hq
     exact hq
   · simp only [eqAll, h, Bool.true_and] at hq
     exact ih hq
theorem f47e_loops : BlocksOk Tryz.prog 0 L47e (codeOf Tryz.f47) := by
 refine blocksOk_of (d := fun id => Nat.beq id 0) (fun id => by unfold L47e; cases Nat.beq id 0 <;> rfl) _ ?_
 have hb : blocksOf (fun id => Nat.beq id 0) (codeOf Tryz.f47) = [(0, .loop (loopOf 0 (codeOf Tryz.f47)))] := by kernel_rfl
 rw [hb]
 intro p hp g hg
 simp only [List.mem_singleton] at hp
 subst hp
 have hh : L47e 0 = some ((lp47e way47e).g 0) := rfl
 rw [hh] at hg
 obtain rfl : g = (lp47e way47e).g 0 := (Option.some.inj hg).symm
 refine LoopSt.ok2 (N := 1010) prog_mixed Γ47e_ok (L := noL) (blocksOk_none 0 _) (lp47e_good _) (step47e_eq way47e) ?_
 rintro ⟨L, M, i⟩ hx
 have hx : way47e.pre ⟨L, M, i⟩ = true := hx
 simp only [way47e, Bool.and_eq_true, decide_eq_true_eq] at hx
 obtain ⟨⟨⟨h1, h2⟩, h3⟩, h4⟩ := hx
 obtain ⟨i, rfl⟩ : ∃ m : Nat, i = m := ⟨i.toNat, by omega⟩
 exact ⟨_, runs47e L M h1 h4 (· = way47e.res ⟨L, M, i⟩) (L.length - i) i (by omega) (by simp [way47e])⟩
theorem M47e_sat (L M : List L4) (hl : L.length ≤ 1000) : (M47e L M).sat fun r => r = boolA (eqLines eqL L M) := by
 have d0 : ∀ X : List L4, List.drop (Int.toNat 0) X = X := fun X => rfl
 simp only [M47e, ratV_lit, ratOk_lit, quadV_lit, quadOk_lit, realV_lit, realOk_lit, lineV_lit, lineOk_lit, boolV_lit, List.take_succ_cons, List.take_zero, List.drop_succ_cons, List.drop_zero, Bool.and_self, l4_eta, r3_eta, linesOf_el, linesOk_lines, sat_true, d0]
 refine sat_ite (fun h => sat_ret ?_) (fun h => ?_)
 · have h : ¬ (L.length : Int) = (M.length : Int) := by simpa using h
   have hd : decide (L.length = M.length) = false := decide_eq_false (by omega)
   unfold eqLines
   rw [hd]
   rfl
 · have h : L.length = M.length := by
     have : (L.length : Int) = (M.length : Int) := by simpa using h
     omega
   simp only [sat_true]
   refine sat_need (by simp) (sat_need ?_ (sat_ite (fun h1 => sat_ret ?_) (fun h1 => sat_ret ?_)))
   · simp [h]; omega
   · have h1 : eqAll eqL L M = false := by simpa using h1
     unfold eqLines
     rw [h1, Bool.and_false]
     rfl
   · have h1 : eqAll eqL L M = true := by simpa using h1
     unfold eqLines
     rw [h1, decide_eq_true h]
     rfl
def K47e : List AV → Option (AV × List Bool)
 | [.c (.sl n 16 el), .c (.sl m 16 el'), .c (.v (.func (.func 26) ⟨[.agg ⟨[]⟩]⟩ ⟨[]⟩))] => some (boolA (eqLines eqL (linesOf n el) (linesOf m el')), [linesOk n el, linesOk m el', decide (n ≤ 1000)])
 | _ => none
theorem f47e_ok : PureOk Tryz.prog 47 K47e := by
 refine pureOk_of_exec_c (L := L47e) prog_mixed Γ47e_ok (fn := Tryz.f47) (c := codeOf Tryz.f47) (by kernel_rfl) (by kernel_rfl) (callFunc_enter (fn := Tryz.f47) (c := codeOf Tryz.f47) (by kernel_rfl) (by kernel_rfl) (by kernel_rfl)) (N := 1010) f47e_loops ?_ ?_
 · intro args v cs h
   unfold K47e at h
   split at h
   · cases h; rfl
   · cases h
 · intro args v cs h hc
   unfold K47e at h
   split at h
   · rename_i n el m el'
     cases h
     have h1 : linesOk n el = true := hc (linesOk n el) (by simp)
     have h2 : linesOk m el' = true := hc (linesOk m el') (by simp)
     have h6 : n ≤ 1000 := dec (hc (decide (n ≤ 1000)) (by simp))
     have e1 := linesOk_el h1
     have e2 := linesOk_el h2
     have l1 := linesOf_len n el
     have l2 := linesOf_len m el'
     generalize linesOf n el = L at *
     generalize linesOf m el' = M at *
     subst l1
     subst l2
     refine ⟨[slA L, slA M, fnE], .cons (Sees.sl e1) (.cons (Sees.sl e2) (SeesL.refl _)), ?_⟩
     have hs := M47e_sat L M h6
     rw [← M47e_eq] at hs
     generalize execFn Tryz.prog Γ47e L47e 1010 Tryz.f47 [slA L, slA M, fnE] = T at hs ⊢
     generalize eqLines eqL L M = z at hs ⊢
     exact Tr.sat_mono (fun r hr => ⟨by subst hr; rfl, Sees.of_eq hr⟩) hs
   · cases h
end Go.Vse
