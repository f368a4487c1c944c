/- Helpers for the proof: no statement of its own. -/
import Derived.Test.YtaidphfhmbpelaaGreatDoorLineE
set_option linter.unusedVariables false
set_option linter.unusedSimpArgs false
set_option linter.unnecessarySimpa false
set_option linter.deprecated false
set_option maxRecDepth 100000
namespace Go.Vse
open Go.Proofs
structure C4 where
 p : Int
 q : Int
 r : Int
 s : Int
def crnIV (c : C4) : List IV := [.v (.int .i8 c.p), .v (.int .i8 c.q), .v (.int .i8 c.r), .v (.int .i8 c.s)]
def c40 : C4 := ⟨0, 0, 0, 0⟩
def crnEl (L : List C4) : Nat → List IV := fun k => crnIV (L.getD k c40)
def crnOf : List IV → C4
 | [.v (.int .i8 p), .v (.int .i8 q), .v (.int .i8 r), .v (.int .i8 s)] => ⟨p, q, r, s⟩
 | _ => c40
def crnI : List IV → Bool
 | [.v (.int .i8 p), .v (.int .i8 q), .v (.int .i8 r), .v (.int .i8 s)] => true
 | _ => false
def crnsOf (n : Nat) (el : Nat → List IV) : List C4 := (List.range n).map fun k => crnOf (el k)
def crnsI (n : Nat) (el : Nat → List IV) : Bool := (List.range n).all fun k => crnI (el k)
def cok (c : C4) : Bool := i8B c.p && i8B c.q && i8B c.r && i8B c.s
theorem crnI_eq {l : List IV} (h : crnI l = true) : l = crnIV (crnOf l) := by
 unfold crnI at h
 split at h
 · rfl
 · cases h
theorem crnsOf_len (n : Nat) (el : Nat → List IV) : (crnsOf n el).length = n := by simp [crnsOf]
theorem crnsI_el {n : Nat} {el : Nat → List IV} (h : crnsI n el = true) : ∀ k, k < n → el k = crnEl (crnsOf n el) k := fun k hk => by
 have h1 := crnI_eq (List.all_eq_true.1 h k (List.mem_range.2 hk))
 unfold crnEl
 have : (crnsOf n el).getD k c40 = crnOf (el k) := by simp [crnsOf, List.getD_eq_getElem?_getD, hk]
 rw [this]
 exact h1
theorem crnsOf_el (L : List C4) : crnsOf L.length (crnEl L) = L := by
 apply List.ext_getElem
 · simp [crnsOf]
 · intro i h1 h2
   simp [crnsOf, crnEl, crnIV, crnOf, List.getD_eq_getElem?_getD, h2]
theorem crnsI_lines (L : List C4) : crnsI L.length (crnEl L) = true := List.all_eq_true.2 fun k _ => rfl
def lineC (a b : Int) (c : C4) : L4 := lineOf c.p c.q c.r c.s a b
def slC (L : List C4) : AV := .c (.sl L.length 4 (crnEl L))
structure Fr where
 x : Int
 y : Int
 root : Bool
 oa : Bool
 ob : Bool
 C : List C4
 H : List C4
def frCells (f : Fr) : List AV := [.c (.v (.int .u8 f.x)), .c (.v (.int .u8 f.y)), .c (.v (.bool f.root)), .c (.v (.bool f.oa)), .c (.v (.bool f.ob)), slC f.C, slC f.H]
def frV : List AV → Fr
 | [.c (.v (.int .u8 x)), .c (.v (.int .u8 y)), .c (.v (.bool r)), .c (.v (.bool oa)), .c (.v (.bool ob)), .c (.sl n 4 el), .c (.sl m 4 el')] => ⟨x, y, r, oa, ob, crnsOf n el, crnsOf m el'⟩
 | _ => ⟨0, 0, false, false, false, [], []⟩
def frOk : List AV → Bool
 | [.c (.v (.int .u8 x)), .c (.v (.int .u8 y)), .c (.v (.bool r)), .c (.v (.bool oa)), .c (.v (.bool ob)), .c (.sl n 4 el), .c (.sl m 4 el')] => crnsI n el && crnsI m el'
 | _ => false
theorem frOk_sees {l : List AV} (h : frOk l = true) : SeesL l (frCells (frV l)) := by
 unfold frOk at h
 split at h
 · rename_i x y r oa ob n el m el'
   simp only [Bool.and_eq_true] at h
   refine .cons (Sees.refl _) (.cons (Sees.refl _) (.cons (Sees.refl _) (.cons (Sees.refl _) (.cons (Sees.refl _) (.cons ?_ (.cons ?_ .nil))))))
   · show Sees _ (slC (crnsOf n el))
     unfold slC
     rw [crnsOf_len]
     exact Sees.sl (crnsI_el h.1)
   · show Sees _ (slC (crnsOf m el'))
     unfold slC
     rw [crnsOf_len]
     exact Sees.sl (crnsI_el h.2)
 · cases h
theorem frV_cells (f : Fr) : frV (frCells f) = f := by
 show Fr.mk f.x f.y f.root f.oa f.ob (crnsOf f.C.length (crnEl f.C)) (crnsOf f.H.length (crnEl f.H)) = f
 rw [crnsOf_el, crnsOf_el]
theorem frOk_cells (f : Fr) : frOk (frCells f) = true := by
 show (crnsI f.C.length (crnEl f.C) && crnsI f.H.length (crnEl f.H)) = true
 rw [crnsI_lines, crnsI_lines]; rfl
def any22 : List AV := List.replicate 22 .any
theorem sees_any (l : List AV) (h : l.length = 22) : SeesL l any22 := by
 have key : ∀ (n : Nat) (l : List AV), l.length = n → SeesL l (List.replicate n .any) := by
   intro n
   induction n with
   | zero => intro l h; rw [List.eq_nil_of_length_eq_zero h]; exact .nil
   | succ n ih =>
     intro l h
     cases l with
     | nil => cases h
     | cons x l => exact .cons (fun _ _ _ u _ => .any u) (ih l (by simpa using h))
 exact key 22 l h
def uCells (f t : R3) (oa ob : Bool) (slot n : Nat) : List AV := realCells f ++ (realCells t ++ [.c (.v (.bool oa)), .c (.v (.bool ob)), .msl slot n 16, .c (.v (.slice none 0 0))])
structure W6 where
 F : Fr
 a : Int
 b : Int
 f : R3
 t : R3
 oa : Bool
 ob : Bool
 R : List L4
 i : Int
def head6 (x : W6) : List AV × List (Option Ent) := ([.ptr 0 0, .ptr 1 0, intA .i64 x.a, intA .i64 x.b, .ptr 2 0, intA .i64 x.i],
 [some (.cells (frCells x.F) 24), some (.cells any22 40), some (.cells (uCells x.f x.t x.oa x.ob 3 x.R.length) 40), some (.arr x.R.length 16 (lineEl x.R) 47)])
def take6 : List AV × List (Option Ent) → Option (W6 × List Bool)
 | ([.ptr 0 0, .ptr 1 0, .c (.v (.int .i64 a)), .c (.v (.int .i64 b)), .ptr 2 0, .c (.v (.int .i64 i))], [some (.cells lf 24), some (.cells z 40), some (.cells lu 40), some (.arr m' 16 er 47)]) =>
   match lu.drop 18 with
   | [.c (.v (.bool oa)), .c (.v (.bool ob)), .msl 3 m 16, .c (.v (.slice none 0 0))] =>
     some (⟨frV lf, a, b, realV (lu.take 9), realV ((lu.drop 9).take 9), oa, ob, linesOf m er, i⟩, [frOk lf, Nat.beq z.length 22, realOk (lu.take 9), realOk ((lu.drop 9).take 9), linesOk m er, decide (m = m')])
   | _ => none
 | _ => none
def lp6 (w : Way W6) : LoopSt W6 W6 where
 nIn := { nt := 92, live := [1, 2, 3, 4, 5, 6], cells := [(25, 20, 16, 47)] }
 nOut := { nt := 92, live := [1, 2, 3, 4, 5, 6], cells := [(25, 20, 16, 47)] }
 head := head6
 take := take6
 out := fun r => (.normal, head6 r)
 takeR := fun q => match q with | (.normal, q) => take6 q | _ => none
 res := w.res
 pre := w.pre
theorem take6_ok (q : List AV × List (Option Ent)) (x : W6) (cs : List Bool) (h : take6 q = some (x, cs)) (hc : ∀ p ∈ cs, p) : SeesL q.1 (head6 x).1 ∧ EntsEqv q.2 (head6 x).2 := by
 unfold take6 at h
 split at h
 · rename_i a b i lf z lu m' er
   split at h
   · rename_i oa ob m hd
     simp only [Option.some.injEq, Prod.mk.injEq] at h
     obtain ⟨rfl, rfl⟩ := h
     have h1 : frOk lf = true := hc (frOk lf) (by simp)
     have h2 : Nat.beq z.length 22 = true := hc (Nat.beq z.length 22) (by simp)
     have h3 : realOk (lu.take 9) = true := hc (realOk (lu.take 9)) (by simp)
     have h4 : realOk ((lu.drop 9).take 9) = true := hc (realOk ((lu.drop 9).take 9)) (by simp)
     have h5 : linesOk m er = true := hc (linesOk m er) (by simp)
     have h6 : m = m' := dec (hc (decide (m = m')) (by simp))
     subst h6
     have e3 := realOk_eq h3
     have e4 := realOk_eq h4
     have hl : lu = realCells (realV (lu.take 9)) ++ (realCells (realV ((lu.drop 9).take 9)) ++ [.c (.v (.bool oa)), .c (.v (.bool ob)), .msl 3 m 16, .c (.v (.slice none 0 0))]) := by
       rw [← e3, ← e4, ← hd]
       have a3 := List.take_append_drop 9 (lu.drop 9)
       rw [List.drop_drop] at a3
       rw [a3, List.take_append_drop]
     simp only [head6, linesOf_len]
     refine ⟨SeesL.refl _, .cons (.cells _ _ _ (frOk_sees h1)) (.cons (.cells _ _ _ (sees_any z (Nat.eq_of_beq_eq_true h2))) (.cons ?_ (.cons (.arr _ _ _ _ _ (linesOk_el h5)) .nil)))⟩
     unfold uCells
     rw [← hl]
     exact .refl _
   · cases h
 · cases h
theorem lp6_good (w : Way W6) : (lp6 w).Good2 where
 take := take6_ok
 takeR := by
   intro e q r cs h hc
   cases e with
   | normal => obtain ⟨h1, h2⟩ := take6_ok q r cs h hc; exact ⟨rfl, h1, h2⟩
   | exit j => cases h
   | ret => cases h
 split := fun r Q h => h
def abB (a b : Int) : Bool := decide (0 ≤ a) && decide (a ≤ 7) && (decide (a < b) && decide (b ≤ a + 4))
def way6 : Way W6 := ⟨fun x => { x with R := x.R ++ ((x.F.C.drop x.i.toNat).take (5 - x.i.toNat)).map (lineC x.a x.b), i := (min x.F.C.length 5 : Nat) },
 fun x => decide (0 ≤ x.i) && decide (x.i ≤ (min x.F.C.length 5 : Nat)) && decide (x.R.length ≤ 1000) && x.F.C.all cok && abB x.a x.b⟩
structure W6b where
 F : Fr
 a : Int
 b : Int
 f : R3
 t : R3
 oa : Bool
 ob : Bool
 R : List L4
 S : List L4
 i : Int
def head6b (x : W6b) : List AV × List (Option Ent) := ([.ptr 0 0, .ptr 1 0, intA .i64 x.a, intA .i64 x.b, .ptr 2 0, .msl 3 x.S.length 16, intA .i64 x.i],
 [some (.cells (frCells x.F) 24), some (.cells any22 40), some (.cells (uCells x.f x.t x.oa x.ob 4 x.R.length) 40), some (.arr x.S.length 16 (lineEl x.S) 47), some (.arr x.R.length 16 (lineEl x.R) 47)])
def take6b : List AV × List (Option Ent) → Option (W6b × List Bool)
 | ([.ptr 0 0, .ptr 1 0, .c (.v (.int .i64 a)), .c (.v (.int .i64 b)), .ptr 2 0, .msl 3 k 16, .c (.v (.int .i64 i))], [some (.cells lf 24), some (.cells z 40), some (.cells lu 40), some (.arr k' 16 es 47), some (.arr m' 16 er 47)]) =>
   match lu.drop 18 with
   | [.c (.v (.bool oa)), .c (.v (.bool ob)), .msl 4 m 16, .c (.v (.slice none 0 0))] =>
     some (⟨frV lf, a, b, realV (lu.take 9), realV ((lu.drop 9).take 9), oa, ob, linesOf m er, linesOf k es, i⟩, [frOk lf, Nat.beq z.length 22, realOk (lu.take 9), realOk ((lu.drop 9).take 9), linesOk m er, decide (m = m'), linesOk k es, decide (k = k')])
   | _ => none
 | _ => none
def lp6b (w : Way W6b) : LoopSt W6b W6b where
 nIn := { nt := 92, live := [1, 2, 3, 4, 5, 7, 8], lifts := [(7, 16, 47)] }
 nOut := { nt := 92, live := [1, 2, 3, 4, 5, 7, 8], lifts := [(7, 16, 47)] }
 head := head6b
 take := take6b
 out := fun r => (.normal, head6b r)
 takeR := fun q => match q with | (.normal, q) => take6b q | _ => none
 res := w.res
 pre := w.pre
theorem take6b_ok (q : List AV × List (Option Ent)) (x : W6b) (cs : List Bool) (h : take6b q = some (x, cs)) (hc : ∀ p ∈ cs, p) : SeesL q.1 (head6b x).1 ∧ EntsEqv q.2 (head6b x).2 := by
 unfold take6b at h
 split at h
 · rename_i a b k i lf z lu k' es m' er
   split at h
   · rename_i oa ob m hd
     simp only [Option.some.injEq, Prod.mk.injEq] at h
     obtain ⟨rfl, rfl⟩ := h
     have h1 : frOk lf = true := hc (frOk lf) (by simp)
     have h2 : Nat.beq z.length 22 = true := hc (Nat.beq z.length 22) (by simp)
     have h3 : realOk (lu.take 9) = true := hc (realOk (lu.take 9)) (by simp)
     have h4 : realOk ((lu.drop 9).take 9) = true := hc (realOk ((lu.drop 9).take 9)) (by simp)
     have h5 : linesOk m er = true := hc (linesOk m er) (by simp)
     have h6 : m = m' := dec (hc (decide (m = m')) (by simp))
     have h7 : linesOk k es = true := hc (linesOk k es) (by simp)
     have h8 : k = k' := dec (hc (decide (k = k')) (by simp))
     subst h6
     subst h8
     have e3 := realOk_eq h3
     have e4 := realOk_eq h4
     have hl : lu = realCells (realV (lu.take 9)) ++ (realCells (realV ((lu.drop 9).take 9)) ++ [.c (.v (.bool oa)), .c (.v (.bool ob)), .msl 4 m 16, .c (.v (.slice none 0 0))]) := by
       rw [← e3, ← e4, ← hd]
       have a3 := List.take_append_drop 9 (lu.drop 9)
       rw [List.drop_drop] at a3
       rw [a3, List.take_append_drop]
     simp only [head6b, linesOf_len]
     refine ⟨SeesL.refl _, .cons (.cells _ _ _ (frOk_sees h1)) (.cons (.cells _ _ _ (sees_any z (Nat.eq_of_beq_eq_true h2))) (.cons ?_ (.cons (.arr _ _ _ _ _ (linesOk_el h7)) (.cons (.arr _ _ _ _ _ (linesOk_el h5)) .nil))))⟩
     unfold uCells
     rw [← hl]
     exact .refl _
   · cases h
 · cases h
theorem lp6b_good (w : Way W6b) : (lp6b w).Good2 where
 take := take6b_ok
 takeR := by
   intro e q r cs h hc
   cases e with
   | normal => obtain ⟨h1, h2⟩ := take6b_ok q r cs h hc; exact ⟨rfl, h1, h2⟩
   | exit j => cases h
   | ret => cases h
 split := fun r Q h => h
def way6b : Way W6b := ⟨fun x => { x with S := x.S ++ ((x.F.H.drop x.i.toNat).take (3 - x.i.toNat)).map (lineC x.a x.b), i := (min x.F.H.length 3 : Nat) },
 fun x => decide (0 ≤ x.i) && decide (x.i ≤ (min x.F.H.length 3 : Nat)) && decide (x.S.length ≤ 1000) && x.F.H.all cok && abB x.a x.b⟩
def L6 : Nat → Option (St → Tr (Ex × St)) := fun id => bif Nat.beq id 0 then some ((lp6 way6).g 0) else bif Nat.beq id 2 then some ((lp6b way6b).g 0) else none
def fa (F : Fr) : Int := F.x % 8
def fb (F : Fr) : Int := fa F + 1 + F.y % 4
def outerF (F : Fr) : List L4 := (F.C.take 5).map (lineC (fa F) (fb F))
def holeF (F : Fr) : Option (List L4) := bif (F.H.isEmpty) then none else some ((F.H.take 3).map (lineC (fa F) (fb F)))
end Go.Vse
set_option maxRecDepth 100000
namespace Go.Vse
open Go.Proofs
def Γ6 : FuncId → Option Spec := fun f => bif Nat.beq f 17 then some (pureSpec K17) else bif Nat.beq f 7 then some (pureSpec K7) else bif Nat.beq f 8 then some (pureSpec K8) else none
theorem Γ6_ok : ∀ f s, Γ6 f = some s → SpecOk Tryz.prog f s := step_ok f17_ok.spec (step_ok f7_ok.spec (one_ok f8_ok.spec))
def step6 (F : Fr) (a : Int) (b : Int) (f : R3) (t : R3) (oa : Bool) (ob : Bool) (R : List L4) (i : Int) : Tr (W6 ⊕ W6) :=
 let x1 : Int := ↑F.C.length
 let x2 : Int := (F.C.getD i.toNat c40).p
 let x3 : Int := (F.C.getD i.toNat c40).q
 let x4 : Int := (F.C.getD i.toNat c40).r
 let x5 : Int := (F.C.getD i.toNat c40).s
 let x6 : Int := a + 4
 let x7 : Nat := R.length + 1
 let x8 : Nat := x7 * 192
 let x9 : List AV := [.c (.v (.int IntKind.u8 F.x)), .c (.v (.int IntKind.u8 F.y)), .c (.v (.bool F.root)), .c (.v (.bool F.oa)), .c (.v (.bool F.ob)), AV.c (IV.sl F.C.length 4 (crnEl F.C)), AV.c (IV.sl F.H.length 4 (crnEl F.H))]
 let x10 : List AV := [.c (.v (.bool (decide (f.p.num < 0)))), .c (.v (.string ⟨⟨magB f.p.num.natAbs⟩⟩)), .c (.v (.bool false)), .c (.v (.string ⟨⟨denB f.p.den⟩⟩)), .c (.v (.bool (decide (f.r.num < 0)))), .c (.v (.string ⟨⟨magB f.r.num.natAbs⟩⟩)), .c (.v (.bool false)), .c (.v (.string ⟨⟨denB f.r.den⟩⟩)), .c (.v (.bool f.neg))]
 let x11 : List AV := [.c (.v (.bool (decide (t.p.num < 0)))), .c (.v (.string ⟨⟨magB t.p.num.natAbs⟩⟩)), .c (.v (.bool false)), .c (.v (.string ⟨⟨denB t.p.den⟩⟩)), .c (.v (.bool (decide (t.r.num < 0)))), .c (.v (.string ⟨⟨magB t.r.num.natAbs⟩⟩)), .c (.v (.bool false)), .c (.v (.string ⟨⟨denB t.r.den⟩⟩)), .c (.v (.bool t.neg))]
 let x12 : Nat := 15 + 1
 let x13 : Int := (hold (slopeB ↑a ↑x3 ↑b ↑x5)).num
 let x14 : Int := (hold (↑x3 - slopeB ↑a ↑x3 ↑b ↑x5 * ↑a)).num
 let x15 : Int := (hold (slopeB ↑a ↑x2 ↑b ↑x4)).num
 let x16 : Int := (hold (↑x2 - slopeB ↑a ↑x2 ↑b ↑x4 * ↑a)).num
 .need (bif decide (i < x1) then true else true) (.ite (bif decide (i < x1) then bif true then decide (i < 5) else false else false) (.need (decide (0 ≤ i ∧ i < x1)) (.need (i8B x2) (.need (i8B x3) (.need (i8B x4) (.need (i8B x5) (.need (decide (0 ≤ a)) (.need (decide (a ≤ 7)) (.need (decide (a < b)) (.need (decide (b ≤ x6)) (.need (decide (R.length ≤ R.length)) (.need true (.need (decide (x7 ≤ 9223372036854775807)) (.need (decide (x8 ≤ 140737488355328)) (.need (frOk x9) (.need true (.need (realOk x10) (.need (realOk x11) (.need (linesOk x7 (joinE R.length (lineEl R) fun k => List.take x12 (List.drop (k * x12) [IV.v (Value.string ⟨⟨denB (hold (slopeB ↑a ↑x3 ↑b ↑x5)).den⟩⟩), IV.v (Value.bool false), IV.v (Value.string ⟨⟨magB x13.natAbs⟩⟩), IV.v (Value.bool (decide (x13 < 0))), IV.v (Value.string ⟨⟨denB (hold (↑x3 - slopeB ↑a ↑x3 ↑b ↑x5 * ↑a)).den⟩⟩), IV.v (Value.bool false), IV.v (Value.string ⟨⟨magB x14.natAbs⟩⟩), IV.v (Value.bool (decide (x14 < 0))), IV.v (Value.string ⟨⟨denB (hold (slopeB ↑a ↑x2 ↑b ↑x4)).den⟩⟩), IV.v (Value.bool false), IV.v (Value.string ⟨⟨magB x15.natAbs⟩⟩), IV.v (Value.bool (decide (x15 < 0))), IV.v (Value.string ⟨⟨denB (hold (↑x2 - slopeB ↑a ↑x2 ↑b ↑x4 * ↑a)).den⟩⟩), IV.v (Value.bool false), IV.v (Value.string ⟨⟨magB x16.natAbs⟩⟩), IV.v (Value.bool (decide (x16 < 0)))].reverse))) (.need (decide (x7 = x7)) (.ret (Sum.inl { F := frV x9, a := a, b := b, f := realV x10, t := realV x11, oa := oa, ob := ob, R := linesOf x7 (joinE R.length (lineEl R) fun k => List.take x12 (List.drop (k * x12) [IV.v (Value.string ⟨⟨denB (hold (slopeB ↑a ↑x3 ↑b ↑x5)).den⟩⟩), IV.v (Value.bool false), IV.v (Value.string ⟨⟨magB x13.natAbs⟩⟩), IV.v (Value.bool (decide (x13 < 0))), IV.v (Value.string ⟨⟨denB (hold (↑x3 - slopeB ↑a ↑x3 ↑b ↑x5 * ↑a)).den⟩⟩), IV.v (Value.bool false), IV.v (Value.string ⟨⟨magB x14.natAbs⟩⟩), IV.v (Value.bool (decide (x14 < 0))), IV.v (Value.string ⟨⟨denB (hold (slopeB ↑a ↑x2 ↑b ↑x4)).den⟩⟩), IV.v (Value.bool false), IV.v (Value.string ⟨⟨magB x15.natAbs⟩⟩), IV.v (Value.bool (decide (x15 < 0))), IV.v (Value.string ⟨⟨denB (hold (↑x2 - slopeB ↑a ↑x2 ↑b ↑x4 * ↑a)).den⟩⟩), IV.v (Value.bool false), IV.v (Value.string ⟨⟨magB x16.natAbs⟩⟩), IV.v (Value.bool (decide (x16 < 0)))].reverse)), i := IntKind.i64.wrap (i + 1) }))))))))))))))))))))) (.need (frOk x9) (.need true (.need (realOk x10) (.need (realOk x11) (.need (linesOk R.length (lineEl R)) (.need (decide (R.length = R.length)) (.ret (Sum.inr { F := frV x9, a := a, b := b, f := realV x10, t := realV x11, oa := oa, ob := ob, R := linesOf R.length (lineEl R), i := i })))))))))
def step6b (F : Fr) (a : Int) (b : Int) (f : R3) (t : R3) (oa : Bool) (ob : Bool) (R : List L4) (S : List L4) (i : Int) : Tr (W6b ⊕ W6b) :=
 let x1 : Int := ↑F.H.length
 let x2 : Int := (F.H.getD i.toNat c40).p
 let x3 : Int := (F.H.getD i.toNat c40).q
 let x4 : Int := (F.H.getD i.toNat c40).r
 let x5 : Int := (F.H.getD i.toNat c40).s
 let x6 : Int := a + 4
 let x7 : Nat := S.length + 1
 let x8 : Nat := x7 * 192
 let x9 : List AV := [.c (.v (.int IntKind.u8 F.x)), .c (.v (.int IntKind.u8 F.y)), .c (.v (.bool F.root)), .c (.v (.bool F.oa)), .c (.v (.bool F.ob)), AV.c (IV.sl F.C.length 4 (crnEl F.C)), AV.c (IV.sl F.H.length 4 (crnEl F.H))]
 let x10 : List AV := [.c (.v (.bool (decide (f.p.num < 0)))), .c (.v (.string ⟨⟨magB f.p.num.natAbs⟩⟩)), .c (.v (.bool false)), .c (.v (.string ⟨⟨denB f.p.den⟩⟩)), .c (.v (.bool (decide (f.r.num < 0)))), .c (.v (.string ⟨⟨magB f.r.num.natAbs⟩⟩)), .c (.v (.bool false)), .c (.v (.string ⟨⟨denB f.r.den⟩⟩)), .c (.v (.bool f.neg))]
 let x11 : List AV := [.c (.v (.bool (decide (t.p.num < 0)))), .c (.v (.string ⟨⟨magB t.p.num.natAbs⟩⟩)), .c (.v (.bool false)), .c (.v (.string ⟨⟨denB t.p.den⟩⟩)), .c (.v (.bool (decide (t.r.num < 0)))), .c (.v (.string ⟨⟨magB t.r.num.natAbs⟩⟩)), .c (.v (.bool false)), .c (.v (.string ⟨⟨denB t.r.den⟩⟩)), .c (.v (.bool t.neg))]
 let x12 : Nat := 15 + 1
 let x13 : Int := (hold (slopeB ↑a ↑x3 ↑b ↑x5)).num
 let x14 : Int := (hold (↑x3 - slopeB ↑a ↑x3 ↑b ↑x5 * ↑a)).num
 let x15 : Int := (hold (slopeB ↑a ↑x2 ↑b ↑x4)).num
 let x16 : Int := (hold (↑x2 - slopeB ↑a ↑x2 ↑b ↑x4 * ↑a)).num
 let x17 : List L4 := linesOf R.length (lineEl R)
 .need (bif decide (i < x1) then true else true) (.ite (bif decide (i < x1) then bif true then decide (i < 3) else false else false) (.need (decide (0 ≤ i ∧ i < x1)) (.need (i8B x2) (.need (i8B x3) (.need (i8B x4) (.need (i8B x5) (.need (decide (0 ≤ a)) (.need (decide (a ≤ 7)) (.need (decide (a < b)) (.need (decide (b ≤ x6)) (.need (decide (S.length ≤ S.length)) (.need true (.need (decide (x7 ≤ 9223372036854775807)) (.need (decide (x8 ≤ 140737488355328)) (.need (frOk x9) (.need true (.need (realOk x10) (.need (realOk x11) (.need (linesOk R.length (lineEl R)) (.need (decide (R.length = R.length)) (.need (linesOk x7 (joinE S.length (lineEl S) fun k => List.take x12 (List.drop (k * x12) [IV.v (Value.string ⟨⟨denB (hold (slopeB ↑a ↑x3 ↑b ↑x5)).den⟩⟩), IV.v (Value.bool false), IV.v (Value.string ⟨⟨magB x13.natAbs⟩⟩), IV.v (Value.bool (decide (x13 < 0))), IV.v (Value.string ⟨⟨denB (hold (↑x3 - slopeB ↑a ↑x3 ↑b ↑x5 * ↑a)).den⟩⟩), IV.v (Value.bool false), IV.v (Value.string ⟨⟨magB x14.natAbs⟩⟩), IV.v (Value.bool (decide (x14 < 0))), IV.v (Value.string ⟨⟨denB (hold (slopeB ↑a ↑x2 ↑b ↑x4)).den⟩⟩), IV.v (Value.bool false), IV.v (Value.string ⟨⟨magB x15.natAbs⟩⟩), IV.v (Value.bool (decide (x15 < 0))), IV.v (Value.string ⟨⟨denB (hold (↑x2 - slopeB ↑a ↑x2 ↑b ↑x4 * ↑a)).den⟩⟩), IV.v (Value.bool false), IV.v (Value.string ⟨⟨magB x16.natAbs⟩⟩), IV.v (Value.bool (decide (x16 < 0)))].reverse))) (.need (decide (x7 = x7)) (.ret (Sum.inl { F := frV x9, a := a, b := b, f := realV x10, t := realV x11, oa := oa, ob := ob, R := x17, S := linesOf x7 (joinE S.length (lineEl S) fun k => List.take x12 (List.drop (k * x12) [IV.v (Value.string ⟨⟨denB (hold (slopeB ↑a ↑x3 ↑b ↑x5)).den⟩⟩), IV.v (Value.bool false), IV.v (Value.string ⟨⟨magB x13.natAbs⟩⟩), IV.v (Value.bool (decide (x13 < 0))), IV.v (Value.string ⟨⟨denB (hold (↑x3 - slopeB ↑a ↑x3 ↑b ↑x5 * ↑a)).den⟩⟩), IV.v (Value.bool false), IV.v (Value.string ⟨⟨magB x14.natAbs⟩⟩), IV.v (Value.bool (decide (x14 < 0))), IV.v (Value.string ⟨⟨denB (hold (slopeB ↑a ↑x2 ↑b ↑x4)).den⟩⟩), IV.v (Value.bool false), IV.v (Value.string ⟨⟨magB x15.natAbs⟩⟩), IV.v (Value.bool (decide (x15 < 0))), IV.v (Value.string ⟨⟨denB (hold (↑x2 - slopeB ↑a ↑x2 ↑b ↑x4 * ↑a)).den⟩⟩), IV.v (Value.bool false), IV.v (Value.string ⟨⟨magB x16.natAbs⟩⟩), IV.v (Value.bool (decide (x16 < 0)))].reverse)), i := IntKind.i64.wrap (i + 1) }))))))))))))))))))))))) (.need (frOk x9) (.need true (.need (realOk x10) (.need (realOk x11) (.need (linesOk R.length (lineEl R)) (.need (decide (R.length = R.length)) (.need (linesOk S.length (lineEl S)) (.need (decide (S.length = S.length)) (.ret (Sum.inr { F := frV x9, a := a, b := b, f := realV x10, t := realV x11, oa := oa, ob := ob, R := x17, S := linesOf S.length (lineEl S), i := i })))))))))))
theorem step6_eq (w : Way W6) (x : W6) : (exec Tryz.prog Γ6 noL 1010 (loopOf 0 (codeOf Tryz.f6)) (mkSt (lp6 w).nIn ((lp6 w).head x))).bind ((lp6 w).fin 0 0) = step6 x.F x.a x.b x.f x.t x.oa x.ob x.R x.i := by
 obtain ⟨F, a, b, f, t, oa, ob, R, i⟩ := x
 kernel_rfl
theorem step6b_eq (w : Way W6b) (x : W6b) : (exec Tryz.prog Γ6 noL 1010 (loopOf 2 (codeOf Tryz.f6)) (mkSt (lp6b w).nIn ((lp6b w).head x))).bind ((lp6b w).fin 0 2) = step6b x.F x.a x.b x.f x.t x.oa x.ob x.R x.S x.i := by
 obtain ⟨F, a, b, f, t, oa, ob, R, S, i⟩ := x
 kernel_rfl
theorem frV_lit (F : Fr) : frV [.c (.v (.int .u8 F.x)), .c (.v (.int .u8 F.y)), .c (.v (.bool F.root)), .c (.v (.bool F.oa)), .c (.v (.bool F.ob)), .c (.sl F.C.length 4 (crnEl F.C)), .c (.sl F.H.length 4 (crnEl F.H))] = F := frV_cells F
theorem frOk_lit (F : Fr) : frOk [.c (.v (.int .u8 F.x)), .c (.v (.int .u8 F.y)), .c (.v (.bool F.root)), .c (.v (.bool F.oa)), .c (.v (.bool F.ob)), .c (.sl F.C.length 4 (crnEl F.C)), .c (.sl F.H.length 4 (crnEl F.H))] = true := frOk_cells F
theorem crn_get {L : List C4} {i : Nat} (h : i < L.length) : L.getD i c40 = L[i] := by simp [List.getD_eq_getElem?_getD, h]
theorem cok_get {L : List C4} (h : L.all cok = true) {i : Nat} (hi : i < L.length) : i8B L[i].p = true ∧ i8B L[i].q = true ∧ i8B L[i].r = true ∧ i8B L[i].s = true := by
 have := List.all_eq_true.1 h _ (List.getElem_mem hi)
 simp only [cok, Bool.and_eq_true] at this
 exact ⟨this.1.1.1, this.1.1.2, this.1.2, this.2⟩
theorem abB_all {a b : Int} (h : abB a b = true) : decide (0 ≤ a) = true ∧ decide (a ≤ 7) = true ∧ decide (a < b) = true ∧ decide (b ≤ a + 4) = true := by
 simp only [abB, Bool.and_eq_true] at h
 exact ⟨h.1.1, h.1.2, h.2.1, h.2.2⟩
theorem step6_in (F : Fr) (a b : Int) (f t : R3) (oa ob : Bool) (R : List L4) (i : Nat) (h1 : i < F.C.length) (h2 : i < 5) (hR : R.length ≤ 2000) (hC : F.C.all cok = true) (hab : abB a b = true) (Q : W6 ⊕ W6 → Prop)
   (hgo : Q (.inl ⟨F, a, b, f, t, oa, ob, R ++ [lineC a b F.C[i]], ((i + 1 : Nat) : Int)⟩)) : (step6 F a b f t oa ob R (i : Nat)).sat Q := by
 have g1 := crn_get h1
 obtain ⟨b1, b2, b3, b4⟩ := cok_get hC h1
 obtain ⟨d1, d2, d3, d4⟩ := abB_all hab
 have hw : IntKind.i64.wrap ((i : Int) + 1) = ((i + 1 : Nat) : Int) := by rw [wrap_i64 (by omega)]; omega
 have c1 : decide ((0 : Int) ≤ (i : Int) ∧ (i : Int) < (F.C.length : Int)) = true := decide_eq_true (by omega)
 have c2 : decide (R.length + 1 ≤ 9223372036854775807) = true := decide_eq_true (by omega)
 have c3 : decide ((R.length + 1) * 192 ≤ 140737488355328) = true := decide_eq_true (by omega)
 have c4 : decide (R.length ≤ R.length) = true := decide_eq_true (Nat.le_refl _)
 have c5 : decide ((i : Int) < (F.C.length : Int)) = true := decide_eq_true (by omega)
 have c6 : decide ((i : Int) < 5) = true := decide_eq_true (by omega)
 simp only [step6, ratV_lit, ratOk_lit, quadV_lit, quadOk_lit, realV_lit, realOk_lit, lineV_lit, lineOk_lit, boolV_lit, List.take_succ_cons, List.take_zero, List.drop_succ_cons, List.drop_zero, Bool.and_self, l4_eta, r3_eta, linesOf_el, linesOk_lines, crnsOf_el, crnsI_lines, frOk_lit, frV_lit, sat_true, sat_iteT, sat_iteF, hold_eq, Int.toNat_natCast, g1, b1, b2, b3, b4, d1, d2, d3, d4, hw, c1, c2, c3, c4, c5, c6, cond_true]
 rw [(linesOf_join R _ (lineC a b F.C[i]) rfl).1, (linesOf_join R _ (lineC a b F.C[i]) rfl).2]
 try simp only [sat_true]
 exact sat_need (by simp) (sat_ret hgo)
theorem step6_end (F : Fr) (a b : Int) (f t : R3) (oa ob : Bool) (R : List L4) (i : Nat) (hi : i = min F.C.length 5) (Q : W6 ⊕ W6 → Prop) (hq : Q (.inr ⟨F, a, b, f, t, oa, ob, R, (i : Nat)⟩)) : (step6 F a b f t oa ob R (i : Nat)).sat Q := by
 have hc : (bif decide ((i : Int) < (F.C.length : Int)) then bif true then decide ((i : Int) < 5) else false else false) = false := by
   by_cases h : (i : Int) < (F.C.length : Int)
   · rw [decide_eq_true h]
     exact decide_eq_false (by omega)
   · rw [decide_eq_false h]; rfl
 have hn : (bif decide ((i : Int) < (F.C.length : Int)) then true else true) = true := by cases decide ((i : Int) < (F.C.length : Int)) <;> rfl
 simp only [step6, ratV_lit, ratOk_lit, quadV_lit, quadOk_lit, realV_lit, realOk_lit, lineV_lit, lineOk_lit, boolV_lit, List.take_succ_cons, List.take_zero, List.drop_succ_cons, List.drop_zero, Bool.and_self, l4_eta, r3_eta, linesOf_el, linesOk_lines, crnsOf_el, crnsI_lines, frOk_lit, frV_lit, sat_true, sat_iteT, sat_iteF, hc, hn]
 exact sat_need (by simp) (sat_ret hq)
theorem runs6 (F : Fr) (a b : Int) (f t : R3) (oa ob : Bool) (hC : F.C.all cok = true) (hab : abB a b = true) (Q : W6 → Prop) :
   ∀ (k i : Nat) (R : List L4), i + k = min F.C.length 5 → R.length ≤ 1000 + i → Q ⟨F, a, b, f, t, oa, ob, R ++ ((F.C.drop i).take (5 - i)).map (lineC a b), (min F.C.length 5 : Nat)⟩ → RunsX (fun x : W6 => step6 x.F x.a x.b x.f x.t x.oa x.ob x.R x.i) Q (k + 1) ⟨F, a, b, f, t, oa, ob, R, (i : Nat)⟩
 | 0, i, R, hi, hR, hq => by
   have h0 : 5 - i = 0 ∨ F.C.length ≤ i := by omega
   have he : (F.C.drop i).take (5 - i) = [] := by
     rcases h0 with h0 | h0
     · rw [h0, List.take_zero]
     · rw [List.drop_eq_nil_of_le h0, List.take_nil]
   rw [he, List.map_nil, List.append_nil] at hq
   have hi' : i = min F.C.length 5 := by omega
   rw [← hi'] at hq
   exact step6_end F a b f t oa ob R i hi' _ hq
 | k + 1, i, R, hi, hR, hq => by
   have h1 : i < F.C.length := by omega
   have h2 : i < 5 := by omega
   have d1 : F.C.drop i = F.C[i] :: F.C.drop (i + 1) := List.drop_eq_getElem_cons h1
   have d2 : 5 - i = (5 - (i + 1)) + 1 := by omega
   have ih := runs6 F a b f t oa ob hC hab Q k (i + 1) (R ++ [lineC a b F.C[i]]) (by omega) (by simp; omega) (by
     rw [d1, d2, List.take_succ_cons, List.map_cons] at hq
     rw [List.append_assoc]
     exact hq)
   exact step6_in F a b f t oa ob R i h1 h2 (by omega) hC hab _ ih
theorem step6b_in (F : Fr) (a b : Int) (f t : R3) (oa ob : Bool) (R : List L4) (S : List L4) (i : Nat) (h1 : i < F.H.length) (h2 : i < 3) (hR : S.length ≤ 2000) (hC : F.H.all cok = true) (hab : abB a b = true) (Q : W6b ⊕ W6b → Prop)
   (hgo : Q (.inl ⟨F, a, b, f, t, oa, ob, R, S ++ [lineC a b F.H[i]], ((i + 1 : Nat) : Int)⟩)) : (step6b F a b f t oa ob R S (i : Nat)).sat Q := by
 have g1 := crn_get h1
 obtain ⟨b1, b2, b3, b4⟩ := cok_get hC h1
 obtain ⟨d1, d2, d3, d4⟩ := abB_all hab
 have hw : IntKind.i64.wrap ((i : Int) + 1) = ((i + 1 : Nat) : Int) := by rw [wrap_i64 (by omega)]; omega
 have c1 : decide ((0 : Int) ≤ (i : Int) ∧ (i : Int) < (F.H.length : Int)) = true := decide_eq_true (by omega)
 have c2 : decide (S.length + 1 ≤ 9223372036854775807) = true := decide_eq_true (by omega)
 have c3 : decide ((S.length + 1) * 192 ≤ 140737488355328) = true := decide_eq_true (by omega)
 have c4 : decide (S.length ≤ S.length) = true := decide_eq_true (Nat.le_refl _)
 have c5 : decide ((i : Int) < (F.H.length : Int)) = true := decide_eq_true (by omega)
 have c6 : decide ((i : Int) < 3) = true := decide_eq_true (by omega)
 simp only [step6b, ratV_lit, ratOk_lit, quadV_lit, quadOk_lit, realV_lit, realOk_lit, lineV_lit, lineOk_lit, boolV_lit, List.take_succ_cons, List.take_zero, List.drop_succ_cons, List.drop_zero, Bool.and_self, l4_eta, r3_eta, linesOf_el, linesOk_lines, crnsOf_el, crnsI_lines, frOk_lit, frV_lit, sat_true, sat_iteT, sat_iteF, hold_eq, Int.toNat_natCast, g1, b1, b2, b3, b4, d1, d2, d3, d4, hw, c1, c2, c3, c4, c5, c6, cond_true]
 rw [(linesOf_join S _ (lineC a b F.H[i]) rfl).1, (linesOf_join S _ (lineC a b F.H[i]) rfl).2]
 try simp only [sat_true]
 exact sat_need (by simp) (sat_need (by simp) (sat_need (by simp) (sat_ret hgo)))
theorem step6b_end (F : Fr) (a b : Int) (f t : R3) (oa ob : Bool) (R : List L4) (S : List L4) (i : Nat) (hi : i = min F.H.length 3) (Q : W6b ⊕ W6b → Prop) (hq : Q (.inr ⟨F, a, b, f, t, oa, ob, R, S, (i : Nat)⟩)) : (step6b F a b f t oa ob R S (i : Nat)).sat Q := by
 have hc : (bif decide ((i : Int) < (F.H.length : Int)) then bif true then decide ((i : Int) < 3) else false else false) = false := by
   by_cases h : (i : Int) < (F.H.length : Int)
   · rw [decide_eq_true h]
     exact decide_eq_false (by omega)
   · rw [decide_eq_false h]; rfl
 have hn : (bif decide ((i : Int) < (F.H.length : Int)) then true else true) = true := by cases decide ((i : Int) < (F.H.length : Int)) <;> rfl
 simp only [step6b, ratV_lit, ratOk_lit, quadV_lit, quadOk_lit, realV_lit, realOk_lit, lineV_lit, lineOk_lit, boolV_lit, List.take_succ_cons, List.take_zero, List.drop_succ_cons, List.drop_zero, Bool.and_self, l4_eta, r3_eta, linesOf_el, linesOk_lines, crnsOf_el, crnsI_lines, frOk_lit, frV_lit, sat_true, sat_iteT, sat_iteF, hc, hn]
 exact sat_need (by simp) (sat_need (by simp) (sat_need (by simp) (sat_ret hq)))
theorem runs6b (F : Fr) (a b : Int) (f t : R3) (oa ob : Bool) (R : List L4) (hC : F.H.all cok = true) (hab : abB a b = true) (Q : W6b → Prop) :
   ∀ (k i : Nat) (S : List L4), i + k = min F.H.length 3 → S.length ≤ 1000 + i → Q ⟨F, a, b, f, t, oa, ob, R, S ++ ((F.H.drop i).take (3 - i)).map (lineC a b), (min F.H.length 3 : Nat)⟩ → RunsX (fun x : W6b => step6b x.F x.a x.b x.f x.t x.oa x.ob x.R x.S x.i) Q (k + 1) ⟨F, a, b, f, t, oa, ob, R, S, (i : Nat)⟩
 | 0, i, S, hi, hR, hq => by
   have h0 : 3 - i = 0 ∨ F.H.length ≤ i := by omega
   have he : (F.H.drop i).take (3 - i) = [] := by
     rcases h0 with h0 | h0
     · rw [h0, List.take_zero]
     · rw [List.drop_eq_nil_of_le h0, List.take_nil]
   rw [he, List.map_nil, List.append_nil] at hq
   have hi' : i = min F.H.length 3 := by omega
   rw [← hi'] at hq
   exact step6b_end F a b f t oa ob R S i hi' _ hq
 | k + 1, i, S, hi, hR, hq => by
   have h1 : i < F.H.length := by omega
   have h2 : i < 3 := by omega
   have d1 : F.H.drop i = F.H[i] :: F.H.drop (i + 1) := List.drop_eq_getElem_cons h1
   have d2 : 3 - i = (3 - (i + 1)) + 1 := by omega
   have ih := runs6b F a b f t oa ob R hC hab Q k (i + 1) (S ++ [lineC a b F.H[i]]) (by omega) (by simp; omega) (by
     rw [d1, d2, List.take_succ_cons, List.map_cons] at hq
     rw [List.append_assoc]
     exact hq)
   exact step6b_in F a b f t oa ob R S i h1 h2 (by omega) hC hab _ ih
end Go.Vse
set_option maxRecDepth 100000
namespace Go.Vse
open Go.Proofs
def M6 (F : Fr) : Tr AV :=
 let x1 : Int := IntKind.i64.wrap (F.x.tmod 8)
 let x2 : Int := IntKind.i64.wrap (IntKind.i64.wrap (x1 + 1) + IntKind.i64.wrap (F.y.tmod 4))
 let x3 : ByteArray := ⟨⟨[]⟩⟩
 let x4 : List AV := [.c (.v (.bool false))]
 let x5 : List AV := .c (.v (.bool false)) :: .c (.v (.string ⟨⟨denB 1⟩⟩)) :: .c (.v (.bool false)) :: .c (.v (.string x3)) :: .c (.v (.bool false)) :: .c (.v (.string x3)) :: x4
 let x6 : List C4 := crnsOf F.C.length (crnEl F.C)
 let x7 : Nat := x6.length
 let x8 : Int := ↑(min x7 5)
 let x9 : List L4 := linesOf 0 fun x => []
 let x10 : Nat := x9.length
 let x11 : List C4 := crnsOf F.H.length (crnEl F.H)
 let x12 : Nat := x11.length
 let x13 : List AV := [.c (.v (.bool false)), .c (.v (.string ⟨⟨denB 1⟩⟩))]
 let x14 : Int := (ratV (.c (.v (.bool (decide (x1 < 0)))) :: .c (.v (.string ⟨⟨magB x1.natAbs⟩⟩)) :: x13)).num
 let x15 : Int := iv false x3
 let x16 : ByteArray := ⟨⟨magB x15.natAbs⟩⟩
 let x17 : ByteArray := ⟨⟨denB (denV x3)⟩⟩
 let x18 : List AV := .c (.v (.bool false)) :: .c (.v (.string x16)) :: .c (.v (.bool false)) :: .c (.v (.string x17)) :: x4
 let x19 : Int := (ratV (.c (.v (.bool (decide (x2 < 0)))) :: .c (.v (.string ⟨⟨magB x2.natAbs⟩⟩)) :: x13)).num
 let x20 : List L4 := x9 ++ List.map (lineC x1 x2) (List.take (5 - Int.toNat 0) (List.drop (Int.toNat 0) x6))
 let x21 : Nat := x20.length
 let x22 : List C4 := crnsOf x12 (crnEl x11)
 let x23 : Int := ↑(min x22.length 3)
 let x24 : List L4 := x9 ++ List.map (lineC x1 x2) (List.take (3 - Int.toNat 0) (List.drop (Int.toNat 0) x22))
 let x25 : Nat := x24.length
 let x26 : Int := ↑x25
 let x27 : Int := IntKind.i64.wrap (x1 - 1)
 let x28 : List L4 := linesOf x21 (lineEl x20)
 let x29 : Nat := x28.length
 let x30 : Int := (ratV [.c (.v (.bool (decide (x19 < 0)))), .c (.v (.string ⟨⟨magB x19.natAbs⟩⟩)), .c (.v (.bool false)), .c (.v (.string { data := { toList := denB (ratV (.c (.v (.bool (decide (x2 < 0)))) :: .c (.v (.string ⟨⟨magB x2.natAbs⟩⟩)) :: x13)).den } }))]).num
 let x31 : Nat := 0 + 1
 let x32 : List AV := [.c (.v (.bool false)), .c (.v (.bool (decide (x30 < 0)))), .c (.v (.string ⟨⟨magB x30.natAbs⟩⟩)), .c (.v (.bool false)), .c (.v (.string { data := { toList := denB (ratV [.c (.v (.bool (decide (x19 < 0)))), .c (.v (.string ⟨⟨magB x19.natAbs⟩⟩)), .c (.v (.bool false)), .c (.v (.string { data := { toList := denB (ratV (.c (.v (.bool (decide (x2 < 0)))) :: .c (.v (.string ⟨⟨magB x2.natAbs⟩⟩)) :: x13)).den } }))]).den } })), .c (.v (.bool false)), .c (.v (.string ⟨⟨magB (iv (decide (x15 < 0)) x16).natAbs⟩⟩)), .c (.v (.bool false)), .c (.v (.string ⟨⟨denB (denV x17)⟩⟩)), .c (.v (.bool false)), .c (.v (.bool F.oa)), .c (.v (.bool F.ob)), AV.c (IV.sl x29 16 (lineEl x28)), AV.c (IV.sl 1 1 fun k => List.take x31 (List.drop (k * x31) [IV.sl x25 16 (lineEl x24)].reverse))]
 let x33 : Int := (ratV [.c (.v (.bool (decide (x14 < 0)))), .c (.v (.string ⟨⟨magB x14.natAbs⟩⟩)), .c (.v (.bool false)), .c (.v (.string { data := { toList := denB (ratV (.c (.v (.bool (decide (x1 < 0)))) :: .c (.v (.string ⟨⟨magB x1.natAbs⟩⟩)) :: x13)).den } }))]).num
 let x34 : List AV := [.c (.v (.bool false)), .c (.v (.bool (decide (x30 < 0)))), .c (.v (.string ⟨⟨magB x30.natAbs⟩⟩)), .c (.v (.bool false)), .c (.v (.string { data := { toList := denB (ratV [.c (.v (.bool (decide (x19 < 0)))), .c (.v (.string ⟨⟨magB x19.natAbs⟩⟩)), .c (.v (.bool false)), .c (.v (.string { data := { toList := denB (ratV (.c (.v (.bool (decide (x2 < 0)))) :: .c (.v (.string ⟨⟨magB x2.natAbs⟩⟩)) :: x13)).den } }))]).den } })), .c (.v (.bool false)), .c (.v (.string ⟨⟨magB (iv (decide (x15 < 0)) x16).natAbs⟩⟩)), .c (.v (.bool false)), .c (.v (.string ⟨⟨denB (denV x17)⟩⟩)), .c (.v (.bool false)), .c (.v (.bool F.oa)), .c (.v (.bool F.ob)), AV.c (IV.sl x29 16 (lineEl x28)), .c (.v (.slice none 0 0))]
 .need true (.need true (.need (decide (-9223372036854775808 ≤ x1)) (.need (decide (x1 ≤ 9223372036854775807)) (.need (decide (-9223372036854775808 ≤ x2)) (.need (decide (x2 ≤ 9223372036854775807)) (.need (frOk [.c (.v (.int IntKind.u8 F.x)), .c (.v (.int IntKind.u8 F.y)), .c (.v (.bool F.root)), .c (.v (.bool F.oa)), .c (.v (.bool F.ob)), AV.c (IV.sl F.C.length 4 (crnEl F.C)), AV.c (IV.sl F.H.length 4 (crnEl F.H))]) (.need true (.need (realOk (.c (.v (.bool (decide (x1 < 0)))) :: .c (.v (.string ⟨⟨magB x1.natAbs⟩⟩)) :: x5)) (.need (realOk (.c (.v (.bool (decide (x2 < 0)))) :: .c (.v (.string ⟨⟨magB x2.natAbs⟩⟩)) :: x5)) (.need true (.need true (.need (decide ((0 : Int) ≤ 0) && decide (0 ≤ x8) && decide (x10 ≤ 1000) && x6.all cok && abB x1 x2) (.need (frOk [.c (.v (.int IntKind.u8 F.x)), .c (.v (.int IntKind.u8 F.y)), .c (.v (.bool F.root)), .c (.v (.bool F.oa)), .c (.v (.bool F.ob)), AV.c (IV.sl x7 4 (crnEl x6)), AV.c (IV.sl x12 4 (crnEl x11))]) (.need true (.need (realOk (.c (.v (.bool (decide (x14 < 0)))) :: .c (.v (.string ⟨⟨magB x14.natAbs⟩⟩)) :: .c (.v (.bool false)) :: .c (.v (.string { data := { toList := denB (ratV (.c (.v (.bool (decide (x1 < 0)))) :: .c (.v (.string ⟨⟨magB x1.natAbs⟩⟩)) :: x13)).den } })) :: x18)) (.need (realOk (.c (.v (.bool (decide (x19 < 0)))) :: .c (.v (.string ⟨⟨magB x19.natAbs⟩⟩)) :: .c (.v (.bool false)) :: .c (.v (.string { data := { toList := denB (ratV (.c (.v (.bool (decide (x2 < 0)))) :: .c (.v (.string ⟨⟨magB x2.natAbs⟩⟩)) :: x13)).den } })) :: x18)) (.need (linesOk x21 (lineEl x20)) (.need (decide (x21 = x21)) (.need true (.need true (.need (decide ((0 : Int) ≤ 0) && decide (0 ≤ x23) && decide (x10 ≤ 1000) && x22.all cok && abB x1 x2) (.ite (decide (x26 > 0)) (.need (decide (x25 ≤ x25)) (.ite F.root (.need (decide (-9223372036854775808 ≤ x27)) (.need (decide (x27 ≤ 9223372036854775807)) (.need true (.need true (.need (decide (x29 ≤ x29)) (.need true (.ret (AV.agg (.c (.v (.bool (decide (x27 < 0)))) :: .c (.v (.string ⟨⟨magB x27.natAbs⟩⟩)) :: .c (.v (.bool false)) :: .c (.v (.string ⟨⟨denB 1⟩⟩)) :: .c (.v (.bool false)) :: .c (.v (.string ⟨⟨magB (Int.natAbs 2)⟩⟩)) :: .c (.v (.bool false)) :: .c (.v (.string ⟨⟨denB 1⟩⟩)) :: x32))))))))) (.need (decide (x29 ≤ x29)) (.need true (.ret (AV.agg (.c (.v (.bool (decide (x33 < 0)))) :: .c (.v (.string ⟨⟨magB x33.natAbs⟩⟩)) :: .c (.v (.bool false)) :: .c (.v (.string { data := { toList := denB (ratV [.c (.v (.bool (decide (x14 < 0)))), .c (.v (.string ⟨⟨magB x14.natAbs⟩⟩)), .c (.v (.bool false)), .c (.v (.string { data := { toList := denB (ratV (.c (.v (.bool (decide (x1 < 0)))) :: .c (.v (.string ⟨⟨magB x1.natAbs⟩⟩)) :: x13)).den } }))]).den } })) :: .c (.v (.bool false)) :: .c (.v (.string ⟨⟨magB (iv (decide (x15 < 0)) x16).natAbs⟩⟩)) :: .c (.v (.bool false)) :: .c (.v (.string ⟨⟨denB (denV x17)⟩⟩)) :: x32))))))) (.ite F.root (.need (decide (-9223372036854775808 ≤ x27)) (.need (decide (x27 ≤ 9223372036854775807)) (.need true (.need true (.need (decide (x29 ≤ x29)) (.ret (AV.agg (.c (.v (.bool (decide (x27 < 0)))) :: .c (.v (.string ⟨⟨magB x27.natAbs⟩⟩)) :: .c (.v (.bool false)) :: .c (.v (.string ⟨⟨denB 1⟩⟩)) :: .c (.v (.bool false)) :: .c (.v (.string ⟨⟨magB (Int.natAbs 2)⟩⟩)) :: .c (.v (.bool false)) :: .c (.v (.string ⟨⟨denB 1⟩⟩)) :: x34)))))))) (.need (decide (x29 ≤ x29)) (.ret (AV.agg (.c (.v (.bool (decide (x33 < 0)))) :: .c (.v (.string ⟨⟨magB x33.natAbs⟩⟩)) :: .c (.v (.bool false)) :: .c (.v (.string { data := { toList := denB (ratV [.c (.v (.bool (decide (x14 < 0)))), .c (.v (.string ⟨⟨magB x14.natAbs⟩⟩)), .c (.v (.bool false)), .c (.v (.string { data := { toList := denB (ratV (.c (.v (.bool (decide (x1 < 0)))) :: .c (.v (.string ⟨⟨magB x1.natAbs⟩⟩)) :: x13)).den } }))]).den } })) :: .c (.v (.bool false)) :: .c (.v (.string ⟨⟨magB (iv (decide (x15 < 0)) x16).natAbs⟩⟩)) :: .c (.v (.bool false)) :: .c (.v (.string ⟨⟨denB (denV x17)⟩⟩)) :: x34)))))))))))))))))))))))))))
theorem M6_eq (F : Fr) : execFn Tryz.prog Γ6 L6 1010 Tryz.f6 [.agg (frCells F)] = M6 F := by
 obtain ⟨x, y, r, oa, ob, C, H⟩ := F
 kernel_rfl
def two6 : Nat → Bool := fun id => bif Nat.beq id 0 then true else Nat.beq id 2
theorem f6_loops : BlocksOk Tryz.prog 0 L6 (codeOf Tryz.f6) := by
 refine blocksOk_of (d := two6) (fun id => by unfold L6 two6; cases Nat.beq id 0 <;> cases Nat.beq id 2 <;> rfl) _ ?_
 have hb : blocksOf two6 (codeOf Tryz.f6) = [(0, .loop (loopOf 0 (codeOf Tryz.f6))), (2, .loop (loopOf 2 (codeOf Tryz.f6)))] := by kernel_rfl
 rw [hb]
 intro p hp g hg
 simp only [List.mem_cons, List.not_mem_nil, or_false] at hp
 rcases hp with rfl | rfl
 · have hh : L6 0 = some ((lp6 way6).g 0) := rfl
   rw [hh] at hg
   obtain rfl : g = (lp6 way6).g 0 := (Option.some.inj hg).symm
   refine LoopSt.ok2 (N := 1010) prog_mixed Γ6_ok (L := noL) (blocksOk_none 0 _) (lp6_good _) (step6_eq way6) ?_
   rintro ⟨F, a, b, f, t, oa, ob, R, i⟩ hx
   have hx : way6.pre ⟨F, a, b, f, t, oa, ob, R, i⟩ = true := hx
   simp only [way6, Bool.and_eq_true, decide_eq_true_eq] at hx
   obtain ⟨⟨⟨⟨h1, h2⟩, h3⟩, h4⟩, h5⟩ := hx
   obtain ⟨i, rfl⟩ : ∃ m : Nat, i = m := ⟨i.toNat, by omega⟩
   exact ⟨_, runs6 F a b f t oa ob h4 h5 (· = way6.res ⟨F, a, b, f, t, oa, ob, R, i⟩) (min F.C.length 5 - i) i R (by omega) (by omega) (by simp [way6])⟩
 · have hh : L6 2 = some ((lp6b way6b).g 0) := rfl
   rw [hh] at hg
   obtain rfl : g = (lp6b way6b).g 0 := (Option.some.inj hg).symm
   refine LoopSt.ok2 (N := 1010) prog_mixed Γ6_ok (L := noL) (blocksOk_none 0 _) (lp6b_good _) (step6b_eq way6b) ?_
   rintro ⟨F, a, b, f, t, oa, ob, R, S, i⟩ hx
   have hx : way6b.pre ⟨F, a, b, f, t, oa, ob, R, S, i⟩ = true := hx
   simp only [way6b, Bool.and_eq_true, decide_eq_true_eq] at hx
   obtain ⟨⟨⟨⟨h1, h2⟩, h3⟩, h4⟩, h5⟩ := hx
   obtain ⟨i, rfl⟩ : ∃ m : Nat, i = m := ⟨i.toNat, by omega⟩
   exact ⟨_, runs6b F a b f t oa ob R h4 h5 (· = way6b.res ⟨F, a, b, f, t, oa, ob, R, S, i⟩) (min F.H.length 3 - i) i S (by omega) (by omega) (by simp [way6b])⟩
def fromF (F : Fr) : R3 := bif F.root then ⟨((fa F - 1 : Int) : Rat), 2, false⟩ else ⟨(fa F : Rat), 0, false⟩
theorem iv0 : iv false ⟨⟨[]⟩⟩ = 0 := by decide
theorem mag0 : magB 0 = [] := by rw [magB]; rfl
theorem den0 : denV ⟨⟨[]⟩⟩ = 1 := by decide
theorem den1 : denB 1 = [] := by decide
theorem ratV_z : ratV [.c (.v (.bool false)), .c (.v (.string ⟨⟨[]⟩⟩)), .c (.v (.bool false)), .c (.v (.string ⟨⟨[]⟩⟩))] = 0 := by
 have := ratV_cells 0
 rw [cells0] at this
 exact this
theorem ratOk_z : ratOk [.c (.v (.bool false)), .c (.v (.string ⟨⟨[]⟩⟩)), .c (.v (.bool false)), .c (.v (.string ⟨⟨[]⟩⟩))] = true := by
 have := ratOk_cells 0
 rw [cells0] at this
 exact this
theorem rV2 (n : Int) : ratV [.c (.v (.bool (decide (n < 0)))), .c (.v (.string ⟨⟨magB n.natAbs⟩⟩)), .c (.v (.bool false)), .c (.v (.string ⟨⟨[]⟩⟩))] = (n : Rat) := by rw [← den1]; exact ratV_int1 n
theorem rO2 (n : Int) : ratOk [.c (.v (.bool (decide (n < 0)))), .c (.v (.string ⟨⟨magB n.natAbs⟩⟩)), .c (.v (.bool false)), .c (.v (.string ⟨⟨[]⟩⟩))] = true := by rw [← den1]; exact ratOk_int1 n
theorem M6_sat (F : Fr) (hx : 0 ≤ F.x ∧ F.x < 256) (hy : 0 ≤ F.y ∧ F.y < 256) (hC : F.C.all cok = true) (hH : F.H.all cok = true) :
   (M6 F).sat fun r => Vse.noPtr r = true ∧ Sees r (unitA (fromF F) ⟨(fb F : Rat), 0, false⟩ F.oa F.ob (outerF F) (holeF F)) := by
 have a0 : 0 ≤ fa F ∧ fa F ≤ 7 := by unfold fa; omega
 have b0 : fa F < fb F ∧ fb F ≤ fa F + 4 := by unfold fb; omega
 have w1 : IntKind.i64.wrap (F.x.tmod 8) = fa F := by
   rw [Int.tmod_eq_emod_of_nonneg hx.1, wrap_i64 (by omega)]; rfl
 have w2 : IntKind.i64.wrap (IntKind.i64.wrap (fa F + 1) + IntKind.i64.wrap (F.y.tmod 4)) = fb F := by
   rw [Int.tmod_eq_emod_of_nonneg hy.1, wrap_i64 (x := F.y % 4) (by omega), wrap_i64 (x := fa F + 1) (by omega), wrap_i64 (by omega)]; rfl
 have w3 : IntKind.i64.wrap (fa F - 1) = fa F - 1 := wrap_i64 (by omega)
 have hab : abB (fa F) (fb F) = true := by
   simp only [abB, Bool.and_eq_true, decide_eq_true_eq]
   omega
 have d1 : decide (-9223372036854775808 ≤ fa F) = true := decide_eq_true (by omega)
 have d2 : decide (fa F ≤ 9223372036854775807) = true := decide_eq_true (by omega)
 have d3 : decide (-9223372036854775808 ≤ fb F) = true := decide_eq_true (by omega)
 have d4 : decide (fb F ≤ 9223372036854775807) = true := decide_eq_true (by omega)
 have d5 : decide (-9223372036854775808 ≤ fa F - 1) = true := decide_eq_true (by omega)
 have d6 : decide (fa F - 1 ≤ 9223372036854775807) = true := decide_eq_true (by omega)
 have d7 : decide ((0 : Int) ≤ 0) = true := rfl
 have d8 : ∀ n : Nat, decide ((0 : Int) ≤ (n : Int)) = true := fun n => decide_eq_true (by omega)
 have d9 : decide ((0 : Nat) ≤ 1000) = true := rfl
 have d10 : ∀ n : Nat, decide (n ≤ n) = true := fun n => decide_eq_true (Nat.le_refl _)
 have d11 : ∀ n : Nat, decide (n = n) = true := fun n => decide_eq_true rfl
 have e0 : linesOf 0 (fun _ => []) = [] := rfl
 have t0 : Int.toNat 0 = 0 := rfl
 have d12 : decide ((0 : Int) < 0) = false := rfl
 have hL : outerF F = List.map (lineC (fa F) (fb F)) (List.take 5 F.C) := rfl
 simp only [M6, w1, w2, w3, crnsOf_el, e0, iv0, mag0, den0, rV2, rO2, den1, ratV_lit, ratOk_lit, ratV_z, ratOk_z, realOk_lit, frOk_lit, linesOf_el, linesOk_lines, List.length_nil, List.nil_append, t0, Nat.sub_zero, List.drop_zero, hC, hH, hab,
   d1, d2, d3, d4, d5, d6, d7, d8, d9, d10, d11, d12, sat_true, Bool.and_self, Int.natAbs_zero]
 have key0 : ∀ (p q : Int) (a b : Bool) (L : List L4), unitA ⟨(p : Rat), 0, false⟩ ⟨(q : Rat), 0, false⟩ a b L none = .agg (ratCells p ++ (litZ ++ ([.c (.v (.bool false))] ++ (ratCells q ++ (litZ ++ [.c (.v (.bool false)), .c (.v (.bool a)), .c (.v (.bool b)), slA L, .c (.v (.slice none 0 0))]))))) := by
   intro p q a b L
   simp only [unitA, realCells, cells0, List.append_assoc, List.cons_append, List.nil_append, holA, nilA]
 have key2 : ∀ (p q : Int) (a b : Bool) (L : List L4), unitA ⟨(p : Rat), 2, false⟩ ⟨(q : Rat), 0, false⟩ a b L none = .agg (ratCells p ++ (ratCells 2 ++ ([.c (.v (.bool false))] ++ (ratCells q ++ (litZ ++ [.c (.v (.bool false)), .c (.v (.bool a)), .c (.v (.bool b)), slA L, .c (.v (.slice none 0 0))]))))) := by
   intro p q a b L
   simp only [unitA, realCells, cells0, List.append_assoc, List.cons_append, List.nil_append, holA, nilA]
 have key0s : ∀ (p q : Int) (a b : Bool) (L M : List L4), unitA ⟨(p : Rat), 0, false⟩ ⟨(q : Rat), 0, false⟩ a b L (some M) = .agg (ratCells p ++ (litZ ++ ([.c (.v (.bool false))] ++ (ratCells q ++ (litZ ++ [.c (.v (.bool false)), .c (.v (.bool a)), .c (.v (.bool b)), slA L, holA (some M)]))))) := by
   intro p q a b L M
   simp only [unitA, realCells, cells0, List.append_assoc, List.cons_append, List.nil_append]
 have key2s : ∀ (p q : Int) (a b : Bool) (L M : List L4), unitA ⟨(p : Rat), 2, false⟩ ⟨(q : Rat), 0, false⟩ a b L (some M) = .agg (ratCells p ++ (ratCells 2 ++ ([.c (.v (.bool false))] ++ (ratCells q ++ (litZ ++ [.c (.v (.bool false)), .c (.v (.bool a)), .c (.v (.bool b)), slA L, holA (some M)]))))) := by
   intro p q a b L M
   simp only [unitA, realCells, cells0, List.append_assoc, List.cons_append, List.nil_append]
 have last : ∀ (l : List AV) (x y : AV), Sees x y → Sees (.agg (l ++ [x])) (.agg (l ++ [y])) := fun l x y h => Sees.agg (SeesL.app l (.cons h .nil))
 refine sat_need (by simp) ?_
 generalize hgl : List.map (lineC (fa F) (fb F)) (List.take 3 F.H) = G at *
 have hG : (holeF F = none ∧ G.length = 0) ∨ (holeF F = some G ∧ 0 < G.length) := by
   subst hgl
   unfold holeF
   cases F.H with
   | nil => exact .inl ⟨rfl, rfl⟩
   | cons c cs => exact .inr ⟨rfl, by simp⟩
 rcases hG with ⟨hn, hl⟩ | ⟨hn, hl⟩
 · have hc : decide ((G.length : Int) > 0) = false := decide_eq_false (by omega)
   rw [hc, hn, ← hL]
   cases hr : F.root with
   | true =>
     have hf : fromF F = ⟨((fa F - 1 : Int) : Rat), 2, false⟩ := by unfold fromF; rw [hr]; rfl
     rw [hf, key2]
     simp only [sat_iteT, sat_iteF, sat_true]
     exact sat_ret ⟨rfl, Sees.refl _⟩
   | false =>
     have hf : fromF F = ⟨(fa F : Rat), 0, false⟩ := by unfold fromF; rw [hr]; rfl
     rw [hf, key0]
     simp only [sat_iteT, sat_iteF, sat_true]
     exact sat_ret ⟨rfl, Sees.refl _⟩
 · have hc : decide ((G.length : Int) > 0) = true := decide_eq_true (by omega)
   rw [hc, hn, ← hL]
   have hs := sees_hol G (fun k => List.take (0 + 1) (List.drop (k * (0 + 1)) [IV.sl G.length 16 (lineEl G)].reverse)) rfl
   cases hr : F.root with
   | true =>
     have hf : fromF F = ⟨((fa F - 1 : Int) : Rat), 2, false⟩ := by unfold fromF; rw [hr]; rfl
     rw [hf, key2s]
     simp only [sat_iteT, sat_iteF, sat_true]
     exact sat_ret ⟨rfl, last (ratCells ((fa F - 1 : Int) : Rat) ++ (ratCells 2 ++ ([.c (.v (.bool false))] ++ (ratCells (fb F : Rat) ++ (litZ ++ [.c (.v (.bool false)), .c (.v (.bool F.oa)), .c (.v (.bool F.ob)), slA (outerF F)]))))) _ _ hs⟩
   | false =>
     have hf : fromF F = ⟨(fa F : Rat), 0, false⟩ := by unfold fromF; rw [hr]; rfl
     rw [hf, key0s]
     simp only [sat_iteT, sat_iteF, sat_true]
     exact sat_ret ⟨rfl, last (ratCells (fa F : Rat) ++ (litZ ++ ([.c (.v (.bool false))] ++ (ratCells (fb F : Rat) ++ (litZ ++ [.c (.v (.bool false)), .c (.v (.bool F.oa)), .c (.v (.bool F.ob)), slA (outerF F)]))))) _ _ hs⟩
def K6 : List AV → Option (AV × List Bool)
 | [.agg l] => some (unitA (fromF (frV l)) ⟨(fb (frV l) : Rat), 0, false⟩ (frV l).oa (frV l).ob (outerF (frV l)) (holeF (frV l)), [frOk l, decide (0 ≤ (frV l).x ∧ (frV l).x < 256), decide (0 ≤ (frV l).y ∧ (frV l).y < 256), (frV l).C.all cok, (frV l).H.all cok])
 | _ => none
theorem noPtr_unitA (f t : R3) (a b : Bool) (L : List L4) (M : Option (List L4)) : Vse.noPtr (unitA f t a b L M) = true := by cases M <;> rfl
theorem f6_ok : PureOk Tryz.prog 6 K6 := by
 refine pureOk_of_exec_c (L := L6) prog_mixed Γ6_ok (fn := Tryz.f6) (c := codeOf Tryz.f6) (by kernel_rfl) (by kernel_rfl) (callFunc_enter (fn := Tryz.f6) (c := codeOf Tryz.f6) (by kernel_rfl) (by kernel_rfl) (by kernel_rfl)) (N := 1010) f6_loops ?_ ?_
 · intro args v cs h
   unfold K6 at h
   split at h
   · cases h; exact noPtr_unitA _ _ _ _ _ _
   · cases h
 · intro args v cs h hc
   unfold K6 at h
   split at h
   · rename_i l
     simp only [Option.some.injEq, Prod.mk.injEq] at h
     obtain ⟨rfl, rfl⟩ := h
     have h1 : frOk l = true := hc _ (by simp)
     have h2 : 0 ≤ (frV l).x ∧ (frV l).x < 256 := dec (hc (decide (0 ≤ (frV l).x ∧ (frV l).x < 256)) (by simp))
     have h3 : 0 ≤ (frV l).y ∧ (frV l).y < 256 := dec (hc (decide (0 ≤ (frV l).y ∧ (frV l).y < 256)) (by simp))
     have h4 : (frV l).C.all cok = true := hc _ (by simp)
     have h5 : (frV l).H.all cok = true := hc _ (by simp)
     refine ⟨[.agg (frCells (frV l))], .cons (Sees.agg (frOk_sees h1)) .nil, ?_⟩
     rw [M6_eq]
     exact M6_sat _ h2 h3 h4 h5
   · cases h
end Go.Vse
