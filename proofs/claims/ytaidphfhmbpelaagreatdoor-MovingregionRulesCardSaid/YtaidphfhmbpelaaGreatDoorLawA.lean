/- Helpers for the proof: no statement of its own. -/
import Derived.Test.YtaidphfhmbpelaaGreatDoorFrB
import Derived.Test.YtaidphfhmbpelaaGreatDoorVseD
set_option linter.unusedVariables false
set_option linter.unusedSimpArgs false
set_option linter.unnecessarySimpa false
set_option linter.deprecated false
set_option maxRecDepth 100000
namespace Go.Vse
open Go.Proofs
def K4 : List AV → Option (AV × List Bool)
 | [] => some (boolA true, [])
 | _ => none
def K6h : List AV → Option (AV × List Bool)
 | [.agg [a, b, c, d, e, f, .c (.sl m 4 el)]] => some (unitA (fromF (frV [a, b, c, d, e, f, .c (.sl m 4 el)])) ⟨(fb (frV [a, b, c, d, e, f, .c (.sl m 4 el)]) : Rat), 0, false⟩ (frV [a, b, c, d, e, f, .c (.sl m 4 el)]).oa (frV [a, b, c, d, e, f, .c (.sl m 4 el)]).ob (outerF (frV [a, b, c, d, e, f, .c (.sl m 4 el)]))
   (match m with
     | 0 => none
     | _ + 1 => some (((frV [a, b, c, d, e, f, .c (.sl m 4 el)]).H.take 3).map (lineC (fa (frV [a, b, c, d, e, f, .c (.sl m 4 el)])) (fb (frV [a, b, c, d, e, f, .c (.sl m 4 el)]))))),
   [frOk [a, b, c, d, e, f, .c (.sl m 4 el)], decide (0 ≤ (frV [a, b, c, d, e, f, .c (.sl m 4 el)]).x ∧ (frV [a, b, c, d, e, f, .c (.sl m 4 el)]).x < 256), decide (0 ≤ (frV [a, b, c, d, e, f, .c (.sl m 4 el)]).y ∧ (frV [a, b, c, d, e, f, .c (.sl m 4 el)]).y < 256), (frV [a, b, c, d, e, f, .c (.sl m 4 el)]).C.all cok, (frV [a, b, c, d, e, f, .c (.sl m 4 el)]).H.all cok])
 | _ => none
structure W3 where
 a : IV
 b : IV
 c : IV
 d : IV
 t : R3
 A : List L4
 B : List L4
 s : Bool
 e : Bool
 i : Int
def box3 (x : W3) : List (Option Ent) := [some (.cells [.c x.a, .c x.b] 29), some (.cells [.c x.c, .c x.d] 29), some (.cells (realCells x.t) 36)]
def head3 (x : W3) : List AV × List (Option Ent) := ([.ptr 0 0, .ptr 1 0, .ptr 2 0, slA x.A, slA x.B, boolA x.s, boolA x.e, intA .i64 x.i], box3 x)
def take3 : List AV × List (Option Ent) → Option (W3 × List Bool)
 | ([.ptr 0 0, .ptr 1 0, .ptr 2 0, .c (.sl n 16 el), .c (.sl m 16 el'), .c (.v (.bool s)), .c (.v (.bool e)), .c (.v (.int .i64 i))], [some (.cells [.c a, .c b] 29), some (.cells [.c c, .c d] 29), some (.cells lt 36)]) =>
   some (⟨a, b, c, d, realV lt, linesOf n el, linesOf m el', s, e, i⟩, [realOk lt, linesOk n el, linesOk m el'])
 | _ => none
def lp3 (w : Way W3) : LoopSt W3 W3 where
 nIn := { nt := 182, live := [7, 8, 9, 10, 11, 12, 13, 14] }
 nOut := { nt := 182, live := [7, 8, 9, 10, 11, 12, 13, 14] }
 head := head3
 take := take3
 out := fun r => (.normal, head3 r)
 takeR := fun q => match q with | (.normal, q) => take3 q | _ => none
 res := w.res
 pre := w.pre
def lp3b (w : Way W3) : LoopSt W3 W3 where
 nIn := { nt := 182, live := [7, 8, 9, 10, 11, 12, 13, 15] }
 nOut := { nt := 182, live := [7, 8, 9, 10, 11, 12, 13, 15] }
 head := head3
 take := take3
 out := fun r => (.normal, head3 r)
 takeR := fun q => match q with | (.normal, q) => take3 q | _ => none
 res := w.res
 pre := w.pre
theorem take3_ok (q : List AV × List (Option Ent)) (x : W3) (cs : List Bool) (h : take3 q = some (x, cs)) (hc : ∀ p ∈ cs, p) : SeesL q.1 (head3 x).1 ∧ EntsEqv q.2 (head3 x).2 := by
 unfold take3 at h
 split at h
 · rename_i n el m el' s e i a b c d lt
   simp only [Option.some.injEq, Prod.mk.injEq] at h
   obtain ⟨rfl, rfl⟩ := h
   have h1 : realOk lt = true := hc (realOk lt) (by simp)
   have h2 : linesOk n el = true := hc (linesOk n el) (by simp)
   have h3 : linesOk m el' = true := hc (linesOk m el') (by simp)
   have e1 := realOk_eq h1
   simp only [head3, box3]
   refine ⟨.cons (Sees.refl _) (.cons (Sees.refl _) (.cons (Sees.refl _) (.cons (sees_slA h2) (.cons (sees_slA h3) (SeesL.refl _))))), .cons (.refl _) (.cons (.refl _) (.cons ?_ .nil))⟩
   rw [← e1]
   exact .refl _
 · cases h
theorem lp3_good (w : Way W3) : (lp3 w).Good2 where
 take := take3_ok
 takeR := by
   intro e q r cs h hc
   cases e with
   | normal => obtain ⟨h1, h2⟩ := take3_ok q r cs h hc; exact ⟨rfl, h1, h2⟩
   | exit j => cases h
   | ret => cases h
 split := fun r Q h => h
theorem lp3b_good (w : Way W3) : (lp3b w).Good2 where
 take := take3_ok
 takeR := by
   intro e q r cs h hc
   cases e with
   | normal => obtain ⟨h1, h2⟩ := take3_ok q r cs h hc; exact ⟨rfl, h1, h2⟩
   | exit j => cases h
   | ret => cases h
 split := fun r Q h => h
def zeroL (t : R3) (x y : L4) : Bool := bif decide (sgnL (xQ x) (xQ y) t = 0) then decide (sgnL (yQ x) (yQ y) t = 0) else false
def stop (f : L4 → L4 → Bool) : List L4 → List L4 → Bool → Nat → Nat
 | x :: l, y :: m, true, i => stop f l m (f x y) (i + 1)
 | _, _, _, i => i
def pre3 (x : W3) : Bool := decide (0 ≤ x.i) && (decide (x.i ≤ (x.A.length : Nat)) && (decide (x.A.length ≤ 2000) && (x.A.all lbB && (x.B.all lbB && tbB x.t))))
def way3 : Way W3 := ⟨fun x => { x with s := x.s && eqAll (zeroL x.t) (x.A.drop x.i.toNat) (x.B.drop x.i.toNat), i := (stop (zeroL x.t) (x.A.drop x.i.toNat) (x.B.drop x.i.toNat) x.s x.i.toNat : Nat) },
 fun x => pre3 x && (!x.s || decide (x.A.length = x.B.length))⟩
def way3b : Way W3 := ⟨fun x => { x with e := x.e && eqAll eqL (x.A.drop x.i.toNat) (x.B.drop x.i.toNat), i := (stop eqL (x.A.drop x.i.toNat) (x.B.drop x.i.toNat) x.e x.i.toNat : Nat) },
 fun x => pre3 x && (!x.e || decide (x.A.length = x.B.length))⟩
def L3 : Nat → Option (St → Tr (Ex × St)) := fun id => bif Nat.beq id 0 then some ((lp3 way3).g 0) else bif Nat.beq id 2 then some ((lp3b way3b).g 0) else none
def Γ3l : FuncId → Option Spec := fun f => bif Nat.beq f 10 then some (pureSpec K10) else bif Nat.beq f 11 then some (pureSpec K11) else none
def step3 (a : IV) (b : IV) (c : IV) (d : IV) (t : R3) (A : List L4) (B : List L4) (s : Bool) (e : Bool) (i : Int) : Tr (W3 ⊕ W3) :=
 let x1 : Int := ↑A.length
 let x2 : Int := ↑B.length
 let x3 : Int := (A.getD i.toNat l40).x0.num
 let x4 : Int := (A.getD i.toNat l40).x1.num
 let x5 : Int := (A.getD i.toNat l40).y0.num
 let x6 : Int := (A.getD i.toNat l40).y1.num
 let x7 : List AV := [.c (.v (.bool (decide (x3 < 0)))), .c (.v (.string ⟨⟨magB x3.natAbs⟩⟩)), .c (.v (.bool false)), .c (.v (.string ⟨⟨denB (A.getD i.toNat l40).x0.den⟩⟩)), .c (.v (.bool (decide (x4 < 0)))), .c (.v (.string ⟨⟨magB x4.natAbs⟩⟩)), .c (.v (.bool false)), .c (.v (.string ⟨⟨denB (A.getD i.toNat l40).x1.den⟩⟩)), .c (.v (.bool (decide (x5 < 0)))), .c (.v (.string ⟨⟨magB x5.natAbs⟩⟩)), .c (.v (.bool false)), .c (.v (.string ⟨⟨denB (A.getD i.toNat l40).y0.den⟩⟩)), .c (.v (.bool (decide (x6 < 0)))), .c (.v (.string ⟨⟨magB x6.natAbs⟩⟩)), .c (.v (.bool false)), .c (.v (.string ⟨⟨denB (A.getD i.toNat l40).y1.den⟩⟩))]
 let x8 : Int := (B.getD i.toNat l40).x0.num
 let x9 : Int := (B.getD i.toNat l40).x1.num
 let x10 : Int := (B.getD i.toNat l40).y0.num
 let x11 : Int := (B.getD i.toNat l40).y1.num
 let x12 : List AV := [.c (.v (.bool (decide (x8 < 0)))), .c (.v (.string ⟨⟨magB x8.natAbs⟩⟩)), .c (.v (.bool false)), .c (.v (.string ⟨⟨denB (B.getD i.toNat l40).x0.den⟩⟩)), .c (.v (.bool (decide (x9 < 0)))), .c (.v (.string ⟨⟨magB x9.natAbs⟩⟩)), .c (.v (.bool false)), .c (.v (.string ⟨⟨denB (B.getD i.toNat l40).x1.den⟩⟩)), .c (.v (.bool (decide (x10 < 0)))), .c (.v (.string ⟨⟨magB x10.natAbs⟩⟩)), .c (.v (.bool false)), .c (.v (.string ⟨⟨denB (B.getD i.toNat l40).y0.den⟩⟩)), .c (.v (.bool (decide (x11 < 0)))), .c (.v (.string ⟨⟨magB x11.natAbs⟩⟩)), .c (.v (.bool false)), .c (.v (.string ⟨⟨denB (B.getD i.toNat l40).y1.den⟩⟩))]
 let x13 : List AV := [.c (.v (.bool (decide (t.p.num < 0)))), .c (.v (.string ⟨⟨magB t.p.num.natAbs⟩⟩)), .c (.v (.bool false)), .c (.v (.string ⟨⟨denB t.p.den⟩⟩)), .c (.v (.bool (decide (t.r.num < 0)))), .c (.v (.string ⟨⟨magB t.r.num.natAbs⟩⟩)), .c (.v (.bool false)), .c (.v (.string ⟨⟨denB t.r.den⟩⟩)), .c (.v (.bool t.neg))]
 let x14 : List L4 := linesOf A.length (lineEl A)
 let x15 : List L4 := linesOf B.length (lineEl B)
 .need (bif decide (i < x1) then true else true) (.ite (bif decide (i < x1) then bif true then s else false else false) (.need (decide (0 ≤ i ∧ i < x1)) (.need (decide (0 ≤ i ∧ i < x2)) (.need (lineOk x7) (.need (lineOk x12) (.need (realOk x13) (.need (lbB (lineV x7)) (.need (lbB (lineV x12)) (.need (tbB (realV x13)) (.need (bif sgnL (xQ (lineV x7)) (xQ (lineV x12)) (realV x13) == 0 then decide (0 ≤ i ∧ i < x1) && (decide (0 ≤ i ∧ i < x2) && (lineOk x7 && (lineOk x12 && (realOk x13 && (lbB (lineV x7) && (lbB (lineV x12) && (tbB (realV x13) && true))))))) else true) (.need (realOk x13) (.need (linesOk A.length (lineEl A)) (.need (linesOk B.length (lineEl B)) (.ret (Sum.inl { a := a, b := b, c := c, d := d, t := realV x13, A := x14, B := x15, s := bif sgnL (xQ (lineV x7)) (xQ (lineV x12)) (realV x13) == 0 then bif true then sgnL (yQ (lineV x7)) (yQ (lineV x12)) (realV x13) == 0 else false else false, e := e, i := IntKind.i64.wrap (i + 1) })))))))))))))) (.need (realOk x13) (.need (linesOk A.length (lineEl A)) (.need (linesOk B.length (lineEl B)) (.ret (Sum.inr { a := a, b := b, c := c, d := d, t := realV x13, A := x14, B := x15, s := s, e := e, i := i }))))))
def step3b (a : IV) (b : IV) (c : IV) (d : IV) (t : R3) (A : List L4) (B : List L4) (s : Bool) (e : Bool) (i : Int) : Tr (W3 ⊕ W3) :=
 let x1 : Int := ↑A.length
 let x2 : Int := ↑B.length
 let x3 : List AV := [.c (.v (.bool (decide (t.p.num < 0)))), .c (.v (.string ⟨⟨magB t.p.num.natAbs⟩⟩)), .c (.v (.bool false)), .c (.v (.string ⟨⟨denB t.p.den⟩⟩)), .c (.v (.bool (decide (t.r.num < 0)))), .c (.v (.string ⟨⟨magB t.r.num.natAbs⟩⟩)), .c (.v (.bool false)), .c (.v (.string ⟨⟨denB t.r.den⟩⟩)), .c (.v (.bool t.neg))]
 let x4 : List L4 := linesOf A.length (lineEl A)
 let x5 : List L4 := linesOf B.length (lineEl B)
 let x6 : List Bool := [false == false]
 let x7 : Int := (A.getD i.toNat l40).y1.num
 let x8 : Int := (B.getD i.toNat l40).y1.num
 let x9 : Int := (A.getD i.toNat l40).y0.num
 let x10 : Int := (B.getD i.toNat l40).y0.num
 let x11 : Int := (A.getD i.toNat l40).x1.num
 let x12 : Int := (B.getD i.toNat l40).x1.num
 let x13 : Int := (A.getD i.toNat l40).x0.num
 let x14 : Int := (B.getD i.toNat l40).x0.num
 .need (bif decide (i < x1) then true else true) (.ite (bif decide (i < x1) then bif true then e else false else false) (.need (decide (0 ≤ i ∧ i < x1)) (.need (decide (0 ≤ i ∧ i < x2)) (.need (realOk x3) (.need (linesOk A.length (lineEl A)) (.need (linesOk B.length (lineEl B)) (.ret (Sum.inl { a := a, b := b, c := c, d := d, t := realV x3, A := x4, B := x5, s := s, e := andAll [andAll [andAll ((denB (A.getD i.toNat l40).y1.den == denB (B.getD i.toNat l40).y1.den) :: x6).reverse, andAll [magB x7.natAbs == magB x8.natAbs, decide (x7 < 0) == decide (x8 < 0)].reverse].reverse, andAll [andAll ((denB (A.getD i.toNat l40).y0.den == denB (B.getD i.toNat l40).y0.den) :: x6).reverse, andAll [magB x9.natAbs == magB x10.natAbs, decide (x9 < 0) == decide (x10 < 0)].reverse].reverse, andAll [andAll ((denB (A.getD i.toNat l40).x1.den == denB (B.getD i.toNat l40).x1.den) :: x6).reverse, andAll [magB x11.natAbs == magB x12.natAbs, decide (x11 < 0) == decide (x12 < 0)].reverse].reverse, andAll [andAll ((denB (A.getD i.toNat l40).x0.den == denB (B.getD i.toNat l40).x0.den) :: x6).reverse, andAll [magB x13.natAbs == magB x14.natAbs, decide (x13 < 0) == decide (x14 < 0)].reverse].reverse].reverse, i := IntKind.i64.wrap (i + 1) }))))))) (.need (realOk x3) (.need (linesOk A.length (lineEl A)) (.need (linesOk B.length (lineEl B)) (.ret (Sum.inr { a := a, b := b, c := c, d := d, t := realV x3, A := x4, B := x5, s := s, e := e, i := i }))))))
theorem Γ3l_ok : ∀ f s, Γ3l f = some s → SpecOk Tryz.prog f s := step_ok f10_ok.spec (one_ok f11_ok.spec)
theorem step3_eq (w : Way W3) (x : W3) : (exec Tryz.prog Γ3l noL 1010 (loopOf 0 (codeOf Tryz.f3)) (mkSt (lp3 w).nIn ((lp3 w).head x))).bind ((lp3 w).fin 0 0) = step3 x.a x.b x.c x.d x.t x.A x.B x.s x.e x.i := by
 obtain ⟨a, b, c, d, t, A, B, s, e, i⟩ := x
 kernel_rfl
theorem step3b_eq (w : Way W3) (x : W3) : (exec Tryz.prog Γ3l noL 1010 (loopOf 2 (codeOf Tryz.f3)) (mkSt (lp3b w).nIn ((lp3b w).head x))).bind ((lp3b w).fin 0 2) = step3b x.a x.b x.c x.d x.t x.A x.B x.s x.e x.i := by
 obtain ⟨a, b, c, d, t, A, B, s, e, i⟩ := x
 kernel_rfl
theorem stop_false (f : L4 → L4 → Bool) (l m : List L4) (i : Nat) : stop f l m false i = i := by cases l <;> cases m <;> rfl
theorem eq0_dec (z : Int) : (z == 0) = decide (z = 0) := rfl
section
variable (a b c d : IV) (t : R3) (A B : List L4)
theorem step3_in (e : Bool) (i : Nat) (h1 : i < A.length) (h2 : i < B.length) (hl : A.length ≤ 2000) (hA : A.all lbB = true) (hB : B.all lbB = true) (ht : tbB t = true) (Q : W3 ⊕ W3 → Prop)
   (hgo : Q (.inl ⟨a, b, c, d, t, A, B, zeroL t A[i] B[i], e, ((i + 1 : Nat) : Int)⟩)) : (step3 a b c d t A B true e (i : Nat)).sat Q := by
 have g1 := getD_get h1
 have g2 := getD_get h2
 have b1 := all_get hA h1
 have b2 := all_get hB h2
 have hw : IntKind.i64.wrap ((i : Int) + 1) = ((i + 1 : Nat) : Int) := by rw [wrap_i64 (by omega)]; omega
 have c1 : decide ((0 : Int) ≤ (i : Int) ∧ (i : Int) < (A.length : Int)) = true := decide_eq_true (by omega)
 have c2 : decide ((0 : Int) ≤ (i : Int) ∧ (i : Int) < (B.length : Int)) = true := decide_eq_true (by omega)
 have c3 : decide ((i : Int) < (A.length : Int)) = true := decide_eq_true (by omega)
 have c4 : ∀ x : Bool, (bif x then true else true) = true := fun x => by cases x <;> rfl
 simp only [step3, Int.toNat_natCast, g1, g2, b1, b2, ht, hw, c1, c2, c3, c4, eq0_dec, Bool.and_true, ratV_lit, ratOk_lit, realV_lit, realOk_lit, lineV_lit, lineOk_lit, boolV_lit, List.take_succ_cons, List.take_zero, List.drop_succ_cons, List.drop_zero, Bool.and_self, l4_eta, r3_eta, linesOf_el, linesOk_lines, sat_true, sat_iteT, sat_iteF, dT, cond_true, cond_false]
 exact sat_ret hgo
theorem step3_end (s e : Bool) (i : Nat) (hi : i = A.length ∨ s = false) (Q : W3 ⊕ W3 → Prop) (hq : Q (.inr ⟨a, b, c, d, t, A, B, s, e, (i : Nat)⟩)) : (step3 a b c d t A B s e (i : Nat)).sat Q := by
 have c4 : ∀ x : Bool, (bif x then true else true) = true := fun x => by cases x <;> rfl
 have hc : (bif decide ((i : Int) < (A.length : Int)) then s else false) = false := by
   rcases hi with hi | hi
   · rw [decide_eq_false (by omega)]; rfl
   · rw [hi]; cases decide ((i : Int) < (A.length : Int)) <;> rfl
 simp only [step3, c4, cond_true, hc, ratV_lit, ratOk_lit, realV_lit, realOk_lit, lineV_lit, lineOk_lit, boolV_lit, List.take_succ_cons, List.take_zero, List.drop_succ_cons, List.drop_zero, Bool.and_self, l4_eta, r3_eta, linesOf_el, linesOk_lines, sat_true, sat_iteT, sat_iteF, dT, cond_true, cond_false]
 exact sat_ret hq
theorem runs3 (e : Bool) (hl : A.length ≤ 2000) (hA : A.all lbB = true) (hB : B.all lbB = true) (ht : tbB t = true) (Q : W3 → Prop) :
   ∀ (k i : Nat) (s : Bool), i + k = A.length → (s = true → A.length = B.length) →
     Q ⟨a, b, c, d, t, A, B, s && eqAll (zeroL t) (A.drop i) (B.drop i), e, (stop (zeroL t) (A.drop i) (B.drop i) s i : Nat)⟩ →
     RunsX (fun x : W3 => step3 x.a x.b x.c x.d x.t x.A x.B x.s x.e x.i) Q (k + 1) ⟨a, b, c, d, t, A, B, s, e, (i : Nat)⟩
 | k, i, false, hi, hs, hq => by
   have e1 : stop (zeroL t) (A.drop i) (B.drop i) false i = i := stop_false _ _ _ _
   rw [e1, Bool.false_and] at hq
   cases k <;> exact step3_end a b c d t A B false e i (.inr rfl) _ hq
 | 0, i, true, hi, hs, hq => by
   obtain rfl : i = A.length := by omega
   rw [List.drop_length] at hq
   have e1 : stop (zeroL t) [] (B.drop A.length) true A.length = A.length := by unfold stop; rfl
   have e2 : eqAll (zeroL t) [] (B.drop A.length) = true := by unfold eqAll; rfl
   rw [e1, e2, Bool.and_true] at hq
   exact step3_end a b c d t A B true e A.length (.inl rfl) _ hq
 | k + 1, i, true, hi, hs, hq => by
   have hs := hs rfl
   have h1 : i < A.length := by omega
   have h2 : i < B.length := by omega
   have d1 : A.drop i = A[i] :: A.drop (i + 1) := List.drop_eq_getElem_cons h1
   have d2 : B.drop i = B[i] :: B.drop (i + 1) := List.drop_eq_getElem_cons h2
   refine step3_in a b c d t A B e i h1 h2 hl hA hB ht _ (runs3 e hl hA hB ht Q k (i + 1) _ (by omega) (fun _ => hs) ?_)
   rw [d1, d2] at hq
   exact hq
theorem step3b_in (s : Bool) (i : Nat) (h1 : i < A.length) (h2 : i < B.length) (hl : A.length ≤ 2000) (Q : W3 ⊕ W3 → Prop)
   (hgo : Q (.inl ⟨a, b, c, d, t, A, B, s, eqL A[i] B[i], ((i + 1 : Nat) : Int)⟩)) : (step3b a b c d t A B s true (i : Nat)).sat Q := by
 have g1 := getD_get h1
 have g2 := getD_get h2
 have hw : IntKind.i64.wrap ((i : Int) + 1) = ((i + 1 : Nat) : Int) := by rw [wrap_i64 (by omega)]; omega
 have c1 : decide ((0 : Int) ≤ (i : Int) ∧ (i : Int) < (A.length : Int)) = true := decide_eq_true (by omega)
 have c2 : decide ((0 : Int) ≤ (i : Int) ∧ (i : Int) < (B.length : Int)) = true := decide_eq_true (by omega)
 have c3 : decide ((i : Int) < (A.length : Int)) = true := decide_eq_true (by omega)
 have c4 : ∀ x : Bool, (bif x then true else true) = true := fun x => by cases x <;> rfl
 simp only [step3b, Int.toNat_natCast, g1, g2, hw, c1, c2, c3, c4, rat_test, ratV_lit, ratOk_lit, realV_lit, realOk_lit, lineV_lit, lineOk_lit, boolV_lit, List.take_succ_cons, List.take_zero, List.drop_succ_cons, List.drop_zero, Bool.and_self, l4_eta, r3_eta, linesOf_el, linesOk_lines, sat_true, sat_iteT, sat_iteF, dT, cond_true, cond_false]
 exact sat_ret hgo
theorem step3b_end (s e : Bool) (i : Nat) (hi : i = A.length ∨ e = false) (Q : W3 ⊕ W3 → Prop) (hq : Q (.inr ⟨a, b, c, d, t, A, B, s, e, (i : Nat)⟩)) : (step3b a b c d t A B s e (i : Nat)).sat Q := by
 have c4 : ∀ x : Bool, (bif x then true else true) = true := fun x => by cases x <;> rfl
 have hc : (bif decide ((i : Int) < (A.length : Int)) then e else false) = false := by
   rcases hi with hi | hi
   · rw [decide_eq_false (by omega)]; rfl
   · rw [hi]; cases decide ((i : Int) < (A.length : Int)) <;> rfl
 simp only [step3b, c4, cond_true, hc, ratV_lit, ratOk_lit, realV_lit, realOk_lit, lineV_lit, lineOk_lit, boolV_lit, List.take_succ_cons, List.take_zero, List.drop_succ_cons, List.drop_zero, Bool.and_self, l4_eta, r3_eta, linesOf_el, linesOk_lines, sat_true, sat_iteT, sat_iteF, dT, cond_true, cond_false]
 exact sat_ret hq
theorem runs3b (s : Bool) (hl : A.length ≤ 2000) (Q : W3 → Prop) :
   ∀ (k i : Nat) (e : Bool), i + k = A.length → (e = true → A.length = B.length) →
     Q ⟨a, b, c, d, t, A, B, s, e && eqAll eqL (A.drop i) (B.drop i), (stop eqL (A.drop i) (B.drop i) e i : Nat)⟩ →
     RunsX (fun x : W3 => step3b x.a x.b x.c x.d x.t x.A x.B x.s x.e x.i) Q (k + 1) ⟨a, b, c, d, t, A, B, s, e, (i : Nat)⟩
 | k, i, false, hi, hs, hq => by
   have e1 : stop eqL (A.drop i) (B.drop i) false i = i := stop_false _ _ _ _
   rw [e1, Bool.false_and] at hq
   cases k <;> exact step3b_end a b c d t A B s false i (.inr rfl) _ hq
 | 0, i, true, hi, hs, hq => by
   obtain rfl : i = A.length := by omega
   rw [List.drop_length] at hq
   have e1 : stop eqL [] (B.drop A.length) true A.length = A.length := by unfold stop; rfl
   have e2 : eqAll eqL [] (B.drop A.length) = true := by unfold eqAll; rfl
   rw [e1, e2, Bool.and_true] at hq
   exact step3b_end a b c d t A B s true A.length (.inl rfl) _ hq
 | k + 1, i, true, hi, hs, hq => by
   have hs := hs rfl
   have h1 : i < A.length := by omega
   have h2 : i < B.length := by omega
   have d1 : A.drop i = A[i] :: A.drop (i + 1) := List.drop_eq_getElem_cons h1
   have d2 : B.drop i = B[i] :: B.drop (i + 1) := List.drop_eq_getElem_cons h2
   refine step3b_in a b c d t A B s i h1 h2 hl _ (runs3b s hl Q k (i + 1) _ (by omega) (fun _ => hs) ?_)
   rw [d1, d2] at hq
   exact hq
end
theorem pre3_all {x : W3} (h : pre3 x = true) : 0 ≤ x.i ∧ x.i ≤ (x.A.length : Nat) ∧ x.A.length ≤ 2000 ∧ x.A.all lbB = true ∧ x.B.all lbB = true ∧ tbB x.t = true := by
 simp only [pre3, Bool.and_eq_true, decide_eq_true_eq] at h
 exact h
theorem f3_loops : BlocksOk Tryz.prog 0 L3 (codeOf Tryz.f3) := by
 refine blocksOk_of (d := two6) (fun id => by unfold L3 two6; cases Nat.beq id 0 <;> cases Nat.beq id 2 <;> rfl) _ ?_
 have hb : blocksOf two6 (codeOf Tryz.f3) = [(0, .loop (loopOf 0 (codeOf Tryz.f3))), (2, .loop (loopOf 2 (codeOf Tryz.f3)))] := by kernel_rfl
 rw [hb]
 intro p hp g hg
 simp only [List.mem_cons, List.not_mem_nil, or_false] at hp
 rcases hp with rfl | rfl
 · have hh : L3 0 = some ((lp3 way3).g 0) := rfl
   rw [hh] at hg
   obtain rfl : g = (lp3 way3).g 0 := (Option.some.inj hg).symm
   refine LoopSt.ok2 (N := 1010) prog_mixed Γ3l_ok (L := noL) (blocksOk_none 0 _) (lp3_good _) (step3_eq way3) ?_
   rintro ⟨a, b, c, d, t, A, B, s, e, i⟩ hx
   have hx : way3.pre ⟨a, b, c, d, t, A, B, s, e, i⟩ = true := hx
   simp only [way3, Bool.and_eq_true, Bool.or_eq_true, decide_eq_true_eq, Bool.not_eq_true'] at hx
   obtain ⟨h0, hs⟩ := hx
   obtain ⟨h1, h2, h3, h4, h5, h6⟩ := pre3_all h0
   simp only at h1 h2 h3 h4 h5 h6 hs
   obtain ⟨i, rfl⟩ : ∃ m : Nat, i = m := ⟨i.toNat, by omega⟩
   have hs' : s = true → A.length = B.length := fun hh => hs.resolve_left (by rw [hh]; decide)
   exact ⟨_, runs3 a b c d t A B e h3 h4 h5 h6 (· = way3.res ⟨a, b, c, d, t, A, B, s, e, i⟩) (A.length - i) i s (by omega) hs' (by simp [way3])⟩
 · have hh : L3 2 = some ((lp3b way3b).g 0) := rfl
   rw [hh] at hg
   obtain rfl : g = (lp3b way3b).g 0 := (Option.some.inj hg).symm
   refine LoopSt.ok2 (N := 1010) prog_mixed Γ3l_ok (L := noL) (blocksOk_none 0 _) (lp3b_good _) (step3b_eq way3b) ?_
   rintro ⟨a, b, c, d, t, A, B, s, e, i⟩ hx
   have hx : way3b.pre ⟨a, b, c, d, t, A, B, s, e, i⟩ = true := hx
   simp only [way3b, Bool.and_eq_true, Bool.or_eq_true, decide_eq_true_eq, Bool.not_eq_true'] at hx
   obtain ⟨h0, hs⟩ := hx
   obtain ⟨h1, h2, h3, h4, h5, h6⟩ := pre3_all h0
   simp only at h1 h2 h3 h4 h5 h6 hs
   obtain ⟨i, rfl⟩ : ∃ m : Nat, i = m := ⟨i.toNat, by omega⟩
   have hs' : e = true → A.length = B.length := fun hh => hs.resolve_left (by rw [hh]; decide)
   exact ⟨_, runs3b a b c d t A B s h3 (· = way3b.res ⟨a, b, c, d, t, A, B, s, e, i⟩) (A.length - i) i e (by omega) hs' (by simp [way3b])⟩
end Go.Vse
namespace Go.Vse
open Go.Proofs
theorem no_sqrt2_nat : ∀ (n m : Nat), m * m = 2 * (n * n) → n = 0 := by
 intro n
 induction n using Nat.strongRecOn with
 | ind n ih =>
  intro m h
  have h1 : m % 2 = 0 := by
   rcases Nat.mod_two_eq_zero_or_one m with h0 | h0
   ·exact h0
   ·have : (m * m) % 2 = 1 := by rw [Nat.mul_mod, h0]
    omega
  obtain ⟨k, rfl⟩ : ∃ k, m = 2 * k := ⟨m / 2, by omega⟩
  have h2 : n * n = 2 * (k * k) := by
   have e : 2 * k * (2 * k) = 2 * (2 * (k * k)) := by rw [Nat.mul_mul_mul_comm, Nat.mul_assoc]
   omega
  have h3 : n % 2 = 0 := by
   rcases Nat.mod_two_eq_zero_or_one n with h0 | h0
   ·exact h0
   ·have : (n * n) % 2 = 1 := by rw [Nat.mul_mod, h0]
    omega
  obtain ⟨j, rfl⟩ : ∃ j, n = 2 * j := ⟨n / 2, by omega⟩
  have h4 : k * k = 2 * (j * j) := by
   have e : 2 * j * (2 * j) = 2 * (2 * (j * j)) := by rw [Nat.mul_mul_mul_comm, Nat.mul_assoc]
   omega
  by_cases hj : j = 0
  ·omega
  ·have := ih j (by omega) k h4
   omega
theorem no_sqrt2 (x : Rat) : x * x ≠ 2 := by
 intro h
 have h1 : x = (x.num : Rat) / (x.den : Rat) := by
  have e := Rat.divInt_eq_div x.num x.den
  rw [Rat.num_divInt_den] at e
  exact e
 have hd : (x.den : Rat) ≠ 0 := by
  have := x.den_nz
  exact_mod_cast this
 have h2 : (x.num : Rat) * x.num = 2 * ((x.den : Rat) * x.den) := by
  rw [h1] at h
  generalize (x.num : Rat) = n at h ⊢
  generalize (x.den : Rat) = d at h hd ⊢
  grind
 have h3 : x.num * x.num = 2 * ((x.den : Int) * x.den) := by exact_mod_cast h2
 have h4 : x.num.natAbs * x.num.natAbs = 2 * (x.den * x.den) := by
  have : ((x.num.natAbs * x.num.natAbs : Nat) : Int) = ((2 * (x.den * x.den) : Nat) : Int) := by
   rw [Int.natCast_mul, Int.natAbs_mul_self' , h3]
   simp
  exact_mod_cast this
 exact x.den_nz (no_sqrt2_nat _ _ h4)
theorem sgn_zero (a b : Int) : sgn a b = 0 ↔ a = b := by
 unfold sgn
 split
 ·constructor <;> intro h <;> omega
 ·split
  ·constructor <;> intro h <;> omega
  ·constructor <;> intro h <;> omega
theorem num_zero {x : Rat} : sgn x.num 0 = 0 ↔ x = 0 := by rw [sgn_zero, Rat.num_eq_zero]
theorem signV_zero (a b c : Rat) (hb : b * b = 1) : signV a b (c * c * 2) = 0 ↔ a = 0 ∧ c = 0 := by
 have hb0 : b ≠ 0 := by grind
 have hnb : sgn b.num 0 ≠ 0 := fun h => hb0 (num_zero.1 h)
 unfold signV
 simp only
 by_cases hc : c = 0
 ·subst hc
  have e : (0 : Rat) * 0 * 2 = 0 := by grind
  rw [e]
  have e2 : sgn (0 : Rat).num 0 = 0 := rfl
  rw [e2, Int.mul_zero, if_pos (.inl rfl), num_zero]
  simp
 ·have hr : c * c * 2 ≠ 0 := by grind
  have hnr : sgn (c * c * 2).num 0 ≠ 0 := fun h => hr (num_zero.1 h)
  have hn : sgn b.num 0 * sgn (c * c * 2).num 0 ≠ 0 := Int.mul_ne_zero hnb hnr
  constructor
  ·intro h
   split at h
   ·rename_i h0
    rcases h0 with h0 | h0
    ·exact absurd h0 hn
    ·exact absurd (h0.symm.trans h) hn
   ·split at h
    ·exact absurd h hn
    ·rename_i h1
     rcases Int.mul_eq_zero.1 h with h | h
     ·exact absurd h h1
     ·rw [sgn_zero] at h
      have e := Rat.eq_iff_mul_eq_mul.2 h
      exfalso
      apply no_sqrt2 (a / c)
      grind
  ·rintro ⟨_, h⟩
   exact absurd h hc
theorem facV_sq (b : Bool) : facV b * facV b = 1 := by cases b <;> (unfold facV; simp only [cond_true, cond_false]; grind)
theorem sgnL_same (p q : Q3) (hp : p.c2 = 0) (hq : q.c2 = 0) (t : R3) (ht : tbB t = true) : decide (sgnL p q t = 0) = sameQ p q t := by
 obtain ⟨hr, hn, -⟩ := tb_r ht
 have h2 : (subQ p q).c2 = 0 := by show p.c2 - q.c2 = 0; rw [hp, hq]; grind
 unfold sgnL sameQ
 generalize subQ p q = d at h2 ⊢
 have hb : baseQ d t = d.c0 + t.p * d.c1 := by unfold baseQ; rw [evalQ_lin h2, h2]; grind
 have hs : byQ d t = d.c1 := by unfold byQ; rw [hn, slopeQ_lin h2]; rfl
 rw [red0_lin h2, red1_lin h2]
 rcases hr with hr | hr
 · have d0 : decide (t.r = 0) = true := decide_eq_true hr
   unfold atP atR atN mkP mkR mkN
   rw [hb, hs, d0]
   simp only [cond_true]
   have e : d.c0 + t.p * d.c1 + d.c1 * 0 = d.c0 + t.p * d.c1 := by grind
   rw [e]
   have e2 := signV_zero (d.c0 + t.p * d.c1) (facV false) 0 (facV_sq false)
   rw [show (0 : Rat) * 0 * 2 = 0 by grind] at e2
   by_cases hz : d.c0 + t.p * d.c1 = 0
   · rw [decide_eq_true (e2.2 ⟨hz, rfl⟩), decide_eq_true hz]
     simp
   · rw [decide_eq_false (fun h => hz (e2.1 h).1), decide_eq_false hz]
     simp
 · have h20 : ¬ t.r = 0 := by rw [hr]; grind
   have d0 : decide (t.r = 0) = false := decide_eq_false h20
   unfold atP atR atN mkP mkR mkN
   rw [hb, hs, d0]
   simp only [cond_false]
   rw [hr]
   have e2 := signV_zero (d.c0 + t.p * d.c1) (facV (decide (d.c1.num < 0))) d.c1 (facV_sq _)
   by_cases h1 : d.c1 = 0
   · by_cases h0 : d.c0 = 0
     · rw [decide_eq_true (e2.2 ⟨by rw [h0, h1]; grind, h1⟩), decide_eq_true h0, decide_eq_true h1]; rfl
     · rw [decide_eq_false (fun h => h0 (by have := (e2.1 h).1; rw [h1] at this; grind)), decide_eq_false h0]; rfl
   · rw [decide_eq_false (fun h => h1 (e2.1 h).2), decide_eq_false h1, Bool.and_false]
theorem zeroL_same (t : R3) (ht : tbB t = true) (x y : L4) : zeroL t x y = sameL t x y := by
 unfold zeroL sameL
 rw [sgnL_same (xQ x) (xQ y) rfl rfl t ht, sgnL_same (yQ x) (yQ y) rfl rfl t ht]
 cases sameQ (xQ x) (xQ y) t <;> rfl
theorem eqAll_congr {f g : L4 → L4 → Bool} (h : ∀ x y, f x y = g x y) : ∀ (l m : List L4), eqAll f l m = eqAll g l m
 | [], [] => rfl
 | [], _ :: _ => rfl
 | _ :: _, [] => rfl
 | x :: l, y :: m => by
  show (f x y && eqAll f l m) = (g x y && eqAll g l m)
  rw [h, eqAll_congr h l m]
theorem eqAll_app (f : L4 → L4 → Bool) : ∀ (l m l' m' : List L4), l.length = m.length → eqAll f (l ++ l') (m ++ m') = (eqAll f l m && eqAll f l' m')
 | [], [], l', m', _ => by
   show eqAll f l' m' = (true && eqAll f l' m')
   rw [Bool.true_and]
 | [], _ :: _, _, _, h => by simp at h
 | _ :: _, [], _, _, h => by simp at h
 | x :: l, y :: m, l', m', h => by
   show (f x y && eqAll f (l ++ l') (m ++ m')) = (f x y && eqAll f l m && eqAll f l' m')
   rw [eqAll_app f l m l' m' (by simpa using h), Bool.and_assoc]
def hN : Option (List L4) → Nat
 | none => 0
 | some _ => 1
theorem loop_rings (f : L4 → L4 → Bool) (L : List L4) (M : Option (List L4)) (L' : List L4) (M' : Option (List L4)) :
  ((bif decide (L.length = L'.length) then bif decide (hN M = hN M') then decide ((L ++ lnO M).length = (L' ++ lnO M').length) else false else false) && eqAll f (L ++ lnO M) (L' ++ lnO M')) = eqRings f L M L' M' := by
 by_cases hl : L.length = L'.length
 ·rw [decide_eq_true hl, cond_true, eqAll_app f L L' _ _ hl]
  have e1 : (L ++ lnO M).length = L.length + (lnO M).length := List.length_append
  have e2 : (L' ++ lnO M').length = L'.length + (lnO M').length := List.length_append
  rw [e1, e2]
  have e0 : eqLines f L L' = eqAll f L L' := by unfold eqLines; rw [decide_eq_true hl, Bool.true_and]
  cases M with
  | none =>
   cases M' with
   | none =>
    show ((bif decide ((0 : Nat) = 0) then decide (L.length + 0 = L'.length + 0) else false) && (eqAll f L L' && eqAll f [] [])) = eqLines f L L'
    rw [e0, decide_eq_true (show L.length + 0 = L'.length + 0 from hl)]
    show (eqAll f L L' && true) = eqAll f L L'
    rw [Bool.and_true]
   | some M' => rfl
  | some M =>
   cases M' with
   | none => rfl
   | some M' =>
    show ((bif decide ((1 : Nat) = 1) then decide (L.length + M.length = L'.length + M'.length) else false) && (eqAll f L L' && eqAll f M M')) = (eqLines f L L' && eqLines f M M')
    rw [e0]
    have e3 : decide (L.length + M.length = L'.length + M'.length) = decide (M.length = M'.length) := by
     by_cases h : M.length = M'.length
     ·rw [decide_eq_true h, decide_eq_true (by omega)]
     ·rw [decide_eq_false h, decide_eq_false (by omega)]
    rw [e3]
    unfold eqLines
    show (decide (M.length = M'.length) && (eqAll f L L' && eqAll f M M')) = _
    cases decide (M.length = M'.length) <;> cases eqAll f L L' <;> rfl
 ·rw [decide_eq_false hl, cond_false, Bool.false_and]
  have e0 : eqLines f L L' = false := by unfold eqLines; rw [decide_eq_false hl, Bool.false_and]
  unfold eqRings
  cases M <;> cases M' <;> simp only [e0, Bool.false_and]
theorem redQ_same (p q : Q3) (hp : p.c2 = 0) (hq : q.c2 = 0) (t : R3) : (decide (red0 p t = red0 q t) && decide (red1 p t = red1 q t)) = sameQ p q t := by
 have h2 : (subQ p q).c2 = 0 := by show p.c2 - q.c2 = 0; rw [hp, hq]; grind
 unfold sameQ
 rw [red0_lin h2, red1_lin h2, red0_lin hp, red0_lin hq, red1_lin hp, red1_lin hq]
 show _ = (decide ((bif decide (t.r = 0) then (p.c0 - q.c0) + t.p * (p.c1 - q.c1) else (p.c0 - q.c0)) = 0) && decide ((bif decide (t.r = 0) then 0 else (p.c1 - q.c1)) = 0))
 cases decide (t.r = 0)
 ·simp only [cond_false]
  congr 1
  ·exact decide_eq_decide.2 (by constructor <;> intro h <;> grind)
  ·exact decide_eq_decide.2 (by constructor <;> intro h <;> grind)
 ·simp only [cond_true]
  congr 1
  exact decide_eq_decide.2 (by constructor <;> intro h <;> grind)
theorem redL_same (t : R3) (x y : L4) : eqL (redL t x) (redL t y) = sameL t x y := by
 unfold sameL
 rw [← redQ_same (xQ x) (xQ y) rfl rfl t, ← redQ_same (yQ x) (yQ y) rfl rfl t]
 unfold eqL redL
 simp only
 rw [Bool.and_assoc]
theorem redQ_self (p q : Q3) (hp : p.c2 = 0) (hq : q.c2 = 0) (t : R3) (h0 : q.c0 = red0 p t) (h1 : q.c1 = red1 p t) : sameQ q p t = true := by
 rw [← redQ_same q p hq hp t, red0_lin hq, red1_lin hq, h0, h1, red0_lin hp, red1_lin hp]
 cases decide (t.r = 0)
 ·simp
 ·simp only [cond_true]
  rw [decide_eq_true (by grind)]; simp
theorem redL_self (t : R3) (x : L4) : sameL t (redL t x) x = true := by
 unfold sameL
 rw [redQ_self (xQ x) (xQ (redL t x)) rfl rfl t rfl rfl, redQ_self (yQ x) (yQ (redL t x)) rfl rfl t rfl rfl]; rfl
theorem eqAll_map (f g : L4 → L4 → Bool) (r : L4 → L4) (h : ∀ x y, f (r x) (r y) = g x y) : ∀ (l m : List L4), eqAll f (l.map r) (m.map r) = eqAll g l m
 | [], [] => rfl
 | [], _ :: _ => rfl
 | _ :: _, [] => rfl
 | x :: l, y :: m => by
  show (f (r x) (r y) && eqAll f (l.map r) (m.map r)) = (g x y && eqAll g l m)
  rw [h, eqAll_map f g r h l m]
theorem eqLines_map (f g : L4 → L4 → Bool) (r : L4 → L4) (h : ∀ x y, f (r x) (r y) = g x y) (l m : List L4) : eqLines f (l.map r) (m.map r) = eqLines g l m := by
 unfold eqLines
 rw [List.length_map, List.length_map, eqAll_map f g r h]
theorem red_rings (t : R3) (L : List L4) (M : Option (List L4)) (L' : List L4) (M' : Option (List L4)) :
  eqRings eqL (L.map (redL t)) (redS t M) (L'.map (redL t)) (redS t M') = eqRings (sameL t) L M L' M' := by
 cases M <;> cases M' <;> simp only [redS, eqRings, Option.map_none, Option.map_some, eqLines_map eqL (sameL t) (redL t) (redL_same t)]
theorem eqAll_self (f : L4 → L4 → Bool) (r : L4 → L4) (h : ∀ x, f (r x) x = true) : ∀ l : List L4, eqAll f (l.map r) l = true
 | [] => rfl
 | x :: l => by
  show (f (r x) x && eqAll f (l.map r) l) = true
  rw [h, eqAll_self f r h l]; rfl
theorem eqLines_self (f : L4 → L4 → Bool) (r : L4 → L4) (h : ∀ x, f (r x) x = true) (l : List L4) : eqLines f (l.map r) l = true := by
 unfold eqLines
 rw [List.length_map, eqAll_self f r h, decide_eq_true rfl]; rfl
theorem self_rings (t : R3) (L : List L4) (M : Option (List L4)) : eqRings (sameL t) (L.map (redL t)) (redS t M) L M = true := by
 cases M with
 | none => exact eqLines_self _ _ (redL_self t) L
 | some M =>
  show (eqLines (sameL t) (L.map (redL t)) L && eqLines (sameL t) (M.map (redL t)) M) = true
  rw [eqLines_self _ _ (redL_self t) L, eqLines_self _ _ (redL_self t) M]; rfl
theorem slope_b (p r a b : Int) (hp : i8B p = true) (hr : i8B r = true) (hab : a < b ∧ b ≤ a + 4) : Bnd 255 4 (slopeB a p b r) := by
 simp only [i8B, Bool.and_eq_true, decide_eq_true_eq] at hp hr
 have e : slopeB (a : Rat) p b r = Rat.divInt (r - p) (b - a) := by
  unfold slopeB
  rw [Rat.divInt_eq_div]
  simp
 rw [e]
 exact Bnd.divInt (by omega) (by omega) (by omega)
theorem line_b (p r a b T : Int) (hp : i8B p = true) (hr : i8B r = true) (hab : a < b ∧ b ≤ a + 4) (hT : (T - a).natAbs ≤ 7) : Bnd 2297 4 ((p : Rat) + slopeB a p b r * ((T - a : Int) : Rat)) := by
 have h1 := slope_b p r a b hp hr hab
 simp only [i8B, Bool.and_eq_true, decide_eq_true_eq] at hp
 have h2 : Bnd 7 1 ((T - a : Int) : Rat) := (Bnd.int _).mono hT (Nat.le_refl _)
 have h3 : Bnd 128 1 (p : Rat) := (Bnd.int p).mono (by omega) (Nat.le_refl _)
 exact (h3.add (h1.mul h2)).mono (by decide) (by decide)
theorem lineC_lb (a b : Int) (c : C4) (hc : cok c = true) (hab : abB a b = true) : lbB (lineC a b c) = true := by
 obtain ⟨d1, d2, d3, d4⟩ := abB_all hab
 simp only [decide_eq_true_eq] at d1 d2 d3 d4
 simp only [cok, Bool.and_eq_true] at hc
 obtain ⟨⟨⟨h1, h2⟩, h3⟩, h4⟩ := hc
 have key : ∀ p r : Int, (p : Rat) - slopeB a p b r * (a : Rat) = (p : Rat) + slopeB a p b r * ((0 - a : Int) : Rat) := by
  intro p r
  have : ((0 - a : Int) : Rat) = -(a : Rat) := by simp
  rw [this]
  grind
 unfold lbB lineC lineOf
 simp only [Bool.and_eq_true, bndB_iff]
 rw [key, key]
 exact ⟨⟨(line_b c.p c.r a b 0 h1 h3 ⟨d3, d4⟩ (by omega)).mono (by decide) (by decide), (slope_b c.p c.r a b h1 h3 ⟨d3, d4⟩).mono (by decide) (by decide)⟩, (line_b c.q c.s a b 0 h2 h4 ⟨d3, d4⟩ (by omega)).mono (by decide) (by decide), (slope_b c.q c.s a b h2 h4 ⟨d3, d4⟩).mono (by decide) (by decide)⟩
theorem redC_lb (a b T : Int) (c : C4) (hc : cok c = true) (hab : abB a b = true) (t : R3) (hT : t.p = (T : Rat)) (hT0 : 0 ≤ T ∧ T ≤ 7) : lbB (redL t (lineC a b c)) = true := by
 have h0 := lineC_lb a b c hc hab
 obtain ⟨d1, d2, d3, d4⟩ := abB_all hab
 simp only [decide_eq_true_eq] at d1 d2 d3 d4
 simp only [cok, Bool.and_eq_true] at hc
 obtain ⟨⟨⟨h1, h2⟩, h3⟩, h4⟩ := hc
 unfold redL
 rw [red0_lin (q := xQ (lineC a b c)) rfl, red1_lin (q := xQ (lineC a b c)) rfl, red0_lin (q := yQ (lineC a b c)) rfl, red1_lin (q := yQ (lineC a b c)) rfl]
 cases decide (t.r = 0)
 ·exact h0
 ·simp only [cond_true]
  have key : ∀ p r : Int, ((p : Rat) - slopeB a p b r * (a : Rat)) + t.p * slopeB a p b r = (p : Rat) + slopeB a p b r * ((T - a : Int) : Rat) := by
   intro p r
   have : ((T - a : Int) : Rat) = (T : Rat) - (a : Rat) := by simp
   rw [this, hT]
   grind
  unfold lbB lineC lineOf xQ yQ
  simp only [Bool.and_eq_true, bndB_iff]
  rw [key, key]
  exact ⟨⟨(line_b c.p c.r a b T h1 h3 ⟨d3, d4⟩ (by omega)).mono (by decide) (by decide), Bnd.zero.mono (by decide) (by decide)⟩, (line_b c.q c.s a b T h2 h4 ⟨d3, d4⟩ (by omega)).mono (by decide) (by decide), Bnd.zero.mono (by decide) (by decide)⟩
end Go.Vse
set_option maxRecDepth 100000
namespace Go.Vse
open Go.Proofs
structure P3 where
 n : List AV → Nat
 el : List AV → Nat → List IV
 he : List AV → Nat → List IV
 ub : List AV → Nat → Bool
 us : List AV → Nat → ByteArray
 cu : List AV → Bool
 vn : IV → IV → Nat
 vel : IV → IV → Nat → List IV
 cV : IV → IV → Bool
 sm : IV → IV → IV → IV → List AV → Bool
 cSm : IV → IV → IV → IV → List AV → Bool
 eq : IV → IV → IV → IV → Bool
 cEq : IV → IV → IV → IV → Bool
 rn : IV → IV → List AV → Nat
 rel : IV → IV → List AV → Nat → List IV
 rhe : IV → IV → List AV → Nat → List IV
 cRd : IV → IV → List AV → Bool
 ck : IV → IV → Int
 cCk : IV → IV → Bool
 zb : Int → Nat → Bool
 zs : Int → Nat → ByteArray
 cz : Int → Bool
 yb : Int → Nat → Bool
 ys : Int → Nat → ByteArray
 cy : Int → Bool
def holX (he : Nat → List IV) : Nat → AV
 | 0 => .c (.v (.slice none 0 0))
 | _ + 1 => .c (.sl 1 1 he)
def holY (he : Nat → List IV) : IV → AV
 | .v _ => .c (.v (.slice none 0 0))
 | _ => .c (.sl 1 1 he)
def K6x (p : P3) : List AV → Option (AV × List Bool)
 | [.agg [.c (.v (.int .u8 x)), .c (.v (.int .u8 y)), .c (.v (.bool r)), .c (.v (.bool oa)), .c (.v (.bool ob)), .c (.sl k 4 ec), .c (.sl m 4 el)]] => some (.agg [.c (.v (.bool (p.ub [.c (.v (.int .u8 x)), .c (.v (.int .u8 y)), .c (.v (.bool r)), .c (.v (.bool oa)), .c (.v (.bool ob)), .c (.sl k 4 ec), .c (.sl m 4 el)] 0))), .c (.v (.string (p.us [.c (.v (.int .u8 x)), .c (.v (.int .u8 y)), .c (.v (.bool r)), .c (.v (.bool oa)), .c (.v (.bool ob)), .c (.sl k 4 ec), .c (.sl m 4 el)] 1))), .c (.v (.bool (p.ub [.c (.v (.int .u8 x)), .c (.v (.int .u8 y)), .c (.v (.bool r)), .c (.v (.bool oa)), .c (.v (.bool ob)), .c (.sl k 4 ec), .c (.sl m 4 el)] 2))), .c (.v (.string (p.us [.c (.v (.int .u8 x)), .c (.v (.int .u8 y)), .c (.v (.bool r)), .c (.v (.bool oa)), .c (.v (.bool ob)), .c (.sl k 4 ec), .c (.sl m 4 el)] 3))), .c (.v (.bool (p.ub [.c (.v (.int .u8 x)), .c (.v (.int .u8 y)), .c (.v (.bool r)), .c (.v (.bool oa)), .c (.v (.bool ob)), .c (.sl k 4 ec), .c (.sl m 4 el)] 4))), .c (.v (.string (p.us [.c (.v (.int .u8 x)), .c (.v (.int .u8 y)), .c (.v (.bool r)), .c (.v (.bool oa)), .c (.v (.bool ob)), .c (.sl k 4 ec), .c (.sl m 4 el)] 5))), .c (.v (.bool (p.ub [.c (.v (.int .u8 x)), .c (.v (.int .u8 y)), .c (.v (.bool r)), .c (.v (.bool oa)), .c (.v (.bool ob)), .c (.sl k 4 ec), .c (.sl m 4 el)] 6))), .c (.v (.string (p.us [.c (.v (.int .u8 x)), .c (.v (.int .u8 y)), .c (.v (.bool r)), .c (.v (.bool oa)), .c (.v (.bool ob)), .c (.sl k 4 ec), .c (.sl m 4 el)] 7))), .c (.v (.bool (p.ub [.c (.v (.int .u8 x)), .c (.v (.int .u8 y)), .c (.v (.bool r)), .c (.v (.bool oa)), .c (.v (.bool ob)), .c (.sl k 4 ec), .c (.sl m 4 el)] 8))), .c (.v (.bool (p.ub [.c (.v (.int .u8 x)), .c (.v (.int .u8 y)), .c (.v (.bool r)), .c (.v (.bool oa)), .c (.v (.bool ob)), .c (.sl k 4 ec), .c (.sl m 4 el)] 9))), .c (.v (.string (p.us [.c (.v (.int .u8 x)), .c (.v (.int .u8 y)), .c (.v (.bool r)), .c (.v (.bool oa)), .c (.v (.bool ob)), .c (.sl k 4 ec), .c (.sl m 4 el)] 10))), .c (.v (.bool (p.ub [.c (.v (.int .u8 x)), .c (.v (.int .u8 y)), .c (.v (.bool r)), .c (.v (.bool oa)), .c (.v (.bool ob)), .c (.sl k 4 ec), .c (.sl m 4 el)] 11))), .c (.v (.string (p.us [.c (.v (.int .u8 x)), .c (.v (.int .u8 y)), .c (.v (.bool r)), .c (.v (.bool oa)), .c (.v (.bool ob)), .c (.sl k 4 ec), .c (.sl m 4 el)] 12))), .c (.v (.bool (p.ub [.c (.v (.int .u8 x)), .c (.v (.int .u8 y)), .c (.v (.bool r)), .c (.v (.bool oa)), .c (.v (.bool ob)), .c (.sl k 4 ec), .c (.sl m 4 el)] 13))), .c (.v (.string (p.us [.c (.v (.int .u8 x)), .c (.v (.int .u8 y)), .c (.v (.bool r)), .c (.v (.bool oa)), .c (.v (.bool ob)), .c (.sl k 4 ec), .c (.sl m 4 el)] 14))), .c (.v (.bool (p.ub [.c (.v (.int .u8 x)), .c (.v (.int .u8 y)), .c (.v (.bool r)), .c (.v (.bool oa)), .c (.v (.bool ob)), .c (.sl k 4 ec), .c (.sl m 4 el)] 15))), .c (.v (.string (p.us [.c (.v (.int .u8 x)), .c (.v (.int .u8 y)), .c (.v (.bool r)), .c (.v (.bool oa)), .c (.v (.bool ob)), .c (.sl k 4 ec), .c (.sl m 4 el)] 16))), .c (.v (.bool (p.ub [.c (.v (.int .u8 x)), .c (.v (.int .u8 y)), .c (.v (.bool r)), .c (.v (.bool oa)), .c (.v (.bool ob)), .c (.sl k 4 ec), .c (.sl m 4 el)] 17))), .c (.v (.bool (p.ub [.c (.v (.int .u8 x)), .c (.v (.int .u8 y)), .c (.v (.bool r)), .c (.v (.bool oa)), .c (.v (.bool ob)), .c (.sl k 4 ec), .c (.sl m 4 el)] 18))), .c (.v (.bool (p.ub [.c (.v (.int .u8 x)), .c (.v (.int .u8 y)), .c (.v (.bool r)), .c (.v (.bool oa)), .c (.v (.bool ob)), .c (.sl k 4 ec), .c (.sl m 4 el)] 19))), .c (.sl (p.n [.c (.v (.int .u8 x)), .c (.v (.int .u8 y)), .c (.v (.bool r)), .c (.v (.bool oa)), .c (.v (.bool ob)), .c (.sl k 4 ec), .c (.sl m 4 el)]) 16 (p.el [.c (.v (.int .u8 x)), .c (.v (.int .u8 y)), .c (.v (.bool r)), .c (.v (.bool oa)), .c (.v (.bool ob)), .c (.sl k 4 ec), .c (.sl m 4 el)])), holX (p.he [.c (.v (.int .u8 x)), .c (.v (.int .u8 y)), .c (.v (.bool r)), .c (.v (.bool oa)), .c (.v (.bool ob)), .c (.sl k 4 ec), .c (.sl m 4 el)]) m], [p.cu [.c (.v (.int .u8 x)), .c (.v (.int .u8 y)), .c (.v (.bool r)), .c (.v (.bool oa)), .c (.v (.bool ob)), .c (.sl k 4 ec), .c (.sl m 4 el)]])
 | _ => none
def K5x : List AV → Option (AV × List Bool)
 | [.agg [.c (.v (.bool b0)), .c (.v (.string s1)), .c (.v (.bool b2)), .c (.v (.string s3)), .c (.v (.bool b4)), .c (.v (.string s5)), .c (.v (.bool b6)), .c (.v (.string s7)), .c (.v (.bool b8)), .c (.v (.bool b9)), .c (.v (.string s10)), .c (.v (.bool b11)), .c (.v (.string s12)), .c (.v (.bool b13)), .c (.v (.string s14)), .c (.v (.bool b15)), .c (.v (.string s16)), .c (.v (.bool b17)), .c (.v (.bool b18)), .c (.v (.bool b19)), .c (.sl n 16 el), .c (.v (.slice none 0 0))]] => some (.agg [.c (.sl n 16 el), .c (.v (.slice none 0 0))], [])
 | [.agg [.c (.v (.bool b0)), .c (.v (.string s1)), .c (.v (.bool b2)), .c (.v (.string s3)), .c (.v (.bool b4)), .c (.v (.string s5)), .c (.v (.bool b6)), .c (.v (.string s7)), .c (.v (.bool b8)), .c (.v (.bool b9)), .c (.v (.string s10)), .c (.v (.bool b11)), .c (.v (.string s12)), .c (.v (.bool b13)), .c (.v (.string s14)), .c (.v (.bool b15)), .c (.v (.string s16)), .c (.v (.bool b17)), .c (.v (.bool b18)), .c (.v (.bool b19)), .c (.sl n 16 el), .c (.sl 1 1 e2)]] => some (.agg [.c (.sl n 16 el), .c (.sl 1 1 e2)], [])
 | _ => none
def K9x (p : P3) : List AV → Option (AV × List Bool)
 | [.agg [.c a, .c b]] => some (.c (.sl (p.vn a b) 16 (p.vel a b)), [p.cV a b])
 | _ => none
def K12x (p : P3) : List AV → Option (AV × List Bool)
 | [.agg [], .agg [.c a, .c b], .agg [.c c, .c d], .agg t] => some (boolA (p.sm a b c d t), [p.cSm a b c d t])
 | _ => none
def K13x (p : P3) : List AV → Option (AV × List Bool)
 | [.agg [], .agg [.c a, .c b], .agg [.c c, .c d]] => some (boolA (p.eq a b c d), [p.cEq a b c d])
 | _ => none
def K14x (p : P3) : List AV → Option (AV × List Bool)
 | [.agg [], .agg [.c a, .c b], .agg t] => some (.agg [.c (.sl (p.rn a b t) 16 (p.rel a b t)), holY (p.rhe a b t) b], [p.cRd a b t])
 | _ => none
def K15x (p : P3) : List AV → Option (AV × List Bool)
 | [.agg [], .agg [.c a, .c b]] => some (intA .i64 (p.ck a b), [p.cCk a b])
 | _ => none
def K7x (p : P3) : List AV → Option (AV × List Bool)
 | [.c (.v (.int .i64 n))] => some (.agg [.c (.v (.bool (p.zb n 0))), .c (.v (.string (p.zs n 1))), .c (.v (.bool (p.zb n 2))), .c (.v (.string (p.zs n 3))), .c (.v (.bool (p.zb n 4))), .c (.v (.string (p.zs n 5))), .c (.v (.bool (p.zb n 6))), .c (.v (.string (p.zs n 7))), .c (.v (.bool (p.zb n 8)))], [p.cz n])
 | _ => none
def K8x (p : P3) : List AV → Option (AV × List Bool)
 | [.c (.v (.int .i64 n))] => some (.agg [.c (.v (.bool (p.yb n 0))), .c (.v (.string (p.ys n 1))), .c (.v (.bool (p.yb n 2))), .c (.v (.string (p.ys n 3)))], [p.cy n])
 | _ => none
def Γ3x (p : P3) : FuncId → Option Spec := fun f => bif Nat.beq f 4 then some (pureSpec K4) else bif Nat.beq f 6 then some (pureSpec (K6x p)) else bif Nat.beq f 5 then some (pureSpec K5x) else bif Nat.beq f 7 then some (pureSpec (K7x p)) else bif Nat.beq f 8 then some (pureSpec (K8x p)) else bif Nat.beq f 9 then some (pureSpec (K9x p)) else bif Nat.beq f 10 then some (pureSpec K10) else bif Nat.beq f 11 then some (pureSpec K11) else bif Nat.beq f 12 then some (pureSpec (K12x p)) else bif Nat.beq f 13 then some (pureSpec (K13x p)) else bif Nat.beq f 14 then some (pureSpec (K14x p)) else bif Nat.beq f 15 then some (pureSpec (K15x p)) else none
theorem PureOk.weaken {P : Program} {f : FuncId} {K K' : List AV → Option (AV × List Bool)} (h : PureOk P f K)
  (hw : ∀ args v cs, K' args = some (v, cs) → Vse.noPtr v = true ∧ ((∀ p ∈ cs, p) → ∃ args0 v0 cs0, SeesL args args0 ∧ K args0 = some (v0, cs0) ∧ (∀ p ∈ cs0, p) ∧ Sees v0 v)) : PureOk P f K' where
 sound := by
  intro args v cs hk
  obtain ⟨hn, hw⟩ := hw args v cs hk
  refine ⟨hn, fun A w vs hA hc hr => ?_⟩
  obtain ⟨args0, v0, cs0, hs, h0, hc0, hv⟩ := hw hc
  refine ((h.sound args0 v0 cs0 h0).2 A w vs hA hc0 (hs.rels hr)).mono ?_
  rintro e w' ⟨u, he, hu, hb⟩
  exact ⟨u, he, hv _ _ _ _ hu, hb⟩
def bC : AV → Bool
 | .c (.v (.bool b)) => b
 | _ => false
def sC : AV → ByteArray
 | .c (.v (.string s)) => s
 | _ => ⟨⟨[]⟩⟩
def uC (l : List AV) : List AV := realCells (fromF (frV l)) ++ (realCells ⟨(fb (frV l) : Rat), 0, false⟩ ++ [.c (.v (.bool (frV l).oa)), .c (.v (.bool (frV l).ob))])
def sh2 (a b : IV) : Option (List L4 × Option (List L4)) := shV (.agg [.c a, .c b])
def vs2 (a b : IV) : List L4 := match sh2 a b with
 | some (L, M) => L ++ lnO M
 | none => []
def on2 {α : Type} (d : α) (a b : IV) (f : List L4 → Option (List L4) → α) : α := match sh2 a b with
 | some (L, M) => f L M
 | none => d
def on4 {α : Type} (z : α) (a b c d : IV) (f : List L4 → Option (List L4) → List L4 → Option (List L4) → α) : α := match sh2 a b, sh2 c d with
 | some (L, M), some (L', M') => f L M L' M'
 | _, _ => z
def okS (a b : IV) : Bool := shOk (.agg [.c a, .c b])
def pz : P3 where
 n l := (outerF (frV l)).length
 el l := lineEl (outerF (frV l))
 he l := fun _ => [slI (((frV l).H.take 3).map (lineC (fa (frV l)) (fb (frV l))))]
 ub l k := bC ((uC l).getD k .any)
 us l k := sC ((uC l).getD k .any)
 cu l := frOk l && (decide (0 ≤ (frV l).x ∧ (frV l).x < 256) && (decide (0 ≤ (frV l).y ∧ (frV l).y < 256) && ((frV l).C.all cok && (frV l).H.all cok)))
 vn a b := (vs2 a b).length
 vel a b := lineEl (vs2 a b)
 cV a b := on2 false a b fun L M => okS a b && (rl L && allO rl M)
 sm a b c d t := on4 false a b c d fun L M L' M' => eqRings (sameL (realV t)) L M L' M'
 cSm a b c d t := on4 false a b c d fun L M L' M' => realOk t && (okS a b && (okS c d && (rb L && (allO rb M && (rb L' && (allO rb M' && tbB (realV t)))))))
 eq a b c d := on4 false a b c d fun L M L' M' => eqRings eqL L M L' M'
 cEq a b c d := on4 false a b c d fun L M L' M' => okS a b && (okS c d && (rl L && (allO rl M && (rl L' && allO rl M'))))
 rn a b t := on2 0 a b fun L M => (L.map (redL (realV t))).length
 rel a b t := on2 (fun _ => []) a b fun L M => lineEl (L.map (redL (realV t)))
 rhe a b t := on2 (fun _ => []) a b fun L M => fun _ => [slI (lnO (redS (realV t) M))]
 cRd a b t := on2 false a b fun L M => realOk t && (okS a b && (rb L && (allO rb M && tbB (realV t))))
 ck a b := on2 0 a b fun L M => bif rawB (.agg [.c a, .c b]) then 5 else chk L M
 cCk a b := on2 false a b fun L M => rawB (.agg [.c a, .c b]) || (okS a b && (rb L && (allO rb M && holB M)))
 zb n k := bC ((ratCells (n : Rat) ++ (litZ ++ [AV.c (.v (.bool false))])).getD k .any)
 zs n k := sC ((ratCells (n : Rat) ++ (litZ ++ [AV.c (.v (.bool false))])).getD k .any)
 cz n := decide (-9223372036854775808 ≤ n) && decide (n ≤ 9223372036854775807)
 yb n k := bC ((ratCells (n : Rat)).getD k .any)
 ys n k := sC ((ratCells (n : Rat)).getD k .any)
 cy n := decide (-9223372036854775808 ≤ n) && decide (n ≤ 9223372036854775807)
theorem crns_ne (m : Nat) (el : Nat → List IV) : (crnsOf (m + 1) el).isEmpty = false := by
 cases h : crnsOf (m + 1) el with
 | nil =>
  have := crnsOf_len (m + 1) el
  rw [h] at this
  cases this
 | cons => rfl
theorem f6x_ok : PureOk Tryz.prog 6 (K6x pz) := by
 refine f6_ok.weaken ?_
 intro args v cs h
 unfold K6x at h
 split at h
 · rename_i x y r oa ob k ec m el
   cases h
   refine ⟨by cases m <;> rfl, fun hc => ?_⟩
   have hcu := hc _ (List.mem_singleton.2 rfl)
   refine ⟨_, _, _, SeesL.refl _, rfl, ?_, ?_⟩
   · simp only [pz, Bool.and_eq_true] at hcu
     obtain ⟨h1, h2, h3, h4, h5⟩ := hcu
     simp [h1, h4, h5, of_decide_eq_true h2, of_decide_eq_true h3]
   · cases m with
     | zero => exact Sees.refl _
     | succ m =>
       generalize hF : frV [.c (.v (.int .u8 x)), .c (.v (.int .u8 y)), .c (.v (.bool r)), .c (.v (.bool oa)), .c (.v (.bool ob)), .c (.sl k 4 ec), .c (.sl (m + 1) 4 el)] = F
       have he : F.H.isEmpty = false := by rw [← hF]; exact crns_ne m el
       have hh : holeF F = some ((F.H.take 3).map (lineC (fa F) (fb F))) := by unfold holeF; rw [he]; rfl
       rw [hh]
       simp only [pz, uC, hF]
       exact Sees.refl _
 · cases h
theorem f5x_ok : PureOk Tryz.prog 5 K5x := by
 refine pureOk_of_exec_c (L := noL) prog_mixed noΓ_ok (fn := Tryz.f5) (c := codeOf Tryz.f5) (by kernel_rfl) (by kernel_rfl) (callFunc_enter (fn := Tryz.f5) (c := codeOf Tryz.f5) (by kernel_rfl) (by kernel_rfl) (by kernel_rfl)) (N := 1010) (blocksOk_none 0 _) ?_ ?_
 ·intro args v cs h
  unfold K5x at h
  split at h
  ·cases h; rfl
  ·cases h; rfl
  ·cases h
 ·intro args v cs h hc
  unfold K5x at h
  split at h
  ·rename_i b0 s1 b2 s3 b4 s5 b6 s7 b8 b9 s10 b11 s12 b13 s14 b15 s16 b17 b18 b19 n el
   cases h
   refine ⟨_, SeesL.refl _, ?_⟩
   rw [show execFn Tryz.prog (fun _ => none) noL 1010 Tryz.f5 [.agg [.c (.v (.bool b0)), .c (.v (.string s1)), .c (.v (.bool b2)), .c (.v (.string s3)), .c (.v (.bool b4)), .c (.v (.string s5)), .c (.v (.bool b6)), .c (.v (.string s7)), .c (.v (.bool b8)), .c (.v (.bool b9)), .c (.v (.string s10)), .c (.v (.bool b11)), .c (.v (.string s12)), .c (.v (.bool b13)), .c (.v (.string s14)), .c (.v (.bool b15)), .c (.v (.string s16)), .c (.v (.bool b17)), .c (.v (.bool b18)), .c (.v (.bool b19)), .c (.sl n 16 el), .c (.v (.slice none 0 0))]] = Tr.ret (.agg [.c (.sl n 16 el), .c (.v (.slice none 0 0))]) from by kernel_rfl]
   exact sat_ret ⟨rfl, Sees.refl _⟩
  ·rename_i b0 s1 b2 s3 b4 s5 b6 s7 b8 b9 s10 b11 s12 b13 s14 b15 s16 b17 b18 b19 n el e2
   cases h
   refine ⟨_, SeesL.refl _, ?_⟩
   rw [show execFn Tryz.prog (fun _ => none) noL 1010 Tryz.f5 [.agg [.c (.v (.bool b0)), .c (.v (.string s1)), .c (.v (.bool b2)), .c (.v (.string s3)), .c (.v (.bool b4)), .c (.v (.string s5)), .c (.v (.bool b6)), .c (.v (.string s7)), .c (.v (.bool b8)), .c (.v (.bool b9)), .c (.v (.string s10)), .c (.v (.bool b11)), .c (.v (.string s12)), .c (.v (.bool b13)), .c (.v (.string s14)), .c (.v (.bool b15)), .c (.v (.string s16)), .c (.v (.bool b17)), .c (.v (.bool b18)), .c (.v (.bool b19)), .c (.sl n 16 el), .c (.sl 1 1 e2)]] = Tr.ret (.agg [.c (.sl n 16 el), .c (.sl 1 1 e2)]) from by kernel_rfl]
   exact sat_ret ⟨rfl, Sees.refl _⟩
  ·cases h
theorem f7x_ok : PureOk Tryz.prog 7 (K7x pz) := by
 refine f7_ok.weaken ?_
 intro args v cs h
 unfold K7x at h
 split at h
 ·rename_i n
  cases h
  refine ⟨rfl, fun hc => ⟨_, _, _, SeesL.refl _, rfl, ?_, Sees.refl _⟩⟩
  have hcu := hc _ (List.mem_singleton.2 rfl)
  simp only [pz, Bool.and_eq_true] at hcu
  simp only [List.mem_cons, List.not_mem_nil, or_false, forall_eq_or_imp, forall_eq]
  exact hcu
 ·cases h
theorem f8x_ok : PureOk Tryz.prog 8 (K8x pz) := by
 refine f8_ok.weaken ?_
 intro args v cs h
 unfold K8x at h
 split at h
 ·rename_i n
  cases h
  refine ⟨rfl, fun hc => ⟨_, _, _, SeesL.refl _, rfl, ?_, Sees.refl _⟩⟩
  have hcu := hc _ (List.mem_singleton.2 rfl)
  simp only [pz, Bool.and_eq_true] at hcu
  simp only [List.mem_cons, List.not_mem_nil, or_false, forall_eq_or_imp, forall_eq]
  exact hcu
 ·cases h
theorem on2_some {a b : IV} {f : List L4 → Option (List L4) → Bool} (h : on2 false a b f = true) : ∃ L M, sh2 a b = some (L, M) ∧ f L M = true := by
 unfold on2 at h
 split at h
 ·rename_i L M he; exact ⟨L, M, he, h⟩
 ·cases h
theorem on4_some {a b c d : IV} {f : List L4 → Option (List L4) → List L4 → Option (List L4) → Bool} (h : on4 false a b c d f = true) : ∃ L M L' M', sh2 a b = some (L, M) ∧ sh2 c d = some (L', M') ∧ f L M L' M' = true := by
 unfold on4 at h
 split at h
 ·rename_i L M L' M' he he'; exact ⟨L, M, L', M', he, he', h⟩
 ·cases h
theorem on2_val {α : Type} {d : α} {a b : IV} {L : List L4} {M : Option (List L4)} (h : sh2 a b = some (L, M)) (f : List L4 → Option (List L4) → α) : on2 d a b f = f L M := by
 unfold on2; rw [h]
theorem on4_val {α : Type} {z : α} {a b c d : IV} {L L' : List L4} {M M' : Option (List L4)} (h : sh2 a b = some (L, M)) (h' : sh2 c d = some (L', M')) (f : List L4 → Option (List L4) → List L4 → Option (List L4) → α) : on4 z a b c d f = f L M L' M' := by
 unfold on4; rw [h, h']
theorem vs2_val {a b : IV} {L : List L4} {M : Option (List L4)} (h : sh2 a b = some (L, M)) : vs2 a b = L ++ lnO M := by
 unfold vs2; rw [h]
theorem f9x_ok : PureOk Tryz.prog 9 (K9x pz) := by
 refine f9_ok.weaken ?_
 intro args v cs h
 unfold K9x at h
 split at h
 ·rename_i a b
  cases h
  refine ⟨rfl, fun hc => ?_⟩
  obtain ⟨L, M, hs, hf⟩ := on2_some (hc _ (List.mem_singleton.2 rfl))
  simp only [Bool.and_eq_true] at hf
  refine ⟨[.agg [.c a, .c b]], slA (L ++ lnO M), [okS a b, rl L, allO rl M], SeesL.refl _, ?_, ?_, ?_⟩
  ·unfold K9; simp only [show shV (.agg [.c a, .c b]) = some (L, M) from hs]; rfl
  ·simp [hf]
  ·simp only [pz, vs2_val hs]
   exact Sees.refl _
 ·cases h
theorem f12x_ok : PureOk Tryz.prog 12 (K12x pz) := by
 refine f12_ok.weaken ?_
 intro args v cs h
 unfold K12x at h
 split at h
 ·rename_i a b c d t
  cases h
  refine ⟨rfl, fun hc => ?_⟩
  obtain ⟨L, M, L', M', hs, hs', hf⟩ := on4_some (hc _ (List.mem_singleton.2 rfl))
  simp only [Bool.and_eq_true] at hf
  refine ⟨_, boolA (eqRings (sameL (realV t)) L M L' M'), [realOk t, okS a b, okS c d, rb L, allO rb M, rb L', allO rb M', tbB (realV t)], SeesL.refl _, ?_, ?_, ?_⟩
  ·unfold K12; simp only [show shV (.agg [.c a, .c b]) = some (L, M) from hs, show shV (.agg [.c c, .c d]) = some (L', M') from hs']; rfl
  ·simp [hf]
  ·simp only [pz, on4_val hs hs']
   exact Sees.refl _
 ·cases h
theorem f13x_ok : PureOk Tryz.prog 13 (K13x pz) := by
 refine f13_ok.weaken ?_
 intro args v cs h
 unfold K13x at h
 split at h
 ·rename_i a b c d
  cases h
  refine ⟨rfl, fun hc => ?_⟩
  obtain ⟨L, M, L', M', hs, hs', hf⟩ := on4_some (hc _ (List.mem_singleton.2 rfl))
  simp only [Bool.and_eq_true] at hf
  refine ⟨_, boolA (eqRings eqL L M L' M'), [okS a b, okS c d, rl L, allO rl M, rl L', allO rl M'], SeesL.refl _, ?_, ?_, ?_⟩
  ·unfold K13; simp only [show shV (.agg [.c a, .c b]) = some (L, M) from hs, show shV (.agg [.c c, .c d]) = some (L', M') from hs']; rfl
  ·simp [hf]
  ·simp only [pz, on4_val hs hs']
   exact Sees.refl _
 ·cases h
theorem sh2_hole {a b : IV} {L : List L4} {M : Option (List L4)} (h : sh2 a b = some (L, M)) (he : Nat → List IV) (hm : ∀ X, M = some X → he = fun _ => [slI X]) : holY he b = holA M ∨ False := by
 unfold sh2 shV at h
 split at h
 ·rename_i hq
  simp only [AV.agg.injEq, List.cons.injEq, AV.c.injEq, and_true] at hq
  simp only [Option.some.injEq, Prod.mk.injEq] at h
  rw [← h.2, hq.2]
  exact .inl rfl
 ·rename_i hq
  simp only [AV.agg.injEq, List.cons.injEq, AV.c.injEq, and_true] at hq
  split at h
  ·simp only [Option.some.injEq, Prod.mk.injEq] at h
   rw [hm _ h.2.symm, ← h.2, hq.2]
   exact .inl rfl
  ·cases h
 ·cases h
theorem noPtr_holY (he : Nat → List IV) (b : IV) : Vse.noPtr (holY he b) = true := by cases b <;> rfl
theorem f14x_ok : PureOk Tryz.prog 14 (K14x pz) := by
 refine f14_ok.weaken ?_
 intro args v cs h
 unfold K14x at h
 split at h
 · rename_i a b t
   cases h
   refine ⟨?_, fun hc => ?_⟩
   · show (true && (Vse.noPtr (holY _ b) && true)) = true
     rw [noPtr_holY]; rfl
   · obtain ⟨L, M, hs, hf⟩ := on2_some (hc _ (List.mem_singleton.2 rfl))
     simp only [Bool.and_eq_true] at hf
     refine ⟨_, shA (L.map (redL (realV t))) (redS (realV t) M), [realOk t, okS a b, rb L, allO rb M, tbB (realV t)], SeesL.refl _, ?_, ?_, ?_⟩
     · unfold K14; simp only [show shV (.agg [.c a, .c b]) = some (L, M) from hs]; rfl
     · simp [hf]
     · simp only [pz, on2_val hs]
       have hh : holY (fun _ => [slI (lnO (redS (realV t) M))]) b = holA (redS (realV t) M) := by
         cases M with
         | none =>
           have := sh2_hole hs (fun _ => [slI (lnO (redS (realV t) none))]) (by intro X hX; cases hX)
           exact this.resolve_right id
         | some M =>
           unfold sh2 shV at hs
           split at hs
           · cases hs
           · rename_i hq
             simp only [AV.agg.injEq, List.cons.injEq, AV.c.injEq, and_true] at hq
             rw [hq.2]; rfl
           · cases hs
       rw [hh]
       exact Sees.refl _
 · cases h
theorem f15x_ok : PureOk Tryz.prog 15 (K15x pz) := by
 refine f15_ok.weaken ?_
 intro args v cs h
 unfold K15x at h
 split at h
 ·rename_i a b
  cases h
  refine ⟨rfl, fun hc => ?_⟩
  obtain ⟨L, M, hs, hf⟩ := on2_some (hc _ (List.mem_singleton.2 rfl))
  refine ⟨_, intA .i64 (bif rawB (.agg [.c a, .c b]) then 5 else chk L M), [rawB (.agg [.c a, .c b]) || (okS a b && (rb L && (allO rb M && holB M)))], SeesL.refl _, ?_, ?_, ?_⟩
  ·unfold K15; simp only [show shV (.agg [.c a, .c b]) = some (L, M) from hs]; rfl
  ·simp [hf]
  ·simp only [pz, on2_val hs]
   exact Sees.refl _
 ·cases h
end Go.Vse
set_option maxRecDepth 100000
set_option maxHeartbeats 4000000
namespace Go.Vse
open Go.Proofs
def nrm3 : Norm := { nt := 182, live := [7, 8, 9, 10, 11, 12, 13, 15] }
end Go.Vse
