/- Helpers for the proof: no statement of its own. -/
import Derived.Test.YtaidphfhmbpelaaGreatDoorLineB
set_option linter.unusedVariables false
set_option linter.unusedSimpArgs false
set_option linter.unnecessarySimpa false
set_option linter.deprecated false
set_option maxRecDepth 100000
namespace Go.Vse
open Go.Proofs
structure W50 where
 L : List L4
 R : List L4
 t : R3
 i : Int
def boxF : Ent := .cells [.fn 28 [.ptr 1 0]] 73
def head50 (x : W50) : List AV × List (Option Ent) := ([slA x.L, .ptr 0 0, .msl 2 x.R.length 16, intA .i64 (x.L.length : Nat), intA .i64 x.i], [some boxF, some (.cells (realCells x.t) 36), some (.arr x.R.length 16 (lineEl x.R) 47)])
def take50 : List AV × List (Option Ent) → Option (W50 × List Bool)
 | ([.c (.sl n 16 el), .ptr 0 0, .msl 2 m 16, .c (.v (.int .i64 nn)), .c (.v (.int .i64 i))], [some (.cells [.fn 28 [.ptr 1 0]] 73), some (.cells lt 36), some (.arr m' 16 er 47)]) =>
   some (⟨linesOf n el, linesOf m er, realV lt, i⟩, [linesOk n el, linesOk m er, realOk lt, decide (m = m'), decide (nn = (n : Int))])
 | _ => none
def lp50 (w : Way W50) : LoopSt W50 W50 where
 nIn := { nt := 22, live := [0, 1, 4, 7, 8], lifts := [(4, 16, 47)] }
 nOut := { nt := 22, live := [0, 1, 4, 7, 8], lifts := [(4, 16, 47)] }
 head := head50
 take := take50
 out := fun r => (.normal, head50 r)
 takeR := fun q => match q with | (.normal, q) => take50 q | _ => none
 res := w.res
 pre := w.pre
theorem take50_ok (q : List AV × List (Option Ent)) (x : W50) (cs : List Bool) (h : take50 q = some (x, cs)) (hc : ∀ p ∈ cs, p) : SeesL q.1 (head50 x).1 ∧ EntsEqv q.2 (head50 x).2 := by
 unfold take50 at h
 split at h
 · rename_i n el m nn i lt m' er
   simp only [Option.some.injEq, Prod.mk.injEq] at h
   obtain ⟨rfl, rfl⟩ := h
   have h1 : linesOk n el = true := hc (linesOk n el) (by simp)
   have h2 : linesOk m er = true := hc (linesOk m er) (by simp)
   have h3 : realOk lt = true := hc (realOk lt) (by simp)
   have h4 : m = m' := dec (hc (decide (m = m')) (by simp))
   have h5 : nn = (n : Int) := dec (hc (decide (nn = (n : Int))) (by simp))
   subst h4
   subst h5
   have e3 := realOk_eq h3
   simp only [head50, slA, linesOf_len]
   refine ⟨.cons (Sees.sl (linesOk_el h1)) (SeesL.refl _), .cons (.refl _) (.cons ?_ (.cons (.arr _ _ _ _ _ (linesOk_el h2)) .nil))⟩
   rw [← e3]
   exact .refl _
 · cases h
theorem lp50_good (w : Way W50) : (lp50 w).Good2 where
 take := take50_ok
 takeR := by
   intro e q r cs h hc
   cases e with
   | normal => obtain ⟨h1, h2⟩ := take50_ok q r cs h hc; exact ⟨rfl, h1, h2⟩
   | exit j => cases h
   | ret => cases h
 split := fun r Q h => h
def way50 : Way W50 := ⟨fun x => ⟨x.L, x.R ++ (x.L.drop x.i.toNat).map (redL x.t), x.t, (x.L.length : Nat)⟩,
 fun x => decide (0 ≤ x.i) && decide (x.i ≤ (x.L.length : Nat)) && decide (x.L.length ≤ 1000) && decide (x.R.length ≤ 1000) && x.L.all lbB && tbB x.t⟩
def L50 : Nat → Option (St → Tr (Ex × St)) := fun id => bif Nat.beq id 0 then some ((lp50 way50).g 2) else none
def Γ50 : FuncId → Option Spec := fun f => bif Nat.beq f 28 then some (memSpec K28) else none
theorem Γ50_ok : ∀ f s, Γ50 f = some s → SpecOk Tryz.prog f s := one_ok f28_ok.spec
def step50 (L : List L4) (R : List L4) (t : R3) (i : Int) : Tr (W50 ⊕ W50) :=
 let x1 : Int := ↑L.length
 let x2 : List AV := [.c (.v (.bool (decide (t.p.num < 0)))), .c (.v (.string ⟨⟨magB t.p.num.natAbs⟩⟩)), .c (.v (.bool false)), .c (.v (.string ⟨⟨denB t.p.den⟩⟩)), .c (.v (.bool (decide (t.r.num < 0)))), .c (.v (.string ⟨⟨magB t.r.num.natAbs⟩⟩)), .c (.v (.bool false)), .c (.v (.string ⟨⟨denB t.r.den⟩⟩)), .c (.v (.bool t.neg))]
 let x3 : Int := (L.getD i.toNat l40).x0.num
 let x4 : Int := (L.getD i.toNat l40).x1.num
 let x5 : Int := (L.getD i.toNat l40).y0.num
 let x6 : Int := (L.getD i.toNat l40).y1.num
 let x7 : List AV := [.c (.v (.bool (decide (x3 < 0)))), .c (.v (.string ⟨⟨magB x3.natAbs⟩⟩)), .c (.v (.bool false)), .c (.v (.string ⟨⟨denB (L.getD i.toNat l40).x0.den⟩⟩)), .c (.v (.bool (decide (x4 < 0)))), .c (.v (.string ⟨⟨magB x4.natAbs⟩⟩)), .c (.v (.bool false)), .c (.v (.string ⟨⟨denB (L.getD i.toNat l40).x1.den⟩⟩)), .c (.v (.bool (decide (x5 < 0)))), .c (.v (.string ⟨⟨magB x5.natAbs⟩⟩)), .c (.v (.bool false)), .c (.v (.string ⟨⟨denB (L.getD i.toNat l40).y0.den⟩⟩)), .c (.v (.bool (decide (x6 < 0)))), .c (.v (.string ⟨⟨magB x6.natAbs⟩⟩)), .c (.v (.bool false)), .c (.v (.string ⟨⟨denB (L.getD i.toNat l40).y1.den⟩⟩))]
 let x8 : Nat := R.length + 1
 let x9 : Nat := x8 * 192
 let x10 : Nat := 15 + 1
 let x11 : Int := (hold (red1 (yQ (lineV x7)) (realV x2))).num
 let x12 : Int := (hold (red0 (yQ (lineV x7)) (realV x2))).num
 let x13 : Int := (hold (red1 (xQ (lineV x7)) (realV x2))).num
 let x14 : Int := (hold (red0 (xQ (lineV x7)) (realV x2))).num
 let x15 : List L4 := linesOf L.length (lineEl L)
 .ite (decide (i < x1)) (.need (decide (0 ≤ i ∧ i < x1)) (.need (realOk x2) (.need (lineOk x7) (.need (lbB (lineV x7)) (.need (tbB (realV x2)) (.need (decide (R.length ≤ R.length)) (.need true (.need (decide (x8 ≤ 9223372036854775807)) (.need (decide (x9 ≤ 140737488355328)) (.need (linesOk L.length (lineEl L)) (.need (linesOk x8 (joinE R.length (lineEl R) fun k => List.take x10 (List.drop (k * x10) [IV.v (Value.string ⟨⟨denB (hold (red1 (yQ (lineV x7)) (realV x2))).den⟩⟩), IV.v (Value.bool false), IV.v (Value.string ⟨⟨magB x11.natAbs⟩⟩), IV.v (Value.bool (decide (x11 < 0))), IV.v (Value.string ⟨⟨denB (hold (red0 (yQ (lineV x7)) (realV x2))).den⟩⟩), IV.v (Value.bool false), IV.v (Value.string ⟨⟨magB x12.natAbs⟩⟩), IV.v (Value.bool (decide (x12 < 0))), IV.v (Value.string ⟨⟨denB (hold (red1 (xQ (lineV x7)) (realV x2))).den⟩⟩), IV.v (Value.bool false), IV.v (Value.string ⟨⟨magB x13.natAbs⟩⟩), IV.v (Value.bool (decide (x13 < 0))), IV.v (Value.string ⟨⟨denB (hold (red0 (xQ (lineV x7)) (realV x2))).den⟩⟩), IV.v (Value.bool false), IV.v (Value.string ⟨⟨magB x14.natAbs⟩⟩), IV.v (Value.bool (decide (x14 < 0)))].reverse))) (.need (realOk x2) (.need (decide (x8 = x8)) (.need (decide (x1 = x1)) (.ret (Sum.inl { L := x15, R := linesOf x8 (joinE R.length (lineEl R) fun k => List.take x10 (List.drop (k * x10) [IV.v (Value.string ⟨⟨denB (hold (red1 (yQ (lineV x7)) (realV x2))).den⟩⟩), IV.v (Value.bool false), IV.v (Value.string ⟨⟨magB x11.natAbs⟩⟩), IV.v (Value.bool (decide (x11 < 0))), IV.v (Value.string ⟨⟨denB (hold (red0 (yQ (lineV x7)) (realV x2))).den⟩⟩), IV.v (Value.bool false), IV.v (Value.string ⟨⟨magB x12.natAbs⟩⟩), IV.v (Value.bool (decide (x12 < 0))), IV.v (Value.string ⟨⟨denB (hold (red1 (xQ (lineV x7)) (realV x2))).den⟩⟩), IV.v (Value.bool false), IV.v (Value.string ⟨⟨magB x13.natAbs⟩⟩), IV.v (Value.bool (decide (x13 < 0))), IV.v (Value.string ⟨⟨denB (hold (red0 (xQ (lineV x7)) (realV x2))).den⟩⟩), IV.v (Value.bool false), IV.v (Value.string ⟨⟨magB x14.natAbs⟩⟩), IV.v (Value.bool (decide (x14 < 0)))].reverse)), t := realV x2, i := IntKind.i64.wrap (i + 1) })))))))))))))))) (.need (linesOk L.length (lineEl L)) (.need (linesOk R.length (lineEl R)) (.need (realOk x2) (.need (decide (R.length = R.length)) (.need (decide (x1 = x1)) (.ret (Sum.inr { L := x15, R := linesOf R.length (lineEl R), t := realV x2, i := i })))))))
def M50 (L : List L4) (t : R3) : Tr MemOut :=
 let x1 : List AV := [.c (.v (.bool t.neg))]
 let x2 : List AV := .c (.v (.bool (decide (t.p.num < 0)))) :: .c (.v (.string ⟨⟨magB t.p.num.natAbs⟩⟩)) :: .c (.v (.bool false)) :: .c (.v (.string ⟨⟨denB t.p.den⟩⟩)) :: .c (.v (.bool (decide (t.r.num < 0)))) :: .c (.v (.string ⟨⟨magB t.r.num.natAbs⟩⟩)) :: .c (.v (.bool false)) :: .c (.v (.string ⟨⟨denB t.r.den⟩⟩)) :: x1
 let x3 : Int := ↑L.length
 let x4 : List L4 := linesOf L.length (lineEl L)
 let x5 : Nat := x4.length
 let x6 : Int := ↑x5
 let x7 : List L4 := linesOf 0 fun x => []
 let x8 : Nat := x7.length
 let x9 : List L4 := x7 ++ List.map (redL (realV x2)) (List.drop (Int.toNat 0) x4)
 let x10 : Nat := x9.length
 let x11 : Int := (ratV [.c (.v (.bool (decide (t.p.num < 0)))), .c (.v (.string ⟨⟨magB t.p.num.natAbs⟩⟩)), .c (.v (.bool false)), .c (.v (.string ⟨⟨denB t.p.den⟩⟩))]).num
 let x12 : Int := (ratV [.c (.v (.bool (decide (t.r.num < 0)))), .c (.v (.string ⟨⟨magB t.r.num.natAbs⟩⟩)), .c (.v (.bool false)), .c (.v (.string ⟨⟨denB t.r.den⟩⟩))]).num
 .need (linesOk L.length (lineEl L)) (.need true (.need (realOk x2) (.need true (.need (decide (x3 = x3)) (.need (decide ((0 : Int) ≤ 0) && decide (0 ≤ x6) && decide (x5 ≤ 1000) && decide (x8 ≤ 1000) && x4.all lbB && tbB (realV x2)) (.need (decide (x10 ≤ x10)) (.ret { val := AV.c (IV.sl x10 16 (lineEl x9)), outs := [some (Ent.cells [AV.fn 28 [AV.ptr 1 0]] 73), some (Ent.cells [.c (.v (.bool (decide (x11 < 0)))), .c (.v (.string ⟨⟨magB x11.natAbs⟩⟩)), .c (.v (.bool false)), .c (.v (.string { data := { toList := denB (ratV [.c (.v (.bool (decide (t.p.num < 0)))), .c (.v (.string ⟨⟨magB t.p.num.natAbs⟩⟩)), .c (.v (.bool false)), .c (.v (.string ⟨⟨denB t.p.den⟩⟩))]).den } })), .c (.v (.bool (decide (x12 < 0)))), .c (.v (.string ⟨⟨magB x12.natAbs⟩⟩)), .c (.v (.bool false)), .c (.v (.string { data := { toList := denB (ratV [.c (.v (.bool (decide (t.r.num < 0)))), .c (.v (.string ⟨⟨magB t.r.num.natAbs⟩⟩)), .c (.v (.bool false)), .c (.v (.string ⟨⟨denB t.r.den⟩⟩))]).den } })), .c (.v (.bool (boolV x1)))] 36)] })))))))
theorem step50_eq (w : Way W50) (x : W50) : (exec Tryz.prog Γ50 noL 1010 (loopOf 0 (codeOf Tryz.f50)) (mkSt (lp50 w).nIn ((lp50 w).head x))).bind ((lp50 w).fin 2 0) = step50 x.L x.R x.t x.i := by
 obtain ⟨L, R, t, i⟩ := x
 kernel_rfl
theorem M50_eq (L : List L4) (t : R3) : execM Tryz.prog Γ50 L50 1010 true Tryz.f50 [some boxF, some (.cells (realCells t) 36)] [slA L, .ptr 0 0] = M50 L t := by kernel_rfl
theorem lineOk_iv (x : L4) : lineOk ((lineIV x).map AV.c) = true := lineOk_cells x
theorem linesOf_join (R : List L4) (el' : Nat → List IV) (x : L4) (h : el' 0 = lineIV x) : linesOf (R.length + 1) (joinE R.length (lineEl R) el') = R ++ [x] ∧ linesOk (R.length + 1) (joinE R.length (lineEl R) el') = true := by
 constructor
 · unfold linesOf
   rw [List.range_succ, List.map_append, List.map_singleton]
   congr 1
   · refine Eq.trans ?_ (linesOf_el R)
     unfold linesOf
     apply List.map_congr_left
     intro k hk
     have hk := List.mem_range.1 hk
     unfold joinE
     rw [if_pos hk]
   · unfold joinE
     rw [if_neg (Nat.lt_irrefl _), Nat.sub_self, h, lineL_iv]
 · refine List.all_eq_true.2 fun k hk => ?_
   unfold joinE
   split
   · exact lineOk_iv _
   · have hk := List.mem_range.1 hk
     have : k - R.length = 0 := by omega
     rw [this, h]
     exact lineOk_iv _
theorem step50_in (L R : List L4) (t : R3) (i : Nat) (h1 : i < L.length) (hl : L.length ≤ 1000) (hr : R.length + L.length ≤ 2000 + i) (hL : L.all lbB = true) (ht : tbB t = true) (Q : W50 ⊕ W50 → Prop)
   (hgo : Q (.inl ⟨L, R ++ [redL t L[i]], t, ((i + 1 : Nat) : Int)⟩)) : (step50 L R t (i : Nat)).sat Q := by
 have g1 := getD_get h1
 have b1 := all_get hL h1
 have hw : IntKind.i64.wrap ((i : Int) + 1) = ((i + 1 : Nat) : Int) := by rw [wrap_i64 (by omega)]; omega
 have c1 : decide ((0 : Int) ≤ (i : Int) ∧ (i : Int) < (L.length : Int)) = true := decide_eq_true (by omega)
 have c2 : decide (R.length + 1 ≤ 9223372036854775807) = true := decide_eq_true (by omega)
 have c3 : decide ((R.length + 1) * 192 ≤ 140737488355328) = true := decide_eq_true (by omega)
 have c4 : decide (R.length ≤ R.length) = true := decide_eq_true (Nat.le_refl _)
 simp only [step50, ratV_lit, ratOk_lit, quadV_lit, quadOk_lit, realV_lit, realOk_lit, lineV_lit, lineOk_lit, boolV_lit, List.take_succ_cons, List.take_zero, List.drop_succ_cons, List.drop_zero, Bool.and_self, l4_eta, r3_eta, linesOf_el, linesOk_lines, sat_true, hold_eq, Int.toNat_natCast, g1, b1, ht, hw, c1, c2, c3, c4]
 refine sat_ite (fun _ => ?_) (fun h => absurd (show (i : Int) < (L.length : Int) by omega) (of_decide_eq_false h))
 simp only [sat_true]
 rw [(linesOf_join R _ (redL t L[i]) rfl).1, (linesOf_join R _ (redL t L[i]) rfl).2]
 simp only [sat_true]
 exact sat_need (by simp) (sat_need (by simp) (sat_ret hgo))
theorem step50_end (L R : List L4) (t : R3) (Q : W50 ⊕ W50 → Prop) (hq : Q (.inr ⟨L, R, t, (L.length : Nat)⟩)) : (step50 L R t (L.length : Nat)).sat Q := by
 simp only [step50, ratV_lit, ratOk_lit, quadV_lit, quadOk_lit, realV_lit, realOk_lit, lineV_lit, lineOk_lit, boolV_lit, List.take_succ_cons, List.take_zero, List.drop_succ_cons, List.drop_zero, Bool.and_self, l4_eta, r3_eta, linesOf_el, linesOk_lines, sat_true]
 refine sat_ite (fun h => absurd (of_decide_eq_true h) (Int.lt_irrefl _)) (fun _ => ?_)
 simp only [sat_true]
 exact sat_need (by simp) (sat_need (by simp) (sat_ret hq))
theorem runs50 (L : List L4) (t : R3) (hl : L.length ≤ 1000) (hL : L.all lbB = true) (ht : tbB t = true) (Q : W50 → Prop) :
   ∀ (k i : Nat) (R : List L4), i + k = L.length → R.length ≤ 1000 + i → Q ⟨L, R ++ (L.drop i).map (redL t), t, (L.length : Nat)⟩ → RunsX (fun x : W50 => step50 x.L x.R x.t x.i) Q (k + 1) ⟨L, R, t, (i : Nat)⟩
 | 0, i, R, hi, hR, hq => by
   obtain rfl : i = L.length := by omega
   rw [List.drop_length, List.map_nil, List.append_nil] at hq
   exact step50_end L R t _ hq
 | k + 1, i, R, hi, hR, hq => by
   have h1 : i < L.length := by omega
   have d1 : L.drop i = L[i] :: L.drop (i + 1) := List.drop_eq_getElem_cons h1
   have ih := runs50 L t hl hL ht Q k (i + 1) (R ++ [redL t L[i]]) (by omega) (by simp; omega) (by
     rw [d1, List.map_cons] at hq
     rw [List.append_assoc]
     exact hq)
   exact step50_in L R t i h1 hl (by omega) hL ht _ ih
theorem f50_loops : BlocksOk Tryz.prog 2 L50 (codeOf Tryz.f50) := by
 refine blocksOk_of (d := fun id => Nat.beq id 0) (fun id => by unfold L50; cases Nat.beq id 0 <;> rfl) _ ?_
 have hb : blocksOf (fun id => Nat.beq id 0) (codeOf Tryz.f50) = [(0, .loop (loopOf 0 (codeOf Tryz.f50)))] := by kernel_rfl
 rw [hb]
 intro p hp g hg
 simp only [List.mem_singleton] at hp
 subst hp
 have hh : L50 0 = some ((lp50 way50).g 2) := rfl
 rw [hh] at hg
 obtain rfl : g = (lp50 way50).g 2 := (Option.some.inj hg).symm
 refine LoopSt.ok2 (N := 1010) prog_mixed Γ50_ok (L := noL) (blocksOk_none 2 _) (lp50_good _) (step50_eq way50) ?_
 rintro ⟨L, R, t, i⟩ hx
 have hx : way50.pre ⟨L, R, t, i⟩ = true := hx
 simp only [way50, Bool.and_eq_true, decide_eq_true_eq] at hx
 obtain ⟨⟨⟨⟨⟨h1, h2⟩, h3⟩, h4⟩, h5⟩, h6⟩ := hx
 obtain ⟨i, rfl⟩ : ∃ m : Nat, i = m := ⟨i.toNat, by omega⟩
 exact ⟨_, runs50 L t h3 h5 h6 (· = way50.res ⟨L, R, t, i⟩) (L.length - i) i R (by omega) (by omega) (by simp [way50])⟩
theorem M50_sat (L : List L4) (t : R3) (hl : L.length ≤ 1000) (hL : L.all lbB = true) (ht : tbB t = true) :
   (M50 L t).sat fun o => o = { val := slA (L.map (redL t)), outs := [some boxF, some (.cells (realCells t) 36)] } := by
 have d0 : ∀ X : List L4, List.drop (Int.toNat 0) X = X := fun X => rfl
 have e0 : linesOf 0 (fun _ => []) = [] := rfl
 simp only [M50, ratV_lit, ratOk_lit, quadV_lit, quadOk_lit, realV_lit, realOk_lit, lineV_lit, lineOk_lit, boolV_lit, List.take_succ_cons, List.take_zero, List.drop_succ_cons, List.drop_zero, Bool.and_self, l4_eta, r3_eta, linesOf_el, linesOk_lines, sat_true, hL, ht, d0, e0, List.nil_append, List.length_nil]
 refine sat_need (by simp) (sat_need ?_ (sat_need (by simp) (sat_ret rfl)))
 simp [hl]
def K50 : MSpec
 | [some (.cells [.fn 28 [.ptr 1 0]] 73), some (.cells t 36)], [.c (.sl n 16 el), .ptr 0 0] => some { val := slA ((linesOf n el).map (redL (realV t))), outs := [some (.cells [.fn 28 [.ptr 1 0]] 73), some (.cells t 36)], conds := [realOk t, linesOk n el, (linesOf n el).all lbB, tbB (realV t), decide (n ≤ 1000)] }
 | _, _ => none
theorem f50_ok : MemOk Tryz.prog 50 K50 := by
 refine memOk_of_exec_c (L := fun _ => L50) prog_mixed Γ50_ok (fn := Tryz.f50) (c := codeOf Tryz.f50) (by kernel_rfl) (by kernel_rfl) (callFunc_enter (fn := Tryz.f50) (c := codeOf Tryz.f50) (by kernel_rfl) (by kernel_rfl) (by kernel_rfl)) (N := 1010) (frz := true) ?_ ?_
 · intro ents args o h
   unfold K50 at h
   split at h
   · exact f50_loops
   · cases h
 · intro ents args o h hc
   unfold K50 at h
   split at h
   · rename_i t n el
     cases h
     have h0 : realOk t = true := hc (realOk t) (by simp)
     have h1 : linesOk n el = true := hc (linesOk n el) (by simp)
     have h3 : (linesOf n el).all lbB = true := hc ((linesOf n el).all lbB) (by simp)
     have h5 : tbB (realV t) = true := hc (tbB (realV t)) (by simp)
     have h6 : n ≤ 1000 := dec (hc (decide (n ≤ 1000)) (by simp))
     obtain ⟨t, rfl⟩ : ∃ x, t = realCells x := ⟨_, realOk_eq h0⟩
     have e1 := linesOk_el h1
     have l1 := linesOf_len n el
     simp only [realV_cells] at *
     generalize linesOf n el = L at *
     subst l1
     refine ⟨[some boxF, some (.cells (realCells t) 36)], [slA L, .ptr 0 0], EntsEqv.refl _, .cons (Sees.sl e1) (SeesL.refl _), ?_⟩
     have hs := M50_sat L t h6 h3 h5
     rw [← M50_eq] at hs
     generalize execM Tryz.prog Γ50 L50 1010 true Tryz.f50 [some boxF, some (.cells (realCells t) 36)] [slA L, .ptr 0 0] = T at hs ⊢
     generalize L.map (redL t) = z at hs
     exact Tr.sat_mono (fun r hr => by subst hr; exact ⟨Sees.refl _, EntsEqv.refl _⟩) hs
   · cases h
end Go.Vse
set_option maxRecDepth 100000
namespace Go.Vse
open Go.Proofs
def ISees (x y : IV) : Prop := ∀ (A : Nat → Prop) (w : World) (u : Value), IRel A w x u → IRel A w y u
theorem ISees.refl (x : IV) : ISees x x := fun _ _ _ h => h
theorem ISees.sl {n sz : Nat} {el el' : Nat → List IV} (h : ∀ k, k < n → el k = el' k) : ISees (.sl n sz el) (.sl n sz el') := by
 intro A w u hi
 cases hi with
 | nil => exact .nil _ _
 | sl _ _ _ b off cap h1 h2 h3 h4 h5 h6 => exact .sl n sz el' b off cap h1 h2 h3 (fun k hk => h k hk ▸ h4 k hk) h5 fun k j hk hj => by rw [← h k hk]; exact h6 k j hk hj
theorem Sees.slI {n sz : Nat} {el el' : Nat → List IV} (hl : ∀ k, k < n → (el k).length = (el' k).length) (h : ∀ k j, k < n → ISees ((el k).getD j (.v undef)) ((el' k).getD j (.v undef))) : Sees (.c (.sl n sz el)) (.c (.sl n sz el')) := by
 intro A B w u hu
 cases hu with
 | c _ _ hi =>
   cases hi with
   | nil => exact .c _ _ (.nil _ _)
   | sl _ _ _ b off cap h1 h2 h3 h4 h5 h6 =>
     exact .c _ _ (.sl n sz el' b off cap h1 h2 h3 (fun k hk => by rw [← hl k hk]; exact h4 k hk) h5 fun k j hk hj => h k j hk _ _ _ (h6 k j hk hj))
def slI (L : List L4) : IV := .sl L.length 16 (lineEl L)
def nilA : AV := .c (.v (.slice none 0 0))
def holA : Option (List L4) → AV
 | none => nilA
 | some M => .c (.sl 1 1 fun _ => [slI M])
def shA (L : List L4) (M : Option (List L4)) : AV := .agg [slA L, holA M]
def shV : AV → Option (List L4 × Option (List L4))
 | .agg [.c (.sl n 16 el), .c (.v (.slice none 0 0))] => some (linesOf n el, none)
 | .agg [.c (.sl n 16 el), .c (.sl 1 1 e2)] => match e2 0 with
   | [.sl m 16 e'] => some (linesOf n el, some (linesOf m e'))
   | _ => none
 | _ => none
def shOk : AV → Bool
 | .agg [.c (.sl n 16 el), .c (.v (.slice none 0 0))] => linesOk n el
 | .agg [.c (.sl n 16 el), .c (.sl 1 1 e2)] => match e2 0 with
   | [.sl m 16 e'] => linesOk n el && linesOk m e'
   | _ => false
 | _ => false
theorem sees_slA {n : Nat} {el : Nat → List IV} (h : linesOk n el = true) : Sees (.c (.sl n 16 el)) (slA (linesOf n el)) := by
 unfold slA
 rw [linesOf_len]
 exact Sees.sl (linesOk_el h)
theorem isees_slI {n : Nat} {el : Nat → List IV} (h : linesOk n el = true) : ISees (.sl n 16 el) (slI (linesOf n el)) := by
 unfold slI
 rw [linesOf_len]
 exact ISees.sl (linesOk_el h)
theorem sees_ring1 {e2 : Nat → List IV} {m : Nat} {e' : Nat → List IV} (h0 : e2 0 = [.sl m 16 e']) (h : linesOk m e' = true) : Sees (.c (.sl 1 1 e2)) (.c (.sl 1 1 fun _ => [slI (linesOf m e')])) := by
 refine Sees.slI (fun k hk => ?_) (fun k j hk => ?_)
 · obtain rfl : k = 0 := by omega
   rw [h0]; rfl
 · obtain rfl : k = 0 := by omega
   rw [h0]
   cases j with
   | zero => exact isees_slI h
   | succ j => exact ISees.refl _
theorem shV_sees {s : AV} {L : List L4} {M : Option (List L4)} (h : shV s = some (L, M)) (k : shOk s = true) : Sees s (shA L M) := by
 unfold shV at h
 split at h
 · rename_i n el
   simp only [Option.some.injEq, Prod.mk.injEq] at h
   obtain ⟨rfl, rfl⟩ := h
   exact Sees.agg (.cons (sees_slA k) (SeesL.refl _))
 · rename_i n el e2
   split at h
   · rename_i m e' h0
     simp only [Option.some.injEq, Prod.mk.injEq] at h
     obtain ⟨rfl, rfl⟩ := h
     simp only [shOk, h0, Bool.and_eq_true] at k
     exact Sees.agg (.cons (sees_slA k.1) (.cons (sees_ring1 h0 k.2) .nil))
   · cases h
 · cases h
def ringsA (L : List L4) : Option (List L4) → AV
 | none => .c (.sl 1 1 fun _ => [slI L])
 | some M => .c (.sl 2 1 fun k => bif Nat.beq k 0 then [slI L] else [slI M])
def rgV : AV → Option (List L4 × Option (List L4))
 | .c (.sl 1 1 el) => match el 0 with
   | [.sl n 16 e] => some (linesOf n e, none)
   | _ => none
 | .c (.sl 2 1 el) => match el 0, el 1 with
   | [.sl n 16 e], [.sl m 16 e'] => some (linesOf n e, some (linesOf m e'))
   | _, _ => none
 | _ => none
def rgOk : AV → Bool
 | .c (.sl 1 1 el) => match el 0 with
   | [.sl n 16 e] => linesOk n e
   | _ => false
 | .c (.sl 2 1 el) => match el 0, el 1 with
   | [.sl n 16 e], [.sl m 16 e'] => linesOk n e && linesOk m e'
   | _, _ => false
 | _ => false
theorem rgV_sees {s : AV} {L : List L4} {M : Option (List L4)} (h : rgV s = some (L, M)) (k : rgOk s = true) : Sees s (ringsA L M) := by
 unfold rgV at h
 split at h
 · rename_i el
   split at h
   · rename_i n e h0
     simp only [Option.some.injEq, Prod.mk.injEq] at h
     obtain ⟨rfl, rfl⟩ := h
     simp only [rgOk, h0] at k
     exact sees_ring1 h0 k
   · cases h
 · rename_i el
   split at h
   · rename_i n e m e' h0 h1
     simp only [Option.some.injEq, Prod.mk.injEq] at h
     obtain ⟨rfl, rfl⟩ := h
     simp only [rgOk, h0, h1, Bool.and_eq_true] at k
     refine Sees.slI (fun i hi => ?_) (fun i j hi => ?_)
     · rcases i with _ | _ | i
       · rw [h0]; rfl
       · rw [h1]; rfl
       · omega
     · rcases i with _ | _ | i
       · rw [h0]
         cases j with
         | zero => exact isees_slI k.1
         | succ j => exact ISees.refl _
       · rw [h1]
         cases j with
         | zero => exact isees_slI k.2
         | succ j => exact ISees.refl _
       · omega
   · cases h
 · cases h
def eqRings (f : L4 → L4 → Bool) (L : List L4) (M : Option (List L4)) (L' : List L4) (M' : Option (List L4)) : Bool :=
 match M, M' with
 | none, none => eqLines f L L'
 | some M, some M' => eqLines f L L' && eqLines f M M'
 | _, _ => false
def allO (p : List L4 → Bool) : Option (List L4) → Bool
 | none => true
 | some M => p M
def rb (L : List L4) : Bool := L.all lbB && decide (L.length ≤ 1000)
def rl (L : List L4) : Bool := decide (L.length ≤ 1000)
def K46s : MSpec
 | [some (.cells [.fn 24 [.ptr 1 0]] 70), some (.cells t 36)], [.c (.sl n 16 el), .c (.sl m 16 el'), .ptr 0 0] => some { val := boolA (eqLines (sameL (realV t)) (linesOf n el) (linesOf m el')), outs := [some (.cells [.fn 24 [.ptr 1 0]] 70), some (.cells t 36)], conds := [realOk t, linesOk n el, linesOk m el', (linesOf n el).all lbB, (linesOf m el').all lbB, tbB (realV t), decide (n ≤ 1000)] }
 | _, _ => none
def K46e : MSpec
 | [some (.cells [.c (.v (.func (.func 26) ⟨[.agg ⟨[]⟩]⟩ ⟨[]⟩))] 70)], [.c (.sl n 16 el), .c (.sl m 16 el'), .ptr 0 0] => some { val := boolA (eqLines eqL (linesOf n el) (linesOf m el')), outs := [some (.cells [fnE] 70)], conds := [linesOk n el, linesOk m el', decide (n ≤ 1000)] }
 | _, _ => none
def K31 : List AV → Option (AV × List Bool)
 | [s] => match shV s with
   | some (L, M) => some (ringsA L M, [shOk s])
   | none => none
 | _ => none
end Go.Vse
