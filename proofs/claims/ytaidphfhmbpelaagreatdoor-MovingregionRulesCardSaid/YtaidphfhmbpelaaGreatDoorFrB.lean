/- Helpers for the proof: no statement of its own. -/
import Derived.Test.YtaidphfhmbpelaaGreatDoorFrA
set_option linter.unusedVariables false
set_option linter.unusedSimpArgs false
set_option linter.unnecessarySimpa false
set_option linter.deprecated false
set_option maxRecDepth 100000
namespace Go.Vse
open Go.Proofs
def K34 : List AV → Option (AV × List Bool)
 | [.agg [], .agg l] => some (intA .i64 0, [lineOk l, lbB (lineV l)])
 | _ => none
def K32 : List AV → Option (AV × List Bool)
 | [.c (.sl n 16 el)] => some (boolA (decide ((n : Int) > 12)), [])
 | _ => none
def fn32 : AV := .c (.v (.func (.func 32) #[] #[]))
def bigO : Option (List L4) → Bool
 | none => false
 | some M => decide ((M.length : Int) > 12)
def idx52 (L : List L4) (M : Option (List L4)) : Int := bif decide ((L.length : Int) > 12) then 0 else bif bigO M then 1 else -1
def K52 : List AV → Option (AV × List Bool)
 | [a, .c (.v (.func (.func 32) ⟨[]⟩ ⟨[]⟩))] => match rgV a with
   | some (L, M) => some (intA .i64 (idx52 L M), [rgOk a])
   | none => none
 | _ => none
def K30 : List AV → Option (AV × List Bool)
 | [a, .c (.v (.func (.func 32) ⟨[]⟩ ⟨[]⟩))] => match rgV a with
   | some (L, M) => some (boolA (decide (idx52 L M ≥ 0)), [rgOk a])
   | none => none
 | _ => none
def zL : List IV := [.v (.bool false), .v (.string ⟨⟨[]⟩⟩), .v (.bool false), .v (.string ⟨⟨[]⟩⟩), .v (.bool false), .v (.string ⟨⟨[]⟩⟩), .v (.bool false), .v (.string ⟨⟨[]⟩⟩), .v (.bool false), .v (.string ⟨⟨[]⟩⟩), .v (.bool false), .v (.string ⟨⟨[]⟩⟩), .v (.bool false), .v (.string ⟨⟨[]⟩⟩), .v (.bool false), .v (.string ⟨⟨[]⟩⟩)]
def K53p : MSpec
 | [], [.c (.v (.slice none 0 0)), .c (.v (.int .i64 n))] => some { val := .msl 0 0 16, outs := [], new := some (.arr n.toNat 16 (fun _ => zL) 47), conds := [decide (0 < n), decide (n ≤ 10000)] }
 | _, _ => none
def K53z : List AV → Option (AV × List Bool)
 | [.c (.v (.slice none 0 0)), .c (.v (.int .i64 n))] => some (.c (.v (.slice none 0 0)), [decide (n = 0)])
 | _ => none
def K33p : List AV → Option (AV × List Bool)
 | [a] => match rgV a with
   | some (L, M) => some (slA (L ++ lnO M), [rgOk a, rl L, allO rl M, decide (0 < L.length + (lnO M).length)])
   | none => none
 | _ => none
def K33z : List AV → Option (AV × List Bool)
 | [a] => match rgV a with
   | some ([], none) => some (slA [], [rgOk a])
   | _ => none
 | _ => none
def holB : Option (List L4) → Bool
 | none => true
 | some M => decide (0 < M.length)
def K33 : List AV → Option (AV × List Bool)
 | [a] => match rgV a with
   | some (L, M) => some (slA (L ++ lnO M), [rgOk a, rl L, allO rl M, holB M])
   | none => none
 | _ => none
structure W15 where
 L : List L4
 i : Int
def head15 (x : W15) : List AV × List (Option Ent) := ([slA x.L, intA .i64 (x.L.length : Nat), intA .i64 x.i], [])
def take15 : List AV × List (Option Ent) → Option (W15 × List Bool)
 | ([.c (.sl n 16 el), .c (.v (.int .i64 nn)), .c (.v (.int .i64 i))], []) =>
   some (⟨linesOf n el, i⟩, [linesOk n el, decide (nn = (n : Int))])
 | _ => none
def lp15 (w : Way W15) : LoopSt W15 W15 where
 nIn := { nt := 29, live := [18, 19, 20] }
 nOut := { nt := 29, live := [18, 19, 20] }
 head := head15
 take := take15
 out := fun r => (.normal, head15 r)
 takeR := fun q => match q with | (.normal, q) => take15 q | _ => none
 res := w.res
 pre := w.pre
theorem take15_ok (q : List AV × List (Option Ent)) (x : W15) (cs : List Bool) (h : take15 q = some (x, cs)) (hc : ∀ p ∈ cs, p) : SeesL q.1 (head15 x).1 ∧ EntsEqv q.2 (head15 x).2 := by
 unfold take15 at h
 split at h
 · rename_i n el nn i
   simp only [Option.some.injEq, Prod.mk.injEq] at h
   obtain ⟨rfl, rfl⟩ := h
   have h1 : linesOk n el = true := hc (linesOk n el) (by simp)
   have h5 : nn = (n : Int) := dec (hc (decide (nn = (n : Int))) (by simp))
   subst h5
   simp only [head15, slA, linesOf_len]
   exact ⟨.cons (Sees.sl (linesOk_el h1)) (SeesL.refl _), .nil⟩
 · cases h
theorem lp15_good (w : Way W15) : (lp15 w).Good2 where
 take := take15_ok
 takeR := by
   intro e q r cs h hc
   cases e with
   | normal => obtain ⟨h1, h2⟩ := take15_ok q r cs h hc; exact ⟨rfl, h1, h2⟩
   | exit j => cases h
   | ret => cases h
 split := fun r Q h => h
def way15 : Way W15 := ⟨fun x => ⟨x.L, (x.L.length : Nat)⟩,
 fun x => decide (0 ≤ x.i) && decide (x.i ≤ (x.L.length : Nat)) && decide (x.L.length ≤ 2000) && x.L.all lbB⟩
def L15 : Nat → Option (St → Tr (Ex × St)) := fun id => bif Nat.beq id 0 then some ((lp15 way15).g 0) else none
def Γ34 : FuncId → Option Spec := fun f => bif Nat.beq f 54 then some (pureSpec K54) else none
def Γ52 : FuncId → Option Spec := fun f => bif Nat.beq f 32 then some (pureSpec K32) else none
def Γ30 : FuncId → Option Spec := fun f => bif Nat.beq f 52 then some (pureSpec K52) else none
def Γ33 : FuncId → Option Spec := fun f => bif Nat.beq f 53 then some (memSpec K53p) else none
def Γ33z : FuncId → Option Spec := fun f => bif Nat.beq f 53 then some (pureSpec K53z) else none
def Γ15 : FuncId → Option Spec := fun f => bif Nat.beq f 31 then some (pureSpec K31) else bif Nat.beq f 30 then some (pureSpec K30) else bif Nat.beq f 33 then some (pureSpec K33) else bif Nat.beq f 34 then some (pureSpec K34) else none
def M53 (n : Int) : Tr MemOut :=
 let x1 : Int := IntKind.i64.wrap (n - IntKind.i64.wrap (0 - 0))
 let x2 : Nat := x1.toNat
 let x3 : Nat := x2 * 192
 let x4 : Nat := 0 + x2
 let x5 : Nat := x4 * 192
 .ite (decide (n < 0)) (.fail "slices.go:424") (.ite (decide (x1 > 0)) (.need true (.need (decide (0 ≤ x1)) (.need (decide (x1 ≤ 9223372036854775807)) (.need (decide (x3 ≤ 140737488355328)) (.need (decide (x4 ≤ 9223372036854775807)) (.need (decide (x5 ≤ 140737488355328)) (.need true (.ret { val := AV.msl 0 0 16, outs := [], new := some (Ent.arr x4 16 (joinE 0 (fun x => []) fun x => List.map IV.v [Value.bool false, Value.string { data := #[] }, Value.bool false, Value.string { data := #[] }, Value.bool false, Value.string { data := #[] }, Value.bool false, Value.string { data := #[] }, Value.bool false, Value.string { data := #[] }, Value.bool false, Value.string { data := #[] }, Value.bool false, Value.string { data := #[] }, Value.bool false, Value.string { data := #[] }]) 47) })))))))) (.ret { val := .c (.v (.slice none 0 0)), outs := [] }))
def M53z (n : Int) : Tr AV :=
 let x1 : Int := IntKind.i64.wrap (n - IntKind.i64.wrap (0 - 0))
 let x2 : Nat := x1.toNat
 let x3 : Nat := x2 * 192
 let x4 : Nat := 0 + x2
 let x5 : Nat := x4 * 192
 .ite (decide (n < 0)) (.fail "slices.go:424") (.ite (decide (x1 > 0)) (.need true (.need (decide (0 ≤ x1)) (.need (decide (x1 ≤ 9223372036854775807)) (.need (decide (x3 ≤ 140737488355328)) (.need (decide (x4 ≤ 9223372036854775807)) (.need (decide (x5 ≤ 140737488355328)) (.need true (.need true (.ret (AV.c (IV.sl 0 16 (joinE 0 (fun x => []) fun x => List.map IV.v [Value.bool false, Value.string { data := #[] }, Value.bool false, Value.string { data := #[] }, Value.bool false, Value.string { data := #[] }, Value.bool false, Value.string { data := #[] }, Value.bool false, Value.string { data := #[] }, Value.bool false, Value.string { data := #[] }, Value.bool false, Value.string { data := #[] }, Value.bool false, Value.string { data := #[] }])))))))))))) (.ret (.c (.v (.slice none 0 0)))))
def M34 (x : L4) : Tr AV :=
 let x1 : List AV := [.c (.v (.bool (decide (x.x0.num < 0)))), .c (.v (.string ⟨⟨magB x.x0.num.natAbs⟩⟩)), .c (.v (.bool false)), .c (.v (.string ⟨⟨denB x.x0.den⟩⟩))]
 let x2 : List AV := [.c (.v (.bool (decide (x.x1.num < 0)))), .c (.v (.string ⟨⟨magB x.x1.num.natAbs⟩⟩)), .c (.v (.bool false)), .c (.v (.string ⟨⟨denB x.x1.den⟩⟩))]
 let x3 : List AV := [.c (.v (.bool (decide (x.y0.num < 0)))), .c (.v (.string ⟨⟨magB x.y0.num.natAbs⟩⟩)), .c (.v (.bool false)), .c (.v (.string ⟨⟨denB x.y0.den⟩⟩))]
 let x4 : List AV := [.c (.v (.bool (decide (x.y1.num < 0)))), .c (.v (.string ⟨⟨magB x.y1.num.natAbs⟩⟩)), .c (.v (.bool false)), .c (.v (.string ⟨⟨denB x.y1.den⟩⟩))]
 .ite true (.need true (.need (ratOk x1) (.need (w64 (ratV x1).num) (.need (w64 ↑(ratV x1).den) (.ite false (.ret (.c (.v (.int IntKind.i64 0)))) (.ite true (.need true (.need (ratOk x2) (.need (w64 (ratV x2).num) (.need (w64 ↑(ratV x2).den) (.ite false (.ret (.c (.v (.int IntKind.i64 0)))) (.ite true (.need true (.need (ratOk x3) (.need (w64 (ratV x3).num) (.need (w64 ↑(ratV x3).den) (.ite false (.ret (.c (.v (.int IntKind.i64 0)))) (.ite true (.need true (.need (ratOk x4) (.need (w64 (ratV x4).num) (.need (w64 ↑(ratV x4).den) (.ite false (.ret (.c (.v (.int IntKind.i64 0)))) (.ite false (.fail "pieces.go:55") (.ret (.c (.v (.int IntKind.i64 0)))))))))) (.ret (.c (.v (.int IntKind.i64 0)))))))))) (.ret (.c (.v (.int IntKind.i64 0)))))))))) (.ret (.c (.v (.int IntKind.i64 0)))))))))) (.ret (.c (.v (.int IntKind.i64 0))))
def M32 (L : List L4) : Tr AV :=
 let x1 : Int := ↑L.length
 .ret (.c (.v (.bool (decide (x1 > 12)))))
def M52n (L : List L4) : Tr AV :=
 let x1 : Int := ↑L.length
 .ite true (.need true (.ite (decide (x1 > 12)) (.ret (.c (.v (.int IntKind.i64 0)))) (.ite false (.need false (.ite (decide (x1 > 12)) (.ret (.c (.v (.int IntKind.i64 1)))) (.ite false (.need false (.ite (decide (x1 > 12)) (.ret (.c (.v (.int IntKind.i64 2)))) (.fail "rounds"))) (.ret (.c (.v (.int IntKind.i64 (-1)))))))) (.ret (.c (.v (.int IntKind.i64 (-1)))))))) (.ret (.c (.v (.int IntKind.i64 (-1)))))
def M52s (L : List L4) (M : List L4) : Tr AV :=
 let x1 : Int := ↑L.length
 let x2 : Int := ↑M.length
 .ite true (.need true (.ite (decide (x1 > 12)) (.ret (.c (.v (.int IntKind.i64 0)))) (.ite true (.need true (.ite (decide (x2 > 12)) (.ret (.c (.v (.int IntKind.i64 1)))) (.ite false (.need false (.ite (decide (x2 > 12)) (.ret (.c (.v (.int IntKind.i64 2)))) (.fail "rounds"))) (.ret (.c (.v (.int IntKind.i64 (-1)))))))) (.ret (.c (.v (.int IntKind.i64 (-1)))))))) (.ret (.c (.v (.int IntKind.i64 (-1)))))
def M30n (L : List L4) : Tr AV :=
 let x1 : Int := idx52 (linesOf L.length (lineEl L)) none
 .need (rgOk (AV.c (IV.sl 1 1 fun x => [slI L]))) (.ret (.c (.v (.bool (decide (x1 ≥ 0))))))
def M30s (L : List L4) (M : List L4) : Tr AV :=
 let x1 : Int := idx52 (linesOf L.length (lineEl L)) (some (linesOf M.length (lineEl M)))
 .need (rgOk (AV.c (IV.sl 2 1 fun k => bif k.beq 0 then [slI L] else [slI M]))) (.ret (.c (.v (.bool (decide (x1 ≥ 0))))))
def M33n (L : List L4) : Tr AV :=
 let x1 : Int := ↑L.length
 let x2 : Int := IntKind.i64.wrap (0 + x1)
 let x3 : Int := IntKind.i64.wrap (x2 + x1)
 let x4 : Int := IntKind.i64.wrap (x3 + x1)
 let x5 : Nat := 0 + L.length
 let x6 : Nat := x5 * 192
 let x7 : Nat := x5 + L.length
 let x8 : Nat := x7 * 192
 let x9 : Nat := x7 + L.length
 let x10 : Nat := x9 * 192
 .ite true (.need true (.ite (decide (x2 < 0)) (.fail "slices.go:496") (.ite false (.need false (.ite (decide (x3 < 0)) (.fail "slices.go:496") (.ite false (.need false (.ite (decide (x4 < 0)) (.fail "slices.go:496") (.fail "rounds"))) (.need (decide (0 < x3)) (.need (decide (x3 ≤ 10000)) (.ite true (.need true (.need true (.need (decide (x5 ≤ 9223372036854775807)) (.need (decide (x6 ≤ 140737488355328)) (.ite false (.need false (.need (decide (x5 ≤ x5)) (.need (decide (x7 ≤ 9223372036854775807)) (.need (decide (x8 ≤ 140737488355328)) (.ite false (.need false (.need (decide (x7 ≤ x7)) (.need (decide (x9 ≤ 9223372036854775807)) (.need (decide (x10 ≤ 140737488355328)) (.fail "rounds"))))) (.need (decide (x7 ≤ x7)) (.ret (AV.c (IV.sl x7 16 (joinE x5 (joinE 0 (fun x => zL) (lineEl L)) (lineEl L))))))))))) (.need (decide (x5 ≤ x5)) (.ret (AV.c (IV.sl x5 16 (joinE 0 (fun x => zL) (lineEl L))))))))))) (.need true (.ret (AV.c (IV.sl 0 16 fun x => zL)))))))))) (.need (decide (0 < x2)) (.need (decide (x2 ≤ 10000)) (.ite true (.need true (.need true (.need (decide (x5 ≤ 9223372036854775807)) (.need (decide (x6 ≤ 140737488355328)) (.ite false (.need false (.need (decide (x5 ≤ x5)) (.need (decide (x7 ≤ 9223372036854775807)) (.need (decide (x8 ≤ 140737488355328)) (.ite false (.need false (.need (decide (x7 ≤ x7)) (.need (decide (x9 ≤ 9223372036854775807)) (.need (decide (x10 ≤ 140737488355328)) (.fail "rounds"))))) (.need (decide (x7 ≤ x7)) (.ret (AV.c (IV.sl x7 16 (joinE x5 (joinE 0 (fun x => zL) (lineEl L)) (lineEl L))))))))))) (.need (decide (x5 ≤ x5)) (.ret (AV.c (IV.sl x5 16 (joinE 0 (fun x => zL) (lineEl L))))))))))) (.need true (.ret (AV.c (IV.sl 0 16 fun x => zL)))))))))) (.need false (.need true (.ite true (.need true (.need true (.need (decide (x5 ≤ 9223372036854775807)) (.need (decide (x6 ≤ 140737488355328)) (.ite false (.need false (.need (decide (x5 ≤ x5)) (.need (decide (x7 ≤ 9223372036854775807)) (.need (decide (x8 ≤ 140737488355328)) (.ite false (.need false (.need (decide (x7 ≤ x7)) (.need (decide (x9 ≤ 9223372036854775807)) (.need (decide (x10 ≤ 140737488355328)) (.fail "rounds"))))) (.need (decide (x7 ≤ x7)) (.ret (AV.c (IV.sl x7 16 (joinE x5 (joinE 0 (fun x => zL) (lineEl L)) (lineEl L))))))))))) (.need (decide (x5 ≤ x5)) (.ret (AV.c (IV.sl x5 16 (joinE 0 (fun x => zL) (lineEl L))))))))))) (.need true (.ret (AV.c (IV.sl 0 16 fun x => zL)))))))
def M33s (L : List L4) (M : List L4) : Tr AV :=
 let x1 : Int := IntKind.i64.wrap (0 + ↑L.length)
 let x2 : Int := ↑M.length
 let x3 : Int := IntKind.i64.wrap (x1 + x2)
 let x4 : Int := IntKind.i64.wrap (x3 + x2)
 let x5 : Nat := 0 + L.length
 let x6 : Nat := x5 * 192
 let x7 : Nat := x5 + M.length
 let x8 : Nat := x7 * 192
 let x9 : Nat := x7 + M.length
 let x10 : Nat := x9 * 192
 .ite true (.need true (.ite (decide (x1 < 0)) (.fail "slices.go:496") (.ite true (.need true (.ite (decide (x3 < 0)) (.fail "slices.go:496") (.ite false (.need false (.ite (decide (x4 < 0)) (.fail "slices.go:496") (.fail "rounds"))) (.need (decide (0 < x3)) (.need (decide (x3 ≤ 10000)) (.ite true (.need true (.need true (.need (decide (x5 ≤ 9223372036854775807)) (.need (decide (x6 ≤ 140737488355328)) (.ite true (.need true (.need (decide (x5 ≤ x5)) (.need (decide (x7 ≤ 9223372036854775807)) (.need (decide (x8 ≤ 140737488355328)) (.ite false (.need false (.need (decide (x7 ≤ x7)) (.need (decide (x9 ≤ 9223372036854775807)) (.need (decide (x10 ≤ 140737488355328)) (.fail "rounds"))))) (.need (decide (x7 ≤ x7)) (.ret (AV.c (IV.sl x7 16 (joinE x5 (joinE 0 (fun x => zL) (lineEl L)) (lineEl M))))))))))) (.need (decide (x5 ≤ x5)) (.ret (AV.c (IV.sl x5 16 (joinE 0 (fun x => zL) (lineEl L))))))))))) (.need true (.ret (AV.c (IV.sl 0 16 fun x => zL)))))))))) (.need (decide (0 < x1)) (.need (decide (x1 ≤ 10000)) (.ite true (.need true (.need true (.need (decide (x5 ≤ 9223372036854775807)) (.need (decide (x6 ≤ 140737488355328)) (.ite true (.need true (.need (decide (x5 ≤ x5)) (.need (decide (x7 ≤ 9223372036854775807)) (.need (decide (x8 ≤ 140737488355328)) (.ite false (.need false (.need (decide (x7 ≤ x7)) (.need (decide (x9 ≤ 9223372036854775807)) (.need (decide (x10 ≤ 140737488355328)) (.fail "rounds"))))) (.need (decide (x7 ≤ x7)) (.ret (AV.c (IV.sl x7 16 (joinE x5 (joinE 0 (fun x => zL) (lineEl L)) (lineEl M))))))))))) (.need (decide (x5 ≤ x5)) (.ret (AV.c (IV.sl x5 16 (joinE 0 (fun x => zL) (lineEl L))))))))))) (.need true (.ret (AV.c (IV.sl 0 16 fun x => zL)))))))))) (.need false (.need true (.ite true (.need true (.need true (.need (decide (x5 ≤ 9223372036854775807)) (.need (decide (x6 ≤ 140737488355328)) (.ite true (.need true (.need (decide (x5 ≤ x5)) (.need (decide (x7 ≤ 9223372036854775807)) (.need (decide (x8 ≤ 140737488355328)) (.ite false (.need false (.need (decide (x7 ≤ x7)) (.need (decide (x9 ≤ 9223372036854775807)) (.need (decide (x10 ≤ 140737488355328)) (.fail "rounds"))))) (.need (decide (x7 ≤ x7)) (.ret (AV.c (IV.sl x7 16 (joinE x5 (joinE 0 (fun x => zL) (lineEl L)) (lineEl M))))))))))) (.need (decide (x5 ≤ x5)) (.ret (AV.c (IV.sl x5 16 (joinE 0 (fun x => zL) (lineEl L))))))))))) (.need true (.ret (AV.c (IV.sl 0 16 fun x => zL)))))))
def M33z : Tr AV :=
 .ite true (.need true (.ite false (.fail "slices.go:496") (.ite false (.need false (.ite false (.fail "slices.go:496") (.ite false (.need false (.ite false (.fail "slices.go:496") (.fail "rounds"))) (.need true (.ite true (.need true (.need true (.need true (.ite false (.need false (.need true (.need true (.need true (.ite false (.need false (.need true (.need true (.need true (.fail "rounds"))))) (.need true (.ret (AV.c (IV.sl 0 16 (joinE (0 + ([] : List L4).length) (joinE 0 (fun x => []) (lineEl [])) (lineEl []))))))))))) (.need true (.ret (AV.c (IV.sl 0 16 (joinE 0 (fun x => []) (lineEl [])))))))))) (.ret (.c (.v (.slice none 0 0))))))))) (.need true (.ite true (.need true (.need true (.need true (.ite false (.need false (.need true (.need true (.need true (.ite false (.need false (.need true (.need true (.need true (.fail "rounds"))))) (.need true (.ret (AV.c (IV.sl 0 16 (joinE (0 + ([] : List L4).length) (joinE 0 (fun x => []) (lineEl [])) (lineEl []))))))))))) (.need true (.ret (AV.c (IV.sl 0 16 (joinE 0 (fun x => []) (lineEl [])))))))))) (.ret (.c (.v (.slice none 0 0))))))))) (.need true (.ite true (.need true (.need true (.need true (.ite false (.need false (.need true (.need true (.need true (.ite false (.need false (.need true (.need true (.need true (.fail "rounds"))))) (.need true (.ret (AV.c (IV.sl 0 16 (joinE (0 + ([] : List L4).length) (joinE 0 (fun x => []) (lineEl [])) (lineEl []))))))))))) (.need true (.ret (AV.c (IV.sl 0 16 (joinE 0 (fun x => []) (lineEl [])))))))))) (.ret (.c (.v (.slice none 0 0))))))
def step15 (L : List L4) (i : Int) : Tr (W15 ⊕ W15) :=
 let x1 : Int := ↑L.length
 let x2 : Int := (L.getD i.toNat l40).x0.num
 let x3 : Int := (L.getD i.toNat l40).x1.num
 let x4 : Int := (L.getD i.toNat l40).y0.num
 let x5 : Int := (L.getD i.toNat l40).y1.num
 let x6 : List AV := [.c (.v (.bool (decide (x2 < 0)))), .c (.v (.string ⟨⟨magB x2.natAbs⟩⟩)), .c (.v (.bool false)), .c (.v (.string ⟨⟨denB (L.getD i.toNat l40).x0.den⟩⟩)), .c (.v (.bool (decide (x3 < 0)))), .c (.v (.string ⟨⟨magB x3.natAbs⟩⟩)), .c (.v (.bool false)), .c (.v (.string ⟨⟨denB (L.getD i.toNat l40).x1.den⟩⟩)), .c (.v (.bool (decide (x4 < 0)))), .c (.v (.string ⟨⟨magB x4.natAbs⟩⟩)), .c (.v (.bool false)), .c (.v (.string ⟨⟨denB (L.getD i.toNat l40).y0.den⟩⟩)), .c (.v (.bool (decide (x5 < 0)))), .c (.v (.string ⟨⟨magB x5.natAbs⟩⟩)), .c (.v (.bool false)), .c (.v (.string ⟨⟨denB (L.getD i.toNat l40).y1.den⟩⟩))]
 let x7 : List L4 := linesOf L.length (lineEl L)
 .ite (decide (i < x1)) (.need (decide (0 ≤ i ∧ i < x1)) (.need (lineOk x6) (.need (lbB (lineV x6)) (.ite false (.fail "out") (.need (linesOk L.length (lineEl L)) (.need (decide (x1 = x1)) (.ret (Sum.inl { L := x7, i := IntKind.i64.wrap (i + 1) })))))))) (.need (linesOk L.length (lineEl L)) (.need (decide (x1 = x1)) (.ret (Sum.inr { L := x7, i := i }))))
def M15n (L : List L4) : Tr AV :=
 let x1 : List L4 := linesOf L.length (lineEl L)
 let x2 : List L4 := linesOf x1.length (lineEl x1)
 let x3 : Int := idx52 x2 none
 let x4 : List L4 := x2 ++ lnO none
 let x5 : Nat := x4.length
 let x6 : Int := ↑x5
 let x7 : List L4 := linesOf x5 (lineEl x4)
 let x8 : Nat := x7.length
 let x9 : Int := ↑x8
 .need (bif decide (0 > 3) then true else shOk (AV.agg [AV.c (IV.sl L.length 16 (lineEl L)), .c (.v (.slice none 0 0))]) && (rgOk (AV.c (IV.sl 1 1 fun x => [slI x1])) && true)) (.ite (bif decide (0 > 3) then true else bif false then true else decide (x3 ≥ 0)) (.ret (.c (.v (.int IntKind.i64 3)))) (.need (shOk (AV.agg [AV.c (IV.sl L.length 16 (lineEl L)), .c (.v (.slice none 0 0))])) (.need (rgOk (AV.c (IV.sl 1 1 fun x => [slI x1]))) (.need (rl x2) (.need true (.need true (.need (linesOk x5 (lineEl x4)) (.need (decide (x6 = x6)) (.need (decide ((0 : Int) ≤ 0) && decide (0 ≤ x9) && decide (x8 ≤ 2000) && x7.all lbB) (.ret (.c (.v (.int IntKind.i64 0)))))))))))))
def M15s (L : List L4) (M : List L4) : Tr AV :=
 let x1 : Int := ((1 : Nat) : Int)
 let x2 : List L4 := linesOf L.length (lineEl L)
 let x3 : List L4 := linesOf M.length (lineEl M)
 let x4 : List L4 := linesOf x2.length (lineEl x2)
 let x5 : Int := idx52 x4 (some (linesOf x3.length (lineEl x3)))
 let x6 : List L4 := x4 ++ lnO (some (linesOf x3.length (lineEl x3)))
 let x7 : Nat := x6.length
 let x8 : Int := ↑x7
 let x9 : List L4 := linesOf x7 (lineEl x6)
 let x10 : Nat := x9.length
 let x11 : Int := ↑x10
 .need (bif decide (x1 > 3) then true else shOk (AV.agg [AV.c (IV.sl L.length 16 (lineEl L)), AV.c (IV.sl 1 1 fun x => [slI M])]) && (rgOk (AV.c (IV.sl 2 1 fun k => bif k.beq 0 then [slI x2] else [slI x3])) && true)) (.ite (bif decide (x1 > 3) then true else bif false then true else decide (x5 ≥ 0)) (.ret (.c (.v (.int IntKind.i64 3)))) (.need (shOk (AV.agg [AV.c (IV.sl L.length 16 (lineEl L)), AV.c (IV.sl 1 1 fun x => [slI M])])) (.need (rgOk (AV.c (IV.sl 2 1 fun k => bif k.beq 0 then [slI x2] else [slI x3]))) (.need (rl x4) (.need (allO rl (some (linesOf x3.length (lineEl x3)))) (.need (holB (some (linesOf x3.length (lineEl x3)))) (.need (linesOk x7 (lineEl x6)) (.need (decide (x8 = x8)) (.need (decide ((0 : Int) ≤ 0) && decide (0 ≤ x11) && decide (x10 ≤ 2000) && x9.all lbB) (.ret (.c (.v (.int IntKind.i64 0)))))))))))))
theorem dT (i : Decidable True) : @decide True i = true := by cases i <;> first | rfl | contradiction
theorem Γ34_ok : ∀ f s, Γ34 f = some s → SpecOk Tryz.prog f s := one_ok f54_ok.spec
theorem M34_eq (x : L4) : execFn Tryz.prog Γ34 noL 1010 Tryz.f34 [.agg [], .agg (lineCells x)] = M34 x := by kernel_rfl
theorem M52n_eq (L : List L4) : execFn Tryz.prog Γ52 noL 1003 Tryz.f52 [ringsA L none, fn32] = M52n L := by kernel_rfl
theorem M52s_eq (L M : List L4) : execFn Tryz.prog Γ52 noL 1003 Tryz.f52 [ringsA L (some M), fn32] = M52s L M := by kernel_rfl
theorem M30n_eq (L : List L4) : execFn Tryz.prog Γ30 noL 1003 Tryz.f30 [ringsA L none, fn32] = M30n L := by kernel_rfl
theorem M30s_eq (L M : List L4) : execFn Tryz.prog Γ30 noL 1003 Tryz.f30 [ringsA L (some M), fn32] = M30s L M := by kernel_rfl
theorem M53_eq (n : Int) : execM Tryz.prog (fun _ => none) noL 1010 false Tryz.f53 [] [.c (.v (.slice none 0 0)), intA .i64 n] = M53 n := by kernel_rfl
theorem M53z_eq (n : Int) : execFn Tryz.prog (fun _ => none) noL 1010 Tryz.f53 [.c (.v (.slice none 0 0)), intA .i64 n] = M53z n := by kernel_rfl
theorem M33n_eq (L : List L4) : execFn Tryz.prog Γ33 noL 1003 Tryz.f33 [ringsA L none] = M33n L := by kernel_rfl
theorem M33s_eq (L M : List L4) : execFn Tryz.prog Γ33 noL 1003 Tryz.f33 [ringsA L (some M)] = M33s L M := by kernel_rfl
theorem M33z_eq : execFn Tryz.prog Γ33z noL 1003 Tryz.f33 [ringsA [] none] = M33z := by kernel_rfl
theorem step15_eq (w : Way W15) (x : W15) : (exec Tryz.prog Γ15 noL 1010 (loopOf 0 (codeOf Tryz.f15)) (mkSt (lp15 w).nIn ((lp15 w).head x))).bind ((lp15 w).fin 0 0) = step15 x.L x.i := by
 obtain ⟨L, i⟩ := x
 kernel_rfl
theorem M15n_eq (L : List L4) : execFn Tryz.prog Γ15 L15 1010 Tryz.f15 [.agg [], shA L none] = M15n L := by kernel_rfl
theorem M15s_eq (L M : List L4) : execFn Tryz.prog Γ15 L15 1010 Tryz.f15 [.agg [], shA L (some M)] = M15s L M := by kernel_rfl
theorem lb_w64 {x : L4} (h : lbB x = true) : (w64 x.x0.num = true ∧ w64 (x.x0.den : Int) = true) ∧ (w64 x.x1.num = true ∧ w64 (x.x1.den : Int) = true) ∧ (w64 x.y0.num = true ∧ w64 (x.y0.den : Int) = true) ∧ (w64 x.y1.num = true ∧ w64 (x.y1.den : Int) = true) := by
 obtain ⟨h1, h2, h3, h4⟩ := lb_all h
 unfold Bnd at h1 h2 h3 h4
 unfold w64
 simp only [decide_eq_true_eq]
 omega
theorem M34_sat (x : L4) (h : lbB x = true) : (M34 x).sat fun r => r = intA .i64 0 := by
 obtain ⟨⟨a1, a2⟩, ⟨a3, a4⟩, ⟨a5, a6⟩, a7, a8⟩ := lb_w64 h
 simp only [M34, ratV_lit, ratOk_lit, realV_lit, realOk_lit, lineV_lit, lineOk_lit, boolV_lit, List.take_succ_cons, List.take_zero, List.drop_succ_cons, List.drop_zero, Bool.and_self, l4_eta, r3_eta, linesOf_el, linesOk_lines, shOk_n, shOk_s, rgOk_n, rgOk_s, sat_true, sat_iteT, sat_iteF, dT, a1, a2, a3, a4, a5, a6, a7, a8]
 exact sat_ret rfl
theorem f34_ok : PureOk Tryz.prog 34 K34 := by
 refine pureOk_of_exec_c (L := noL) prog_mixed Γ34_ok (fn := Tryz.f34) (c := codeOf Tryz.f34) (by kernel_rfl) (by kernel_rfl) (callFunc_enter (fn := Tryz.f34) (c := codeOf Tryz.f34) (by kernel_rfl) (by kernel_rfl) (by kernel_rfl)) (N := 1010) (blocksOk_none 0 _) ?_ ?_
 · intro args v cs h
   unfold K34 at h
   split at h
   · cases h; rfl
   · cases h
 · intro args v cs h hc
   unfold K34 at h
   split at h
   · rename_i l
     cases h
     have h1 : lineOk l = true := hc (lineOk l) (by simp)
     have h2 : lbB (lineV l) = true := hc (lbB (lineV l)) (by simp)
     obtain ⟨x, rfl⟩ : ∃ x, l = lineCells x := ⟨_, lineOk_eq h1⟩
     rw [lineV_cells] at h2
     refine ⟨[.agg [], .agg (lineCells x)], SeesL.refl _, ?_⟩
     rw [M34_eq]
     exact Tr.sat_mono (fun r hr => by subst hr; exact ⟨rfl, Sees.refl _⟩) (M34_sat x h2)
   · cases h
theorem f32_ok : PureOk Tryz.prog 32 K32 := by
 refine pureOk_of_exec_c (L := noL) prog_mixed noΓ_ok (fn := Tryz.f32) (c := codeOf Tryz.f32) (by kernel_rfl) (by kernel_rfl) (callFunc_enter (fn := Tryz.f32) (c := codeOf Tryz.f32) (by kernel_rfl) (by kernel_rfl) (by kernel_rfl)) (N := 1010) (blocksOk_none 0 _) ?_ ?_
 · intro args v cs h
   unfold K32 at h
   split at h
   · cases h; rfl
   · cases h
 · intro args v cs h hc
   unfold K32 at h
   split at h
   · rename_i n el
     cases h
     refine ⟨[.c (.sl n 16 el)], SeesL.refl _, ?_⟩
     rw [show execFn Tryz.prog (fun _ => none) noL 1010 Tryz.f32 [.c (.sl n 16 el)] = Tr.ret (boolA (decide ((n : Int) > 12))) from by kernel_rfl]
     exact sat_ret ⟨rfl, Sees.refl _⟩
   · cases h
theorem Γ52_ok : ∀ f s, Γ52 f = some s → SpecOk Tryz.prog f s := one_ok f32_ok.spec
theorem M52n_sat (L : List L4) : (M52n L).sat fun r => r = intA .i64 (idx52 L none) := by
 simp only [M52n, ratV_lit, ratOk_lit, realV_lit, realOk_lit, lineV_lit, lineOk_lit, boolV_lit, List.take_succ_cons, List.take_zero, List.drop_succ_cons, List.drop_zero, Bool.and_self, l4_eta, r3_eta, linesOf_el, linesOk_lines, shOk_n, shOk_s, rgOk_n, rgOk_s, sat_true, sat_iteT, sat_iteF, dT, idx52, bigO]
 cases h : decide ((L.length : Int) > 12) <;> simp only [ratV_lit, ratOk_lit, realV_lit, realOk_lit, lineV_lit, lineOk_lit, boolV_lit, List.take_succ_cons, List.take_zero, List.drop_succ_cons, List.drop_zero, Bool.and_self, l4_eta, r3_eta, linesOf_el, linesOk_lines, shOk_n, shOk_s, rgOk_n, rgOk_s, sat_true, sat_iteT, sat_iteF, dT] <;> exact sat_ret rfl
theorem M52s_sat (L M : List L4) : (M52s L M).sat fun r => r = intA .i64 (idx52 L (some M)) := by
 simp only [M52s, ratV_lit, ratOk_lit, realV_lit, realOk_lit, lineV_lit, lineOk_lit, boolV_lit, List.take_succ_cons, List.take_zero, List.drop_succ_cons, List.drop_zero, Bool.and_self, l4_eta, r3_eta, linesOf_el, linesOk_lines, shOk_n, shOk_s, rgOk_n, rgOk_s, sat_true, sat_iteT, sat_iteF, dT, idx52, bigO]
 cases h : decide ((L.length : Int) > 12)
 · simp only [ratV_lit, ratOk_lit, realV_lit, realOk_lit, lineV_lit, lineOk_lit, boolV_lit, List.take_succ_cons, List.take_zero, List.drop_succ_cons, List.drop_zero, Bool.and_self, l4_eta, r3_eta, linesOf_el, linesOk_lines, shOk_n, shOk_s, rgOk_n, rgOk_s, sat_true, sat_iteT, sat_iteF, dT]
   cases h : decide ((M.length : Int) > 12) <;> simp only [ratV_lit, ratOk_lit, realV_lit, realOk_lit, lineV_lit, lineOk_lit, boolV_lit, List.take_succ_cons, List.take_zero, List.drop_succ_cons, List.drop_zero, Bool.and_self, l4_eta, r3_eta, linesOf_el, linesOk_lines, shOk_n, shOk_s, rgOk_n, rgOk_s, sat_true, sat_iteT, sat_iteF, dT] <;> exact sat_ret rfl
 · simp only [ratV_lit, ratOk_lit, realV_lit, realOk_lit, lineV_lit, lineOk_lit, boolV_lit, List.take_succ_cons, List.take_zero, List.drop_succ_cons, List.drop_zero, Bool.and_self, l4_eta, r3_eta, linesOf_el, linesOk_lines, shOk_n, shOk_s, rgOk_n, rgOk_s, sat_true, sat_iteT, sat_iteF, dT]
   exact sat_ret rfl
theorem f52_ok : PureOk Tryz.prog 52 K52 := by
 refine pureOk_of_exec_c (L := noL) prog_mixed Γ52_ok (fn := Tryz.f52) (c := codeOf Tryz.f52) (by kernel_rfl) (by kernel_rfl) (callFunc_enter (fn := Tryz.f52) (c := codeOf Tryz.f52) (by kernel_rfl) (by kernel_rfl) (by kernel_rfl)) (N := 1003) (blocksOk_none 0 _) ?_ ?_
 · intro args v cs h
   unfold K52 at h
   split at h
   · split at h
     · cases h; rfl
     · cases h
   · cases h
 · intro args v cs h hc
   unfold K52 at h
   split at h
   · rename_i a
     split at h
     · rename_i L M ha
       cases h
       have k1 : rgOk a = true := hc (rgOk a) (by simp)
       refine ⟨[ringsA L M, fn32], .cons (rgV_sees ha k1) (SeesL.refl _), ?_⟩
       cases M with
       | none => rw [M52n_eq]; exact Tr.sat_mono (fun r hr => by subst hr; exact ⟨rfl, Sees.refl _⟩) (M52n_sat L)
       | some M => rw [M52s_eq]; exact Tr.sat_mono (fun r hr => by subst hr; exact ⟨rfl, Sees.refl _⟩) (M52s_sat L M)
     · cases h
   · cases h
theorem Γ30_ok : ∀ f s, Γ30 f = some s → SpecOk Tryz.prog f s := one_ok f52_ok.spec
theorem M30n_sat (L : List L4) : (M30n L).sat fun r => r = boolA (decide (idx52 L none ≥ 0)) := by
 simp only [M30n, ratV_lit, ratOk_lit, realV_lit, realOk_lit, lineV_lit, lineOk_lit, boolV_lit, List.take_succ_cons, List.take_zero, List.drop_succ_cons, List.drop_zero, Bool.and_self, l4_eta, r3_eta, linesOf_el, linesOk_lines, shOk_n, shOk_s, rgOk_n, rgOk_s, sat_true, sat_iteT, sat_iteF, dT]
 exact sat_ret rfl
theorem M30s_sat (L M : List L4) : (M30s L M).sat fun r => r = boolA (decide (idx52 L (some M) ≥ 0)) := by
 simp only [M30s, ratV_lit, ratOk_lit, realV_lit, realOk_lit, lineV_lit, lineOk_lit, boolV_lit, List.take_succ_cons, List.take_zero, List.drop_succ_cons, List.drop_zero, Bool.and_self, l4_eta, r3_eta, linesOf_el, linesOk_lines, shOk_n, shOk_s, rgOk_n, rgOk_s, sat_true, sat_iteT, sat_iteF, dT]
 exact sat_ret rfl
theorem f30_ok : PureOk Tryz.prog 30 K30 := by
 refine pureOk_of_exec_c (L := noL) prog_mixed Γ30_ok (fn := Tryz.f30) (c := codeOf Tryz.f30) (by kernel_rfl) (by kernel_rfl) (callFunc_enter (fn := Tryz.f30) (c := codeOf Tryz.f30) (by kernel_rfl) (by kernel_rfl) (by kernel_rfl)) (N := 1003) (blocksOk_none 0 _) ?_ ?_
 · intro args v cs h
   unfold K30 at h
   split at h
   · split at h
     · cases h; rfl
     · cases h
   · cases h
 · intro args v cs h hc
   unfold K30 at h
   split at h
   · rename_i a
     split at h
     · rename_i L M ha
       cases h
       have k1 : rgOk a = true := hc (rgOk a) (by simp)
       refine ⟨[ringsA L M, fn32], .cons (rgV_sees ha k1) (SeesL.refl _), ?_⟩
       cases M with
       | none => rw [M30n_eq]; exact Tr.sat_mono (fun r hr => by subst hr; exact ⟨rfl, Sees.refl _⟩) (M30n_sat L)
       | some M => rw [M30s_eq]; exact Tr.sat_mono (fun r hr => by subst hr; exact ⟨rfl, Sees.refl _⟩) (M30s_sat L M)
     · cases h
   · cases h
theorem f53p_ok : MemOk Tryz.prog 53 K53p := by
 refine memOk_of_exec_c (L := fun _ => noL) prog_mixed noΓ_ok (fn := Tryz.f53) (c := codeOf Tryz.f53) (by kernel_rfl) (by kernel_rfl) (callFunc_enter (fn := Tryz.f53) (c := codeOf Tryz.f53) (by kernel_rfl) (by kernel_rfl) (by kernel_rfl)) (N := 1010) (frz := false) ?_ ?_
 · intro ents args o h
   exact blocksOk_none _ _
 · intro ents args o h hc
   unfold K53p at h
   split at h
   · rename_i n
     cases h
     have h1 : 0 < n := dec (hc (decide (0 < n)) (by simp))
     have h2 : n ≤ 10000 := dec (hc (decide (n ≤ 10000)) (by simp))
     refine ⟨[], [.c (.v (.slice none 0 0)), .c (.v (.int .i64 n))], EntsEqv.refl _, SeesL.refl _, ?_⟩
     show (execM Tryz.prog (fun _ => none) noL 1010 false Tryz.f53 [] [.c (.v (.slice none 0 0)), intA .i64 n]).sat _
     rw [M53_eq]
     have e0 : IntKind.i64.wrap (n - IntKind.i64.wrap (0 - 0)) = n := by
       rw [wrap_i64 (x := 0 - 0) (by omega), wrap_i64 (by omega)]; omega
     have c1 : decide (n < 0) = false := decide_eq_false (by omega)
     have c2 : decide (n > 0) = true := decide_eq_true (by omega)
     have c3 : decide (0 ≤ n) = true := decide_eq_true (by omega)
     have c4 : decide (n ≤ 9223372036854775807) = true := decide_eq_true (by omega)
     have c5 : decide (n.toNat * 192 ≤ 140737488355328) = true := decide_eq_true (by omega)
     have c6 : decide (n.toNat ≤ 9223372036854775807) = true := decide_eq_true (by omega)
     simp only [M53, e0, c1, c2, c3, c4, c5, c6, Nat.zero_add, sat_true, sat_iteT, sat_iteF]
     exact sat_ret ⟨Sees.refl _, .cons (.arr _ _ _ _ _ fun k hk => rfl) .nil⟩
   · cases h
theorem Γ33_ok : ∀ f s, Γ33 f = some s → SpecOk Tryz.prog f s := one_ok f53p_ok.spec
theorem f53z_ok : PureOk Tryz.prog 53 K53z := by
 refine pureOk_of_exec_c (L := noL) prog_mixed noΓ_ok (fn := Tryz.f53) (c := codeOf Tryz.f53) (by kernel_rfl) (by kernel_rfl) (callFunc_enter (fn := Tryz.f53) (c := codeOf Tryz.f53) (by kernel_rfl) (by kernel_rfl) (by kernel_rfl)) (N := 1010) (blocksOk_none 0 _) ?_ ?_
 · intro args v cs h
   unfold K53z at h
   split at h
   · cases h; rfl
   · cases h
 · intro args v cs h hc
   unfold K53z at h
   split at h
   · rename_i n
     cases h
     have h1 : n = 0 := dec (hc (decide (n = 0)) (by simp))
     subst h1
     refine ⟨[.c (.v (.slice none 0 0)), .c (.v (.int .i64 0))], SeesL.refl _, ?_⟩
     rw [show execFn Tryz.prog (fun _ => none) noL 1010 Tryz.f53 [.c (.v (.slice none 0 0)), .c (.v (.int .i64 0))] = M53z 0 from M53z_eq 0]
     have c2 : decide (IntKind.i64.wrap (0 - IntKind.i64.wrap (0 - 0)) > 0) = false := by decide
     have c1 : decide ((0 : Int) < 0) = false := by decide
     simp only [M53z, c1, c2, sat_iteF]
     exact sat_ret ⟨rfl, Sees.refl _⟩
   · cases h
theorem Γ33z_ok : ∀ f s, Γ33z f = some s → SpecOk Tryz.prog f s := one_ok f53z_ok.spec
theorem M33n_sat (L : List L4) (h0 : L.length ≤ 1000) (h1 : 0 < L.length) : (M33n L).sat fun r => Vse.noPtr r = true ∧ Sees r (slA L) := by
 have e0 : IntKind.i64.wrap (0 + (L.length : Int)) = (L.length : Int) := by rw [wrap_i64 (by omega)]; omega
 have c1 : decide ((L.length : Int) < 0) = false := decide_eq_false (by omega)
 have c2 : decide (0 < (L.length : Int)) = true := decide_eq_true (by omega)
 have c3 : decide ((L.length : Int) ≤ 10000) = true := decide_eq_true (by omega)
 have c4 : decide (L.length ≤ 9223372036854775807) = true := decide_eq_true (by omega)
 have c5 : decide (L.length * 192 ≤ 140737488355328) = true := decide_eq_true (by omega)
 have c6 : decide (L.length ≤ L.length) = true := decide_eq_true (Nat.le_refl _)
 simp only [M33n, e0, c1, c2, c3, c4, c5, c6, Nat.zero_add, ratV_lit, ratOk_lit, realV_lit, realOk_lit, lineV_lit, lineOk_lit, boolV_lit, List.take_succ_cons, List.take_zero, List.drop_succ_cons, List.drop_zero, Bool.and_self, l4_eta, r3_eta, linesOf_el, linesOk_lines, shOk_n, shOk_s, rgOk_n, rgOk_s, sat_true, sat_iteT, sat_iteF, dT]
 exact sat_ret ⟨rfl, Sees.sl fun k hk => by unfold joinE; rw [if_neg (Nat.not_lt_zero _), Nat.sub_zero]⟩
theorem M33s_sat (L M : List L4) (h0 : L.length ≤ 1000) (h1 : M.length ≤ 1000) (h2 : 0 < L.length + M.length) : (M33s L M).sat fun r => Vse.noPtr r = true ∧ Sees r (slA (L ++ M)) := by
 have e0 : IntKind.i64.wrap (0 + (L.length : Int)) = (L.length : Int) := by rw [wrap_i64 (by omega)]; omega
 have e1 : IntKind.i64.wrap ((L.length : Int) + (M.length : Int)) = ((L.length + M.length : Nat) : Int) := by rw [wrap_i64 (by omega)]; omega
 have c1 : decide ((L.length : Int) < 0) = false := decide_eq_false (by omega)
 have c1' : decide (((L.length + M.length : Nat) : Int) < 0) = false := decide_eq_false (by omega)
 have c2 : decide (0 < ((L.length + M.length : Nat) : Int)) = true := decide_eq_true (by omega)
 have c3 : decide (((L.length + M.length : Nat) : Int) ≤ 10000) = true := decide_eq_true (by omega)
 have c4 : decide (L.length ≤ 9223372036854775807) = true := decide_eq_true (by omega)
 have c5 : decide (L.length * 192 ≤ 140737488355328) = true := decide_eq_true (by omega)
 have c6 : decide (L.length ≤ L.length) = true := decide_eq_true (Nat.le_refl _)
 have c7 : decide (L.length + M.length ≤ 9223372036854775807) = true := decide_eq_true (by omega)
 have c8 : decide ((L.length + M.length) * 192 ≤ 140737488355328) = true := decide_eq_true (by omega)
 have c9 : decide (L.length + M.length ≤ L.length + M.length) = true := decide_eq_true (Nat.le_refl _)
 simp only [M33s, e0, e1, c1, c1', c2, c3, c4, c5, c6, c7, c8, c9, Nat.zero_add, ratV_lit, ratOk_lit, realV_lit, realOk_lit, lineV_lit, lineOk_lit, boolV_lit, List.take_succ_cons, List.take_zero, List.drop_succ_cons, List.drop_zero, Bool.and_self, l4_eta, r3_eta, linesOf_el, linesOk_lines, shOk_n, shOk_s, rgOk_n, rgOk_s, sat_true, sat_iteT, sat_iteF, dT]
 refine sat_ret ⟨rfl, ?_⟩
 unfold slA
 rw [List.length_append]
 exact Sees.sl (joinE_lines L M _ _ (fun k hk => by unfold joinE; rw [if_neg (Nat.not_lt_zero _), Nat.sub_zero]) (fun _ _ => rfl))
theorem f33p_ok : PureOk Tryz.prog 33 K33p := by
 refine pureOk_of_exec_c (L := noL) prog_mixed Γ33_ok (fn := Tryz.f33) (c := codeOf Tryz.f33) (by kernel_rfl) (by kernel_rfl) (callFunc_enter (fn := Tryz.f33) (c := codeOf Tryz.f33) (by kernel_rfl) (by kernel_rfl) (by kernel_rfl)) (N := 1003) (blocksOk_none 0 _) ?_ ?_
 · intro args v cs h
   unfold K33p at h
   split at h
   · split at h
     · cases h; rfl
     · cases h
   · cases h
 · intro args v cs h hc
   unfold K33p at h
   split at h
   · rename_i a
     split at h
     · rename_i L M ha
       cases h
       have k1 : rgOk a = true := hc (rgOk a) (by simp)
       have h0 : rl L = true := hc (rl L) (by simp)
       have h1 : allO rl M = true := hc (allO rl M) (by simp)
       have h2 : 0 < L.length + (lnO M).length := dec (hc (decide (0 < L.length + (lnO M).length)) (by simp))
       refine ⟨[ringsA L M], .cons (rgV_sees ha k1) (SeesL.refl _), ?_⟩
       cases M with
       | none =>
         rw [M33n_eq]
         have := M33n_sat L (dec h0) (by simpa [lnO] using h2)
         rw [show L ++ lnO none = L from List.append_nil L]
         exact this
       | some M => rw [M33s_eq]; exact M33s_sat L M (dec h0) (dec h1) h2
     · cases h
   · cases h
theorem f33z_ok : PureOk Tryz.prog 33 K33z := by
 refine pureOk_of_exec_c (L := noL) prog_mixed Γ33z_ok (fn := Tryz.f33) (c := codeOf Tryz.f33) (by kernel_rfl) (by kernel_rfl) (callFunc_enter (fn := Tryz.f33) (c := codeOf Tryz.f33) (by kernel_rfl) (by kernel_rfl) (by kernel_rfl)) (N := 1003) (blocksOk_none 0 _) ?_ ?_
 · intro args v cs h
   unfold K33z at h
   split at h
   · split at h
     · cases h; rfl
     · cases h
   · cases h
 · intro args v cs h hc
   unfold K33z at h
   split at h
   · rename_i a
     split at h
     · rename_i ha
       cases h
       have k1 : rgOk a = true := hc (rgOk a) (by simp)
       refine ⟨[ringsA [] none], .cons (rgV_sees ha k1) (SeesL.refl _), ?_⟩
       rw [M33z_eq]
       simp only [M33z, ratV_lit, ratOk_lit, realV_lit, realOk_lit, lineV_lit, lineOk_lit, boolV_lit, List.take_succ_cons, List.take_zero, List.drop_succ_cons, List.drop_zero, Bool.and_self, l4_eta, r3_eta, linesOf_el, linesOk_lines, shOk_n, shOk_s, rgOk_n, rgOk_s, sat_true, sat_iteT, sat_iteF, dT]
       exact sat_ret ⟨rfl, Sees.sl fun k hk => absurd hk (Nat.not_lt_zero k)⟩
     · cases h
   · cases h
theorem f33_ok : PureOk Tryz.prog 33 K33 where
 sound := by
   intro args v cs h
   unfold K33 at h
   split at h
   · rename_i a
     split at h
     · rename_i L M ha
       cases h
       refine ⟨rfl, ?_⟩
       intro A w vs hA hc hr
       have k1 : rgOk a = true := hc (rgOk a) (by simp)
       have h0 : rl L = true := hc (rl L) (by simp)
       have h1 : allO rl M = true := hc (allO rl M) (by simp)
       have h2 : holB M = true := hc (holB M) (by simp)
       by_cases hp : 0 < L.length + (lnO M).length
       · have e : K33p [a] = some (slA (L ++ lnO M), [rgOk a, rl L, allO rl M, decide (0 < L.length + (lnO M).length)]) := by
           unfold K33p; simp only [ha]
         exact (f33p_ok.sound [a] _ _ e).2 A w vs hA (by simp [k1, h0, h1, hp]) hr
       · cases L with
         | cons x L => exact absurd hp (by simp)
         | nil =>
           cases M with
           | some M =>
             have : 0 < M.length := dec h2
             exact absurd hp (by simp only [lnO]; omega)
           | none =>
             have e : K33z [a] = some (slA [], [rgOk a]) := by
               unfold K33z; simp only [ha]
             exact (f33z_ok.sound [a] _ _ e).2 A w vs hA (by simp [k1]) hr
     · cases h
   · cases h
theorem Γ15_ok : ∀ f s, Γ15 f = some s → SpecOk Tryz.prog f s := step_ok f31_ok.spec (step_ok f30_ok.spec (step_ok f33_ok.spec (one_ok f34_ok.spec)))
theorem step15_in (L : List L4) (i : Nat) (h1 : i < L.length) (hl : L.length ≤ 2000) (hL : L.all lbB = true) (Q : W15 ⊕ W15 → Prop)
   (hgo : Q (.inl ⟨L, ((i + 1 : Nat) : Int)⟩)) : (step15 L (i : Nat)).sat Q := by
 have g1 := getD_get h1
 have b1 := all_get hL h1
 have hw : IntKind.i64.wrap ((i : Int) + 1) = ((i + 1 : Nat) : Int) := by rw [wrap_i64 (by omega)]; omega
 have c1 : decide ((0 : Int) ≤ (i : Int) ∧ (i : Int) < (L.length : Int)) = true := decide_eq_true (by omega)
 have c2 : decide ((i : Int) < (L.length : Int)) = true := decide_eq_true (by omega)
 have c3 : decide ((L.length : Int) = (L.length : Int)) = true := decide_eq_true rfl
 simp only [step15, Int.toNat_natCast, g1, b1, hw, c1, c2, c3, ratV_lit, ratOk_lit, realV_lit, realOk_lit, lineV_lit, lineOk_lit, boolV_lit, List.take_succ_cons, List.take_zero, List.drop_succ_cons, List.drop_zero, Bool.and_self, l4_eta, r3_eta, linesOf_el, linesOk_lines, shOk_n, shOk_s, rgOk_n, rgOk_s, sat_true, sat_iteT, sat_iteF, dT]
 exact sat_ret hgo
theorem step15_end (L : List L4) (Q : W15 ⊕ W15 → Prop) (hq : Q (.inr ⟨L, (L.length : Nat)⟩)) : (step15 L (L.length : Nat)).sat Q := by
 have c2 : decide ((L.length : Int) < (L.length : Int)) = false := decide_eq_false (by omega)
 have c3 : decide ((L.length : Int) = (L.length : Int)) = true := decide_eq_true rfl
 simp only [step15, c2, c3, ratV_lit, ratOk_lit, realV_lit, realOk_lit, lineV_lit, lineOk_lit, boolV_lit, List.take_succ_cons, List.take_zero, List.drop_succ_cons, List.drop_zero, Bool.and_self, l4_eta, r3_eta, linesOf_el, linesOk_lines, shOk_n, shOk_s, rgOk_n, rgOk_s, sat_true, sat_iteT, sat_iteF, dT]
 exact sat_ret hq
theorem runs15 (L : List L4) (hl : L.length ≤ 2000) (hL : L.all lbB = true) (Q : W15 → Prop) : ∀ (k i : Nat), i + k = L.length → Q ⟨L, (L.length : Nat)⟩ → RunsX (fun x : W15 => step15 x.L x.i) Q (k + 1) ⟨L, (i : Nat)⟩
 | 0, i, hi, hq => by
   obtain rfl : i = L.length := by omega
   exact step15_end L _ hq
 | k + 1, i, hi, hq => step15_in L i (by omega) hl hL _ (runs15 L hl hL Q k (i + 1) (by omega) hq)
theorem f15_loops : BlocksOk Tryz.prog 0 L15 (codeOf Tryz.f15) := by
 refine blocksOk_of (d := fun id => Nat.beq id 0) (fun id => by unfold L15; cases Nat.beq id 0 <;> rfl) _ ?_
 have hb : blocksOf (fun id => Nat.beq id 0) (codeOf Tryz.f15) = [(0, .loop (loopOf 0 (codeOf Tryz.f15)))] := by kernel_rfl
 rw [hb]
 intro p hp g hg
 simp only [List.mem_singleton] at hp
 subst hp
 have hh : L15 0 = some ((lp15 way15).g 0) := rfl
 rw [hh] at hg
 obtain rfl : g = (lp15 way15).g 0 := (Option.some.inj hg).symm
 refine LoopSt.ok2 (N := 1010) prog_mixed Γ15_ok (L := noL) (blocksOk_none 0 _) (lp15_good _) (step15_eq way15) ?_
 rintro ⟨L, i⟩ hx
 have hx : way15.pre ⟨L, i⟩ = true := hx
 simp only [way15, Bool.and_eq_true, decide_eq_true_eq] at hx
 obtain ⟨⟨⟨h1, h2⟩, h3⟩, h4⟩ := hx
 obtain ⟨i, rfl⟩ : ∃ m : Nat, i = m := ⟨i.toNat, by omega⟩
 exact ⟨_, runs15 L h3 h4 (· = way15.res ⟨L, i⟩) (L.length - i) i (by omega) (by simp [way15])⟩
def chk (L : List L4) (M : Option (List L4)) : Int := bif decide (idx52 L M ≥ 0) then 3 else 0
theorem M15n_sat (L : List L4) (h0 : rb L = true) : (M15n L).sat fun r => r = intA .i64 (chk L none) := by
 obtain ⟨a0, l0⟩ := rb_all h0
 have l1 : L.length ≤ 1000 := of_decide_eq_true l0
 have e0 : rl L = true := l0
 have d1 : decide ((0 : Nat) > 3) = false := rfl
 have d2 : decide ((0 : Int) ≤ (L.length : Int)) = true := decide_eq_true (by omega)
 have d3 : decide (L.length ≤ 2000) = true := decide_eq_true (by omega)
 have d4 : decide ((L.length : Int) = (L.length : Int)) = true := decide_eq_true rfl
 have d5 : decide ((0 : Int) ≤ 0) = true := rfl
 simp only [M15n, lnO, List.append_nil, a0, e0, d1, d2, d3, d4, d5, cond_false, ratV_lit, ratOk_lit, realV_lit, realOk_lit, lineV_lit, lineOk_lit, boolV_lit, List.take_succ_cons, List.take_zero, List.drop_succ_cons, List.drop_zero, Bool.and_self, l4_eta, r3_eta, linesOf_el, linesOk_lines, shOk_n, shOk_s, rgOk_n, rgOk_s, sat_true, sat_iteT, sat_iteF, dT, chk]
 cases h : decide (idx52 L none ≥ 0) <;> simp only [cond_false, cond_true, ratV_lit, ratOk_lit, realV_lit, realOk_lit, lineV_lit, lineOk_lit, boolV_lit, List.take_succ_cons, List.take_zero, List.drop_succ_cons, List.drop_zero, Bool.and_self, l4_eta, r3_eta, linesOf_el, linesOk_lines, shOk_n, shOk_s, rgOk_n, rgOk_s, sat_true, sat_iteT, sat_iteF, dT] <;> exact sat_ret rfl
theorem M15s_sat (L M : List L4) (h0 : rb L = true) (h1 : rb M = true) (h2 : holB (some M) = true) : (M15s L M).sat fun r => r = intA .i64 (chk L (some M)) := by
 obtain ⟨a0, l0⟩ := rb_all h0
 obtain ⟨a1, l1⟩ := rb_all h1
 have k0 : L.length ≤ 1000 := of_decide_eq_true l0
 have k1 : M.length ≤ 1000 := of_decide_eq_true l1
 have e0 : rl L = true := l0
 have e1 : allO rl (some M) = true := l1
 have d1 : decide (((1 : Nat) : Int) > 3) = false := rfl
 have d2 : decide ((0 : Int) ≤ ((L ++ M).length : Int)) = true := decide_eq_true (by omega)
 have d3 : decide ((L ++ M).length ≤ 2000) = true := decide_eq_true (by rw [List.length_append]; omega)
 have d4 : decide (((L ++ M).length : Int) = ((L ++ M).length : Int)) = true := decide_eq_true rfl
 have d5 : decide ((0 : Int) ≤ 0) = true := rfl
 have a2 : (L ++ M).all lbB = true := by rw [List.all_append, a0, a1]; rfl
 simp only [M15s, lnO, a2, e0, e1, h2, d1, d2, d3, d4, d5, cond_false, ratV_lit, ratOk_lit, realV_lit, realOk_lit, lineV_lit, lineOk_lit, boolV_lit, List.take_succ_cons, List.take_zero, List.drop_succ_cons, List.drop_zero, Bool.and_self, l4_eta, r3_eta, linesOf_el, linesOk_lines, shOk_n, shOk_s, rgOk_n, rgOk_s, sat_true, sat_iteT, sat_iteF, dT, chk]
 cases h : decide (idx52 L (some M) ≥ 0) <;> simp only [cond_false, cond_true, ratV_lit, ratOk_lit, realV_lit, realOk_lit, lineV_lit, lineOk_lit, boolV_lit, List.take_succ_cons, List.take_zero, List.drop_succ_cons, List.drop_zero, Bool.and_self, l4_eta, r3_eta, linesOf_el, linesOk_lines, shOk_n, shOk_s, rgOk_n, rgOk_s, sat_true, sat_iteT, sat_iteF, dT] <;> exact sat_ret rfl
def K15n : List AV → Option (AV × List Bool)
 | [.agg [], a] => match shV a with
   | some (L, M) => some (intA .i64 (chk L M), [shOk a, rb L, allO rb M, holB M])
   | none => none
 | _ => none
theorem f15n_ok : PureOk Tryz.prog 15 K15n := by
 refine pureOk_of_exec_c (L := L15) prog_mixed Γ15_ok (fn := Tryz.f15) (c := codeOf Tryz.f15) (by kernel_rfl) (by kernel_rfl) (callFunc_enter (fn := Tryz.f15) (c := codeOf Tryz.f15) (by kernel_rfl) (by kernel_rfl) (by kernel_rfl)) (N := 1010) (f15_loops) ?_ ?_
 · intro args v cs h
   unfold K15n at h
   split at h
   · split at h
     · cases h; rfl
     · cases h
   · cases h
 · intro args v cs h hc
   unfold K15n at h
   split at h
   · rename_i a
     split at h
     · rename_i L M ha
       cases h
       have k1 : shOk a = true := hc (shOk a) (by simp)
       have h0 : rb L = true := hc (rb L) (by simp)
       have h1 : allO rb M = true := hc (allO rb M) (by simp)
       have h2 : holB M = true := hc (holB M) (by simp)
       refine ⟨[.agg [], shA L M], .cons (Sees.refl _) (.cons (shV_sees ha k1) (SeesL.refl _)), ?_⟩
       cases M with
       | none => rw [M15n_eq]; exact Tr.sat_mono (fun r hr => by subst hr; exact ⟨rfl, Sees.refl _⟩) (M15n_sat L h0)
       | some M => rw [M15s_eq]; exact Tr.sat_mono (fun r hr => by subst hr; exact ⟨rfl, Sees.refl _⟩) (M15s_sat L M h0 h1 h2)
     · cases h
   · cases h
end Go.Vse
set_option maxRecDepth 100000
namespace Go.Vse
open Go.Proofs
def litL (d : List UInt8) : List IV := [.v (.bool false), .v (.string ⟨⟨[]⟩⟩), .v (.bool false), .v (.string ⟨⟨d⟩⟩), .v (.bool false), .v (.string ⟨⟨[]⟩⟩), .v (.bool false), .v (.string ⟨⟨[]⟩⟩), .v (.bool false), .v (.string ⟨⟨[]⟩⟩), .v (.bool false), .v (.string ⟨⟨[]⟩⟩), .v (.bool false), .v (.string ⟨⟨[]⟩⟩), .v (.bool false), .v (.string ⟨⟨[]⟩⟩)]
def rawA : AV := .agg [.c (.sl 1 16 fun _ => litL [1]), .c (.v (.slice none 0 0))]
def ms15 : FuncId → Bool := fun f => Nat.beq f 53
theorem raw5 : concPure Tryz.prog (concΓ2 Tryz.prog Γb ms15 70 20) 70 Tryz.f15 [.agg [], rawA] = some (intA .i64 5, []) := by kernel_rfl
def strB (l : List UInt8) : IV → Bool
 | .v (.string s) => s.data.toList == l
 | _ => false
def fB : IV → Bool
 | .v (.bool b) => !b
 | _ => false
def rawL : List IV → Bool
 | [a, b, c, d, e, f, g, h, i, j, k, l, m, n, o, p] => fB a && (strB [] b && (fB c && (strB [1] d && (fB e && (strB [] f && (fB g && (strB [] h && (fB i && (strB [] j && (fB k && (strB [] l && (fB m && (strB [] n && (fB o && strB [] p))))))))))))))
 | _ => false
def rawB : AV → Bool
 | .agg [.c (.sl n 16 el), .c (.v (.slice none 0 0))] => Nat.beq n 1 && rawL (el 0)
 | _ => false
theorem fB_eq {x : IV} (h : fB x = true) : x = .v (.bool false) := by
 unfold fB at h
 split at h
 · rename_i b; cases b with
   | false => rfl
   | true => cases h
 · cases h
theorem strB_eq {l : List UInt8} {x : IV} (h : strB l x = true) : x = .v (.string ⟨⟨l⟩⟩) := by
 unfold strB at h
 split at h
 · rename_i s
   obtain ⟨⟨d⟩⟩ := s
   have : d = l := by simpa using h
   rw [this]
 · cases h
theorem rawL_eq {l : List IV} (h : rawL l = true) : l = litL [1] := by
 unfold rawL at h
 split at h
 · simp only [Bool.and_eq_true] at h
   obtain ⟨h1, h2, h3, h4, h5, h6, h7, h8, h9, h10, h11, h12, h13, h14, h15, h16⟩ := h
   rw [fB_eq h1, strB_eq h2, fB_eq h3, strB_eq h4, fB_eq h5, strB_eq h6, fB_eq h7, strB_eq h8, fB_eq h9, strB_eq h10, fB_eq h11, strB_eq h12, fB_eq h13, strB_eq h14, fB_eq h15, strB_eq h16]
   rfl
 · cases h
theorem rawB_sees {a : AV} (h : rawB a = true) : Sees a rawA := by
 unfold rawB at h
 split at h
 · rename_i n el
   simp only [Bool.and_eq_true] at h
   obtain rfl : n = 1 := Nat.eq_of_beq_eq_true h.1
   have e := rawL_eq h.2
   exact Sees.agg (.cons (Sees.sl fun k hk => by
     obtain rfl : k = 0 := by omega
     exact e) (SeesL.refl _))
 · cases h
theorem rawB_sh (L : List L4) (M : Option (List L4)) : rawB (shA L M) = false := by
 cases M with
 | some M => rfl
 | none =>
   cases hb : rawB (shA L none) with
   | false => rfl
   | true =>
     have h : (Nat.beq L.length 1 && rawL (lineEl L 0)) = true := hb
     simp only [Bool.and_eq_true] at h
     have e := rawL_eq h.2
     have e2 : IV.v (.string ⟨⟨denB (L.getD 0 l40).x0.den⟩⟩) = IV.v (.string ⟨⟨[1]⟩⟩) := by
       have := congrArg (fun l => l.getD 3 (.v undef)) e
       exact this
     simp only [IV.v.injEq, Value.string.injEq, ByteArray.mk.injEq, Array.mk.injEq] at e2
     exact absurd e2 (denB_ne _)
def K15 : List AV → Option (AV × List Bool)
 | [.agg [], a] => match shV a with
   | some (L, M) => some (intA .i64 (bif rawB a then 5 else chk L M), [rawB a || (shOk a && (rb L && (allO rb M && holB M)))])
   | none => none
 | _ => none
theorem f15_ok : PureOk Tryz.prog 15 K15 where
 sound := by
   intro args v cs h
   unfold K15 at h
   split at h
   · rename_i a
     split at h
     · rename_i L M ha
       cases h
       refine ⟨rfl, ?_⟩
       intro A w vs hA hc hr
       have h0 : (rawB a || (shOk a && (rb L && (allO rb M && holB M)))) = true := hc _ (by simp)
       cases hb : rawB a with
       | true =>
         have hp := concPure_ok (N := 70) prog_mixed (concΓ2_ok (N := 70) (ms := ms15) prog_mixed Γb_ok 20) (f := 15) (fn := Tryz.f15) (c := codeOf Tryz.f15) (by kernel_rfl) (by kernel_rfl) (by kernel_rfl)
         exact (hp.sound _ _ _ raw5).2 A w vs hA (fun p hp => by cases hp) ((SeesL.cons (Sees.refl _) (.cons (rawB_sees hb) .nil)).rels hr)
       | false =>
         rw [hb, Bool.false_or] at h0
         have e : K15n [.agg [], a] = some (intA .i64 (chk L M), [shOk a, rb L, allO rb M, holB M]) := by
           unfold K15n; simp only [ha]
         simp only [Bool.and_eq_true] at h0
         exact (f15n_ok.sound [.agg [], a] _ _ e).2 A w vs hA (by simp [h0]) hr
     · cases h
   · cases h
end Go.Vse
