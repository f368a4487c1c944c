/- Helpers for the proof: no statement of its own. -/
import Derived.Test.YtpnbbgegfjefkaaGreatDoorCodC
set_option linter.unusedVariables false
set_option linter.unusedSimpArgs false
set_option linter.unnecessarySimpa false
set_option linter.deprecated false
set_option maxHeartbeats 4000000
set_option maxRecDepth 100000
namespace Go.Vse
open Go.Proofs
def eRd : EForm (ByteArray × Int) where
 parse := fun e => match e with | [some (.cells [.c (.v (.string s)), .c (.v (.int .i64 p)), .c (.v (.int .i64 er))] 78)] => some ((s, p), [decide (er = 0)]) | _ => none
 ents := fun x => rent x.1 x.2 0
 ok := by
  intro e x cs h hc
  split at h
  ·simp only [Option.some.injEq, Prod.mk.injEq] at h
   obtain ⟨rfl, rfl⟩ := h
   obtain rfl := dec (hc _ (List.mem_singleton.2 rfl))
   exact EntsEqv.refl _
  ·cases h
def eRd41 : EForm (ByteArray × Int) where
 parse := fun e => match e with | [some (.cells [.ptr 1 0] 76), some (.cells [.c (.v (.string s)), .c (.v (.int .i64 p)), .c (.v (.int .i64 er))] 78)] => some ((s, p), [decide (er = 0)]) | _ => none
 ents := fun x => [some (.cells [.ptr 1 0] 76), some (.cells [.c (.v (.string x.1)), intA .i64 x.2, intA .i64 0] 78)]
 ok := by
  intro e x cs h hc
  split at h
  ·simp only [Option.some.injEq, Prod.mk.injEq] at h
   obtain ⟨rfl, rfl⟩ := h
   obtain rfl := dec (hc _ (List.mem_singleton.2 rfl))
   exact EntsEqv.refl _
  ·cases h
def Γr : FuncId → Option Spec := fun f => bif Nat.beq f 29 then some (memSpec K29) else bif Nat.beq f 102 then some (memSpec K102) else none
theorem Γr_ok : ∀ f s, Γr f = some s → SpecOk Tryz.prog f s := step_ok f29_ok.spec (one_ok f102_ok.spec)
def M128 (s : ByteArray) (p : Int) : Tr MemOut :=
 let x1 : List UInt8 := s.data.toList
 let x2 : Int := (rdAll s p).fst.getD 0
 let x3 : Int := rdErr (rdAll s p)
 let x4 : Int := if x3 = 0 then 5 else x3
 let x5 : Int := ↑(rdAll s p).snd.fst
 let x6 : List AV := [.c (.v (.int IntKind.i64 x4))]
 let x7 : Int := IntKind.i64.wrap (x2.tdiv 2)
 let x8 : Int := IntKind.i64.wrap (x5 + x7)
 let x9 : Int := IntKind.i64.wrap (x8 - x7)
 let x10 : Int := ↑x1.length
 let x11 : Bool := decide (0 ≤ x9 ∧ x9 ≤ x8 ∧ x8 ≤ x10)
 let x12 : Int := IntKind.i64.wrap (x10 - x5)
 let x13 : Int := if x3 = 0 then 22 else x3
 let x14 : List AV := [.c (.v (.int IntKind.i64 x13))]
 let x15 : List AV := [.c (.v (.int IntKind.i64 x3))]
 .need true (.need (decide (0 ≤ p)) (.need (decide (x1.length ≤ 4611686018427387904)) (.ite (decide (x2 < 0)) (.ite (x4 != 0) (.ret { val := AV.agg [.c (.v (.bool false)), .c (.v (.string { data := #[] }))], outs := [some (Ent.cells (.c (.v (.string s)) :: .c (.v (.int IntKind.i64 x5)) :: x6) 78)] }) (.need true (.need true (.need true (.need x11 (.ret { val := AV.agg [.c (.v (.bool (x2.tmod 2 == 1))), .c (.v (.string ⟨⟨List.drop x9.toNat (List.take x8.toNat x1)⟩⟩))], outs := [some (Ent.cells (.c (.v (.string s)) :: .c (.v (.int IntKind.i64 x8)) :: x6) 78)] })))))) (.need true (.ite (decide (x7 > x12)) (.ite (x13 != 0) (.ret { val := AV.agg [.c (.v (.bool false)), .c (.v (.string { data := #[] }))], outs := [some (Ent.cells (.c (.v (.string s)) :: .c (.v (.int IntKind.i64 x5)) :: x14) 78)] }) (.need true (.need true (.need true (.need x11 (.ret { val := AV.agg [.c (.v (.bool (x2.tmod 2 == 1))), .c (.v (.string ⟨⟨List.drop x9.toNat (List.take x8.toNat x1)⟩⟩))], outs := [some (Ent.cells (.c (.v (.string s)) :: .c (.v (.int IntKind.i64 x8)) :: x14) 78)] })))))) (.ite (x3 != 0) (.ret { val := AV.agg [.c (.v (.bool false)), .c (.v (.string { data := #[] }))], outs := [some (Ent.cells (.c (.v (.string s)) :: .c (.v (.int IntKind.i64 x5)) :: x15) 78)] }) (.need true (.need true (.need true (.need x11 (.ret { val := AV.agg [.c (.v (.bool (x2.tmod 2 == 1))), .c (.v (.string ⟨⟨List.drop x9.toNat (List.take x8.toNat x1)⟩⟩))], outs := [some (Ent.cells (.c (.v (.string s)) :: .c (.v (.int IntKind.i64 x8)) :: x15) 78)] })))))))))))
def M59 (s : ByteArray) (p : Int) : Tr MemOut :=
 let x1 : Int := (rdAll s p).fst.getD 0
 let x2 : Bool := x1 != 0
 let x3 : Int := rdErr (rdAll s p)
 .need true (.need (decide (0 ≤ p)) (.need (decide (s.data.toList.length ≤ 4611686018427387904)) (.need (bif x2 then true else true) (.ite (bif x2 then bif true then x1 != 1 else false else false) (.ret { val := .c (.v (.bool (x1 == 1))), outs := [some (Ent.cells [.c (.v (.string s)), .c (.v (.int IntKind.i64 ↑(rdAll s p).snd.fst)), .c (.v (.int IntKind.i64 (if x3 = 0 then 5 else x3)))] 78)] }) (.ret { val := .c (.v (.bool (x1 == 1))), outs := [some (Ent.cells [.c (.v (.string s)), .c (.v (.int IntKind.i64 ↑(rdAll s p).snd.fst)), .c (.v (.int IntKind.i64 x3))] 78)] })))))
def M109 (s : ByteArray) (p : Int) : Tr MemOut :=
 let x1 : Int := (rdAll s p).fst.getD 0
 let x2 : Int := rdErr (rdAll s p)
 let x3 : Int := if x2 = 0 then 5 else x2
 let x4 : Int := ↑(rdAll s p).snd.fst
 let x5 : List (Option Ent) := [some (Ent.cells [.c (.v (.string s)), .c (.v (.int IntKind.i64 x4)), .c (.v (.int IntKind.i64 x3))] 78)]
 let x6 : Int := IntKind.i64.wrap (↑s.data.toList.length - x4)
 let x7 : Int := if x2 = 0 then 22 else x2
 let x8 : List (Option Ent) := [some (Ent.cells [.c (.v (.string s)), .c (.v (.int IntKind.i64 x4)), .c (.v (.int IntKind.i64 x7))] 78)]
 let x9 : List (Option Ent) := [some (Ent.cells [.c (.v (.string s)), .c (.v (.int IntKind.i64 x4)), .c (.v (.int IntKind.i64 x2))] 78)]
 .need true (.need (decide (0 ≤ p)) (.need (decide (s.data.toList.length ≤ 4611686018427387904)) (.ite (decide (x1 < 0)) (.ite (x3 != 0) (.ret { val := .c (.v (.int IntKind.i64 0)), outs := x5 }) (.ret { val := .c (.v (.int IntKind.i64 x1)), outs := x5 })) (.ite (decide (x1 > x6)) (.ite (x7 != 0) (.ret { val := .c (.v (.int IntKind.i64 0)), outs := x8 }) (.ret { val := .c (.v (.int IntKind.i64 x1)), outs := x8 })) (.ite (x2 != 0) (.ret { val := .c (.v (.int IntKind.i64 0)), outs := x9 }) (.ret { val := .c (.v (.int IntKind.i64 x1)), outs := x9 }))))))
theorem M128_eq (s : ByteArray) (p : Int) : execM Tryz.prog Γr noL 1010 false Tryz.f128 (rent s p 0) [.ptr 0 0] = M128 s p := by kernel_rfl
theorem M59_eq (s : ByteArray) (p : Int) : execM Tryz.prog Γr noL 1010 false Tryz.f59 (rent s p 0) [.ptr 0 0] = M59 s p := by kernel_rfl
theorem M109_eq (s : ByteArray) (p : Int) : execM Tryz.prog Γr noL 1010 false Tryz.f109 (rent s p 0) [.ptr 0 0] = M109 s p := by kernel_rfl
theorem rd_err {s : ByteArray} {p : Int} (h : rdG s p = true) : rdErr (rdAll s p) = 0 := by
 unfold rdG at h
 unfold rdErr
 cases hh : (rdAll s p).1 with
 | some n => rfl
 | none => rw [hh] at h; cases h
theorem tmod2 {v : Int} (h : 0 ≤ v) : (v.tmod 2 == 1) = decide (v % 2 = 1) := by
 rw [Int.tmod_eq_emod_of_nonneg h]
 rfl
theorem M128_sat (s : ByteArray) (p : Int) (h : goodI s p = true) : (M128 s p).sat (OutOf { val := .agg (cellI s p), outs := rent s (nxI s p) 0 }) := by
 simp only [goodI, shortS, Bool.and_eq_true, decide_eq_true_eq] at h
 obtain ⟨h1, h2, h3, h4, h5, h6⟩ := h
 have e0 := rd_err h3
 have eV : (rdAll s p).fst.getD 0 = rdV s p := rfl
 have eP : ((rdAll s p).snd.fst : Int) = rdP s p := rfl
 have hn : rdP s p + rdV s p / 2 = nxI s p := rfl
 have w1 : IntKind.i64.wrap ((rdV s p).tdiv 2) = rdV s p / 2 := by rw [Int.tdiv_eq_ediv_of_nonneg h4, wrap_i64 (by omega)]
 have w2 : IntKind.i64.wrap (nxI s p) = nxI s p := wrap_i64 (by omega)
 have w3 : IntKind.i64.wrap (nxI s p - rdV s p / 2) = rdP s p := by rw [wrap_i64 (by omega)]; omega
 have w4 : IntKind.i64.wrap ((s.data.toList.length : Int) - rdP s p) = (s.data.toList.length : Int) - rdP s p := wrap_i64 (by omega)
 have c1 : decide ((0 : Int) ≤ p) = true := decide_eq_true h1
 have c2 : decide (s.data.toList.length ≤ 4611686018427387904) = true := decide_eq_true h2
 have c3 : decide (rdV s p < 0) = false := decide_eq_false (by omega)
 have c4 : decide (rdV s p / 2 > (s.data.toList.length : Int) - rdP s p) = false := decide_eq_false (by omega)
 have c5 : decide (0 ≤ rdP s p ∧ rdP s p ≤ nxI s p ∧ nxI s p ≤ (s.data.toList.length : Int)) = true := decide_eq_true (by omega)
 have c6 : ((0 : Int) != 0) = false := rfl
 have c7 := tmod2 h4
 simp only [M128, eV, eP, e0, w1, hn, w2, w3, w4, c1, c2, c3, c4, c5, c6, c7]
 exact need_true (need_true (need_true (ite_fa (need_true (ite_fa (ite_fa (need_true (need_true (need_true (need_true (sat_ret (OutOf.refl _))))))))))))
theorem M59_sat (s : ByteArray) (p : Int) (h : goodT s p = true) : (M59 s p).sat (OutOf { val := boolA (valT s p), outs := rent s (rdP s p) 0 }) := by
 simp only [goodT, shortS, Bool.and_eq_true, decide_eq_true_eq] at h
 obtain ⟨h1, h2, h3, h4⟩ := h
 have e0 := rd_err h3
 have eV : (rdAll s p).fst.getD 0 = rdV s p := rfl
 have eP : ((rdAll s p).snd.fst : Int) = rdP s p := rfl
 have c1 : decide ((0 : Int) ≤ p) = true := decide_eq_true h1
 have c2 : decide (s.data.toList.length ≤ 4611686018427387904) = true := decide_eq_true h2
 have c7 : (rdV s p == 1) = valT s p := rfl
 have hh : rdV s p = 0 ∨ rdV s p = 1 := by
   simp only [is01, Bool.or_eq_true, decide_eq_true_eq] at h4
   exact h4
 have c3 : (bif rdV s p != 0 then (true : Bool) else true) = true := by cases (rdV s p != 0) <;> rfl
 have c4 : (bif rdV s p != 0 then bif true then rdV s p != 1 else false else false) = false := by
   rcases hh with hh | hh <;> rw [hh] <;> rfl
 simp only [M59, eV, eP, e0, c1, c2, c3, c4, c7]
 exact need_true (need_true (need_true (need_true (ite_fa (sat_ret (OutOf.refl _))))))
theorem M109_sat (s : ByteArray) (p : Int) (h : goodS s p = true) : (M109 s p).sat (OutOf { val := intA .i64 (rdV s p), outs := rent s (rdP s p) 0 }) := by
 simp only [goodS, shortS, Bool.and_eq_true, decide_eq_true_eq] at h
 obtain ⟨h1, h2, h3, h4, h5⟩ := h
 have e0 := rd_err h3
 have eV : (rdAll s p).fst.getD 0 = rdV s p := rfl
 have eP : ((rdAll s p).snd.fst : Int) = rdP s p := rfl
 have hP : 0 ≤ rdP s p := Int.natCast_nonneg _
 have w4 : IntKind.i64.wrap ((s.data.toList.length : Int) - rdP s p) = (s.data.toList.length : Int) - rdP s p := wrap_i64 (by omega)
 have c1 : decide ((0 : Int) ≤ p) = true := decide_eq_true h1
 have c2 : decide (s.data.toList.length ≤ 4611686018427387904) = true := decide_eq_true h2
 have c3 : decide (rdV s p < 0) = false := decide_eq_false (by omega)
 have c4 : decide (rdV s p > (s.data.toList.length : Int) - rdP s p) = false := decide_eq_false (by omega)
 have c6 : ((0 : Int) != 0) = false := rfl
 simp only [M109, eV, eP, e0, w4, c1, c2, c3, c4, c6]
 exact need_true (need_true (need_true (ite_fa (ite_fa (ite_fa (sat_ret (OutOf.refl _)))))))
def K128 : MSpec := (MForm.with eRd (F1 (argPtr 0 0))).K (fun x => { val := .agg (cellI x.2.1 x.2.2), outs := rent x.2.1 (nxI x.2.1 x.2.2) 0 }) fun x => [goodI x.2.1 x.2.2]
theorem f128_ok : MemOk Tryz.prog 128 K128 :=
 (MForm.with eRd (F1 (argPtr 0 0))).memEq (N := 1010) (frz := false) (L := noL) prog_mixed Γr_ok (fn := Tryz.f128) (c := codeOf Tryz.f128) (by kernel_rfl) (by kernel_rfl) (by kernel_rfl)
  (fun e l x cs h => blocksOk_none _ _) (M := fun x => M128 x.2.1 x.2.2) (fun x => M128_eq x.2.1 x.2.2)
  fun x h => M128_sat x.2.1 x.2.2 (h _ (by simp))
def K59 : MSpec := (MForm.with eRd (F1 (argPtr 0 0))).K (fun x => { val := boolA (valT x.2.1 x.2.2), outs := rent x.2.1 (rdP x.2.1 x.2.2) 0 }) fun x => [goodT x.2.1 x.2.2]
theorem f59_ok : MemOk Tryz.prog 59 K59 :=
 (MForm.with eRd (F1 (argPtr 0 0))).memEq (N := 1010) (frz := false) (L := noL) prog_mixed Γr_ok (fn := Tryz.f59) (c := codeOf Tryz.f59) (by kernel_rfl) (by kernel_rfl) (by kernel_rfl)
  (fun e l x cs h => blocksOk_none _ _) (M := fun x => M59 x.2.1 x.2.2) (fun x => M59_eq x.2.1 x.2.2)
  fun x h => M59_sat x.2.1 x.2.2 (h _ (by simp))
def K109 : MSpec := (MForm.with eRd (F1 (argPtr 0 0))).K (fun x => { val := intA .i64 (rdV x.2.1 x.2.2), outs := rent x.2.1 (rdP x.2.1 x.2.2) 0 }) fun x => [goodS x.2.1 x.2.2]
theorem f109_ok : MemOk Tryz.prog 109 K109 :=
 (MForm.with eRd (F1 (argPtr 0 0))).memEq (N := 1010) (frz := false) (L := noL) prog_mixed Γr_ok (fn := Tryz.f109) (c := codeOf Tryz.f109) (by kernel_rfl) (by kernel_rfl) (by kernel_rfl)
  (fun e l x cs h => blocksOk_none _ _) (M := fun x => M109 x.2.1 x.2.2) (fun x => M109_eq x.2.1 x.2.2)
  fun x h => M109_sat x.2.1 x.2.2 (h _ (by simp))
def Γb41 : FuncId → Option Spec := fun f => bif Nat.beq f 128 then some (memSpec K128) else bif Nat.beq f 59 then some (memSpec K59) else none
theorem Γb41_ok : ∀ f s, Γb41 f = some s → SpecOk Tryz.prog f s := step_ok f128_ok.spec (one_ok f59_ok.spec)
def M41 (s : ByteArray) (p : Int) : Tr MemOut :=
 let x1 : Int := nxI s (nxI s p)
 let x2 : Int := nxI s x1
 let x3 : Int := nxI s x2
 let x4 : Int := rdP s x3
 let x5 : Int := nxI s x4
 let x6 : Int := nxI s x5
 let x7 : Int := nxI s x6
 let x8 : Int := nxI s x7
 let x9 : Int := rdP s x8
 let x10 : Int := rdP s x9
 let x11 : Int := rdP s x10
 let x12 : Int := nxI s x11
 let x13 : Int := nxI s x12
 let x14 : Int := nxI s x13
 let x15 : Int := nxI s x14
 let x16 : Int := nxI s x15
 let x17 : Int := nxI s x16
 let x18 : Int := nxI s x17
 .need true (.need (goodI s p) (.need true (.need (goodI s (nxI s p)) (.need true (.need (goodI s x1) (.need true (.need (goodI s x2) (.need true (.need (goodT s x3) (.need true (.need (goodI s x4) (.need true (.need (goodI s x5) (.need true (.need (goodI s x6) (.need true (.need (goodI s x7) (.need true (.need (goodT s x8) (.need true (.need (goodT s x9) (.need true (.need (goodT s x10) (.need true (.need (goodI s x11) (.need true (.need (goodI s x12) (.need true (.need (goodI s x13) (.need true (.need (goodI s x14) (.need true (.need (goodI s x15) (.need true (.need (goodI s x16) (.need true (.need (goodI s x17) (.need true (.need (goodI s x18) (.ret { val := AV.agg [.c (.v (.bool (negI s p))), .c (.v (.string ⟨⟨magI s p⟩⟩)), .c (.v (.bool (negI s (nxI s p)))), .c (.v (.string ⟨⟨magI s (nxI s p)⟩⟩)), .c (.v (.bool (negI s x1))), .c (.v (.string ⟨⟨magI s x1⟩⟩)), .c (.v (.bool (negI s x2))), .c (.v (.string ⟨⟨magI s x2⟩⟩)), .c (.v (.bool (valT s x3))), .c (.v (.bool (negI s x4))), .c (.v (.string ⟨⟨magI s x4⟩⟩)), .c (.v (.bool (negI s x5))), .c (.v (.string ⟨⟨magI s x5⟩⟩)), .c (.v (.bool (negI s x6))), .c (.v (.string ⟨⟨magI s x6⟩⟩)), .c (.v (.bool (negI s x7))), .c (.v (.string ⟨⟨magI s x7⟩⟩)), .c (.v (.bool (valT s x8))), .c (.v (.bool (valT s x9))), .c (.v (.bool (valT s x10))), .c (.v (.bool (negI s x11))), .c (.v (.string ⟨⟨magI s x11⟩⟩)), .c (.v (.bool (negI s x12))), .c (.v (.string ⟨⟨magI s x12⟩⟩)), .c (.v (.bool (negI s x13))), .c (.v (.string ⟨⟨magI s x13⟩⟩)), .c (.v (.bool (negI s x14))), .c (.v (.string ⟨⟨magI s x14⟩⟩)), .c (.v (.bool (negI s x15))), .c (.v (.string ⟨⟨magI s x15⟩⟩)), .c (.v (.bool (negI s x16))), .c (.v (.string ⟨⟨magI s x16⟩⟩)), .c (.v (.bool (negI s x17))), .c (.v (.string ⟨⟨magI s x17⟩⟩)), .c (.v (.bool (negI s x18))), .c (.v (.string ⟨⟨magI s x18⟩⟩))], outs := [some (Ent.cells [AV.ptr 1 0] 76), some (Ent.cells [.c (.v (.string s)), .c (.v (.int IntKind.i64 (nxI s x18))), .c (.v (.int IntKind.i64 0))] 78)] }))))))))))))))))))))))))))))))))))))))))
theorem M41_eq (s : ByteArray) (p : Int) : execM Tryz.prog (inlΓ Tryz.prog Γb41 (fun _ => false) 1010 4) noL 1010 false Tryz.f41 [some (.cells [.ptr 1 0] 76), some (.cells [.c (.v (.string s)), intA .i64 p, intA .i64 0] 78)] [.ptr 0 0] = M41 s p := by kernel_rfl
theorem M41_sat (s : ByteArray) (p : Int) (h : goodAt s p = true) : (M41 s p).sat (OutOf { val := uniA (unAt s p), outs := [some (.cells [.ptr 1 0] 76), some (.cells [.c (.v (.string s)), intA .i64 (nxAt s p), intA .i64 0] 78)] }) := by
 unfold goodAt at h
 rw [Bool.and_eq_true] at h
 obtain ⟨ho, hu⟩ := h
 simp only [rdO, patU, Bool.and_eq_true] at ho
 obtain ⟨g1, g2, g3, g4, g5, g6, g7, g8, g9, g10, g11, g12, g13, g14, g15, g16, g17, g18, g19, g20, _⟩ := ho
 simp only [M41, g1, g2, g3, g4, g5, g6, g7, g8, g9, g10, g11, g12, g13, g14, g15, g16, g17, g18, g19, g20]
 repeat with_reducible refine need_true ?_
 exact sat_ret ⟨Sees.of_eq (show AV.agg (cellsAt s p) = uniA (unAt s p) from congrArg AV.agg (unOk_eq hu)), EntsEqv.refl _⟩
def K41 : MSpec := (MForm.with eRd41 (F1 (argPtr 0 0))).K (fun x => { val := uniA (unAt x.2.1 x.2.2), outs := [some (.cells [.ptr 1 0] 76), some (.cells [.c (.v (.string x.2.1)), intA .i64 (nxAt x.2.1 x.2.2), intA .i64 0] 78)] }) fun x => [goodAt x.2.1 x.2.2]
theorem f41_ok : MemOk Tryz.prog 41 K41 :=
 (MForm.with eRd41 (F1 (argPtr 0 0))).memEq (N := 1010) (frz := false) (L := noL) prog_mixed (inlΓ_ok prog_mixed Γb41_ok 4) (fn := Tryz.f41) (c := codeOf Tryz.f41) (by kernel_rfl) (by kernel_rfl) (by kernel_rfl)
  (fun e l x cs h => blocksOk_none _ _) (M := fun x => M41 x.2.1 x.2.2) (fun x => M41_eq x.2.1 x.2.2)
  fun x h => M41_sat x.2.1 x.2.2 (h _ (by simp))
def M19 (s : ByteArray) (p : Int) : Tr MemOut :=
 let x1 : Int := ↑s.data.toList.length
 let x2 : List (Option Ent) := [some (Ent.cells [.c (.v (.string s)), .c (.v (.int IntKind.i64 p)), .c (.v (.int IntKind.i64 0))] 78)]
 .need true (.ite (bif 0 == 0 then bif true then decide (p < x1) else false else false) (.ret { val := .c (.v (.int IntKind.i64 5)), outs := x2 }) (.ret { val := .c (.v (.int IntKind.i64 0)), outs := x2 }))
theorem M19_eq (s : ByteArray) (p : Int) : execM Tryz.prog (fun _ => none) noL 1010 false Tryz.f19 (rent s p 0) [.ptr 0 0] = M19 s p := by kernel_rfl
theorem M19_sat (s : ByteArray) (p : Int) (h : p = (s.data.toList.length : Nat)) : (M19 s p).sat (OutOf { val := intA .i64 0, outs := rent s p 0 }) := by
 have c1 : (bif 0 == 0 then bif true then decide (p < (s.data.toList.length : Int)) else false else false) = false := by
  rw [decide_eq_false (show ¬ p < (s.data.toList.length : Int) by omega)]; rfl
 simp only [M19, c1]
 exact need_true (ite_fa (sat_ret (OutOf.refl _)))
def K19 : MSpec := (MForm.with eRd (F1 (argPtr 0 0))).K (fun x => { val := intA .i64 0, outs := rent x.2.1 x.2.2 0 }) fun x => [decide (x.2.2 = (x.2.1.data.toList.length : Nat))]
theorem f19_ok : MemOk Tryz.prog 19 K19 :=
 (MForm.with eRd (F1 (argPtr 0 0))).memEq (N := 1010) (frz := false) (L := noL) prog_mixed noΓ_ok (fn := Tryz.f19) (c := codeOf Tryz.f19) (by kernel_rfl) (by kernel_rfl) (by kernel_rfl)
  (fun e l x cs h => blocksOk_none _ _) (M := fun x => M19 x.2.1 x.2.2) (fun x => M19_eq x.2.1 x.2.2)
  fun x h => M19_sat x.2.1 x.2.2 (dec (h (decide (x.2.2 = (x.2.1.data.toList.length : Nat))) (by simp)))
end Go.Vse
set_option maxHeartbeats 4000000
set_option maxRecDepth 100000
namespace Go.Vse
open Go.Proofs
def Γ40 : FuncId → Option Spec := fun f => bif Nat.beq f 109 then some (memSpec K109) else bif Nat.beq f 41 then some (memSpec K41) else none
theorem Γ40_ok : ∀ f s, Γ40 f = some s → SpecOk Tryz.prog f s := step_ok f109_ok.spec (one_ok f41_ok.spec)
def eRd40 : EForm ((ByteArray × Int) × List Un) where
 parse := fun e => match e with | [some (.cells [.c (.v (.string s)), .c (.v (.int .i64 p)), .c (.v (.int .i64 er))] 78), some (.cells [.ptr 0 0] 76), some (.arr m 36 el 51)] => some (((s, p), unsOf m el), [decide (er = 0), unsOk m el]) | _ => none
 ents := fun y => [some (.cells [.c (.v (.string y.1.1)), intA .i64 y.1.2, intA .i64 0] 78), some (.cells [.ptr 0 0] 76), some (.arr y.2.length 36 (unEl y.2) 51)]
 ok := by
  intro e x cs h hc
  split at h
  ·rename_i s p er m el
   simp only [Option.some.injEq, Prod.mk.injEq] at h
   obtain ⟨rfl, rfl⟩ := h
   obtain rfl := dec (hc (decide (er = 0)) (by simp))
   have := unsOk_el (n := m) (el := el) (hc (unsOk m el) (by simp))
   rw [unsOf_len]
   exact .cons (.refl _) (.cons (.refl _) (.cons (.arr _ _ _ _ _ this) .nil))
  ·cases h
def eN40 : EForm (ByteArray × Int) where
 parse := fun e => match e with | [some (.cells [.c (.v (.string s)), .c (.v (.int .i64 p)), .c (.v (.int .i64 er))] 78), some (.cells [.ptr 0 0] 76)] => some ((s, p), [decide (er = 0)]) | _ => none
 ents := fun x => [some (.cells [.c (.v (.string x.1)), intA .i64 x.2, intA .i64 0] 78), some (.cells [.ptr 0 0] 76)]
 ok := by
  intro e x cs h hc
  split at h
  ·simp only [Option.some.injEq, Prod.mk.injEq] at h
   obtain ⟨rfl, rfl⟩ := h
   obtain rfl := dec (hc _ (List.mem_singleton.2 rfl))
   exact EntsEqv.refl _
  ·cases h
theorem eN40_len {e : List (Option Ent)} {x : ByteArray × Int} {cs : List Bool} (h : eN40.parse e = some (x, cs)) : e.length = 2 := by
 simp only [eN40] at h
 split at h
 ·rfl
 ·cases h
abbrev T40 := (Unit × Unit × Nat × Int × Int × Unit) × ((ByteArray × Int) × List Un)
abbrev F40 : Form (Unit × Unit × Nat × Int × Int × Unit) := .cons (argPtr 0 0) (.cons (argFn1 41 1 0) (.cons (argMs 2) (.cons argInt (.cons argInt .nil))))
def res40 (x : T40) : T40 := (((), (), x.1.2.2.2.1.toNat, x.1.2.2.2.1, x.1.2.2.2.1, ()), ((x.2.1.1, posUns x.2.1.1 x.2.1.2 x.1.2.2.2.1.toNat), rdUns x.2.1.1 x.2.1.2 x.1.2.2.2.1.toNat))
def pre40 (x : T40) : Bool := decide (x.1.2.2.1 = 0) && (decide (x.1.2.2.2.2.1 = 0) && (decide (x.2.2.length = 0) && (decide (0 ≤ x.1.2.2.2.1) && (decide (x.1.2.2.2.1 ≤ 1000) && goodUns x.2.1.1 x.2.1.2 x.1.2.2.2.1.toNat))))
def lp40 : LoopSt T40 T40 := lpF { nt := 24, live := [0, 1, 5, 8, 9], lifts := [(5, 36, 51)] } { nt := 24, live := [0, 1, 5, 8, 9], lifts := [(5, 36, 51)] } (MForm.with eRd40 F40) (MForm.with eRd40 F40) res40 pre40
theorem lp40_good : lp40.Good2 := lpF_good _ _ _ _ _ _
def L40 : Nat → Option (St → Tr (Ex × St)) := fun id => bif Nat.beq id 0 then some (lp40.g 2) else none
def step40 (m : Nat) (n : Int) (i : Int) (s : ByteArray) (p : Int) (O : List Un) : Tr (T40 ⊕ T40) :=
 let x1 : Nat := m + 1
 let x2 : Nat := x1 * 408
 let x3 : Nat := 35 + 1
 let x4 : Int := (unAt s p).f.y1.num
 let x5 : Int := (unAt s p).f.y0.num
 let x6 : Int := (unAt s p).f.x1.num
 let x7 : Int := (unAt s p).f.x0.num
 let x8 : IV := IV.v (Value.string ⟨⟨[]⟩⟩)
 let x9 : IV := IV.v (Value.string ⟨⟨denB 1⟩⟩)
 let x10 : Int := (unAt s p).b
 let x11 : Int := (unAt s p).a
 .ite (decide (i < n)) (.need true (.need (goodAt s p) (.ite false (.fail "out") (.need (decide (m ≤ O.length)) (.need true (.need (decide (x1 ≤ 9223372036854775807)) (.need (decide (x2 ≤ 140737488355328)) (.need true (.need (unsOk x1 (joinE m (unEl O) fun k => List.take x3 (List.drop (k * x3) [IV.v (Value.string ⟨⟨denB (unAt s p).f.y1.den⟩⟩), IV.v (Value.bool false), IV.v (Value.string ⟨⟨magB x4.natAbs⟩⟩), IV.v (Value.bool (decide (x4 < 0))), IV.v (Value.string ⟨⟨denB (unAt s p).f.y0.den⟩⟩), IV.v (Value.bool false), IV.v (Value.string ⟨⟨magB x5.natAbs⟩⟩), IV.v (Value.bool (decide (x5 < 0))), IV.v (Value.string ⟨⟨denB (unAt s p).f.x1.den⟩⟩), IV.v (Value.bool false), IV.v (Value.string ⟨⟨magB x6.natAbs⟩⟩), IV.v (Value.bool (decide (x6 < 0))), IV.v (Value.string ⟨⟨denB (unAt s p).f.x0.den⟩⟩), IV.v (Value.bool false), IV.v (Value.string ⟨⟨magB x7.natAbs⟩⟩), IV.v (Value.bool (decide (x7 < 0))), IV.v (Value.bool (unAt s p).ob), IV.v (Value.bool (unAt s p).oa), IV.v (Value.bool false), x8, IV.v (Value.bool false), x8, IV.v (Value.bool false), x9, IV.v (Value.bool false), IV.v (Value.string ⟨⟨magB x10.natAbs⟩⟩), IV.v (Value.bool (decide (x10 < 0))), IV.v (Value.bool false), x8, IV.v (Value.bool false), x8, IV.v (Value.bool false), x9, IV.v (Value.bool false), IV.v (Value.string ⟨⟨magB x11.natAbs⟩⟩), IV.v (Value.bool (decide (x11 < 0)))].reverse))) (.ret (Sum.inl (((), (), x1, n, IntKind.i64.wrap (i + 1), ()), (s, nxAt s p), unsOf x1 (joinE m (unEl O) fun k => List.take x3 (List.drop (k * x3) [IV.v (Value.string ⟨⟨denB (unAt s p).f.y1.den⟩⟩), IV.v (Value.bool false), IV.v (Value.string ⟨⟨magB x4.natAbs⟩⟩), IV.v (Value.bool (decide (x4 < 0))), IV.v (Value.string ⟨⟨denB (unAt s p).f.y0.den⟩⟩), IV.v (Value.bool false), IV.v (Value.string ⟨⟨magB x5.natAbs⟩⟩), IV.v (Value.bool (decide (x5 < 0))), IV.v (Value.string ⟨⟨denB (unAt s p).f.x1.den⟩⟩), IV.v (Value.bool false), IV.v (Value.string ⟨⟨magB x6.natAbs⟩⟩), IV.v (Value.bool (decide (x6 < 0))), IV.v (Value.string ⟨⟨denB (unAt s p).f.x0.den⟩⟩), IV.v (Value.bool false), IV.v (Value.string ⟨⟨magB x7.natAbs⟩⟩), IV.v (Value.bool (decide (x7 < 0))), IV.v (Value.bool (unAt s p).ob), IV.v (Value.bool (unAt s p).oa), IV.v (Value.bool false), x8, IV.v (Value.bool false), x8, IV.v (Value.bool false), x9, IV.v (Value.bool false), IV.v (Value.string ⟨⟨magB x10.natAbs⟩⟩), IV.v (Value.bool (decide (x10 < 0))), IV.v (Value.bool false), x8, IV.v (Value.bool false), x8, IV.v (Value.bool false), x9, IV.v (Value.bool false), IV.v (Value.string ⟨⟨magB x11.natAbs⟩⟩), IV.v (Value.bool (decide (x11 < 0)))].reverse)))))))))))))) (.need true (.need (unsOk O.length (unEl O)) (.ret (Sum.inr (((), (), m, n, i, ()), (s, p), unsOf O.length (unEl O))))))
def M40 (s : ByteArray) (p : Int) : Tr MemOut :=
 let x1 : List Un := rdUns s (rdP s p) (rdV s p).toNat
 let x2 : Nat := x1.length
 .need true (.need (goodS s p) (.need true (.need true (.need (pre40 (((), (), 0, rdV s p, 0, ()), (s, rdP s p), unsOf 0 fun x => [])) (.need (decide ((rdV s p).toNat ≤ x2)) (.ret { val := AV.c (IV.sl (rdV s p).toNat 36 (unEl x1)), outs := [some (Ent.cells [.c (.v (.string s)), .c (.v (.int IntKind.i64 (posUns s (rdP s p) (rdV s p).toNat))), .c (.v (.int IntKind.i64 0))] 78), some (Ent.cells [AV.ptr 0 0] 76)] }))))))
theorem step40_eq (x : T40) : (exec Tryz.prog Γ40 noL 1010 (loopOf 0 (codeOf Tryz.f40)) (mkSt lp40.nIn (lp40.head x))).bind (lp40.fin 2 0) = step40 x.1.2.2.1 x.1.2.2.2.1 x.1.2.2.2.2.1 x.2.1.1 x.2.1.2 x.2.2 := by
 obtain ⟨⟨⟨⟩, ⟨⟩, m, n, i, ⟨⟩⟩, ⟨s, p⟩, O⟩ := x
 kernel_rfl
theorem M40_eq (s : ByteArray) (p : Int) : execM Tryz.prog Γ40 L40 1010 true Tryz.f40 [some (.cells [.c (.v (.string s)), intA .i64 p, intA .i64 0] 78), some (.cells [.ptr 0 0] 76)] [.ptr 0 0, .fn 41 [.ptr 1 0]] = M40 s p := by kernel_rfl
theorem step40_in (n i : Nat) (s : ByteArray) (p : Int) (O : List Un) (hi : i < n) (hn : n ≤ 1000) (hO : O.length = i) (hg : goodAt s p = true) (Q : T40 ⊕ T40 → Prop) (hq : Q (.inl (((), (), (O ++ [unAt s p]).length, (n : Int), ((i + 1 : Nat) : Int), ()), ((s, nxAt s p), O ++ [unAt s p])))) : (step40 O.length n i s p O).sat Q := by
 have hw1 : IntKind.i64.wrap ((i : Int) + 1) = ((i + 1 : Nat) : Int) := by rw [wrap_i64 (by omega)]; omega
 have c2 : decide ((i : Int) < (n : Int)) = true := decide_eq_true (by omega)
 have d1 : decide (O.length + 1 ≤ 9223372036854775807) = true := decide_eq_true (by omega)
 have d2 : decide ((O.length + 1) * 408 ≤ 140737488355328) = true := decide_eq_true (by omega)
 have hl : (O ++ [unAt s p]).length = O.length + 1 := by simp
 rw [hl] at hq
 simp only [step40, hg]
 generalize unAt s p = u at hq ⊢
 simp only [↓un_fold, ↓iv_fold, ↓ln_fold, ↓tm_fold, un_eta, iv_eta, take_un1, take_un2, take_iv1, take_iv2, tmV_cells, tmOk_cells, unV_cells, unOk_cells, ivV_lit, ivOk_lit, lineV_cells, lineOk_cells, unsOf_el, unsOk_units, sat_true, rev_fold, take_univ, unV_iv, unOk_iv, unsOf_join, unsOk_join, Bool.and_true, eq_self, decide_true, Nat.le_refl, hw1, c2, d1, d2, Bool.and_self]
 repeat first
  | with_reducible refine need_true ?_
  | with_reducible refine ite_tr ?_
  | with_reducible refine ite_fa ?_
 exact sat_ret hq
theorem rdUns_len (s : ByteArray) : ∀ (k : Nat) (p : Int), (rdUns s p k).length = k
 | 0, _ => rfl
 | k + 1, p => by simp only [rdUns, List.length_cons, rdUns_len s k]
theorem runs40 (s : ByteArray) (n : Nat) (hn : n ≤ 1000) (Q : T40 → Prop) : ∀ (k i : Nat) (p : Int) (O : List Un), i + k = n → O.length = i → goodUns s p k = true → Q (((), (), n, (n : Int), (n : Int), ()), ((s, posUns s p k), O ++ rdUns s p k)) →
  RunsX (fun x : T40 => step40 x.1.2.2.1 x.1.2.2.2.1 x.1.2.2.2.2.1 x.2.1.1 x.2.1.2 x.2.2) Q (k + 1) (((), (), O.length, (n : Int), (i : Int), ()), ((s, p), O))
 | 0, i, p, O, he, hO, hg, hq => by
  obtain rfl : i = n := by omega
  show (step40 O.length (i : Nat) (i : Nat) s p O).sat _
  have c2 : decide (((i : Nat) : Int) < (i : Int)) = false := decide_eq_false (by omega)
  simp only [rdUns, posUns, List.append_nil] at hq
  rw [← hO] at hq
  simp only [step40, c2, unsOf_el, unsOk_units]
  rw [← hO]
  exact ite_fa (need_true (need_true (sat_ret hq)))
 | k + 1, i, p, O, he, hO, hg, hq => by
  simp only [goodUns, Bool.and_eq_true] at hg
  refine step40_in n i s p O (by omega) hn hO hg.1 _ ?_
  refine runs40 s n hn Q k (i + 1) (nxAt s p) (O ++ [unAt s p]) (by omega) (by simp; omega) hg.2 ?_
  rw [List.append_assoc]
  exact hq
theorem f40_loops : BlocksOk Tryz.prog 2 L40 (codeOf Tryz.f40) := by
 refine blocksOk_of (d := fun id => Nat.beq id 0) (fun id => by unfold L40; cases Nat.beq id 0 <;> rfl) _ ?_
 have hb : blocksOf (fun id => Nat.beq id 0) (codeOf Tryz.f40) = [(0, .loop (loopOf 0 (codeOf Tryz.f40)))] := by kernel_rfl
 rw [hb]
 intro p hp g hg
 simp only [List.mem_singleton] at hp
 subst hp
 have hh : L40 0 = some ((lp40).g 2) := rfl
 rw [hh] at hg
 obtain rfl : g = (lp40).g 2 := (Option.some.inj hg).symm
 refine LoopSt.ok2 (N := 1010) prog_mixed Γ40_ok (L := noL) (blocksOk_none 2 _) lp40_good (fun x => step40_eq x) ?_
 rintro ⟨⟨⟨⟩, ⟨⟩, m, n, i, ⟨⟩⟩, ⟨s, p⟩, O⟩ hx
 have hx : pre40 (((), (), m, n, i, ()), ((s, p), O)) = true := hx
 simp only [pre40, Bool.and_eq_true, decide_eq_true_eq] at hx
 obtain ⟨h1, h2, h3, h4, h5, h6⟩ := hx
 obtain rfl : O = [] := List.length_eq_zero_iff.1 h3
 subst h1 h2
 obtain ⟨n, rfl⟩ : ∃ k : Nat, n = k := ⟨n.toNat, by omega⟩
 rw [Int.toNat_natCast] at h6
 exact ⟨_, runs40 s n (by omega) (· = (((), (), n, (n : Int), (n : Int), ()), ((s, posUns s p n), rdUns s p n))) n 0 p [] (by omega) rfl h6 rfl⟩
theorem M40_sat (s : ByteArray) (p : Int) (h : (goodS s p && (decide (rdV s p ≤ 1000) && goodUns s (rdP s p) (rdV s p).toNat)) = true) : (M40 s p).sat (OutOf { val := usA (rdUns s (rdP s p) (rdV s p).toNat), outs := [some (.cells [.c (.v (.string s)), intA .i64 (posUns s (rdP s p) (rdV s p).toNat), intA .i64 0] 78), some (.cells [.ptr 0 0] 76)] }) := by
 have h' := h
 simp only [goodS, Bool.and_eq_true, decide_eq_true_eq] at h'
 obtain ⟨⟨_, _, _, h4, _⟩, h6, h7⟩ := h'
 rw [Bool.and_eq_true] at h
 have e0 : unsOf 0 (fun _ => ([] : List IV)) = [] := rfl
 have hp : pre40 (((), (), 0, rdV s p, 0, ()), ((s, rdP s p), [])) = true := by
  simp only [pre40, h7, decide_true, Bool.true_and, Bool.and_eq_true, decide_eq_true_eq, List.length_nil]
  exact ⟨h4, h6, trivial⟩
 simp only [M40, h.1, e0, hp, rdUns_len, Nat.le_refl, decide_true]
 repeat with_reducible refine need_true ?_
 refine sat_ret ⟨?_, EntsEqv.refl _⟩
 have e := rdUns_len s (rdV s p).toNat (rdP s p)
 unfold usA
 rw [e]
 exact Sees.refl _
def K40 : MSpec := (MForm.with eN40 (.cons (argPtr 0 0) (.cons (argFn1 41 1 0) .nil))).K (fun x => { val := usA (rdUns x.2.1 (rdP x.2.1 x.2.2) (rdV x.2.1 x.2.2).toNat), outs := [some (.cells [.c (.v (.string x.2.1)), intA .i64 (posUns x.2.1 (rdP x.2.1 x.2.2) (rdV x.2.1 x.2.2).toNat), intA .i64 0] 78), some (.cells [.ptr 0 0] 76)] }) fun x => [goodS x.2.1 x.2.2 && (decide (rdV x.2.1 x.2.2 ≤ 1000) && goodUns x.2.1 (rdP x.2.1 x.2.2) (rdV x.2.1 x.2.2).toNat)]
theorem f40_ok : MemOk Tryz.prog 40 K40 :=
 (MForm.with eN40 (.cons (argPtr 0 0) (.cons (argFn1 41 1 0) .nil))).memEq (N := 1010) (frz := true) (L := L40) prog_mixed Γ40_ok (fn := Tryz.f40) (c := codeOf Tryz.f40) (by kernel_rfl) (by kernel_rfl) (by kernel_rfl)
  (fun e l x cs h => by
   obtain ⟨ds, h2⟩ := with_parse h
   rw [eN40_len h2]
   exact f40_loops) (M := fun x => M40 x.2.1 x.2.2) (fun x => M40_eq x.2.1 x.2.2)
  fun x h => M40_sat x.2.1 x.2.2 (h _ (by simp))
def Γb8 : FuncId → Option Spec := fun f => bif Nat.beq f 40 then some (memSpec K40) else bif Nat.beq f 19 then some (memSpec K19) else bif Nat.beq f 11 then some (pureSpec K11) else none
theorem Γb8_ok : ∀ f s, Γb8 f = some s → SpecOk Tryz.prog f s := step_ok f40_ok.spec (step_ok f19_ok.spec (one_ok f11_ok.spec))
def M8 (s : ByteArray) : Tr AV :=
 let x1 : Int := rdV s 0
 let x2 : Int := rdP s 0
 let x3 : Nat := x1.toNat
 let x4 : Int := posUns s x2 x3
 let x5 : Int := ↑s.data.toList.length
 let x6 : List AV := [.c (.v (.int IntKind.i64 0))]
 let x7 : List Un := rdUns s x2 x3
 let x8 : Nat := x7.length
 let x9 : List Un := unsOf x8 (unEl x7)
 let x10 : Int := bif goodU x9 then 0 else 7
 .need true (.need (goodS s 0 && (decide (x1 ≤ 1000) && goodUns s x2 x3)) (.need true (.need (decide (x4 = x5)) (.ite false (.ret (AV.tup (.c (.v (.slice none 0 0)) :: x6))) (.need (unsOk x8 (unEl x7)) (.need (preK24 x9) (.ite (x10 != 0) (.ret (AV.tup [.c (.v (.slice none 0 0)), .c (.v (.int IntKind.i64 x10))])) (.ret (AV.tup (AV.c (IV.sl x8 36 (unEl x7)) :: x6))))))))))
theorem M8_eq (s : ByteArray) : execFn Tryz.prog (inlΓ Tryz.prog Γb8 (fun _ => false) 1010 2) noL 1010 Tryz.f8 [.c (.v (.string s))] = M8 s := by kernel_rfl
theorem nil_sees : Sees (.c (.v (.slice none 0 0))) (usA []) := Sees.nil _ _
theorem M8_sat (s : ByteArray) (hf : goodF s = true) (hk : preK24 (unsF s) = true) : (M8 s).sat fun r => noPtr r = true ∧ Sees r (.tup [usA (bif goodU (unsF s) then unsF s else []), intA .i64 (bif goodU (unsF s) then 0 else 7)]) := by
 unfold goodF at hf
 simp only [Bool.and_eq_true, decide_eq_true_eq] at hf
 obtain ⟨f1, f2, f3, f4⟩ := hf
 have c1 : (goodS s 0 && (decide (rdV s 0 ≤ 1000) && goodUns s (rdP s 0) (rdV s 0).toNat)) = true := by
  rw [f1, decide_eq_true f2]
  exact f3
 have c2 : decide (posUns s (rdP s 0) (rdV s 0).toNat = (s.data.toList.length : Int)) = true := decide_eq_true f4
 have eU : rdUns s (rdP s 0) (rdV s 0).toNat = unsF s := rfl
 simp only [M8, c1, c2, eU]
 generalize unsF s = U at hk ⊢
 simp only [unsOf_el, unsOk_units, hk]
 repeat first
  | with_reducible refine need_true ?_
  | with_reducible refine ite_fa ?_
 cases hg : goodU U with
 | true => exact ite_fa (sat_ret ⟨rfl, Sees.refl _⟩)
 | false => exact ite_tr (sat_ret ⟨rfl, Sees.tup (.cons nil_sees (SeesL.refl _))⟩)
def K8 : List AV → Option (AV × List Bool) := (F1 argStr).K (fun x => .tup [usA (bif goodU (unsF x.1) then unsF x.1 else []), intA .i64 (bif goodU (unsF x.1) then 0 else 7)]) fun x => [goodF x.1, preK24 (unsF x.1)]
theorem f8_ok : PureOk Tryz.prog 8 K8 :=
 (F1 argStr).pureOk (N := 1010) (L := noL) prog_mixed (inlΓ_ok prog_mixed Γb8_ok 2) (fn := Tryz.f8) (c := codeOf Tryz.f8) (by kernel_rfl) (by kernel_rfl) (by kernel_rfl) (blocksOk_none _ _) (fun _ => rfl) fun x h => by
  show (execFn Tryz.prog (inlΓ Tryz.prog Γb8 (fun _ => false) 1010 2) noL 1010 Tryz.f8 [.c (.v (.string x.1))]).sat _
  rw [M8_eq]
  exact M8_sat x.1 (h _ (by simp)) (h (preK24 (unsF x.1)) (by simp))
end Go.Vse
