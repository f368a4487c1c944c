/- Helpers for the proof: no statement of its own. -/
import Derived.Test.YtaidphfhmbpelaaGreatDoorSeqA
set_option linter.unusedVariables false
set_option linter.unusedSimpArgs false
set_option linter.unnecessarySimpa false
set_option linter.deprecated false
set_option maxRecDepth 1000000
set_option maxHeartbeats 2000000
namespace Go.Vse
open Go.Proofs Go.RowKit
theorem f84_body : Tryz.f84.body = some (codeOf Tryz.f84) := by kernel_rfl
theorem f83_body : Tryz.f83.body = some (codeOf Tryz.f83) := by kernel_rfl
theorem at84 : Tryz.prog.funcs[84]? = some Tryz.f84 := by kernel_rfl
theorem at83f : Tryz.prog.funcs[83]? = some Tryz.f83 := by kernel_rfl
theorem nt83 : Tryz.f83.ntmps = 13 := by kernel_rfl
theorem res84 : Tryz.f84.results = #[] := by kernel_rfl
theorem res83 : Tryz.f83.results = #[.tmp 4] := by kernel_rfl
def r4l : Code := .region 4 #[{ dst := some 12, op := Op.load 79 (Operand.tmp 2), type := 79, pos := "iter.go:54", after := #[], guard := none }, { dst := some 4, op := Op.assign (Operand.tmp 12), type := 79, pos := "iter.go:54", after := #[{ on := 0, ground := Ground.data }, { on := 0, ground := Ground.phase }], guard := none }] false
theorem r4_eq : r4Of (codeOf Tryz.f83) = r4l := by kernel_rfl
theorem part79 (u : Value) : partA Tryz.prog 79 (ivs [.v u]) 0 = some (.c (.v u)) := by kernel_rfl
theorem Γ84_at {C : Ctx} {sY : Spec} (h : SpecAt C Tryz.prog yieldNo sY) : ∀ f s, Γ84 sY f = some s → SpecAt C Tryz.prog f s := by
 intro f s hs
 unfold Γ84 at hs
 cases hb : Nat.beq f 1000000000 with
 | true =>
   rw [hb] at hs
   simp only [cond_true, Option.some.injEq] at hs
   subst hs
   rw [show f = yieldNo from Nat.eq_of_beq_eq_true hb]
   exact h
 | false =>
   rw [hb] at hs
   simp only [cond_false] at hs
   cases hb : Nat.beq f 38 with
   | true =>
     rw [hb] at hs
     simp only [cond_true, Option.some.injEq] at hs
     subst hs
     rw [Nat.eq_of_beq_eq_true hb]
     exact tab38_ok.spec.at C
   | false =>
     rw [hb] at hs
     simp only [cond_false] at hs
     cases hb : Nat.beq f 85 with
     | true =>
       rw [hb] at hs
       simp only [cond_true, Option.some.injEq] at hs
       subst hs
       rw [Nat.eq_of_beq_eq_true hb]
       exact tab85_ok.spec.at C
     | false => rw [hb] at hs; cases hs
theorem tail83 {A : Nat → Prop} {w : World} {Q : Exit → Act → World → Prop} {a : Act} {W : World} {Bs : Nat} {u : Value} (hsz : a.tmps.size = 13) (h2 : a.tmps.getD 2 undef = .pointer (some ⟨Bs, 0, none⟩)) (hcell : W.heap[Bs]? = some (.cells #[u] 79 (0, 0)))
   (hQ : Q .ret ((a.put (some 12) u).put (some 4) u) W) : (Code.seq r4l .ret).wpIn Fence.wide 0 Tryz.prog Q a W := by
 have hc : (W.cell? ⟨Bs, 0, none⟩).isSome = true ∧ IRel (fun _ => False) W (.v u) (cellD W ⟨Bs, 0, none⟩) := by
   have e : W.cell? ⟨Bs, 0, none⟩ = some u := by simp [World.cell?, hcell]
   refine ⟨by rw [e]; rfl, ?_⟩
   have : cellD W ⟨Bs, 0, none⟩ = u := by simp [cellD, e]
   rw [this]
   exact .v u
 obtain ⟨u', hrun, hrel⟩ := run_loadVar_cells (P := Tryz.prog) (B := fun _ => none) (A := fun _ => False) (w := W) (t := 79) (b := Bs) (off := 0) (j := 0) (l := [.v u]) (fun i hi => by
   have : i = 0 := by simpa using hi
   subst this
   exact hc) (part79 u)
 have hu : u' = u := hrel.plain
 subst hu
 have hrun' : (loadVar 79 ⟨Bs, 0, none⟩).run Tryz.prog W = .ok u' W := hrun
 refine wpIn_seq (wpIn_region ?_)
 have hev : a.eval (.tmp 2) = .pointer (some ⟨Bs, 0, none⟩) := h2
 show wpOpsIn Fence.wide 0 Tryz.prog _ _ [0, 1] a W
 rw [wpOpsIn_cons]
 unfold wpOpIn
 simp only [List.getElem?_toArray, List.getElem?_cons_zero, Region.wanted, if_true]
 refine ⟨fun _ _ => trivial, ?_⟩
 rw [show ∀ (o : Oper), o.op = Op.load 79 (Operand.tmp 2) → (o.semAt Fence.wide.round a.eval).run Tryz.prog W = .ok (.value u') W from fun o ho => by
   rw [Oper.semAt_eq _ _ _ (by intro c hc; rw [ho] at hc; cases hc)]
   simp [execOp, ho, Instr.loadAt, hev, Instr.sureAddr, hrun'] ]
 · rw [Oper.uponIn_value]
   show wpOpsIn Fence.wide 0 Tryz.prog _ _ [1] (a.put (some 12) u') W
   have hev2 : (a.put (some 12) u').eval (.tmp 12) = u' := by
     show (a.tmps.setIfInBounds 12 u').getD 12 undef = u'
     simp [Array.getD_eq_getD_getElem?, hsz]
   rw [wpOpsIn_cons]
   unfold wpOpIn
   simp only [List.getElem?_toArray, List.getElem?_cons_succ, List.getElem?_cons_zero, Region.wanted, if_true]
   refine ⟨fun _ _ => trivial, ?_⟩
   rw [show ∀ (o : Oper), o.op = Op.assign (Operand.tmp 12) → (o.semAt Fence.wide.round (a.put (some 12) u').eval).run Tryz.prog W = .ok (.value u') W from fun o ho => by
     rw [Oper.semAt_eq _ _ _ (by intro c hc; rw [ho] at hc; cases hc)]
     simp [execOp, ho, hev2] ]
   · rw [Oper.uponIn_value]
     exact wpIn_ret hQ
   · rfl
 · rfl
theorem frozen_slice {C : Ctx} {B : Bmap} {S : St} {a : Act} {w : World} (hC : C.Ok) (H : Holds C B S a w) {n : Nat} {el : Nat → List IV} {out : List (List IV)} {u : Value} (hn : n = out.length) (hm : S.mem 1 = some (.arr n 20 el 38)) (hel : ∀ k, k < n → el k = out.getD k [])
   (h : ARel (ownOf C.A0 B S.mem) B w (.msl 1 n 20) u) : ARel C.A0 (fun _ => none) w (sl20 out) u := by
 subst hn
 have hv : viewA S.mem (.msl 1 out.length 20) = (.c (.sl out.length 20 el), [decide (out.length ≤ out.length)]) := by
   simp [viewA, hm]
 have hr := viewA_rel H (A := C.A0) (fun b hb => .inl hb) _ u h (fun b hb => by
   rintro ⟨s, _, e, _, h2⟩
   exact own_not hC H h2 hb) (by rw [hv]; intro p hp; simp only [List.mem_singleton] at hp; subst hp; simp)
 rw [hv] at hr
 have hs : Sees (.c (.sl out.length 20 el)) (sl20 out) := Sees.sl hel
 exact hs _ _ _ _ (hr.noPtr rfl _)
theorem row83 {pts per : IV} {out : List (List IV)} (hg : Gathers pts per out) : RowTrue Tryz.prog 83 [.c (.v (.slice none 0 0)), .fn 84 [.iptr [pts], .iptr [per]]] (sl20 out) := by
 intro A w vs hA hargs
 refine CallsTo.enter at83f ⟨callFunc_enter at83f f83_body (by kernel_rfl) _ _, (callsIn_wide (n := 0)).1 (callsIn_of_wp_marks at83f f83_body trivial ?_ rfl)⟩
 rw [code83, r4_eq, nt83]
 obtain ⟨hC, H0⟩ := start_holds (nt := 13) hA hargs
 have hs0 : ((exec Tryz.prog (fun _ => none) noL 1010 (r0Of (codeOf Tryz.f83)) (start [.c (.v (.slice none 0 0)), .fn 84 [.iptr [pts], .iptr [per]]] 13)).bind (onN (exec Tryz.prog (fun _ => none) noL 1010 (r1Of (codeOf Tryz.f83))))).sat (· = (Ex.normal, { tm := [.c (.v (.slice none 0 0)), .fn 84 [.iptr [pts], .iptr [per]], .ptr 0 0, .c (.v undef), .c (.v (.slice none 0 0)), .c (.v undef), .fn 84 [.iptr [pts], .iptr [per]], .c (.v undef), .c (.v undef), .c (.v undef), .c (.v undef), .c (.v undef), .c (.v undef)], mem := Mem.set (fun _ => none) 0 (some (.cells [.c (.v (.slice none 0 0))] 79)), nx := 3 })) := by
   rw [run83 pts per]
   exact sat_ret rfl
 have noAt : ∀ (C : Ctx) (f : FuncId) (s : Spec), (fun _ => none : FuncId → Option Spec) f = some s → SpecAt C Tryz.prog f s := fun C f s h => by cases h
 refine wpIn_seq (wpV_mono ?_ (exec_sound (ro := none) prog_mixed (L := noL) (N := 1010) (noAt _) hC _ (blocksOk_none _ _) _ _ _ _ _ (Tr.sat_bind hs0) H0))
 rintro e a1 w1 ⟨ex, S1, B1, rfl, H1, hq1⟩
 cases ex with
 | exit j => exact hq1.elim
 | ret => exact hq1.elim
 | normal =>
 refine wpIn_seq (wpIn_seq (wpV_mono ?_ (exec_sound (ro := none) prog_mixed (L := noL) (N := 1010) (noAt _) hC (r1Of (codeOf Tryz.f83)) (blocksOk_none _ _) _ S1 _ _ _ hq1 H1)))
 rintro e a2 w2 ⟨ex, S2, B2, rfl, H2, hq2⟩
 simp only [Prod.mk.injEq] at hq2
 obtain ⟨rfl, hS⟩ := hq2
 have hB0 : ∃ Bs, B2 0 = some Bs ∧ a2.tmps.getD 2 undef = .pointer (some ⟨Bs, 0, none⟩) := by
   have h := H2.tm 2 (by rw [hS]; show 2 < 13; decide)
   rw [hS] at h
   obtain ⟨β, h1, h2⟩ := (show ARel _ _ _ (.ptr 0 0) _ from h).ptr_inv
   exact ⟨β, h1, h2⟩
 obtain ⟨Bs, hB, hp2⟩ := hB0
 have hm : S2.mem 0 = some (.cells [.c (.v (.slice none 0 0))] 79) := by rw [hS]; rfl
 have hsize : a2.tmps.size = 13 := by rw [H2.size, hS]; rfl
 have hfn : ∃ cs : List Value, a2.eval (.tmp 6) = .func (.func 84) #[] cs.toArray ∧ Rels (ownOf A B2 S2.mem) B2 w2 [.iptr [pts], .iptr [per]] cs := by
   have h := eval_rel H2 (.tmp 6)
   have e : evalA S2.tm (.tmp 6) = .fn 84 [.iptr [pts], .iptr [per]] := by rw [hS]; rfl
   rw [e] at h
   exact h.fn_inv
 obtain ⟨cs, hev, hcs⟩ := hfn
 obtain ⟨p1, cs1, rfl, hp, hcs⟩ := hcs.head
 obtain ⟨p2', cs2, rfl, hq, hcs⟩ := hcs.head
 obtain rfl := hcs.nil_inv
 refine wpIn_block (wpIn_rangeFunc ?_)
 intro fn _
 let l := w2.heap.size + 1
 let rec0 : Loop := { state := .ready, pending := none, fn, tmps := a2.tmps, params := #[7], assign := asOf (blkOf (codeOf Tryz.f83)), body := boOf (blkOf (codeOf Tryz.f83)), defers := w2.heap.size }
 obtain ⟨hC84, H84⟩ := holds84 hC H2 hB hm (o1 := .deferred (some [])) (o2 := .loop rec0) hp hq
 have hl1 : ((w2.alloc (.deferred (some []))).alloc (.loop rec0)).heap[w2.heap.size + 1]? = some (.loop rec0) := by
   have := World.alloc_heap_new (w2.alloc (.deferred (some []))) (.loop rec0)
   rwa [World.size_alloc] at this
 have hD1 : ((w2.alloc (.deferred (some []))).alloc (.loop rec0)).heap[w2.heap.size]? = some (.deferred (some [])) :=
   (Below.heap_alloc _ _ _ (by simp)).trans (World.alloc_heap_new w2 _)
 refine ⟨w2.heap.size + 1, [{ target := .collected w2.heap.size, args := #[] }], (w2.alloc (.deferred (some []))).alloc (.loop rec0), { target := .fn (.func 84) #[p1, p2'], args := #[.func (.yield (w2.heap.size + 1)) #[] #[]] }, (w2.alloc (.deferred (some []))).alloc (.loop rec0), 84, #[.func (.yield (w2.heap.size + 1)) #[] #[]] ++ #[p1, p2'], (w2.alloc (.deferred (some []))).alloc (.loop rec0), run_enterLoop_outer _ _ _ _ _, ?_, fun _ _ => trivial, ?_, fun h => (by cases h), ?_⟩
 · simp only [resolve, hev]
   simp [go_sem]
 · simp [invoke, go_sem, callFunc_enter at84 f84_body (by kernel_rfl)]
 · refine callsIn_wide.2 (calls_of_wp at84 f84_body ?_)
   have hyield := yield_at (P := Tryz.prog) prog_mixed (N := 5) (nt := 13) (tb := 2) (p := 7) (l := w2.heap.size + 1) (box := 0) hsize hp2 (by decide) hC84 (.inr (.inl rfl)) (Nat.lt_succ_self 0) rfl hl1
   refine Code.wp_mono ?_ (wp_of_vse (exec_sound (ro := none) prog_mixed (L := noL) (N := 1010) (Γ84_at hyield) hC84 (codeOf Tryz.f84) (blocksOk_none _ _) _ _ _ _ _ (Tr.sat_bind (hg (w2.heap.size + 1))) H84))
   rintro e a' W2 ⟨ex, S', B', rfl, H', hq'⟩
   have hne : ex = .normal ∨ ex = .ret := by
     cases ex with
     | exit j => exact hq'.elim
     | normal => exact .inl rfl
     | ret => exact .inr rfl
   have hpk : ∃ o, packM 1 S' (boolA true) = some o ∧ gotB o out = true := by
     have key : (match packM 1 S' (boolA true) with | some o => Tr.ret o | none => Tr.fail "seq: pack").sat (fun o => gotB o out = true) := by
       rcases hne with rfl | rfl <;> exact hq'
     split at key
     · rename_i o ho; exact ⟨o, ho, key⟩
     · exact key.elim
   obtain ⟨o, ho, hgot⟩ := hpk
   obtain ⟨B3, Hp, _, hol⟩ := packM_sound (k := 1) rfl H' (x := boolA true) (v := .bool true) (ARel.lit _) ho
   obtain ⟨el, ho1, ho2, hel⟩ := gotB_spec hgot
   have hm0 : (memSt (o.outs ++ [o.new]) (1 + 1)).mem 0 = some (.cells [.msl 1 out.length 20] 79) := by rw [ho1, ho2]; rfl
   have hm1 : (memSt (o.outs ++ [o.new]) (1 + 1)).mem 1 = some (.arr out.length 20 el 38) := by rw [ho1, ho2]; rfl
   have hB3 : B3 0 = some Bs := Hp.base 0 (Nat.lt_succ_self 0)
   obtain ⟨u, hcell, hu⟩ : ∃ u, W2.heap[Bs]? = some (.cells #[u] 79 (0, 0)) ∧ ARel (ownOf (fun b => A b ∨ (b = w2.heap.size + 1 ∨ b = w2.heap.size)) B3 (memSt (o.outs ++ [o.new]) (1 + 1)).mem) B3 W2 (.msl 1 out.length 20) u := by
     rcases Hp.mem 0 _ hm0 with ⟨β, h1, h2⟩ | ⟨h1, _⟩
     · rw [hB3] at h1
       cases h1
       generalize W2.heap[Bs]? = ob at h2 ⊢
       cases h2 with
       | cells _ _ cs hcs hr =>
         have h1 : cs.size = 1 := hcs
         have e : cs = #[cs.getD 0 undef] := by
           apply Array.ext
           · simp [h1]
           · intro i hi _
             have : i = 0 := by omega
             subst this
             simp [Array.getD_eq_getD_getElem?, h1]
         exact ⟨cs.getD 0 undef, by rw [← e], hr 0 (by simp)⟩
     · rw [hB3] at h1; cases h1
   have hres := frozen_slice hC84 Hp rfl hm1 hel hu
   have hBlt : Bs < w2.heap.size := (H2.old 0 Bs hB).2
   have hBge : w.heap.size ≤ Bs := ((H2.old 0 Bs hB).1).resolve_right (fun h => h)
   have hW1 : ((w2.alloc (.deferred (some []))).alloc (.loop rec0)).heap.size = w2.heap.size + 2 := by simp
   have hl2 : W2.heap[w2.heap.size + 1]? = some (.loop rec0) := (H'.kept.block (w2.heap.size + 1) (by show _ < ((w2.alloc (.deferred (some []))).alloc (.loop rec0)).heap.size; omega) (fun h => by have h : w2.heap.size + 1 = Bs := h; omega)).trans hl1
   have hD2 : W2.heap[w2.heap.size]? = some (.deferred (some [])) := (H'.kept.block w2.heap.size (by show _ < ((w2.alloc (.deferred (some []))).alloc (.loop rec0)).heap.size; omega) (fun h => by have h : w2.heap.size = Bs := h; omega)).trans hD1
   have hD3 : (W2.putObj (w2.heap.size + 1) (.loop { rec0 with state := .exhausted })).heap[w2.heap.size]? = some (.deferred (some [])) := (World.putObj_heap_other (by omega)).trans hD2
   have fin : ∀ v : Value, rangePost Fence.wide 0 Tryz.prog (w2.heap.size + 1) (Exit.inBlock 0 (Exit.then (Code.wpIn Fence.wide 0 Tryz.prog (r4l.seq Code.ret) (bodyPostM Fence.wide 0 Tryz.prog Tryz.f83 fun e w' => ∃ u, e = Ending.returned u ∧ ARel A (fun x => none) w' (sl20 out) u ∧ Below w.heap.size w w'))
       (bodyPostM Fence.wide 0 Tryz.prog Tryz.f83 fun e w' => ∃ u, e = Ending.returned u ∧ ARel A (fun x => none) w' (sl20 out) u ∧ Below w.heap.size w w')))
       { tmps := a2.tmps, defers := [{ target := Target.collected w2.heap.size, args := #[] }] ++ a2.defers } (.returned v) W2 := by
     intro v
     refine ⟨none, _, run_endLoop hl2 (by simp [rec0]), ?_⟩
     show Code.wpIn Fence.wide 0 Tryz.prog (r4l.seq Code.ret) _ _ _
     refine tail83 (A := A) (w := w) (Bs := Bs) (u := u) hsize hp2 ((World.putObj_heap_other (by omega)).trans hcell) ?_
     show LeavesInM Fence.wide 0 Tryz.prog Tryz.f83 _ _ ([{ target := Target.collected w2.heap.size, args := #[] }] ++ a2.defers) .returning _
     rw [H2.defers]
     refine ⟨by simp, .inl ⟨w2.heap.size, _, rfl, run_takeDeferred hD3, ?_⟩⟩
     show LeavesIn Fence.wide 0 Tryz.prog Tryz.f83 _ _ [] .returning _
     refine ⟨_, results_tmp res83 _ _ _, u, ?_, ?_, ?_⟩
     · congr 1
       show ((a2.tmps.setIfInBounds 12 u).setIfInBounds 4 u).getD 4 undef = u
       simp [Array.getD_eq_getD_getElem?, hsize]
     · have t1 := trans_turn (A := fun b => A b ∨ (b = w2.heap.size + 1 ∨ b = w2.heap.size)) (o' := .loop { rec0 with state := .exhausted }) hl2 (fun _ _ _ h => by cases h) (.inr (.inl rfl))
       have t2 := trans_turn (A := fun b => A b ∨ (b = w2.heap.size + 1 ∨ b = w2.heap.size)) (o' := .deferred none) hD3 (fun _ _ _ h => by cases h) (.inr (.inr rfl))
       exact ((hres.trans t1 (fun _ _ h => h) (fun _ _ h => h)).trans t2 (fun _ _ h => h) (fun _ _ h => h)).trans (Trans.refl _ _) (fun b _ h => .inl h) (fun _ _ h => h)
     · have k2 := H2.kept
       have k4 := H'.kept
       have hs2 : w.heap.size ≤ w2.heap.size := k2.size
       have hs4 : w2.heap.size + 2 ≤ W2.heap.size := by have := k4.size; simpa using this
       refine ⟨?_, ?_, ?_, ?_, ?_⟩
       · exact k4.os.trans k2.os
       · exact k4.tape.trans k2.tape
       · exact k4.output.trans k2.output
       · simp only [World.putObj_size]; omega
       · intro k hk
         rw [World.putObj_heap_other (by omega), World.putObj_heap_other (by omega), k4.block k (by show k < ((w2.alloc (.deferred (some []))).alloc (.loop rec0)).heap.size; omega) (fun h => by have h : k = Bs := h; omega)]
         show ((w2.alloc (.deferred (some []))).alloc (.loop rec0)).heap[k]? = _
         rw [Below.heap_alloc _ _ k (by simp; omega), Below.heap_alloc _ _ k (by omega)]
         exact k2.block k hk (fun h => h)
   have hr : ∃ v, (results Tryz.f84 a'.tmps).run Tryz.prog W2 = .ok v W2 := by
     obtain ⟨v, hv, _⟩ := resultsA_sound (fn := Tryz.f84) (P := Tryz.prog) H' (x := .tup []) (by rw [res84]; rfl)
     exact ⟨v, hv⟩
   obtain ⟨v, hv⟩ := hr
   rcases hne with rfl | rfl <;> exact ⟨H'.defers, v, hv, fin v⟩
end Go.Vse
set_option maxRecDepth 1000000
set_option maxHeartbeats 2000000
namespace Go.Vse
open Go.Proofs Go.RowKit
def rows83 : List (List AV × AV) := [([.c (.v (.slice none 0 0)), .fn 84 [.iptr [pts1], .iptr [per1]]], sl20 out1), ([.c (.v (.slice none 0 0)), .fn 84 [.iptr [pts2], .iptr [per2]]], sl20 out2)]
theorem tab83_ok : PureOk Tryz.prog 83 (tabK rows83) := by
 refine tab_true ?_
 intro r hr
 simp only [rows83, List.mem_cons, List.not_mem_nil, or_false] at hr
 rcases hr with rfl | rfl
 · exact ⟨rfl, row83 gathers1⟩
 · exact ⟨rfl, row83 gathers2⟩
def Γ55 : FuncId → Option Spec := fun f => bif Nat.beq f 83 then some (pureSpec (tabK rows83)) else none
theorem Γ55_ok : ∀ f s, Γ55 f = some s → SpecOk Tryz.prog f s := one_ok tab83_ok.spec
def rows55 : List (List AV × AV) := [([.fn 84 [.iptr [pts1], .iptr [per1]]], sl20 out1), ([.fn 84 [.iptr [pts2], .iptr [per2]]], sl20 out2)]
theorem row55_0 : rowOk (concPure Tryz.prog Γ55 70 Tryz.f55) ([.fn 84 [.iptr [pts1], .iptr [per1]]], sl20 out1) = true := by kernel_rfl
theorem row55_1 : rowOk (concPure Tryz.prog Γ55 70 Tryz.f55) ([.fn 84 [.iptr [pts2], .iptr [per2]]], sl20 out2) = true := by kernel_rfl
theorem tab55_ok : PureOk Tryz.prog 55 (tabK rows55) := by
 refine tab_ok (concPure_ok (N := 70) prog_mixed Γ55_ok (fn := Tryz.f55) (c := codeOf Tryz.f55) (by kernel_rfl) (by kernel_rfl) (by kernel_rfl)) ?_
 intro r hr
 simp only [rows55, List.mem_cons, List.not_mem_nil, or_false] at hr
 rcases hr with rfl | rfl
 · exact row55_0
 · exact row55_1
theorem own_iptr {C : Ctx} {B : Bmap} {S : St} {a : Act} {w : World} (hC : C.Ok) (H : Holds C B S a w) {s β : Nat} {x : IV} {t : TypeId} (hB : B s = some β) (hm : S.mem s = some (.cells [.c x] t)) :
   ARel C.A0 (fun _ => none) w (.iptr [x]) (.pointer (some ⟨β, 0, none⟩)) := by
 rcases H.mem s _ hm with ⟨γ, h1, h2⟩ | ⟨h1, _⟩
 · rw [hB] at h1
   cases h1
   generalize hob : w.heap[β]? = ob at h2
   cases h2 with
   | cells _ _ cs hcs hr =>
     refine .iptr _ β 0 (own_not hC H hB) (H.old s β hB).2 fun j hj => ?_
     have hj0 : j = 0 := by simpa using hj
     subst hj0
     have h1 : cs.size = 1 := hcs
     have e : w.cell? ⟨β, 0 + 0, none⟩ = some (cs.getD 0 undef) := by simp [World.cell?, hob, Array.getD_eq_getD_getElem?, h1]
     refine ⟨by rw [e]; rfl, ?_⟩
     have e2 : cellD w ⟨β, 0 + 0, none⟩ = cs.getD 0 undef := by unfold cellD; rw [e]; rfl
     rw [e2]
     have := hr 0 (by simp)
     have h3 : ARel (ownOf C.A0 B S.mem) B w (.c x) (cs.getD 0 undef) := this
     cases h3 with
     | c _ _ hi => exact hi.trans (Trans.refl _ _) (fun b _ hb => .inl hb)
 · rw [hB] at h1; cases h1
def K56 : List AV → Option (AV × List Bool)
 | [.c (.sl n 20 el), .c (.sl m 9 el')] => some (.fn 84 [.iptr [.sl m 9 el'], .iptr [.sl n 20 el]], [])
 | _ => none
theorem run56 (n m : Nat) (el el' : Nat → List IV) : exec Tryz.prog (fun _ => none) noL 1010 (codeOf Tryz.f56) (start [.c (.sl n 20 el), .c (.sl m 9 el')] 6) =
   .ret (.ret, { tm := [.c (.sl n 20 el), .c (.sl m 9 el'), .ptr 0 0, .ptr 1 0, .fn 84 [.ptr 1 0, .ptr 0 0], .fn 84 [.ptr 1 0, .ptr 0 0]], mem := Mem.set (Mem.set (fun _ => none) 0 (some (.cells [.c (.sl n 20 el)] 79))) 1 (some (.cells [.c (.sl m 9 el')] 81)), nx := 5 }) := by kernel_rfl
theorem f56_body : Tryz.f56.body = some (codeOf Tryz.f56) := by kernel_rfl
theorem at56 : Tryz.prog.funcs[56]? = some Tryz.f56 := by kernel_rfl
theorem nt56 : Tryz.f56.ntmps = 6 := by kernel_rfl
theorem res56 : Tryz.f56.results = #[.tmp 4] := by kernel_rfl
theorem f56_ok : PureOk Tryz.prog 56 K56 where
 sound := by
   intro args v cs hk
   unfold K56 at hk
   split at hk
   · rename_i n el m el'
     cases hk
     refine ⟨rfl, fun A w vs hA _ hargs => CallsTo.enter at56 ⟨callFunc_enter at56 f56_body (by kernel_rfl) _ _, calls_of_wp at56 f56_body ?_⟩⟩
     rw [nt56]
     obtain ⟨hC, H0⟩ := start_holds (nt := 6) hA hargs
     have hs : (exec Tryz.prog (fun _ => none) noL 1010 (codeOf Tryz.f56) (start [.c (.sl n 20 el), .c (.sl m 9 el')] 6)).sat (· = (Ex.ret, { tm := [.c (.sl n 20 el), .c (.sl m 9 el'), .ptr 0 0, .ptr 1 0, .fn 84 [.ptr 1 0, .ptr 0 0], .fn 84 [.ptr 1 0, .ptr 0 0]], mem := Mem.set (Mem.set (fun _ => none) 0 (some (.cells [.c (.sl n 20 el)] 79))) 1 (some (.cells [.c (.sl m 9 el')] 81)), nx := 5 })) := by
       rw [run56]; exact sat_ret rfl
     refine Code.wp_mono ?_ (wp_of_vse (exec_sound (ro := none) prog_mixed (L := noL) (N := 1010) (Γ := fun _ => none) (fun f s h => by cases h) hC (codeOf Tryz.f56) (blocksOk_none _ _) _ _ _ _ _ hs H0))
     rintro e a' w' ⟨ex, S', B', rfl, H', hq⟩
     simp only [Prod.mk.injEq] at hq
     obtain ⟨rfl, rfl⟩ := hq
     have h4 := H'.tm 4 (by show 4 < 6; decide)
     obtain ⟨cs, hv, hr⟩ := (show ARel _ _ _ (.fn 84 [.ptr 1 0, .ptr 0 0]) _ from h4).fn_inv
     obtain ⟨p1, cs1, rfl, hp, hr⟩ := hr.head
     obtain ⟨p2, cs2, rfl, hq, hr⟩ := hr.head
     obtain rfl := hr.nil_inv
     obtain ⟨β1, hβ1, rfl⟩ := hp.ptr_inv
     obtain ⟨β2, hβ2, rfl⟩ := hq.ptr_inv
     have i1 := own_iptr hC H' (x := .sl m 9 el') (t := 81) hβ1 rfl
     have i2 := own_iptr hC H' (x := .sl n 20 el) (t := 79) hβ2 rfl
     refine ⟨H'.defers, _, results_tmp res56 _ _ _, _, rfl, ?_, H'.kept.below⟩
     rw [hv]
     have hrr : Rels A (fun _ => none) w' [AV.iptr [IV.sl m 9 el'], AV.iptr [IV.sl n 20 el]] [.pointer (some ⟨β1, 0, none⟩), .pointer (some ⟨β2, 0, none⟩)] := Rels.cons i1 (Rels.cons i2 .nil)
     exact .fn 84 _ _ (by simp) fun j hj => by simpa [Array.getD_eq_getD_getElem?, List.getD_eq_getElem?_getD] using hrr.2 j hj
   · cases hk
end Go.Vse
