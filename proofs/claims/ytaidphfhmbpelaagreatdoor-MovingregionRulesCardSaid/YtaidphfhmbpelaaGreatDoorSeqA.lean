/- Helpers for the proof: no statement of its own. -/
import Derived.Test.YtaidphfhmbpelaaGreatDoorTabB
set_option linter.unusedVariables false
set_option linter.unusedSimpArgs false
set_option linter.unnecessarySimpa false
set_option linter.deprecated false
set_option maxRecDepth 1000000
namespace Go.Vse
open Go.Proofs
def blkOf : Code → Code
 | .seq _ (.seq (.seq _ b) _) => b
 | c => c
def asOf : Code → Code
 | .block _ (.rangeFunc _ _ a _) => a
 | _ => .skip
def boOf : Code → Code
 | .block _ (.rangeFunc _ _ _ b) => b
 | _ => .skip
def Γ84 (sY : Spec) : FuncId → Option Spec := fun f => bif Nat.beq f 1000000000 then some sY else
 bif Nat.beq f 38 then some (pureSpec (tabK rows38)) else bif Nat.beq f 85 then some (pureSpec (tabK rows85)) else none
def S84 (l : Nat) (pts per : IV) : St := { tm := [.c (.v (yieldV l)), .iptr [pts], .iptr [per]] ++ List.replicate 45 (.c (.v undef)), mem := memOf [some (.cells [.c (.v (.slice none 0 0))] 79)], nx := 1 }
def finSeq (q : Ex × St) : Tr MemOut :=
 match q.1 with
 | .exit _ => .fail "seq: exit"
 | _ =>
   match packM 1 q.2 (boolA true) with
   | some o => .ret o
   | none => .fail "seq: pack"
def Tr.go {α : Type} : Tr α → Option (List Bool × α)
 | .ret a => some ([], a)
 | .ite c t e => bif c then t.go else e.go
 | .need p t => t.go.map fun q => (p :: q.1, q.2)
 | .fail _ => none
theorem Tr.go_sat {α : Type} : ∀ {t : Tr α} {ps : List Bool} {a : α}, t.go = some (ps, a) → (∀ p ∈ ps, p = true) → t.sat (· = a)
 | .ret a, ps, b, h, hp => by
   simp only [Tr.go, Option.some.injEq, Prod.mk.injEq] at h
   exact h.2
 | .ite c t e, ps, b, h, hp => by
   cases c with
   | true => exact ⟨fun _ => Tr.go_sat (by simpa [Tr.go] using h) hp, fun h => by cases h⟩
   | false => exact ⟨fun h => (by cases h), fun _ => Tr.go_sat (by simpa [Tr.go] using h) hp⟩
 | .need p t, ps, b, h, hp => by
   obtain ⟨q, hq, he⟩ := Option.map_eq_some_iff.1 h
   simp only [Prod.mk.injEq] at he
   obtain ⟨rfl, rfl⟩ := he
   exact ⟨hp p (List.mem_cons_self ..), fun _ => Tr.go_sat (a := q.2) (ps := q.1) hq fun p' h' => hp p' (List.mem_cons_of_mem _ h')⟩
 | .fail _, ps, b, h, hp => by cases h
def gotB (o : MemOut) (out : List (List IV)) : Bool :=
 match o.outs, o.new with
 | [some (.cells [.msl 1 n 20] 79)], some (.arr m 20 el 38) => Nat.beq n out.length && (Nat.beq m out.length && (List.range out.length).all fun k => eqVs (el k) (out.getD k []))
 | _, _ => false
def pts1 : IV := .sl 3 9 fun k => [re0, re1, re2].getD k []
def per1 : IV := .sl 1 20 fun k => [iv1].getD k []
def pts2 : IV := .sl 2 9 fun k => [re1, re2].getD k []
def per2 : IV := .sl 1 20 fun k => [iv2].getD k []
def out1 : List (List IV) := [inK re0 re0 false false, inK re0 re1 true true, inK re1 re1 false false, inK re1 re2 true true, inK re2 re2 false false]
def out2 : List (List IV) := [inK re1 re2 true true, inK re2 re2 false false]
end Go.Vse
set_option maxRecDepth 1000000
namespace Go.Vse
open Go.Proofs Go.RowKit
theorem run84_1 (l : Nat) : (((exec Tryz.prog (Γ84 (yieldS Tryz.prog 5 13 2 7 (asOf (blkOf (codeOf Tryz.f83))) (boOf (blkOf (codeOf Tryz.f83))) l 0)) noL 1010 (codeOf Tryz.f84) (S84 l pts1 per1)).bind finSeq).go).map (fun q => (q.1, gotB q.2 out1)) =
   some ([true, decide (l = l), true, decide (l = l), true, decide (l = l), true, decide (l = l), true, decide (l = l)], true) := by kernel_rfl
theorem run84_2 (l : Nat) : (((exec Tryz.prog (Γ84 (yieldS Tryz.prog 5 13 2 7 (asOf (blkOf (codeOf Tryz.f83))) (boOf (blkOf (codeOf Tryz.f83))) l 0)) noL 1010 (codeOf Tryz.f84) (S84 l pts2 per2)).bind finSeq).go).map (fun q => (q.1, gotB q.2 out2)) =
   some ([true, true, decide (l = l), true, decide (l = l)], true) := by kernel_rfl
def Gathers (pts per : IV) (out : List (List IV)) : Prop :=
 ∀ l, ((exec Tryz.prog (Γ84 (yieldS Tryz.prog 5 13 2 7 (asOf (blkOf (codeOf Tryz.f83))) (boOf (blkOf (codeOf Tryz.f83))) l 0)) noL 1010 (codeOf Tryz.f84) (S84 l pts per)).bind finSeq).sat fun o => gotB o out = true
theorem gathers_of {pts per : IV} {out : List (List IV)} {ps : Nat → List Bool} (hp : ∀ l, ∀ p ∈ ps l, p = true) (h : ∀ l, (((exec Tryz.prog (Γ84 (yieldS Tryz.prog 5 13 2 7 (asOf (blkOf (codeOf Tryz.f83))) (boOf (blkOf (codeOf Tryz.f83))) l 0)) noL 1010 (codeOf Tryz.f84) (S84 l pts per)).bind finSeq).go).map (fun q => (q.1, gotB q.2 out)) = some (ps l, true)) : Gathers pts per out := by
 intro l
 obtain ⟨q, hq, he⟩ := Option.map_eq_some_iff.1 (h l)
 simp only [Prod.mk.injEq] at he
 obtain ⟨h1, h2⟩ := he
 refine Tr.sat_mono ?_ (Tr.go_sat (ps := q.1) (a := q.2) hq (by rw [h1]; exact hp l))
 rintro o rfl
 exact h2
theorem gathers1 : Gathers pts1 per1 out1 := gathers_of (ps := fun l => [true, decide (l = l), true, decide (l = l), true, decide (l = l), true, decide (l = l), true, decide (l = l)]) (fun l p hp => by simp at hp; simpa using hp) run84_1
theorem gathers2 : Gathers pts2 per2 out2 := gathers_of (ps := fun l => [true, true, decide (l = l), true, decide (l = l)]) (fun l p hp => by simp at hp; simpa using hp) run84_2
def RowTrue (P : Program) (f : FuncId) (args : List AV) (v : AV) : Prop :=
 ∀ (A : Nat → Prop) (w : World) (vs : List Value), (∀ b, A b → b < w.heap.size) → Rels A (fun _ => none) w args vs → CallsTo P f vs.toArray w fun e w' => ∃ u, e = .returned u ∧ ARel A (fun _ => none) w' v u ∧ Below w.heap.size w w'
theorem tab_true {P : Program} {f : FuncId} : ∀ {rows : List (List AV × AV)}, (∀ r ∈ rows, noPtr r.2 = true ∧ RowTrue P f r.1 r.2) → PureOk P f (tabK rows)
 | [], _ => ⟨fun _ _ _ h => by cases h⟩
 | r :: l, h => by
   refine ⟨fun args v cs hk => ?_⟩
   unfold tabK at hk
   cases hb : eqAVs args r.1 with
   | false => rw [hb] at hk; exact (tab_true (rows := l) fun r' hr => h r' (List.mem_cons_of_mem _ hr)).sound args v cs hk
   | true =>
     rw [hb] at hk
     cases hk
     obtain ⟨h1, h2⟩ := h r (List.mem_cons_self ..)
     exact ⟨h1, fun A w vs hA _ hr => h2 A w vs hA ((eqAVs_sees hb).rels hr)⟩
theorem start_holds {A : Nat → Prop} {w : World} {args : List AV} {vs : List Value} {nt : Nat} (hA : ∀ b, A b → b < w.heap.size) (hargs : Rels A (fun _ => none) w args vs) :
   (Ctx.mk A (fun _ => False) w 0 (fun _ => none)).Ok ∧ Holds ⟨A, fun _ => False, w, 0, fun _ => none⟩ (fun _ => none) (start args nt) { tmps := vs.toArray ++ Array.replicate (nt - vs.toArray.size) undef, defers := [] } w := by
 refine ⟨⟨hA, fun _ h => h.elim, fun _ _ h => h⟩, ?_⟩
 have hown : ∀ b, ownOf A (fun _ => none) (start args nt).mem b ↔ A b := fun b => by
   constructor
   · intro h
     rcases h with h | ⟨s, e, h1, _⟩
     · exact h
     · cases h1
   · exact fun h => Or.inl h
 have hweak : ∀ {x : AV} {v : Value}, ARel A (fun _ => none) w x v → ARel (ownOf A (fun _ => none) (start args nt).mem) (fun _ => none) w x v :=
   fun h => h.trans (Trans.refl _ _) (fun b _ hb => (hown b).1 hb) (fun _ _ h => h)
 have hlen : vs.length = args.length := hargs.1
 refine { defers := rfl, size := by simp [start, hlen], tm := ?_, mem := fun s e he => (by cases he), inj := fun _ _ _ _ _ h => (by cases h), kept := Kept.refl _ _, old := fun s β h => (by cases h), fresh := fun _ _ => rfl, base := fun _ _ => rfl, kle := Nat.zero_le _ }
 intro t ht
 by_cases hlt : t < args.length
 · have := hweak (hargs.2 t hlt)
   have hlt' : t < vs.length := by omega
   simpa [start, List.getD_eq_getElem?_getD, Array.getD_eq_getD_getElem?, List.getElem?_append_left hlt, Array.getElem?_append, hlt, hlt'] using this
 · have ht' : t - args.length < nt - args.length := by simp only [start, List.length_append, List.length_replicate] at ht; omega
   have hlt' : ¬ t < vs.length := by omega
   have e1 : (start args nt).tm.getD t .any = .c (.v undef) := by
     simp [start, List.getD_eq_getElem?_getD, List.getElem?_append_right (Nat.le_of_not_lt hlt), List.getElem?_replicate, ht']
   have e2 : (vs.toArray ++ Array.replicate (nt - vs.toArray.size) undef).getD t undef = undef := by
     simp [Array.getD_eq_getD_getElem?, Array.getElem?_append, hlt', Array.getElem?_replicate, hlen, ht', hlt]
   show ARel _ _ _ _ _
   rw [e1]
   simp only [] at e2 ⊢
   rw [e2]
   exact ARel.lit _
def fstOf : Code → Code
 | .seq a _ => a
 | c => c
def pre83 : Code → Code
 | .seq a (.seq (.seq b _) _) => .seq a b
 | c => c
def r0Of : Code → Code
 | .seq a _ => a
 | c => c
def r1Of : Code → Code
 | .seq _ (.seq (.seq b _) _) => b
 | c => c
def r4Of : Code → Code
 | .seq _ (.seq _ (.seq c _)) => c
 | c => c
theorem code83 : codeOf Tryz.f83 = .seq (r0Of (codeOf Tryz.f83)) (.seq (.seq (r1Of (codeOf Tryz.f83)) (.block 0 (.rangeFunc (.tmp 6) #[7] (asOf (blkOf (codeOf Tryz.f83))) (boOf (blkOf (codeOf Tryz.f83)))))) (.seq (r4Of (codeOf Tryz.f83)) .ret)) := by kernel_rfl
def at83 (q : Ex × St) : Option (Bool × Bool × Bool) :=
 match q.1, q.2.tm, q.2.mem 0 with
 | .normal, [_, .fn 84 [.iptr [_], .iptr [_]], .ptr 0 0, _, _, _, .fn 84 [.iptr [_], .iptr [_]], _, _, _, _, _, _], some (.cells [.c (.v (.slice none 0 0))] 79) => some (true, true, true)
 | _, _, _ => none
def onN (k : St → Tr (Ex × St)) (q : Ex × St) : Tr (Ex × St) :=
 match q.1 with
 | .normal => k q.2
 | _ => .fail ""
theorem run83 (pts per : IV) : ((exec Tryz.prog (fun _ => none) noL 1010 (r0Of (codeOf Tryz.f83)) (start [.c (.v (.slice none 0 0)), .fn 84 [.iptr [pts], .iptr [per]]] 13)).bind (onN (exec Tryz.prog (fun _ => none) noL 1010 (r1Of (codeOf Tryz.f83))))) =
   .ret (.normal, { tm := [.c (.v (.slice none 0 0)), .fn 84 [.iptr [pts], .iptr [per]], .ptr 0 0, .c (.v undef), .c (.v (.slice none 0 0)), .c (.v undef), .fn 84 [.iptr [pts], .iptr [per]], .c (.v undef), .c (.v undef), .c (.v undef), .c (.v undef), .c (.v undef), .c (.v undef)], mem := Mem.set (fun _ => none) 0 (some (.cells [.c (.v (.slice none 0 0))] 79)), nx := 3 }) := by kernel_rfl
end Go.Vse
set_option maxRecDepth 1000000
set_option maxHeartbeats 1000000
namespace Go.Vse
open Go.Proofs Go.RowKit
theorem gotB_spec {o : MemOut} {out : List (List IV)} (h : gotB o out = true) : ∃ el, o.outs = [some (.cells [.msl 1 out.length 20] 79)] ∧ o.new = some (.arr out.length 20 el 38) ∧ ∀ k, k < out.length → el k = out.getD k [] := by
 unfold gotB at h
 split at h
 · rename_i n m el h1 h2
   simp only [Bool.and_eq_true] at h
   obtain ⟨h3, h4, h5⟩ := h
   obtain rfl := Nat.eq_of_beq_eq_true h3
   obtain rfl := Nat.eq_of_beq_eq_true h4
   exact ⟨el, h1, h2, fun k hk => eqVs_eq (List.all_eq_true.1 h5 k (List.mem_range.2 hk))⟩
 · cases h
theorem tm_pad {A : Nat → Prop} {B : Bmap} {w : World} {args : List AV} {vs : List Value} {nt : Nat} (hr : Rels A B w args vs) : ∀ t, t < (args ++ List.replicate (nt - args.length) (AV.c (.v undef))).length →
   ARel A B w ((args ++ List.replicate (nt - args.length) (AV.c (.v undef))).getD t .any) ((vs.toArray ++ Array.replicate (nt - vs.toArray.size) undef).getD t undef) := by
 intro t ht
 have hlen : vs.length = args.length := hr.1
 by_cases hlt : t < args.length
 · have := hr.2 t hlt
   have hlt' : t < vs.length := by omega
   simpa [List.getD_eq_getElem?_getD, Array.getD_eq_getD_getElem?, List.getElem?_append_left hlt, Array.getElem?_append, hlt, hlt'] using this
 · have ht' : t - args.length < nt - args.length := by simp only [List.length_append, List.length_replicate] at ht; omega
   have hlt' : ¬ t < vs.length := by omega
   have e1 : (args ++ List.replicate (nt - args.length) (AV.c (.v undef))).getD t .any = .c (.v undef) := by
     simp [List.getD_eq_getElem?_getD, List.getElem?_append_right (Nat.le_of_not_lt hlt), List.getElem?_replicate, ht']
   have e2 : (vs.toArray ++ Array.replicate (nt - vs.toArray.size) undef).getD t undef = undef := by
     simp [Array.getD_eq_getD_getElem?, Array.getElem?_append, hlt', Array.getElem?_replicate, hlen, ht', hlt]
   rw [e1, e2]
   exact ARel.lit _
theorem holds84 {A : Nat → Prop} {w w2 : World} {B2 : Bmap} {S2 : St} {a2 : Act} (hC : (Ctx.mk A (fun _ => False) w 0 (fun _ => none)).Ok) (H2 : Holds ⟨A, fun _ => False, w, 0, fun _ => none⟩ B2 S2 a2 w2) {Bs : Nat} (hB : B2 0 = some Bs) (hm : S2.mem 0 = some (.cells [.c (.v (.slice none 0 0))] 79))
   {o1 o2 : Obj} {pts per : IV} {p1 p2 : Value} (h1 : ARel (ownOf A B2 S2.mem) B2 w2 (.iptr [pts]) p1) (h2 : ARel (ownOf A B2 S2.mem) B2 w2 (.iptr [per]) p2) :
   (Ctx.mk (fun b => A b ∨ (b = w2.heap.size + 1 ∨ b = w2.heap.size)) (fun b => b = Bs) ((w2.alloc o1).alloc o2) 1 (fun s => if s = 0 then some Bs else none)).Ok ∧
   Holds ⟨fun b => A b ∨ (b = w2.heap.size + 1 ∨ b = w2.heap.size), fun b => b = Bs, (w2.alloc o1).alloc o2, 1, fun s => if s = 0 then some Bs else none⟩ (fun s => if s = 0 then some Bs else none) (S84 (w2.heap.size + 1) pts per)
     { tmps := #[yieldV (w2.heap.size + 1), p1, p2] ++ Array.replicate (48 - 3) undef, defers := [] } ((w2.alloc o1).alloc o2) := by
 have hBs : Bs < w2.heap.size := (H2.old 0 Bs hB).2
 have hsz : ((w2.alloc o1).alloc o2).heap.size = w2.heap.size + 2 := by simp
 have hbel : Below w2.heap.size w2 ((w2.alloc o1).alloc o2) := ((Below.refl _ w2).alloc (Nat.le_refl _) _).alloc (by simp) _
 have ht : ∀ X, Trans X w2 ((w2.alloc o1).alloc o2) := fun X => Trans.of_below hbel
 have hAs : ∀ b, A b → b < w2.heap.size := fun b hb => Nat.lt_of_lt_of_le (hC.a0 b hb) H2.kept.size
 refine ⟨⟨fun b hb => ?_, fun b hb => ?_, fun b hb hx => ?_⟩, ?_⟩
 · rw [hsz]
   rcases hb with hb | rfl | rfl
   · have := hAs b hb; omega
   · omega
   · omega
 · show b < ((w2.alloc o1).alloc o2).heap.size
   have hb : b = Bs := hb
   rw [hsz]; omega
 · have hx : b = Bs := hx
   subst hx
   rcases hb with hb | hb | hb
   · exact own_not hC H2 hB hb
   · omega
   · omega
 · have hown : ∀ b, b < w2.heap.size → ownOf (fun b => A b ∨ (b = w2.heap.size + 1 ∨ b = w2.heap.size)) (fun s => if s = 0 then some Bs else none) (S84 (w2.heap.size + 1) pts per).mem b → ownOf A B2 S2.mem b := by
     rintro b hb ((h | h | h) | ⟨s, e, h1, h2⟩)
     · exact .inl h
     · omega
     · omega
     · by_cases hs : s = 0
       · subst hs
         simp only [if_true, Option.some.injEq] at h2
         subst h2
         exact .inr ⟨0, _, hm, hB⟩
       · simp only [hs, if_false] at h2; cases h2
   have hrel : ∀ {x : AV} {v : Value}, Vse.noPtr x = true → ARel (ownOf A B2 S2.mem) B2 w2 x v → ARel (ownOf (fun b => A b ∨ (b = w2.heap.size + 1 ∨ b = w2.heap.size)) (fun s => if s = 0 then some Bs else none) (S84 (w2.heap.size + 1) pts per).mem) (fun s => if s = 0 then some Bs else none) ((w2.alloc o1).alloc o2) x v :=
     fun hn h => (h.noPtr hn _).trans (ht _) hown (fun _ _ h => h)
   refine { defers := rfl, size := by simp [S84], tm := ?_, mem := ?_, inj := ?_, kept := Kept.refl _ _, old := ?_, fresh := ?_, base := fun _ _ => rfl, kle := Nat.le_refl _ }
   · exact tm_pad (nt := 48) (args := [.c (.v (yieldV (w2.heap.size + 1))), .iptr [pts], .iptr [per]]) (vs := [yieldV (w2.heap.size + 1), p1, p2])
       (Rels.cons (ARel.lit _) (Rels.cons (hrel rfl h1) (Rels.cons (hrel rfl h2) .nil)))
   · intro s e he
     by_cases hs : s = 0
     · subst hs
       have he : some (Ent.cells [.c (.v (.slice none 0 0))] 79) = some e := he
       cases he
       refine .inl ⟨Bs, rfl, ?_⟩
       rcases H2.mem 0 _ hm with ⟨β, h3, h4⟩ | ⟨h3, _⟩
       · rw [hB] at h3
         cases h3
         rw [hbel.block Bs hBs]
         generalize w2.heap[Bs]? = ob at h4
         cases h4 with
         | cells _ _ cs hcs hrc =>
           refine .cells _ _ cs hcs fun j hj => ?_
           have hj0 : j = 0 := by simpa using hj
           subst hj0
           have := (hrc 0 (by simp)).plain
           rw [this]
           exact ARel.lit _
       · rw [hB] at h3; cases h3
     · have : (S84 (w2.heap.size + 1) pts per).mem s = none := by
         simp only [S84, memOf]
         cases s with
         | zero => exact absurd rfl hs
         | succ s => simp
       rw [this] at he; cases he
   · intro s s' e e' β _ _ h1 h2
     by_cases hs : s = 0 <;> by_cases hs' : s' = 0
     · rw [hs, hs']
     · simp only [hs', if_false] at h2; cases h2
     · simp only [hs, if_false] at h1; cases h1
     · simp only [hs, if_false] at h1; cases h1
   · intro s β hs
     by_cases h0 : s = 0
     · simp only [h0, if_true, Option.some.injEq] at hs
       subst hs
       exact ⟨.inr rfl, by rw [hsz]; omega⟩
     · simp only [h0, if_false] at hs; cases hs
   · intro s hs
     have : s ≠ 0 := by have : 1 ≤ s := hs; omega
     simp only [this, if_false]
end Go.Vse
