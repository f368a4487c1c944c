/- Helpers for the proof: no statement of its own. -/
import Derived.Test.YtahaekeikoibmaaGreatDoorT01
import Derived.Test.YtahaekeikoibmaaGreatDoorProg
set_option linter.unusedVariables false
set_option linter.unusedSimpArgs false
set_option linter.unnecessarySimpa false
set_option linter.deprecated false
namespace Go.Vse
theorem byteOf_int (x : Int) : byteOf [.v (.int .u8 x)] = UInt8.ofNat x.toNat := rfl
theorem bytesOf_len (n : Nat) (el : Nat → List IV) : (bytesOf n el).length = n := by simp [bytesOf]
theorem bytesOf_byteEl (l : List UInt8) : bytesOf l.length (byteEl l) = l := by
 apply List.ext_getElem
 ·simp [bytesOf]
 ·intro i h1 h2
  simp only [bytesOf, byteEl, List.getElem_map, List.getElem_range, byteOf_int, List.getD_eq_getElem?_getD, List.getElem?_eq_getElem h2, Option.getD_some]
  simp
theorem isBytes_byteEl (n : Nat) (l : List UInt8) : isBytes n (byteEl l) = true := by
 unfold isBytes
 rw [List.all_eq_true]
 intro k _
 have := (l.getD k 0).toNat_lt
 simp only [byteEl, isByte, Bool.and_eq_true, decide_eq_true_eq]
 omega
theorem byteEl_of_bytes {n : Nat} {el : Nat → List IV} (h : isBytes n el = true) : ∀ k, k < n → el k = byteEl (bytesOf n el) k := by
 intro k hk
 obtain ⟨b, hb⟩ := isBytes_get h k hk
 have : (bytesOf n el).getD k 0 = b := by
  simp [bytesOf, List.getD_eq_getElem?_getD, hk, hb, byteOf]
 unfold byteEl
 rw [this, hb]
theorem wrap_u8 (x : Int) : IntKind.u8.wrap x = x % 256 := by
 simp [IntKind.wrap, IntKind.bits, IntKind.signed]
theorem wrap_u64 (x : Int) : IntKind.u64.wrap x = x % 18446744073709551616 := by
 simp [IntKind.wrap, IntKind.bits, IntKind.signed]
theorem wrap_i64 {x : Int} (h : -9223372036854775808 ≤ x ∧ x ≤ 9223372036854775807) : IntKind.i64.wrap x = x := IntWalk.i64_in x h
end Go.Vse
namespace Go.Vse
def magN (l : List UInt8) : Nat := l.foldl (fun a c => a * 256 + c.toNat) 0
def magB (n : Nat) : List UInt8 := if h : n = 0 then [] else magB (n / 256) ++ [UInt8.ofNat (n % 256)]
 termination_by n
 decreasing_by exact Nat.div_lt_self (Nat.pos_of_ne_zero h) (by decide)
def canon (l : List UInt8) : Bool := match l with
 | [] => true
 | c :: _ => c != 0
theorem snocInd {P : List UInt8 → Prop} (h0 : P []) (h1 : ∀ l c, P l → P (l ++ [c])) (l : List UInt8) : P l := by
 rw [← List.reverse_reverse l]
 induction l.reverse with
 | nil => exact h0
 | cons c l ih => rw [List.reverse_cons]; exact h1 _ _ ih
theorem magB_zero : magB 0 = [] := by rw [magB]; rfl
theorem magB_pos {n : Nat} (h : 0 < n) : magB n = magB (n / 256) ++ [UInt8.ofNat (n % 256)] := by
 rw [magB, dif_neg (by omega)]
theorem magN_nil : magN [] = 0 := rfl
theorem magN_snoc (l : List UInt8) (c : UInt8) : magN (l ++ [c]) = magN l * 256 + c.toNat := by simp [magN]
theorem magN_take {l : List UInt8} {i : Nat} (h : i < l.length) : magN (l.take (i + 1)) = magN (l.take i) * 256 + (l.getD i 0).toNat := by
 rw [List.take_succ_eq_append_getElem h, magN_snoc]
 simp [List.getD_eq_getElem?_getD, h]
theorem magN_magB (n : Nat) : magN (magB n) = n := by
 induction n using Nat.strongRecOn with
 | ind n ih =>
  by_cases h : n = 0
  ·subst h; rw [magB_zero]; rfl
  ·rw [magB_pos (by omega), magN_snoc, ih (n / 256) (Nat.div_lt_self (by omega) (by decide))]
   have : (UInt8.ofNat (n % 256)).toNat = n % 256 := by simp [UInt8.toNat_ofNat']
   omega
theorem magN_lt (l : List UInt8) : magN l < 256 ^ l.length := by
 induction l using snocInd with
 | h0 => simp [magN]
 | h1 l c ih =>
  rw [magN_snoc, List.length_append, List.length_singleton, Nat.pow_succ]
  have := c.toNat_lt
  omega
theorem magB_len (n : Nat) : ∀ k, n < 256 ^ k → (magB n).length ≤ k := by
 induction n using Nat.strongRecOn with
 | ind n ih =>
  intro k hk
  by_cases h : n = 0
  ·subst h; rw [magB_zero]; simp
  ·cases k with
   | zero => simp at hk; omega
   | succ k =>
    rw [magB_pos (by omega), List.length_append, List.length_singleton]
    have := ih (n / 256) (Nat.div_lt_self (by omega) (by decide)) k (by rw [Nat.pow_succ] at hk; omega)
    omega
theorem canon_magB (n : Nat) : canon (magB n) = true := by
 induction n using Nat.strongRecOn with
 | ind n ih =>
  by_cases h : n = 0
  ·subst h; rw [magB_zero]; rfl
  ·rw [magB_pos (by omega)]
   have ih1 := ih (n / 256) (Nat.div_lt_self (by omega) (by decide))
   cases hm : magB (n / 256) with
   | nil =>
    have hz : n / 256 = 0 := by
     have := magN_magB (n / 256)
     rw [hm] at this
     exact this.symm
    simp only [List.nil_append, canon, bne_iff_ne, ne_eq]
    intro hc
    have := congrArg UInt8.toNat hc
    simp [UInt8.toNat_ofNat'] at this
    omega
   | cons c l =>
    rw [hm] at ih1
    exact ih1
theorem magN_pos_of_canon {c : UInt8} {l : List UInt8} (h : c ≠ 0) : 256 ^ l.length ≤ magN (c :: l) := by
 induction l using snocInd with
 | h0 =>
  have hc : c.toNat ≠ 0 := fun hh => h (UInt8.toNat_inj.1 (by simpa using hh))
  simp [magN]
  omega
 | h1 l d ih =>
  rw [← List.cons_append, magN_snoc, List.length_append, List.length_singleton, Nat.pow_succ]
  omega
theorem magB_magN (l : List UInt8) (h : canon l = true) : magB (magN l) = l := by
 induction l using snocInd with
 | h0 => rw [magN_nil, magB_zero]
 | h1 l c ih =>
  cases l with
  | nil =>
   have hc : c ≠ 0 := by simpa [canon] using h
   have hn : c.toNat ≠ 0 := fun hh => hc (UInt8.toNat_inj.1 (by simpa using hh))
   have hlt := c.toNat_lt
   have e : magN ([] ++ [c]) = c.toNat := by simp [magN]
   rw [e, magB_pos (by omega)]
   have : c.toNat / 256 = 0 := by omega
   rw [this, magB_zero, Nat.mod_eq_of_lt hlt]
   simp
  | cons d l =>
   have hd : d ≠ 0 := by simpa [canon] using h
   have hp := magN_pos_of_canon (l := l) hd
   have hp2 : 0 < 256 ^ l.length := Nat.pow_pos (by decide)
   have hlt := c.toNat_lt
   rw [magN_snoc, magB_pos (by omega)]
   have e1 : (magN (d :: l) * 256 + c.toNat) / 256 = magN (d :: l) := by omega
   have e2 : (magN (d :: l) * 256 + c.toNat) % 256 = c.toNat := by omega
   rw [e1, e2, ih (by simpa [canon] using hd)]
   simp
theorem magB_inj {a b : Nat} (h : magB a = magB b) : a = b := by
 rw [← magN_magB a, h, magN_magB]
end Go.Vse
set_option maxRecDepth 100000
namespace Go.Vse
open Go.Proofs
def strA (l : List UInt8) : AV := .c (.v (.string ⟨⟨l⟩⟩))
theorem noΓ_ok {P : Program} : ∀ f s, (fun _ => none : FuncId → Option Spec) f = some s → SpecOk P f s := fun _ _ h => by cases h
theorem prog_mixed : Tryz.prog.follows .mixedOrders = true := by kernel_rfl
theorem step_ok {P : Program} {a : FuncId} {A : Spec} {Γ' : FuncId → Option Spec} (h : SpecOk P a A) (k : ∀ f s, Γ' f = some s → SpecOk P f s) : ∀ f s, (bif Nat.beq f a then some A else Γ' f) = some s → SpecOk P f s := by
 intro f s hf
 cases h1 : Nat.beq f a with
 | true =>
  obtain rfl : f = a := Nat.eq_of_beq_eq_true h1
  rw [h1] at hf; cases hf; exact h
 | false =>
  rw [h1] at hf
  exact k f s hf
theorem one_ok {P : Program} {f : FuncId} {s : Spec} (h : SpecOk P f s) : ∀ g t, (bif Nat.beq g f then some s else none) = some t → SpecOk P g t := step_ok h noΓ_ok
theorem one_blocks {X R : Type} {c : Code} {Γ : FuncId → Option Spec} {N k id : Nat} {L' : Nat → Option (St → Tr (Ex × St))} {lp : LoopSt X R} {step : X → Tr (X ⊕ R)} (hΓ : ∀ f s, Γ f = some s → SpecOk Tryz.prog f s) (hl : BlocksOk Tryz.prog k L' (loopOf id c)) (hg : lp.Good2)
   (hs : ∀ x, (exec Tryz.prog Γ L' N (loopOf id c) (mkSt lp.nIn (lp.head x))).bind (lp.fin k id) = step x)
   (hr : ∀ x, lp.pre x = true → ∃ n, RunsX step (· = lp.res x) n x) (hb : blocksOf (fun i => Nat.beq i id) c = [(id, .loop (loopOf id c))] := by kernel_rfl) : BlocksOk Tryz.prog k (fun i => bif Nat.beq i id then some (lp.g k) else none) c := by
 refine blocksOk_of (d := fun i => Nat.beq i id) (fun i => by cases Nat.beq i id <;> rfl) _ ?_
 rw [hb]
 intro p hp g hg'
 simp only [List.mem_singleton] at hp
 subst hp
 have e : Nat.beq id id = true := by simp
 rw [e] at hg'
 obtain rfl : g = lp.g k := (Option.some.inj hg').symm
 exact LoopSt.ok2 (N := N) prog_mixed hΓ hl hg hs hr
section
variable {Γ : FuncId → Option Spec} {L : Nat → Option (St → Tr (Ex × St))} {N : Nat} {f : FuncId} {fn : Func} {K : List AV → Option (AV × List Bool)}
theorem poL (hΓ : ∀ f s, Γ f = some s → SpecOk Tryz.prog f s) (hl : BlocksOk Tryz.prog 0 L (codeOf fn)) (hn : ∀ args v cs, K args = some (v, cs) → Vse.noPtr v = true)
  (h : ∀ args v cs, K args = some (v, cs) → (∀ p ∈ cs, p) → (execFn Tryz.prog Γ L N fn args).sat fun r => Vse.noPtr r = true ∧ Sees r v)
  (hf : Tryz.prog.funcs[f]? = some fn := by kernel_rfl) (hb : fn.body = some (codeOf fn) := by kernel_rfl) (ho : okName fn = true := by kernel_rfl) : PureOk Tryz.prog f K :=
 pureOk_of_exec prog_mixed hΓ hf hb (callFunc_enter hf hb ho) hl hn h
theorem poe (hΓ : ∀ f s, Γ f = some s → SpecOk Tryz.prog f s) (hn : ∀ args v cs, K args = some (v, cs) → Vse.noPtr v = true)
  (h : ∀ args v cs, K args = some (v, cs) → (∀ p ∈ cs, p) → (execFn Tryz.prog Γ noL 1010 fn args).sat fun r => Vse.noPtr r = true ∧ Sees r v)
  (hf : Tryz.prog.funcs[f]? = some fn := by kernel_rfl) (hb : fn.body = some (codeOf fn) := by kernel_rfl) (ho : okName fn = true := by kernel_rfl) : PureOk Tryz.prog f K :=
 poL hΓ (blocksOk_none _ _) hn h hf hb ho
end
def Out (o : MemOut) (p : MemOut) : Prop := Sees p.val o.val ∧ EntsEqv (p.outs ++ [p.new]) (o.outs ++ [o.new])
theorem Out.refl (o : MemOut) : Out o o := ⟨Sees.refl _, EntsEqv.refl _⟩
theorem Out.of_eq {o p : MemOut} (h : p = o) : Out o p := h ▸ Out.refl _
structure Way (X : Type) where
 res : X → X
 pre : X → Bool
structure W104 where
 s : ByteArray
 u : Int
 n : Int
 i : Int
def head104 (x : W104) : List AV × List (Option Ent) := ([.c (.v (.string x.s)), intA .u64 x.u, intA .i64 x.n, intA .i64 x.i], [])
def take104 : List AV × List (Option Ent) → Option (W104 × List Bool)
 | ([.c (.v (.string s)), .c (.v (.int .u64 u)), .c (.v (.int .i64 n)), .c (.v (.int .i64 i))], []) => some (⟨s, u, n, i⟩, [])
 | _ => none
def lp104 (w : Way W104) : LoopSt W104 W104 where
 nIn := { nt := 23, live := [0, 4, 10, 11] }
 nOut := { nt := 23, live := [0, 4, 10, 11] }
 head := head104
 take := take104
 out := fun r => (.normal, head104 r)
 takeR := fun q => match q with | (.normal, q) => take104 q | _ => none
 res := w.res
 pre := w.pre
theorem take104_ok (q : List AV × List (Option Ent)) (x : W104) (cs : List Bool) (h : take104 q = some (x, cs)) : SeesL q.1 (head104 x).1 ∧ EntsEqv q.2 (head104 x).2 := by
 unfold take104 at h
 split at h
 ·cases h; exact ⟨SeesL.refl _, EntsEqv.refl _⟩
 ·cases h
theorem lp104_good (w : Way W104) : (lp104 w).Good2 where
 take := fun q x cs h _ => take104_ok q x cs h
 takeR := by
  intro e q r cs h hc
  cases e with
  | normal => obtain ⟨h1, h2⟩ := take104_ok q r cs h; exact ⟨rfl, h1, h2⟩
  | exit j => cases h
  | ret => cases h
 split := fun r Q h => h
def way104 : Way W104 := ⟨fun x => ⟨x.s, (magN x.s.data.toList : Nat), x.n, x.n⟩, fun x => decide (x.n = (x.s.data.toList.length : Nat)) && decide (x.s.data.toList.length ≤ 8) && decide (x.i = 0) && decide (x.u = 0)⟩
def L104 : Nat → Option (St → Tr (Ex × St)) := fun id => bif Nat.beq id 0 then some ((lp104 way104).g 0) else none
end Go.Vse
set_option maxRecDepth 100000
namespace Go.Vse
open Go.Proofs
def step104 (s : ByteArray) (u : Int) (n : Int) (i : Int) : Tr (W104 ⊕ W104) :=
 let x1 : List UInt8 := s.data.toList
 let x2 : Int := ↑x1.length
 .ite (decide (i < n)) (.need true (.need (decide (0 ≤ i ∧ i < x2)) (.ret (Sum.inl { s := s, u := IntKind.u64.wrap ↑(BitVec.ofInt IntKind.u64.bits (IntKind.u64.wrap (u * 2 ^ min (Int.toNat 8) IntKind.u64.bits)) ||| BitVec.ofInt IntKind.u64.bits (IntKind.u64.wrap ↑(x1.getD i.toNat 0).toNat)).toNat, n := n, i := IntKind.i64.wrap (i + 1) })))) (.ret (Sum.inr { s := s, u := u, n := n, i := i }))
def M104 (s : ByteArray) : Tr AV :=
 let x1 : List UInt8 := s.data.toList
 let x2 : Int := ↑x1.length
 .ite (decide (x2 > 8)) (.ret (AV.tup [.c (.v (.int IntKind.u64 0)), .c (.v (.bool false))])) (.need (decide (x2 = x2) && decide (x1.length ≤ 8) && decide (0 = 0) && decide (0 = 0)) (.ret (AV.tup [.c (.v (.int IntKind.u64 ↑(magN x1))), .c (.v (.bool true))])))
def M196 (u : Int) : Tr AV :=
 let x1 : Int := u.fdiv (2 ^ min (Int.toNat 32) IntKind.u64.bits)
 let x2 : Int := 2 ^ min (Int.toNat 16) IntKind.u64.bits
 let x3 : Int := x1.fdiv x2
 let x4 : Int := 2 ^ min (Int.toNat 8) IntKind.u64.bits
 let x5 : Int := IntKind.u8.wrap (x3.fdiv x4)
 let x6 : List UInt8 := [8, 8, 8, 8, 8, 8, 8, 8, 8, 8, 8, 8, 8, 8, 8, 8, 8, 8, 8, 8, 8, 8, 8, 8, 8, 8, 8, 8, 8, 8, 8, 8, 8, 8, 8, 8, 8, 8, 8, 8, 8, 8, 8, 8, 8, 8, 8, 8, 8, 8, 8, 8, 8, 8, 8, 8, 8, 8, 8, 8, 8, 8, 8, 8]
 let x7 : List UInt8 := ([0, 1, 2, 2, 3, 3, 3, 3, 4, 4, 4, 4, 4, 4, 4, 4, 5, 5, 5, 5, 5, 5, 5, 5, 5, 5, 5, 5, 5, 5, 5, 5, 6, 6, 6, 6, 6, 6, 6, 6, 6, 6, 6, 6, 6, 6, 6, 6, 6, 6, 6, 6, 6, 6, 6, 6, 6, 6, 6, 6, 6, 6, 6, 6].append [7, 7, 7, 7, 7, 7, 7, 7, 7, 7, 7, 7, 7, 7, 7, 7, 7, 7, 7, 7, 7, 7, 7, 7, 7, 7, 7, 7, 7, 7, 7, 7, 7, 7, 7, 7, 7, 7, 7, 7, 7, 7, 7, 7, 7, 7, 7, 7, 7, 7, 7, 7, 7, 7, 7, 7, 7, 7, 7, 7, 7, 7, 7, 7]).append (x6.append x6)
 let x8 : Int := ↑x7.length
 let x9 : Int := IntKind.i64.wrap (32 + 16)
 let x10 : Int := IntKind.u8.wrap x3
 let x11 : Int := IntKind.u8.wrap (x1.fdiv x4)
 let x12 : Int := IntKind.u8.wrap x1
 let x13 : Int := u.fdiv x2
 let x14 : Int := IntKind.u8.wrap (x13.fdiv x4)
 let x15 : Int := IntKind.i64.wrap (0 + 16)
 let x16 : Int := IntKind.u8.wrap x13
 let x17 : Int := IntKind.u8.wrap (u.fdiv x4)
 .ite (decide (u ≥ 4294967296)) (.need true (.ite (decide (x1 ≥ 65536)) (.need true (.ite (decide (x3 ≥ 256)) (.need true (.need (decide (0 ≤ x5 ∧ x5 < x8)) (.ret (.c (.v (.int IntKind.i64 (IntKind.i64.wrap (IntKind.i64.wrap (x9 + 8) + IntKind.i64.wrap ↑(x7.getD x5.toNat 0).toNat)))))))) (.need (decide (0 ≤ x10 ∧ x10 < x8)) (.ret (.c (.v (.int IntKind.i64 (IntKind.i64.wrap (x9 + IntKind.i64.wrap ↑(x7.getD x10.toNat 0).toNat))))))))) (.ite (decide (x1 ≥ 256)) (.need true (.need (decide (0 ≤ x11 ∧ x11 < x8)) (.ret (.c (.v (.int IntKind.i64 (IntKind.i64.wrap (IntKind.i64.wrap (32 + 8) + IntKind.i64.wrap ↑(x7.getD x11.toNat 0).toNat)))))))) (.need (decide (0 ≤ x12 ∧ x12 < x8)) (.ret (.c (.v (.int IntKind.i64 (IntKind.i64.wrap (32 + IntKind.i64.wrap ↑(x7.getD x12.toNat 0).toNat)))))))))) (.ite (decide (u ≥ 65536)) (.need true (.ite (decide (x13 ≥ 256)) (.need true (.need (decide (0 ≤ x14 ∧ x14 < x8)) (.ret (.c (.v (.int IntKind.i64 (IntKind.i64.wrap (IntKind.i64.wrap (x15 + 8) + IntKind.i64.wrap ↑(x7.getD x14.toNat 0).toNat)))))))) (.need (decide (0 ≤ x16 ∧ x16 < x8)) (.ret (.c (.v (.int IntKind.i64 (IntKind.i64.wrap (x15 + IntKind.i64.wrap ↑(x7.getD x16.toNat 0).toNat))))))))) (.ite (decide (u ≥ 256)) (.need true (.need (decide (0 ≤ x17 ∧ x17 < x8)) (.ret (.c (.v (.int IntKind.i64 (IntKind.i64.wrap (IntKind.i64.wrap (0 + 8) + IntKind.i64.wrap ↑(x7.getD x17.toNat 0).toNat)))))))) (.need (decide (0 ≤ IntKind.u8.wrap u ∧ IntKind.u8.wrap u < x8)) (.ret (.c (.v (.int IntKind.i64 (IntKind.i64.wrap (0 + IntKind.i64.wrap ↑(x7.getD (IntKind.u8.wrap u).toNat 0).toNat)))))))))
def M173 (b : Bool) (s : ByteArray) : Tr AV :=
 let x1 : List AV := [.c (.v (.string s))]
 .ite b (.ret (AV.agg (.c (.v (.bool (bif true then !s.data.toList == [] else false))) :: x1))) (.ret (AV.agg (.c (.v (.bool false)) :: x1)))
theorem step104_eq (w : Way W104) (x : W104) : (exec Tryz.prog (fun _ => none) noL 1010 (loopOf 0 (codeOf Tryz.f225)) (mkSt (lp104 w).nIn ((lp104 w).head x))).bind ((lp104 w).fin 0 0) = step104 x.s x.u x.n x.i := by
 obtain ⟨s, u, n, i⟩ := x
 kernel_rfl
theorem M104_eq (s : ByteArray) : execFn Tryz.prog (fun _ => none) L104 1010 Tryz.f225 [.c (.v (.string s))] = M104 s := by kernel_rfl
theorem M196_eq (u : Int) : execFn Tryz.prog (fun _ => none) noL 1010 Tryz.f212 [intA .u64 u] = M196 u := by kernel_rfl
theorem M173_eq (b : Bool) (s : ByteArray) : execFn Tryz.prog (fun _ => none) noL 1010 Tryz.f140 [.c (.v (.bool b)), .c (.v (.string s))] = M173 b s := by kernel_rfl
theorem toNat64 (x : Nat) (hx : x < 18446744073709551616) : (BitVec.ofInt 64 (x : Int)).toNat = x := by
 rw [BitVec.toNat_ofInt]; omega
theorem shl8_or (u c : Nat) (hu : u < 72057594037927936) (hc : c < 256) :
  IntKind.u64.wrap ((BitVec.ofInt IntKind.u64.bits (IntKind.u64.wrap ((u : Int) * 2 ^ min (Int.toNat 8) IntKind.u64.bits)) ||| BitVec.ofInt IntKind.u64.bits (IntKind.u64.wrap (c : Int))).toNat : Nat) = ((u * 256 + c : Nat) : Int) := by
 have e1 : IntKind.u64.wrap ((u : Int) * 2 ^ min (Int.toNat 8) IntKind.u64.bits) = ((u * 256 : Nat) : Int) := by
  change IntKind.u64.wrap ((u : Int) * 256) = _
  rw [wrap_u64]; omega
 have e2 : IntKind.u64.wrap (c : Int) = (c : Int) := by rw [wrap_u64]; omega
 rw [e1, e2]
 change IntKind.u64.wrap ((BitVec.ofInt 64 ((u * 256 : Nat) : Int) ||| BitVec.ofInt 64 (c : Int)).toNat : Nat) = _
 rw [BitVec.toNat_or, toNat64 _ (by omega), toNat64 _ (by omega)]
 have e3 : u * 256 ||| c = u * 256 + c := by
  have := Nat.two_pow_add_eq_or_of_lt (i := 8) (b := c) (by omega) u
  rw [Nat.mul_comm u]
  exact this.symm
 rw [e3, wrap_u64]; omega
theorem pow256 (k : Nat) (h : k ≤ 7) : 256 ^ k ≤ 72057594037927936 := by
 calc 256 ^ k ≤ 256 ^ 7 := Nat.pow_le_pow_right (by omega) h
  _ = 72057594037927936 := by decide
theorem runs104 (s : ByteArray) (hl : s.data.toList.length ≤ 8) (Q : W104 → Prop) (hq : Q ⟨s, (magN s.data.toList : Nat), (s.data.toList.length : Nat), (s.data.toList.length : Nat)⟩) : ∀ (k i : Nat), i + k = s.data.toList.length →
  RunsX (fun x : W104 => step104 x.s x.u x.n x.i) Q (k + 1) ⟨s, (magN (s.data.toList.take i) : Nat), (s.data.toList.length : Nat), (i : Nat)⟩
 | 0, i, hi => by
  obtain rfl : i = s.data.toList.length := by omega
  rw [List.take_length]
  exact sat_ite (fun h => absurd (of_decide_eq_true h) (Int.lt_irrefl _)) (fun _ => sat_ret hq)
 | k + 1, i, hi => by
  have ih := runs104 s hl Q hq k (i + 1) (by omega)
  have hw : IntKind.i64.wrap ((i : Int) + 1) = ((i + 1 : Nat) : Int) := by rw [wrap_i64 (by omega)]; omega
  have hm := magN_lt (s.data.toList.take i)
  have hlen : (s.data.toList.take i).length = i := by rw [List.length_take]; omega
  rw [hlen] at hm
  have hp := pow256 i (by omega)
  have hc := (s.data.toList.getD i 0).toNat_lt
  unfold RunsX
  change Tr.sat _ (step104 s (magN (s.data.toList.take i) : Nat) (s.data.toList.length : Nat) (i : Nat))
  refine sat_ite (fun _ => sat_need rfl (sat_need (decide_eq_true (by omega)) (sat_ret ?_))) (fun h => absurd (show (i : Int) < (s.data.toList.length : Nat) by omega) (of_decide_eq_false h))
  have hs := shl8_or (magN (s.data.toList.take i)) (s.data.toList.getD i 0).toNat (by omega) hc
  have ht := magN_take (l := s.data.toList) (i := i) (by omega)
  simp only [Int.toNat_natCast, hw, hs]
  rw [← ht]
  exact ih
theorem f104_loops : BlocksOk Tryz.prog 0 L104 (codeOf Tryz.f225) := by
 refine one_blocks (N := 1010) (L' := noL) noΓ_ok (blocksOk_none 0 _) (lp104_good _) (step104_eq way104) ?_
 rintro ⟨s, u, n, i⟩ hx
 have hx : way104.pre ⟨s, u, n, i⟩ = true := hx
 simp only [way104, Bool.and_eq_true, decide_eq_true_eq] at hx
 obtain ⟨⟨⟨rfl, h2⟩, rfl⟩, rfl⟩ := hx
 have := runs104 s h2 (· = way104.res ⟨s, 0, (s.data.toList.length : Nat), 0⟩) rfl s.data.toList.length 0 (by omega)
 exact ⟨_, this⟩
def wordV (s : ByteArray) : Int := if s.data.toList.length ≤ 8 then (magN s.data.toList : Nat) else 0
def wordB (s : ByteArray) : Bool := decide (s.data.toList.length ≤ 8)
def K104 : List AV → Option (AV × List Bool)
 | [.c (.v (.string s))] => some (.tup [intA .u64 (wordV s), boolA (wordB s)], [])
 | _ => none
theorem M104_sat (s : ByteArray) : (M104 s).sat fun r => r = .tup [intA .u64 (wordV s), boolA (wordB s)] := by
 unfold M104 wordV wordB
 refine sat_ite (fun h => ?_) (fun h => ?_)
 ·have h := of_decide_eq_true h
  have h1 : ¬ s.data.toList.length ≤ 8 := by omega
  rw [if_neg h1, decide_eq_false h1]
  exact sat_ret rfl
 ·have h := of_decide_eq_false h
  have h1 : s.data.toList.length ≤ 8 := by omega
  rw [if_pos h1, decide_eq_true h1]
  exact sat_need (by simp [h1]) (sat_ret rfl)
theorem f104_ok : PureOk Tryz.prog 225 K104 := by
 refine poL (N := 1010) noΓ_ok f104_loops (fn := Tryz.f225) ?_ ?_
 ·intro args v cs h
  unfold K104 at h
  split at h
  ·cases h; rfl
  ·cases h
 ·intro args v cs h hc
  unfold K104 at h
  split at h
  ·rename_i s
   cases h
   have hs := M104_sat s
   rw [← M104_eq] at hs
   generalize execFn Tryz.prog (fun _ => none) L104 1010 Tryz.f225 [.c (.v (.string s))] = T at hs ⊢
   exact Tr.sat_mono (fun r hr => ⟨by subst hr; rfl, Sees.of_eq hr⟩) hs
  ·cases h
def K173 : List AV → Option (AV × List Bool)
 | [.c (.v (.bool b)), .c (.v (.string s))] => some (.agg [boolA (b && !(s.data.toList == [])), .c (.v (.string s))], [])
 | _ => none
theorem f173_ok : PureOk Tryz.prog 140 K173 := by
 refine poe noΓ_ok (fn := Tryz.f140) ?_ ?_
 ·intro args v cs h
  unfold K173 at h
  split at h
  ·cases h; rfl
  ·cases h
 ·intro args v cs h hc
  unfold K173 at h
  split at h
  ·rename_i b s
   cases h
   have hs : (M173 b s).sat fun r => r = .agg [boolA (b && !(s.data.toList == [])), .c (.v (.string s))] := by
    refine sat_ite (fun h => ?_) (fun h => ?_) <;> subst h <;> exact sat_ret rfl
   rw [← M173_eq] at hs
   generalize execFn Tryz.prog (fun _ => none) noL 1010 Tryz.f140 [.c (.v (.bool b)), .c (.v (.string s))] = T at hs ⊢
   exact Tr.sat_mono (fun r hr => ⟨by subst hr; rfl, Sees.of_eq hr⟩) hs
  ·cases h
end Go.Vse
set_option maxRecDepth 100000
namespace Go.Vse
open Go.Proofs
def bitLen (n : Nat) : Nat := if n = 0 then 0 else Nat.log2 n + 1
theorem bitLen_le {n k : Nat} : bitLen n ≤ k ↔ n < 2 ^ k := by
 unfold bitLen
 split
 ·rename_i h; subst h; simp [Nat.two_pow_pos]
 ·rename_i h
  rw [← Nat.log2_lt h]; omega
theorem bitLen_shift {n k : Nat} (h : 2 ^ k ≤ n) : bitLen n = bitLen (n / 2 ^ k) + k := by
 have key : ∀ m, bitLen n ≤ m ↔ bitLen (n / 2 ^ k) + k ≤ m := by
  intro m
  by_cases hm : k ≤ m
  ·have : bitLen (n / 2 ^ k) + k ≤ m ↔ bitLen (n / 2 ^ k) ≤ m - k := by omega
   rw [this, bitLen_le, bitLen_le, Nat.div_lt_iff_lt_mul (Nat.two_pow_pos k), ← Nat.pow_add]
   rw [show m - k + k = m by omega]
  ·constructor
   ·intro hh
    rw [bitLen_le] at hh
    have : 2 ^ m ≤ 2 ^ k := Nat.pow_le_pow_right (by omega) (by omega)
    omega
   ·intro hh; omega
 exact Nat.le_antisymm ((key _).2 (Nat.le_refl _)) ((key _).1 (Nat.le_refl _))
def len8 : List UInt8 := ([0, 1, 2, 2, 3, 3, 3, 3, 4, 4, 4, 4, 4, 4, 4, 4, 5, 5, 5, 5, 5, 5, 5, 5, 5, 5, 5, 5, 5, 5, 5, 5, 6, 6, 6, 6, 6, 6, 6, 6, 6, 6, 6, 6, 6, 6, 6, 6, 6, 6, 6, 6, 6,
         6, 6, 6, 6, 6, 6, 6, 6, 6, 6, 6].append
     [7, 7, 7, 7, 7, 7, 7, 7, 7, 7, 7, 7, 7, 7, 7, 7, 7, 7, 7, 7, 7, 7, 7, 7, 7, 7, 7, 7, 7, 7, 7, 7, 7, 7, 7, 7, 7, 7, 7, 7, 7, 7, 7, 7, 7, 7, 7, 7, 7, 7, 7,
       7, 7, 7, 7, 7, 7, 7, 7, 7, 7, 7, 7, 7]).append
 (([8, 8, 8, 8, 8, 8, 8, 8, 8, 8, 8, 8, 8, 8, 8, 8, 8, 8, 8, 8, 8, 8, 8, 8, 8, 8, 8, 8, 8, 8, 8, 8, 8, 8, 8, 8, 8, 8, 8, 8, 8, 8, 8, 8, 8, 8, 8, 8, 8, 8, 8, 8, 8,
 8, 8, 8, 8, 8, 8, 8, 8, 8, 8, 8] : List UInt8).append [8, 8, 8, 8, 8, 8, 8, 8, 8, 8, 8, 8, 8, 8, 8, 8, 8, 8, 8, 8, 8, 8, 8, 8, 8, 8, 8, 8, 8, 8, 8, 8, 8, 8, 8, 8, 8, 8, 8, 8, 8, 8, 8, 8, 8, 8, 8, 8, 8, 8, 8, 8, 8,
 8, 8, 8, 8, 8, 8, 8, 8, 8, 8, 8])
theorem len8_all : ((List.range 256).all fun c => Nat.beq (len8.getD c 0).toNat (bitLen c)) = true := by kernel_rfl
theorem len8_len : len8.length = 256 := by kernel_rfl
theorem len8_get {c : Nat} (h : c < 256) : (len8.getD c 0).toNat = bitLen c := Nat.eq_of_beq_eq_true (List.all_eq_true.1 len8_all c (List.mem_range.2 h))
theorem fdiv_nat (n k : Nat) : ((n : Int)).fdiv ((k : Nat) : Int) = ((n / k : Nat) : Int) := by
 rw [Int.fdiv_eq_ediv_of_nonneg _ (by omega)]; rfl
theorem M196_sat (n : Nat) (hn : n < 18446744073709551616) : (M196 (n : Int)).sat fun r => r = intA .i64 (bitLen n : Nat) := by
 have q32 : ((n : Int)).fdiv (2 ^ min (Int.toNat 32) IntKind.u64.bits) = ((n / 4294967296 : Nat) : Int) := fdiv_nat n 4294967296
 have q16 : ∀ m : Nat, ((m : Int)).fdiv (2 ^ min (Int.toNat 16) IntKind.u64.bits) = ((m / 65536 : Nat) : Int) := fun m => fdiv_nat m 65536
 have q8 : ∀ m : Nat, ((m : Int)).fdiv (2 ^ min (Int.toNat 8) IntKind.u64.bits) = ((m / 256 : Nat) : Int) := fun m => fdiv_nat m 256
 have leaf : ∀ (m : Nat) (k : Int) (b : Nat), m < 256 → 0 ≤ k → k + 8 < 1000 → ((b : Nat) : Int) = k + (bitLen m : Nat) → bitLen m ≤ 8 →
   (Tr.need (decide (0 ≤ IntKind.u8.wrap (m : Int) ∧ IntKind.u8.wrap (m : Int) < ((len8.length : Nat) : Int))) (Tr.ret (AV.c (IV.v (Value.int IntKind.i64 (IntKind.i64.wrap (k + IntKind.i64.wrap (((len8.getD (IntKind.u8.wrap (m : Int)).toNat 0).toNat : Nat) : Int)))))))).sat fun r => r = intA .i64 (b : Nat) := by
  intro m k b hm h0 hk hb hle
  have e1 : IntKind.u8.wrap (m : Int) = (m : Int) := by rw [wrap_u8]; omega
  rw [e1, Int.toNat_natCast, len8_get hm, len8_len]
  refine sat_need (decide_eq_true (by omega)) (sat_ret ?_)
  rw [wrap_i64 (x := ((bitLen m : Nat) : Int)) (by omega), wrap_i64 (by omega), hb]
  rfl
 have b8 : ∀ m, m < 256 → bitLen m ≤ 8 := fun m hm => bitLen_le.2 (by simpa using hm)
 have w1 : IntKind.i64.wrap (32 + 16) = 48 := by rfl
 have w2 : IntKind.i64.wrap (48 + 8) = 56 := by rfl
 have w3 : IntKind.i64.wrap (32 + 8) = 40 := by rfl
 have w4 : IntKind.i64.wrap (0 + 16) = 16 := by rfl
 have w5 : IntKind.i64.wrap (16 + 8) = 24 := by rfl
 have w6 : IntKind.i64.wrap (0 + 8) = 8 := by rfl
 unfold M196
 simp only [q32, q16, q8, w1, w2, w3, w4, w5, w6]
 refine sat_ite (fun h => sat_need rfl ?_) (fun h => ?_)
 ·have h := of_decide_eq_true h
  have s1 := bitLen_shift (n := n) (k := 32) (by omega)
  rw [show (2 : Nat) ^ 32 = 4294967296 from rfl] at s1
  refine sat_ite (fun h => sat_need rfl ?_) (fun h => ?_)
  ·have h := of_decide_eq_true h
   have s2 := bitLen_shift (n := n / 4294967296) (k := 16) (by omega)
   rw [show (2 : Nat) ^ 16 = 65536 from rfl] at s2
   refine sat_ite (fun h => sat_need rfl ?_) (fun h => ?_)
   ·have h := of_decide_eq_true h
    have s3 := bitLen_shift (n := n / 4294967296 / 65536) (k := 8) (by omega)
    rw [show (2 : Nat) ^ 8 = 256 from rfl] at s3
    exact leaf (n / 4294967296 / 65536 / 256) 56 (bitLen n) (by omega) (by omega) (by omega) (by omega) (b8 _ (by omega))
   ·have h := of_decide_eq_false h
    exact leaf (n / 4294967296 / 65536) 48 (bitLen n) (by omega) (by omega) (by omega) (by omega) (b8 _ (by omega))
  ·have h := of_decide_eq_false h
   refine sat_ite (fun h => sat_need rfl ?_) (fun h => ?_)
   ·have h := of_decide_eq_true h
    have s3 := bitLen_shift (n := n / 4294967296) (k := 8) (by omega)
    rw [show (2 : Nat) ^ 8 = 256 from rfl] at s3
    exact leaf (n / 4294967296 / 256) 40 (bitLen n) (by omega) (by omega) (by omega) (by omega) (b8 _ (by omega))
   ·have h := of_decide_eq_false h
    exact leaf (n / 4294967296) 32 (bitLen n) (by omega) (by omega) (by omega) (by omega) (b8 _ (by omega))
 ·have h := of_decide_eq_false h
  refine sat_ite (fun h => sat_need rfl ?_) (fun h => ?_)
  ·have h := of_decide_eq_true h
   have s2 := bitLen_shift (n := n) (k := 16) (by omega)
   rw [show (2 : Nat) ^ 16 = 65536 from rfl] at s2
   refine sat_ite (fun h => sat_need rfl ?_) (fun h => ?_)
   ·have h := of_decide_eq_true h
    have s3 := bitLen_shift (n := n / 65536) (k := 8) (by omega)
    rw [show (2 : Nat) ^ 8 = 256 from rfl] at s3
    exact leaf (n / 65536 / 256) 24 (bitLen n) (by omega) (by omega) (by omega) (by omega) (b8 _ (by omega))
   ·have h := of_decide_eq_false h
    exact leaf (n / 65536) 16 (bitLen n) (by omega) (by omega) (by omega) (by omega) (b8 _ (by omega))
  ·have h := of_decide_eq_false h
   refine sat_ite (fun h => sat_need rfl ?_) (fun h => ?_)
   ·have h := of_decide_eq_true h
    have s3 := bitLen_shift (n := n) (k := 8) (by omega)
    rw [show (2 : Nat) ^ 8 = 256 from rfl] at s3
    exact leaf (n / 256) 8 (bitLen n) (by omega) (by omega) (by omega) (by omega) (b8 _ (by omega))
   ·have h := of_decide_eq_false h
    exact leaf n 0 (bitLen n) (by omega) (by omega) (by omega) (by omega) (b8 _ (by omega))
def u64B (n : Int) : Bool := decide (0 ≤ n) && decide (n < 18446744073709551616)
def K196 : List AV → Option (AV × List Bool)
 | [.c (.v (.int .u64 n))] => some (intA .i64 (bitLen n.toNat : Nat), [u64B n])
 | _ => none
theorem f196_ok : PureOk Tryz.prog 212 K196 := by
 refine poe noΓ_ok (fn := Tryz.f212) ?_ ?_
 ·intro args v cs h
  unfold K196 at h
  split at h
  ·cases h; rfl
  ·cases h
 ·intro args v cs h hc
  unfold K196 at h
  split at h
  ·rename_i n
   cases h
   have hr : u64B n = true := hc (u64B n) (List.mem_singleton.2 rfl)
   simp only [u64B, Bool.and_eq_true, decide_eq_true_eq] at hr
   obtain ⟨m, rfl⟩ : ∃ m : Nat, n = m := ⟨n.toNat, by omega⟩
   have hs := M196_sat m (by omega)
   rw [← M196_eq] at hs
   rw [Int.toNat_natCast]
   have e : (intA .u64 (m : Int)) = .c (.v (.int .u64 (m : Int))) := rfl
   rw [e] at hs
   generalize execFn Tryz.prog (fun _ => none) noL 1010 Tryz.f212 [.c (.v (.int .u64 (m : Int)))] = T at hs ⊢
   exact Tr.sat_mono (fun r hr => ⟨by subst hr; rfl, Sees.of_eq hr⟩) hs
  ·cases h
end Go.Vse
set_option maxRecDepth 100000
namespace Go.Vse
open Go.Proofs
structure W174 where
 u : Int
 n : Int
 n2 : Int
 i : Int
 l : List UInt8
def head174 (x : W174) : List AV × List (Option Ent) := ([intA .u64 x.u, intA .i64 x.n, .eptr 0 0 0 1, intA .i64 x.n2, intA .i64 x.i], [some (.arr 8 1 (byteEl x.l) 292)])
def take174 : List AV × List (Option Ent) → Option (W174 × List Bool)
 | ([.c (.v (.int .u64 u)), .c (.v (.int .i64 n)), .eptr 0 0 0 1, .c (.v (.int .i64 n2)), .c (.v (.int .i64 i))], [some (.arr 8 1 el 292)]) => some (⟨u, n, n2, i, bytesOf 8 el⟩, [isBytes 8 el])
 | _ => none
def lp174 (w : Way W174) : LoopSt W174 W174 where
 nIn := { nt := 30, live := [0, 3, 4, 12, 13] }
 nOut := { nt := 30, live := [0, 3, 4, 12, 13] }
 head := head174
 take := take174
 out := fun r => (.normal, head174 r)
 takeR := fun q => match q with | (.normal, q) => take174 q | _ => none
 res := w.res
 pre := w.pre
theorem take174_ok (q : List AV × List (Option Ent)) (x : W174) (cs : List Bool) (h : take174 q = some (x, cs)) (hc : ∀ p ∈ cs, p) : SeesL q.1 (head174 x).1 ∧ EntsEqv q.2 (head174 x).2 := by
 unfold take174 at h
 split at h
 ·rename_i u n n2 i el
  simp only [Option.some.injEq, Prod.mk.injEq] at h
  obtain ⟨rfl, rfl⟩ := h
  have h1 : isBytes 8 el = true := hc _ (List.mem_singleton.2 rfl)
  exact ⟨SeesL.refl _, .cons (.arr _ _ _ _ _ (byteEl_of_bytes h1)) .nil⟩
 ·cases h
theorem lp174_good (w : Way W174) : (lp174 w).Good2 where
 take := take174_ok
 takeR := by
  intro e q r cs h hc
  cases e with
  | normal => obtain ⟨h1, h2⟩ := take174_ok q r cs h hc; exact ⟨rfl, h1, h2⟩
  | exit j => cases h
  | ret => cases h
 split := fun r Q h => h
def lowB (u : Nat) : Nat → List UInt8
 | 0 => []
 | k + 1 => UInt8.ofNat (u / 256 ^ k % 256) :: lowB u k
def way174 : Way W174 := ⟨fun x => ⟨x.u, x.n, x.n2, x.n2, lowB x.u.toNat x.n.toNat ++ x.l.drop x.n.toNat⟩,
 fun x => u64B x.u && decide (x.n2 = x.n) && decide (x.i = 0) && decide (0 ≤ x.n) && decide (x.n ≤ 8) && decide (x.l.length = 8)⟩
def L174 : Nat → Option (St → Tr (Ex × St)) := fun id => bif Nat.beq id 0 then some ((lp174 way174).g 0) else none
def Γ174 : FuncId → Option Spec := fun f => bif Nat.beq f 212 then some (pureSpec K196) else none
end Go.Vse
set_option maxRecDepth 100000
namespace Go.Vse
open Go.Proofs
def step174 (u : Int) (n : Int) (n2 : Int) (i : Int) (l : List UInt8) : Tr (W174 ⊕ W174) :=
 let x1 : Int := IntKind.i64.wrap (8 * i)
 let x2 : Int := IntKind.i64.wrap (IntKind.i64.wrap (n - 1) - i)
 let x3 : Int := ↑8
 let x4 : Nat := x2.toNat
 .ite (decide (i < n2)) (.need (decide ¬x1 < 0) (.need (decide (0 ≤ x2 ∧ x2 < x3)) (.need (decide (x4 < 8)) (.need (isBytes 8 (spliceE (byteEl l) x4 0 [IV.v (Value.int IntKind.u8 (IntKind.u8.wrap (u.fdiv (2 ^ min x1.toNat IntKind.u64.bits))))].reverse)) (.ret (Sum.inl { u := u, n := n, n2 := n2, i := IntKind.i64.wrap (i + 1), l := bytesOf 8 (spliceE (byteEl l) x4 0 [IV.v (Value.int IntKind.u8 (IntKind.u8.wrap (u.fdiv (2 ^ min x1.toNat IntKind.u64.bits))))].reverse) })))))) (.need (isBytes 8 (byteEl l)) (.ret (Sum.inr { u := u, n := n, n2 := n2, i := i, l := bytesOf 8 (byteEl l) })))
def M174 (u : Int) : Tr AV :=
 let x1 : Int := IntKind.i64.wrap ((IntKind.i64.wrap (↑(bitLen u.toNat) + 7)).tdiv 8)
 let x2 : List UInt8 := bytesOf 8 fun x => List.map IV.v [Value.int IntKind.u8 0]
 let x3 : Nat := x2.length
 let x4 : Int := ↑8
 let x5 : Nat := x1.toNat
 .ite (u == 0) (.ret (.c (.v (.string { data := #[] })))) (.need (u64B u) (.need true (.need true (.need (u64B u && decide (x1 = x1) && decide (0 = 0) && decide (0 ≤ x1) && decide (x1 ≤ 8) && decide (x3 = 8)) (.need (decide (0 ≤ x1 ∧ x1 ≤ x4)) (.need (isBytes x5 (byteEl (lowB u.toNat x5 ++ List.drop x5 x2))) (.ret (.c (.v (.string ⟨⟨bytesOf x5 (byteEl (lowB u.toNat x5 ++ List.drop x5 x2))⟩⟩))))))))))
theorem step174_eq (w : Way W174) (x : W174) : (exec Tryz.prog (fun _ => none) noL 1010 (loopOf 0 (codeOf Tryz.f160)) (mkSt (lp174 w).nIn ((lp174 w).head x))).bind ((lp174 w).fin 0 0) = step174 x.u x.n x.n2 x.i x.l := by
 obtain ⟨u, n, n2, i, l⟩ := x
 kernel_rfl
theorem M174_eq (u : Int) : execFn Tryz.prog Γ174 L174 1010 Tryz.f160 [.c (.v (.int .u64 u))] = M174 u := by kernel_rfl
theorem splice_bytes (l : List UInt8) (k : Nat) (b : Nat) (hk : k < l.length) (hb : b < 256) : bytesOf l.length (spliceE (byteEl l) k 0 [IV.v (.int .u8 (b : Int))].reverse) = l.set k (UInt8.ofNat b) ∧ isBytes l.length (spliceE (byteEl l) k 0 [IV.v (.int .u8 (b : Int))].reverse) = true := by
 have hel : ∀ i, spliceE (byteEl l) k 0 [IV.v (.int .u8 (b : Int))].reverse i = if i = k then [IV.v (.int .u8 (b : Int))] else byteEl l i := by
  intro i
  unfold spliceE
  split
  ·rename_i h; subst h; simp [byteEl]
  ·rfl
 constructor
 ·apply List.ext_getElem
  ·simp [bytesOf]
  ·intro i h1 h2
   simp only [bytesOf, List.getElem_map, List.getElem_range, hel]
   by_cases hi : i = k
   ·subst hi
    simp [byteOf]
   ·have hil : i < l.length := by simpa [bytesOf] using h1
    rw [if_neg hi, List.getElem_set_ne (by omega)]
    simp [byteEl, byteOf_int, List.getD_eq_getElem?_getD, hil]
 ·refine List.all_eq_true.2 fun i hi => ?_
  rw [hel]
  split
  ·simp [isByte]; omega
  ·have := isBytes_byteEl l.length l
   exact List.all_eq_true.1 this i hi
theorem shr_byte (u i : Nat) (hi : i < 8) : IntKind.u8.wrap ((u : Int).fdiv (2 ^ min (8 * i) IntKind.u64.bits)) = ((u / 256 ^ i % 256 : Nat) : Int) := by
 have e1 : min (8 * i) IntKind.u64.bits = 8 * i := by
  change min (8 * i) 64 = 8 * i
  omega
 rw [e1]
 have e2 : ((2 : Int) ^ (8 * i)) = ((256 ^ i : Nat) : Int) := by
  rw [show (256 : Nat) = 2 ^ 8 from rfl, ← Nat.pow_mul]
  simp
 rw [e2, fdiv_nat, wrap_u8]
 simp
theorem set_mid (A B : List UInt8) (x b : UInt8) : (A ++ x :: B).set A.length b = A ++ b :: B := by
 simp [List.set_append]
theorem step174_in (u n i : Nat) (l : List UInt8) (hn : n ≤ 8) (hi : i < n) (hl : l.length = 8) {R : W174 ⊕ W174 → Prop}
  (hin : R (.inl ⟨u, n, n, ((i + 1 : Nat) : Int), l.set (n - 1 - i) (UInt8.ofNat (u / 256 ^ i % 256))⟩)) : (step174 (u : Nat) (n : Nat) (n : Nat) (i : Nat) l).sat R := by
 have w1 : IntKind.i64.wrap (8 * (i : Int)) = ((8 * i : Nat) : Int) := by rw [wrap_i64 (by omega)]; omega
 have w2 : IntKind.i64.wrap ((n : Int) - 1) = (n : Int) - 1 := wrap_i64 (by omega)
 have w3 : IntKind.i64.wrap ((n : Int) - 1 - i) = ((n - 1 - i : Nat) : Int) := by rw [wrap_i64 (by omega)]; omega
 have w4 : IntKind.i64.wrap ((i : Int) + 1) = ((i + 1 : Nat) : Int) := by rw [wrap_i64 (by omega)]; omega
 obtain ⟨s1, s2⟩ := splice_bytes l (n - 1 - i) (u / 256 ^ i % 256) (by omega) (Nat.mod_lt _ (by decide))
 rw [hl] at s1 s2
 unfold step174
 simp only [w1, w2, w3, w4, Int.toNat_natCast, shr_byte u i (by omega), s1, s2]
 exact sat_ite (fun _ => sat_need (decide_eq_true (by omega)) (sat_need (decide_eq_true (by omega)) (sat_need (decide_eq_true (by omega)) (sat_need rfl (sat_ret hin))))) (fun h => absurd (show (i : Int) < (n : Nat) by omega) (of_decide_eq_false h))
theorem lowB_len (u : Nat) : ∀ k, (lowB u k).length = k
 | 0 => rfl
 | k + 1 => by simp [lowB, lowB_len u k]
theorem runs174 (u n : Nat) (l0 : List UInt8) (hn : n ≤ 8) (hl : l0.length = 8) (Q : W174 → Prop) (hq : Q ⟨u, n, n, n, lowB u n ++ l0.drop n⟩) : ∀ (k i : Nat), i + k = n →
   RunsX (fun x : W174 => step174 x.u x.n x.n2 x.i x.l) Q (k + 1) ⟨u, n, n, i, l0.take (n - i) ++ (lowB u i ++ l0.drop n)⟩
 | 0, i, hi => by
   obtain rfl : i = n := by omega
   have hlen : (lowB u i ++ l0.drop i).length = 8 := by rw [List.length_append, lowB_len, List.length_drop]; omega
   unfold RunsX
   rw [Nat.sub_self, List.take_zero, List.nil_append]
   change Tr.sat _ (step174 (u : Nat) (i : Nat) (i : Nat) (i : Nat) (lowB u i ++ l0.drop i))
   unfold step174
   have e8 : bytesOf 8 (byteEl (lowB u i ++ l0.drop i)) = lowB u i ++ l0.drop i := by rw [← hlen, bytesOf_byteEl]
   rw [e8]
   exact sat_ite (fun h => absurd (of_decide_eq_true h) (Int.lt_irrefl _)) (fun _ => sat_need (isBytes_byteEl _ _) (sat_ret hq))
 | k + 1, i, hi => by
   have ih := runs174 u n l0 hn hl Q hq k (i + 1) (by omega)
   have ht : l0.take (n - i) = l0.take (n - 1 - i) ++ [l0[n - 1 - i]'(by omega)] := by
     rw [show n - i = (n - 1 - i) + 1 by omega]
     exact List.take_succ_eq_append_getElem (by omega)
   refine step174_in u n i _ hn (by omega) (by simp only [List.length_append, List.length_take, lowB_len, List.length_drop]; omega) ?_
   rw [ht, List.append_assoc, List.singleton_append]
   have hA : (l0.take (n - 1 - i)).length = n - 1 - i := by rw [List.length_take]; omega
   have hs := set_mid (l0.take (n - 1 - i)) (lowB u i ++ l0.drop n) (l0[n - 1 - i]'(by omega)) (UInt8.ofNat (u / 256 ^ i % 256))
   rw [hA] at hs
   rw [hs]
   have e : n - (i + 1) = n - 1 - i := by omega
   rw [e] at ih
   exact ih
theorem f174_loops : BlocksOk Tryz.prog 0 L174 (codeOf Tryz.f160) := by
 refine one_blocks (N := 1010) (L' := noL) noΓ_ok (blocksOk_none 0 _) (lp174_good _) (step174_eq way174) ?_
 rintro ⟨u, n, n2, i, l⟩ hx
 have hx : way174.pre ⟨u, n, n2, i, l⟩ = true := hx
 simp only [way174, u64B, Bool.and_eq_true, decide_eq_true_eq] at hx
 obtain ⟨⟨⟨⟨⟨⟨h1, h2⟩, rfl⟩, rfl⟩, h5⟩, h6⟩, h7⟩ := hx
 obtain ⟨u, rfl⟩ : ∃ m : Nat, u = m := ⟨u.toNat, by omega⟩
 obtain ⟨n, rfl⟩ : ∃ m : Nat, n2 = m := ⟨n2.toNat, by omega⟩
 have := runs174 u n l (by omega) h7 (· = way174.res ⟨u, n, n, 0, l⟩) (by simp [way174]) n 0 (by omega)
 have e : l.take (n - 0) ++ (lowB u 0 ++ l.drop n) = l := by simp [lowB]
 rw [e] at this
 exact ⟨_, this⟩
theorem lowB_snoc : ∀ (k u : Nat), lowB u (k + 1) = lowB (u / 256) k ++ [UInt8.ofNat (u % 256)]
 | 0, u => by simp [lowB]
 | k + 1, u => by
   rw [lowB, lowB_snoc k u, lowB]
   rw [Nat.div_div_eq_div_mul, ← Nat.pow_succ']
   rfl
theorem lowB_magB : ∀ (k u : Nat), u < 256 ^ k → (k = 0 ∨ 256 ^ (k - 1) ≤ u) → lowB u k = magB u
 | 0, u, h, _ => by
  have : u = 0 := by simpa using h
  subst this
  rw [magB_zero]; rfl
 | k + 1, u, h, h2 => by
  have hu : 0 < u := by
   have := h2.resolve_left (by omega)
   have hp : 0 < 256 ^ (k + 1 - 1) := Nat.pow_pos (by decide)
   omega
  rw [lowB_snoc, magB_pos hu]
  congr 1
  refine lowB_magB k (u / 256) ?_ ?_
  ·rw [Nat.pow_succ] at h; omega
  ·by_cases hk : k = 0
   ·exact .inl hk
   ·right
    have := h2.resolve_left (by omega)
    rw [show k + 1 - 1 = (k - 1) + 1 by omega, Nat.pow_succ] at this
    omega
def byteLen (u : Nat) : Nat := (bitLen u + 7) / 8
theorem lowB_all {u : Nat} (h : 0 < u) : lowB u (byteLen u) = magB u := by
 have h1 : u < 2 ^ bitLen u := bitLen_le.1 (Nat.le_refl _)
 have h2 : ¬ u < 2 ^ (bitLen u - 1) := fun hh => by
   have hb : bitLen u ≠ 0 := fun hz => by rw [hz] at h1; simp at h1; omega
   have := bitLen_le.2 hh
   omega
 have hb : 0 < bitLen u := by
   rcases Nat.eq_zero_or_pos (bitLen u) with hz | hz
   · rw [hz] at h1; simp at h1; omega
   · exact hz
 refine lowB_magB _ u ?_ (.inr ?_)
 · rw [show (256 : Nat) = 2 ^ 8 from rfl, ← Nat.pow_mul]
   have : 2 ^ bitLen u ≤ 2 ^ (8 * byteLen u) := Nat.pow_le_pow_right (by omega) (by unfold byteLen; omega)
   omega
 · rw [show (256 : Nat) = 2 ^ 8 from rfl, ← Nat.pow_mul]
   have : 2 ^ (8 * (byteLen u - 1)) ≤ 2 ^ (bitLen u - 1) := Nat.pow_le_pow_right (by omega) (by unfold byteLen; omega)
   omega
def K174 : List AV → Option (AV × List Bool)
 | [.c (.v (.int .u64 n))] => some (strA (magB n.toNat), [u64B n])
 | _ => none
theorem M174_sat (u : Nat) (hu : u < 18446744073709551616) : (M174 (u : Nat)).sat fun r => r = strA (magB u) := by
 have hb : bitLen u ≤ 64 := bitLen_le.2 (by simpa using hu)
 have w1 : IntKind.i64.wrap (((bitLen u : Nat) : Int) + 7) = ((bitLen u + 7 : Nat) : Int) := by rw [wrap_i64 (by omega)]; omega
 have w2 : IntKind.i64.wrap ((((bitLen u + 7 : Nat) : Int)).tdiv 8) = ((byteLen u : Nat) : Int) := by
  have : (((bitLen u + 7 : Nat) : Int)).tdiv 8 = ((byteLen u : Nat) : Int) := rfl
  rw [this, wrap_i64 (by unfold byteLen; omega)]
 have hk : byteLen u ≤ 8 := by unfold byteLen; omega
 have hU : u64B ((u : Nat) : Int) = true := by simp [u64B]; omega
 unfold M174
 simp only [Int.toNat_natCast, w1, w2]
 refine sat_ite (fun h => ?_) (fun h => ?_)
 ·have h := eq_of_beq h
  obtain rfl : u = 0 := by omega
  rw [magB_zero]; exact sat_ret rfl
 ·have hpos : 0 < u := by
   rcases Nat.eq_zero_or_pos u with hz | hz
   ·subst hz; cases h
   ·exact hz
  rw [lowB_all hpos]
  have hlen : (magB u).length = byteLen u := by rw [← lowB_all hpos, lowB_len]
  have e1 : bytesOf (byteLen u) (byteEl (magB u ++ List.drop (byteLen u) (bytesOf 8 fun _ => List.map IV.v [Value.int IntKind.u8 0]))) = magB u := by
   apply List.ext_getElem
   ·simp [bytesOf, hlen]
   ·intro i h1 h2
    have hi : i < (magB u).length := h2
    simp [bytesOf, byteEl, byteOf_int, List.getD_eq_getElem?_getD, List.getElem?_append_left hi]
    rw [List.getElem?_eq_getElem hi]; rfl
  rw [e1]
  refine sat_need hU (sat_need rfl (sat_need rfl (sat_need ?_ (sat_need (decide_eq_true (by omega)) (sat_need (isBytes_byteEl _ _) (sat_ret rfl))))))
  have e8 : (bytesOf 8 fun _ => List.map IV.v [Value.int IntKind.u8 0]).length = 8 := rfl
  simp only [bytesOf_len, hU, Bool.true_and, Bool.and_eq_true, decide_eq_true_eq, true_and, and_true]
  omega
theorem Γ174_ok : ∀ f s, Γ174 f = some s → SpecOk Tryz.prog f s := one_ok f196_ok.spec
theorem f174_ok : PureOk Tryz.prog 160 K174 := by
 refine poL (N := 1010) Γ174_ok f174_loops (fn := Tryz.f160) ?_ ?_
 ·intro args v cs h
  unfold K174 at h
  split at h
  ·cases h; rfl
  ·cases h
 ·intro args v cs h hc
  unfold K174 at h
  split at h
  ·rename_i n
   cases h
   have hr : u64B n = true := hc (u64B n) (List.mem_singleton.2 rfl)
   simp only [u64B, Bool.and_eq_true, decide_eq_true_eq] at hr
   obtain ⟨m, rfl⟩ : ∃ m : Nat, n = m := ⟨n.toNat, by omega⟩
   have hs := M174_sat m (by omega)
   rw [← M174_eq] at hs
   rw [Int.toNat_natCast]
   generalize execFn Tryz.prog Γ174 L174 1010 Tryz.f160 [.c (.v (.int .u64 ((m : Nat) : Int)))] = T at hs ⊢
   generalize magB m = l at hs ⊢
   exact Tr.sat_mono (fun r hr => ⟨by subst hr; rfl, Sees.of_eq hr⟩) hs
  ·cases h
end Go.Vse
set_option maxRecDepth 100000
namespace Go.Vse
open Go.Proofs
def intEl (l : List Int) : Nat → List IV := fun k => [.v (.int .i64 (l.getD k 0))]
def intOfI : List IV → Int
 | [.v (.int .i64 n)] => n
 | _ => 0
def isIntI : List IV → Bool
 | [.v (.int .i64 _)] => true
 | _ => false
def intsOf (n : Nat) (el : Nat → List IV) : List Int := (List.range n).map fun k => intOfI (el k)
def isInts (n : Nat) (el : Nat → List IV) : Bool := (List.range n).all fun k => isIntI (el k)
theorem intsOf_len (n : Nat) (el : Nat → List IV) : (intsOf n el).length = n := by simp [intsOf]
theorem isInts_el {n : Nat} {el : Nat → List IV} (h : isInts n el = true) : ∀ k, k < n → el k = intEl (intsOf n el) k := by
 intro k hk
 have h1 := List.all_eq_true.1 h k (List.mem_range.2 hk)
 have e : (intsOf n el).getD k 0 = intOfI (el k) := by simp [intsOf, List.getD_eq_getElem?_getD, hk]
 unfold intEl
 rw [e]
 unfold isIntI at h1
 split at h1
 ·rename_i hh; rw [hh]; rfl
 ·cases h1
theorem isInts_mk (l : List Int) (n : Nat) : isInts n (intEl l) = true := List.all_eq_true.2 fun _ _ => rfl
theorem intsOf_el (l : List Int) : intsOf l.length (intEl l) = l := by
 apply List.ext_getElem
 ·simp [intsOf]
 ·intro i h1 h2
  simp [intsOf, intEl, intOfI, List.getD_eq_getElem?_getD, h2]
def firstNZ : List Int → Int
 | [] => 0
 | a :: l => if a = 0 then firstNZ l else a
structure W167 where
 l : List Int
 i : Int
structure R167 where
 ret : Bool
 v : Int
def head167 (x : W167) : List AV × List (Option Ent) := ([intA .i64 0, intA .i64 0, .c (.sl x.l.length 1 (intEl x.l)), intA .i64 (x.l.length : Nat), intA .i64 x.i], [])
def take167 : List AV × List (Option Ent) → Option (W167 × List Bool)
 | ([.c (.v (.int .i64 y)), .c (.v (.int .i64 z)), .c (.sl n 1 el), .c (.v (.int .i64 n')), .c (.v (.int .i64 i))], []) => some (⟨intsOf n el, i⟩, [decide (y = 0), decide (z = 0), decide (n' = (n : Int)), isInts n el])
 | _ => none
def takeR167 : Ex × (List AV × List (Option Ent)) → Option (R167 × List Bool)
 | (.normal, ([.c (.v (.int .i64 v)), .c (.v (.int .i64 z))], [])) => some (⟨false, v⟩, [decide (z = 0)])
 | (.ret, ([.c (.v (.int .i64 v)), .c (.v (.int .i64 z))], [])) => some (⟨true, v⟩, [decide (z = 0)])
 | _ => none
structure Way2 (X R : Type) where
 res : X → R
 pre : X → Bool
def lp167 (w : Way2 W167 R167) : LoopSt W167 R167 where
 nIn := { nt := 18, live := [2, 3, 6, 7, 8] }
 nOut := { nt := 18, live := [2, 3] }
 head := head167
 take := take167
 out := fun r => (bif r.ret then .ret else .normal, ([intA .i64 r.v, intA .i64 0], []))
 takeR := takeR167
 res := w.res
 pre := w.pre
 split := fun r => .ite r.ret (.ret { r with ret := true }) (.ret { r with ret := false })
theorem lp167_good (w : Way2 W167 R167) : (lp167 w).Good2 where
 take := by
  intro q x cs h hc
  change take167 q = some (x, cs) at h
  unfold take167 at h
  split at h
  ·rename_i y z n el n' i
   simp only [Option.some.injEq, Prod.mk.injEq] at h
   obtain ⟨rfl, rfl⟩ := h
   have hy : y = 0 := dec (hc (decide (y = 0)) (by simp))
   have h0 : z = 0 := dec (hc (decide (z = 0)) (by simp))
   subst hy
   have h1 : n' = (n : Int) := dec (hc (decide (n' = (n : Int))) (by simp))
   have h2 : isInts n el = true := hc (isInts n el) (by simp)
   subst h0
   subst h1
   refine ⟨?_, EntsEqv.refl _⟩
   show SeesL _ (head167 _).1
   simp only [head167, intsOf_len]
   exact .cons (Sees.refl _) (.cons (Sees.refl _) (.cons (Sees.sl (isInts_el h2)) (.cons (Sees.refl _) (.cons (Sees.refl _) .nil))))
  ·cases h
 takeR := by
  intro e q r cs h hc
  change takeR167 (e, q) = some (r, cs) at h
  unfold takeR167 at h
  split at h
  ·rename_i hq
   cases hq
   cases h
   obtain rfl := of_decide_eq_true (hc _ (List.mem_singleton.2 rfl))
   exact ⟨rfl, SeesL.refl _, EntsEqv.refl _⟩
  ·rename_i hq
   cases hq
   cases h
   obtain rfl := of_decide_eq_true (hc _ (List.mem_singleton.2 rfl))
   exact ⟨rfl, SeesL.refl _, EntsEqv.refl _⟩
  ·cases h
 split := by
  intro r Q h
  obtain ⟨b, v⟩ := r
  cases b with
  | true => exact h.1 rfl
  | false => exact h.2 rfl
def way167 : Way2 W167 R167 := ⟨fun x => ⟨firstNZ (x.l.drop x.i.toNat) != 0, firstNZ (x.l.drop x.i.toNat)⟩, fun x => decide (0 ≤ x.i) && decide (x.i ≤ (x.l.length : Nat)) && decide (x.l.length ≤ 1000)⟩
def L167 : Nat → Option (St → Tr (Ex × St)) := fun id => bif Nat.beq id 0 then some ((lp167 way167).g 0) else none
def sgn (a b : Int) : Int := if a < b then -1 else if a > b then 1 else 0
def K194 : List AV → Option (AV × List Bool)
 | [.c (.v (.int .i64 _))] => some (boolA false, [])
 | _ => none
def K168 : List AV → Option (AV × List Bool)
 | [.c (.v (.int .i64 a)), .c (.v (.int .i64 b))] => some (intA .i64 (sgn a b), [])
 | _ => none
def K167 : List AV → Option (AV × List Bool)
 | [.c (.sl n 1 el)] => some (intA .i64 (firstNZ (intsOf n el)), [isInts n el, decide (n ≤ 1000)])
 | _ => none
def Γ168 : FuncId → Option Spec := fun f => bif Nat.beq f 187 then some (pureSpec K194) else none
def Γ172 : FuncId → Option Spec := fun f => bif Nat.beq f 225 then some (pureSpec K104) else none
def Γ226 : FuncId → Option Spec := fun f => bif Nat.beq f 261 then some (pureSpec cmpPure) else none
def Γ195 : FuncId → Option Spec := fun f => bif Nat.beq f 231 then some (pureSpec cmpPure) else none
def Γ171 : FuncId → Option Spec := fun f => bif Nat.beq f 131 then some (pureSpec K168) else bif Nat.beq f 195 then some (pureSpec cmpPure) else bif Nat.beq f 130 then some (pureSpec K167) else none
def Γ189 : FuncId → Option Spec := fun f => bif Nat.beq f 140 then some (pureSpec K173) else none
def Γ152 : FuncId → Option Spec := fun f => bif Nat.beq f 140 then some (pureSpec K173) else bif Nat.beq f 160 then some (pureSpec K174) else none
end Go.Vse
set_option maxRecDepth 100000
namespace Go.Vse
open Go.Proofs
def M194 (a : Int) : Tr AV :=
 .ret (.c (.v (.bool (a != a))))
def M168 (a : Int) (b : Int) : Tr AV :=
 .ite false (.ite false (.ret (.c (.v (.int IntKind.i64 0)))) (.ret (.c (.v (.int IntKind.i64 (-1)))))) (.ite false (.ret (.c (.v (.int IntKind.i64 1)))) (.ite (decide (a < b)) (.ret (.c (.v (.int IntKind.i64 (-1))))) (.ite (decide (a > b)) (.ret (.c (.v (.int IntKind.i64 1)))) (.ret (.c (.v (.int IntKind.i64 0)))))))
def step167 (l : List Int) (i : Int) : Tr (W167 ⊕ R167) :=
 let x1 : Int := ↑l.length
 let x2 : Int := l.getD i.toNat 0
 .ite (decide (i < x1)) (.need (decide (0 ≤ i ∧ i < x1)) (.ite (x2 != 0) (.need true (.ret (Sum.inr { ret := true, v := x2 }))) (.need true (.need true (.need (decide (x1 = x1)) (.need (isInts l.length (intEl l)) (.ret (Sum.inl { l := intsOf l.length (intEl l), i := IntKind.i64.wrap (i + 1) })))))))) (.need true (.ret (Sum.inr { ret := false, v := 0 })))
def M167 (l : List Int) : Tr AV :=
 let x1 : Int := ↑l.length
 let x2 : List Int := intsOf l.length (intEl l)
 let x3 : Nat := x2.length
 let x4 : Int := ↑x3
 let x5 : Int := firstNZ (List.drop (Int.toNat 0) x2)
 .need true (.need true (.need (decide (x1 = x1)) (.need (isInts l.length (intEl l)) (.need (decide (0 ≤ 0) && decide (0 ≤ x4) && decide (x3 ≤ 1000)) (.ite (x5 != 0) (.ret (.c (.v (.int IntKind.i64 x5)))) (.ret (.c (.v (.int IntKind.i64 0)))))))))
def M226 (a : ByteArray) (b : ByteArray) : Tr AV :=
 .ret (.c (.v (.int IntKind.i64 (Lib.compareBytes a.data.toList b.data.toList))))
def M195 (a : ByteArray) (b : ByteArray) : Tr AV :=
 .ret (.c (.v (.int IntKind.i64 (Lib.compareBytes a.data.toList b.data.toList))))
def M172 (a : ByteArray) (b : ByteArray) : Tr AV :=
 .need (bif wordB a then true else true) (.ret (AV.tup [.c (.v (.int IntKind.u64 (bif wordB a then wordV a else wordV a))), .c (.v (.int IntKind.u64 (bif wordB a then wordV b else wordV b))), .c (.v (.bool (bif wordB a then bif true then wordB b else false else false)))]))
def M171 (a : ByteArray) (b : ByteArray) : Tr AV :=
 let x1 : Nat := 0 + 1
 let x2 : List UInt8 := a.data.toList
 let x3 : List UInt8 := b.data.toList
 .need true (.need true (.need true (.ret (.c (.v (.int IntKind.i64 (firstNZ (intsOf 2 fun k => List.take x1 (List.drop (k * x1) [IV.v (Value.int IntKind.i64 (Lib.compareBytes x2 x3)), IV.v (Value.int IntKind.i64 (sgn ↑x2.length ↑x3.length))].reverse)))))))))
def M170 (p : Bool) (a : ByteArray) : Tr AV :=
 .ite (a.data.toList == []) (.ret (.c (.v (.int IntKind.i64 0)))) (.ite p (.ret (.c (.v (.int IntKind.i64 (-1))))) (.ret (.c (.v (.int IntKind.i64 1)))))
def M189 (p : Bool) (a : ByteArray) : Tr AV :=
 .ret (AV.agg [.c (.v (.bool (!p && !a.data.toList == []))), .c (.v (.string a))])
def M123 (p : Bool) (a : ByteArray) : Tr AV :=
 let x1 : List UInt8 := a.data.toList
 let x2 : Int := ↑x1.length
 .need (bif x1 == [] then bif bif true then p else false then true else bif !x1 == [] then decide ((0 : Int) ≤ 0 ∧ 0 < x2) && true else true else bif false then true else bif !x1 == [] then decide ((0 : Int) ≤ 0 ∧ 0 < x2) && true else true) (.ite (bif x1 == [] then bif bif true then p else false then true else bif !x1 == [] then bif false then true else bif true then ((x1.getD (Int.toNat 0) 0).toNat : Int) == 0 else false else bif false then true else false else bif false then true else bif !x1 == [] then bif false then true else bif true then ((x1.getD (Int.toNat 0) 0).toNat : Int) == 0 else false else bif false then true else false) (.ret (.c (.v (.int IntKind.i64 5)))) (.ret (.c (.v (.int IntKind.i64 0)))))
def M152 (n : Int) : Tr AV :=
 let x1 : Int := IntKind.u64.wrap (0 - IntKind.u64.wrap n)
 let x2 : List UInt8 := magB x1.toNat
 let x3 : List UInt8 := magB (IntKind.u64.wrap n).toNat
 .ite (decide (n < 0)) (.need (u64B x1) (.ret (AV.agg [.c (.v (.bool (decide (n < 0) && !x2 == []))), .c (.v (.string ⟨⟨x2⟩⟩))]))) (.need (u64B (IntKind.u64.wrap n)) (.ret (AV.agg [.c (.v (.bool (decide (n < 0) && !x3 == []))), .c (.v (.string ⟨⟨x3⟩⟩))])))
theorem M194_eq (a : Int) : execFn Tryz.prog (fun _ => none) noL 1010 Tryz.f187 [.c (.v (.int .i64 a))] = M194 a := by kernel_rfl
theorem M168_eq (a b : Int) : execFn Tryz.prog Γ168 noL 1010 Tryz.f131 [.c (.v (.int .i64 a)), .c (.v (.int .i64 b))] = M168 a b := by kernel_rfl
theorem step167_eq (w : Way2 W167 R167) (x : W167) : (exec Tryz.prog (fun _ => none) noL 1010 (loopOf 0 (codeOf Tryz.f130)) (mkSt (lp167 w).nIn ((lp167 w).head x))).bind ((lp167 w).fin 0 0) = step167 x.l x.i := by
 obtain ⟨l, i⟩ := x
 kernel_rfl
theorem M167_eq (l : List Int) : execFn Tryz.prog (fun _ => none) L167 1010 Tryz.f130 [.c (.sl l.length 1 (intEl l))] = M167 l := by kernel_rfl
theorem M226_eq (a b : ByteArray) : execFn Tryz.prog Γ226 noL 1010 Tryz.f231 [.c (.v (.string a)), .c (.v (.string b))] = M226 a b := by kernel_rfl
theorem M195_eq (a b : ByteArray) : execFn Tryz.prog Γ195 noL 1010 Tryz.f195 [.c (.v (.string a)), .c (.v (.string b))] = M195 a b := by kernel_rfl
theorem M172_eq (a b : ByteArray) : execFn Tryz.prog Γ172 noL 1010 Tryz.f189 [.c (.v (.string a)), .c (.v (.string b))] = M172 a b := by kernel_rfl
theorem M171_eq (a b : ByteArray) : execFn Tryz.prog Γ171 noL 1010 Tryz.f142 [.c (.v (.string a)), .c (.v (.string b))] = M171 a b := by kernel_rfl
theorem M170_eq (p : Bool) (a : ByteArray) : execFn Tryz.prog (fun _ => none) noL 1010 Tryz.f135 [.agg [.c (.v (.bool p)), .c (.v (.string a))]] = M170 p a := by kernel_rfl
theorem M189_eq (p : Bool) (a : ByteArray) : execFn Tryz.prog Γ189 noL 1010 Tryz.f136 [.agg [.c (.v (.bool p)), .c (.v (.string a))]] = M189 p a := by kernel_rfl
theorem M123_eq (p : Bool) (a : ByteArray) : execFn Tryz.prog (fun _ => none) noL 1010 Tryz.f181 [.agg [.c (.v (.bool p)), .c (.v (.string a))]] = M123 p a := by kernel_rfl
theorem M152_eq (n : Int) : execFn Tryz.prog Γ152 noL 1010 Tryz.f103 [.c (.v (.int .i64 n))] = M152 n := by kernel_rfl
def iv (p : Bool) (s : ByteArray) : Int := bif p then -(magN s.data.toList : Int) else (magN s.data.toList : Int)
def okI (p : Bool) (s : ByteArray) : Bool := canon s.data.toList && (!p || !(s.data.toList == []))
def intForm (z : Int) : AV := .agg [.c (.v (.bool (decide (z < 0)))), strA (magB z.natAbs)]
theorem magN_eq_zero {l : List UInt8} (h : canon l = true) : magN l = 0 ↔ l = [] := by
 constructor
 ·intro h0
  have := magB_magN l h
  rw [h0, magB_zero] at this
  exact this.symm
 ·rintro rfl; rfl
theorem iv_neg {p : Bool} {s : ByteArray} (h : okI p s = true) : decide (iv p s < 0) = p := by
 simp only [okI, Bool.and_eq_true, Bool.or_eq_true, Bool.not_eq_true', beq_eq_false_iff_ne] at h
 cases p with
 | false => exact decide_eq_false (by simp only [iv, cond_false]; omega)
 | true =>
   refine decide_eq_true ?_
   have h2 := h.2.resolve_left (by simp)
   have : magN s.data.toList ≠ 0 := fun h0 => h2 ((magN_eq_zero h.1).1 h0)
   simp only [iv, cond_true]; omega
theorem iv_abs (p : Bool) (s : ByteArray) : (iv p s).natAbs = magN s.data.toList := by
 cases p <;> simp [iv]
theorem form_eq {p : Bool} {s : ByteArray} (h : okI p s = true) : AV.agg [.c (.v (.bool p)), .c (.v (.string s))] = intForm (iv p s) := by
 have hc : canon s.data.toList = true := by
  simp only [okI, Bool.and_eq_true] at h; exact h.1
 unfold intForm
 rw [iv_neg h, iv_abs, magB_magN _ hc]
 rfl
theorem magN_cons (c : UInt8) (l : List UInt8) : magN (c :: l) = c.toNat * 256 ^ l.length + magN l := by
 induction l using snocInd with
 | h0 => simp [magN]
 | h1 l d ih =>
  rw [← List.cons_append, magN_snoc, magN_snoc, ih, List.length_append, List.length_singleton, Nat.pow_succ]
  rw [Nat.add_mul, Nat.mul_assoc]
  omega
theorem sgn_nat (a b : Nat) : sgn (a : Int) (b : Int) = if a < b then -1 else if b < a then 1 else 0 := by
 unfold sgn
 by_cases h : a < b
 ·rw [if_pos (by omega), if_pos h]
 ·rw [if_neg (by omega), if_neg h]
  by_cases h2 : b < a
  ·rw [if_pos (by omega), if_pos h2]
  ·rw [if_neg (by omega), if_neg h2]
theorem cmp_same : ∀ (a b : List UInt8), a.length = b.length → Lib.compareBytes a b = sgn (magN a : Int) (magN b : Int)
 | [], [], _ => by simp [Lib.compareBytes, sgn]
 | x :: a, y :: b, h => by
   have h : a.length = b.length := by simpa using h
   have ih := cmp_same a b h
   have ha := magN_lt a
   have hb := magN_lt b
   rw [h] at ha
   unfold Lib.compareBytes
   rw [sgn_nat, magN_cons, magN_cons, h]
   rw [sgn_nat] at ih
   by_cases h1 : x < y
   · have h1' : x.toNat < y.toNat := h1
     have : (x.toNat + 1) * 256 ^ b.length ≤ y.toNat * 256 ^ b.length := Nat.mul_le_mul_right _ h1'
     rw [Nat.add_mul] at this
     rw [if_pos h1, if_pos (by omega)]
   · rw [if_neg h1]
     by_cases h2 : y < x
     · have h2' : y.toNat < x.toNat := h2
       have : (y.toNat + 1) * 256 ^ b.length ≤ x.toNat * 256 ^ b.length := Nat.mul_le_mul_right _ h2'
       rw [Nat.add_mul] at this
       rw [if_pos h2, if_neg (by omega), if_pos (by omega)]
     · have h1' : ¬ x.toNat < y.toNat := h1
       have h2' : ¬ y.toNat < x.toNat := h2
       have hxy : x.toNat = y.toNat := by omega
       rw [if_neg h2, ih, hxy]
       simp only [Nat.add_lt_add_iff_left]
 | [], _ :: _, h => by simp at h
 | _ :: _, [], h => by simp at h
theorem len_lt {a b : List UInt8} (hb : canon b = true) (h : a.length < b.length) : magN a < magN b := by
 cases b with
 | nil => simp at h
 | cons c l =>
  have hc : c ≠ 0 := by simpa [canon] using hb
  have h1 := magN_pos_of_canon (l := l) hc
  have h2 := magN_lt a
  have : 256 ^ a.length ≤ 256 ^ l.length := Nat.pow_le_pow_right (by omega) (by simp at h; omega)
  omega
theorem compare_mag (a b : List UInt8) (ha : canon a = true) (hb : canon b = true) : firstNZ [sgn (a.length : Int) (b.length : Int), Lib.compareBytes a b] = sgn (magN a : Int) (magN b : Int) := by
 rw [sgn_nat, sgn_nat]
 rcases Nat.lt_trichotomy a.length b.length with h | h | h
 ·have := len_lt hb h
  rw [if_pos h, if_pos this]
  rfl
 ·rw [if_neg (by omega), if_neg (by omega), cmp_same a b h, sgn_nat]
  by_cases h1 : magN a < magN b
  ·simp [firstNZ, h1]
  ·by_cases h2 : magN b < magN a
   ·simp [firstNZ, h1, h2]
   ·simp [firstNZ, h1, h2]
 ·have := len_lt ha h
  rw [if_neg (by omega), if_pos h, if_neg (by omega), if_pos this]
  rfl
end Go.Vse
namespace Go.Vse
open Go.RowKit
section
variable {P : Program} {Γ : FuncId → Option Spec}
theorem EntsEqv.own {C : Ctx} {B : Bmap} {l l' : List (Option Ent)} (h : EntsEqv l l') (b : Nat) : ownOf C.A0 B (memOf l') b → ownOf C.A0 B (memOf l) b := by
 have hm2 : ∀ s, EntEqv (memOf l s) (memOf l' s) := h.len.2
 rintro (h | ⟨s, e, h1, h2⟩)
 ·exact .inl h
 ·have := hm2 s
  rw [h1] at this
  generalize hq : memOf l s = q at this
  cases this with
  | refl => exact .inr ⟨s, e, hq, h2⟩
  | arr n sz el el' t _ => exact .inr ⟨s, _, hq, h2⟩
  | cells l m t _ => exact .inr ⟨s, _, hq, h2⟩
theorem memOk_of_exec_c {L : Nat → Nat → Option (St → Tr (Ex × St))} (hm : P.follows .mixedOrders = true) (hΓ : ∀ f s, Γ f = some s → SpecOk P f s) {f : FuncId} {fn : Func} {c : Code} (hf : P.funcs[f]? = some fn) (hb : fn.body = some c)
   (hcall : ∀ args w, (callFunc f args).run P w = .ok (.enter f args) w) {K : MSpec} {N : Nat} {frz : Bool}
   (hl : ∀ ents args o, K ents args = some o → BlocksOk P ents.length (L ents.length) c)
   (h : ∀ ents args o, K ents args = some o → (∀ p ∈ o.conds, p) → ∃ ents' args', EntsEqv ents ents' ∧ SeesL args args' ∧
     (execM P Γ (L ents.length) N frz fn ents' args').sat fun o' => Sees o'.val o.val ∧ EntsEqv (o'.outs ++ [o'.new]) (o.outs ++ [o.new])) : MemOk P f K where
 sound := by
   intro ents0 args0 o C B w vs ho hC hk0 H0 hargs0 hconds
   refine CallsTo.enter hf ⟨hcall _ _, calls_of_wp hf hb ?_⟩
   obtain ⟨ents, args, heq, hsees, hs⟩ := h ents0 args0 o ho hconds
   have hel : ents0.length = ents.length := heq.len.1
   have H : Holds C B (memSt ents ents.length) act0 w := by
     have := H0.eqv (m := memOf ents) heq.len.2
     rw [hel] at this
     exact this
   have hargs : Rels (ownOf C.A0 B (memOf ents)) B w args vs := by
     have h1 := hsees.rels hargs0
     exact ⟨h1.1, fun j hj => (h1.2 j hj).trans (Trans.refl _ _) (fun b _ hb => heq.own b hb) (fun _ _ h => h)⟩
   unfold execM at hs
   rw [hb] at hs
   simp only at hs
   have hlen : vs.length = args.length := hargs.1
   have H1 : Holds C B (startM ents args fn.ntmps) { tmps := vs.toArray ++ Array.replicate (fn.ntmps - vs.toArray.size) undef, defers := [] } w := by
     refine { H with defers := rfl, size := by simp [startM, hlen], tm := ?_ }
     intro t ht
     by_cases hlt : t < args.length
     · have := hargs.2 t hlt
       have hlt' : t < vs.length := by omega
       simpa [startM, List.getD_eq_getElem?_getD, Array.getD_eq_getD_getElem?, List.getElem?_append_left hlt, Array.getElem?_append, hlt, hlt'] using this
     · have ht' : t - args.length < fn.ntmps - args.length := by simp only [startM, List.length_append, List.length_replicate] at ht; omega
       have hlt' : ¬ t < vs.length := by omega
       have e1 : (startM ents args fn.ntmps).tm.getD t .any = .c (.v undef) := by
         simp [startM, List.getD_eq_getElem?_getD, List.getElem?_append_right (Nat.le_of_not_lt hlt), List.getElem?_replicate, ht']
       have e2 : (vs.toArray ++ Array.replicate (fn.ntmps - vs.toArray.size) undef).getD t undef = undef := by
         simp [Array.getD_eq_getD_getElem?, Array.getElem?_append, hlt', Array.getElem?_replicate, hlen, ht', hlt]
       show ARel _ _ _ _ _
       rw [e1]
       simp only [] at e2 ⊢
       rw [e2]
       exact ARel.lit _
   refine Code.wp_mono ?_ (wp_of_vse <| exec_sound hm (specsAt hΓ _) hC c (by rw [hk0]; exact hl ents0 args0 o ho) _ _ _ _ _ (Tr.sat_bind hs) H1)
   rintro e a' w' ⟨ex, S', B', rfl, H', hq⟩
   have key : (finishM P fn ents.length frz S').sat (fun o' => Sees o'.val o.val ∧ EntsEqv (o'.outs ++ [o'.new]) (o.outs ++ [o.new])) →
       a'.defers = [] ∧ ∃ v, (results fn a'.tmps).run P w' = .ok v w' ∧ ∃ v' B', Ending.returned v = .returned v' ∧ Holds C B' (memSt (o.outs ++ [o.new]) (ents0.length + 1)) act0 w' ∧ ARel (ownOf C.A0 B' (memOf (o.outs ++ [o.new]))) B' w' o.val v' := by
     intro hfin
     obtain ⟨v, B2, o', hrun, ⟨hsee, heqv⟩, H2, hrel, hol⟩ := finishM_sound hC (hk0.trans hel) H' hfin
     refine ⟨H'.defers, v, hrun, v, B2, rfl, ?_⟩
     have hm2 : ∀ s, EntEqv (memOf (o'.outs ++ [o'.new]) s) (memOf (o.outs ++ [o.new]) s) := heqv.len.2
     rw [hel]
     exact ⟨H2.eqv hm2, hsee _ _ _ _ (hrel.trans (Trans.refl _ _) (fun b _ h => heqv.own b h) (fun _ _ h => h))⟩
   cases ex with
   | normal => exact key hq
   | ret => exact key hq
   | exit id => exact hq.elim
theorem pureOk_of_exec_c {L : Nat → Option (St → Tr (Ex × St))} (hm : P.follows .mixedOrders = true) (hΓ : ∀ f s, Γ f = some s → SpecOk P f s) {f : FuncId} {fn : Func} {c : Code} (hf : P.funcs[f]? = some fn) (hb : fn.body = some c)
  (hcall : ∀ args w, (callFunc f args).run P w = .ok (.enter f args) w) {K : List AV → Option (AV × List Bool)} {N : Nat} (hl : BlocksOk P 0 L c)
  (hn : ∀ args v cs, K args = some (v, cs) → Vse.noPtr v = true)
  (h : ∀ args v cs, K args = some (v, cs) → (∀ p ∈ cs, p) → ∃ args', SeesL args args' ∧ (execFn P Γ L N fn args').sat fun r => Vse.noPtr r = true ∧ Sees r v) : PureOk P f K where
 sound := fun args v cs hk => ⟨hn args v cs hk, fun A w vs hA hc hargs => by
  obtain ⟨args', hsees, hs⟩ := h args v cs hk hc
  refine CallsTo.enter hf ⟨hcall _ _, (calls_of_exec hm hΓ hf hb hl hs hA (hsees.rels hargs)).mono ?_⟩
  rintro e w' ⟨r, u, hsee, _, rfl, hrel, hb⟩
  exact ⟨u, rfl, hsee _ _ _ _ hrel, hb⟩⟩
end
end Go.Vse
set_option maxRecDepth 100000
namespace Go.Vse
open Go.Proofs
theorem M168_sat (a b : Int) : (M168 a b).sat fun r => r = intA .i64 (sgn a b) := by
 unfold M168 sgn
 refine sat_ite (fun h => Bool.noConfusion h) (fun _ => sat_ite (fun h => Bool.noConfusion h) (fun _ => sat_ite (fun h => ?_) (fun h => ?_)))
 ·rw [if_pos (of_decide_eq_true h)]; exact sat_ret rfl
 ·rw [if_neg (of_decide_eq_false h)]
  refine sat_ite (fun h => ?_) (fun h => ?_)
  ·rw [if_pos (of_decide_eq_true h)]; exact sat_ret rfl
  ·rw [if_neg (of_decide_eq_false h)]; exact sat_ret rfl
theorem f194_ok : PureOk Tryz.prog 187 K194 := by
 refine poe noΓ_ok (fn := Tryz.f187) ?_ ?_
 ·intro args v cs h
  unfold K194 at h
  split at h
  ·cases h; rfl
  ·cases h
 ·intro args v cs h hc
  unfold K194 at h
  split at h
  ·rename_i a
   cases h
   have hs := (show (M194 a).sat fun r => r = boolA false from sat_ret (by simp [boolA]))
   rw [← M194_eq] at hs
   generalize execFn Tryz.prog (fun _ => none) noL 1010 Tryz.f187 [.c (.v (.int .i64 a))] = T at hs ⊢
   exact Tr.sat_mono (fun r hr => ⟨by subst hr; rfl, Sees.of_eq hr⟩) hs
  ·cases h
theorem Γ168_ok : ∀ f s, Γ168 f = some s → SpecOk Tryz.prog f s := one_ok f194_ok.spec
theorem f168_ok : PureOk Tryz.prog 131 K168 := by
 refine poe Γ168_ok (fn := Tryz.f131) ?_ ?_
 ·intro args v cs h
  unfold K168 at h
  split at h
  ·cases h; rfl
  ·cases h
 ·intro args v cs h hc
  unfold K168 at h
  split at h
  ·rename_i a b
   cases h
   have hs := M168_sat a b
   rw [← M168_eq] at hs
   generalize execFn Tryz.prog Γ168 noL 1010 Tryz.f131 [.c (.v (.int .i64 a)), .c (.v (.int .i64 b))] = T at hs ⊢
   exact Tr.sat_mono (fun r hr => ⟨by subst hr; rfl, Sees.of_eq hr⟩) hs
  ·cases h
theorem step167_in (l : List Int) (i : Nat) (hl : l.length ≤ 1000) (hi : i < l.length) {R : W167 ⊕ R167 → Prop} (h1 : l[i] ≠ 0 → R (.inr ⟨true, l[i]⟩)) (h2 : l[i] = 0 → R (.inl ⟨l, ((i + 1 : Nat) : Int)⟩)) : (step167 l (i : Nat)).sat R := by
 have hg : l.getD i 0 = l[i] := by simp [List.getD_eq_getElem?_getD, hi]
 have hw : IntKind.i64.wrap ((i : Int) + 1) = ((i + 1 : Nat) : Int) := by rw [wrap_i64 (by omega)]; omega
 unfold step167
 simp only [Int.toNat_natCast, hg, hw, intsOf_el]
 exact sat_ite (fun _ => sat_need (decide_eq_true (by omega)) (sat_ite (fun h => sat_need rfl (sat_ret (h1 (by simpa using h)))) (fun h => sat_need rfl (sat_need rfl (sat_need (by simp) (sat_need (isInts_mk l _) (sat_ret (h2 (by simpa using h))))))))) (fun h => absurd (show (i : Int) < (l.length : Nat) by omega) (of_decide_eq_false h))
theorem runs167 (l : List Int) (hl : l.length ≤ 1000) (Q : R167 → Prop) : ∀ (k i : Nat), i + k = l.length → Q ⟨firstNZ (l.drop i) != 0, firstNZ (l.drop i)⟩ → RunsX (fun x : W167 => step167 x.l x.i) Q (k + 1) ⟨l, i⟩
 | 0, i, hi, hq => by
  obtain rfl : i = l.length := by omega
  rw [List.drop_length] at hq
  exact sat_ite (fun h => absurd (of_decide_eq_true h) (Int.lt_irrefl _)) (fun _ => sat_need rfl (sat_ret hq))
 | k + 1, i, hi, hq => by
  have hlt : i < l.length := by omega
  have hd : l.drop i = l[i] :: l.drop (i + 1) := List.drop_eq_getElem_cons hlt
  have ih := runs167 l hl Q k (i + 1) (by omega)
  rw [hd] at hq
  refine step167_in l i hl hlt (fun hne => ?_) (fun he => ?_)
  ·simp only [firstNZ, if_neg hne] at hq
   have hb : (l[i] != 0) = true := by simpa using hne
   rw [hb] at hq
   exact hq
  ·simp only [firstNZ, if_pos he] at hq
   exact ih hq
theorem f167_loops : BlocksOk Tryz.prog 0 L167 (codeOf Tryz.f130) := by
 refine one_blocks (N := 1010) (L' := noL) noΓ_ok (blocksOk_none 0 _) (lp167_good _) (step167_eq way167) ?_
 rintro ⟨l, i⟩ hx
 have hx : way167.pre ⟨l, i⟩ = true := hx
 simp only [way167, Bool.and_eq_true, decide_eq_true_eq] at hx
 obtain ⟨⟨h1, h2⟩, h3⟩ := hx
 obtain ⟨i, rfl⟩ : ∃ m : Nat, i = m := ⟨i.toNat, by omega⟩
 exact ⟨_, runs167 l h3 (· = way167.res ⟨l, i⟩) (l.length - i) i (by omega) (by simp [way167])⟩
theorem M167_sat (l : List Int) (hl : l.length ≤ 1000) : (M167 l).sat fun r => r = intA .i64 (firstNZ l) := by
 unfold M167
 simp only [intsOf_el]
 have e : List.drop (Int.toNat 0) l = l := rfl
 rw [e]
 refine sat_need rfl (sat_need rfl (sat_need (by simp) (sat_need (isInts_mk l _) (sat_need ?_ (sat_ite (fun _ => sat_ret rfl) (fun h => ?_))))))
 ·simp [hl]
 ·have h0 : firstNZ l = 0 := by simpa using h
  rw [h0]; exact sat_ret rfl
theorem f167_ok : PureOk Tryz.prog 130 K167 := by
 refine pureOk_of_exec_c (L := L167) prog_mixed noΓ_ok (fn := Tryz.f130) (c := codeOf Tryz.f130) (by kernel_rfl) (by kernel_rfl) (callFunc_enter (fn := Tryz.f130) (c := codeOf Tryz.f130) (by kernel_rfl) (by kernel_rfl) (by kernel_rfl)) (N := 1010) f167_loops ?_ ?_
 ·intro args v cs h
  unfold K167 at h
  split at h
  ·cases h; rfl
  ·cases h
 ·intro args v cs h hc
  unfold K167 at h
  split at h
  ·rename_i n el
   cases h
   have h1 : isInts n el = true := hc (isInts n el) (by simp)
   have h2 : n ≤ 1000 := dec (hc (decide (n ≤ 1000)) (by simp))
   have e1 := isInts_el h1
   have hlen := intsOf_len n el
   generalize intsOf n el = l at e1 hlen ⊢
   subst hlen
   refine ⟨[.c (.sl l.length 1 (intEl l))], .cons (Sees.sl e1) .nil, ?_⟩
   have hs := M167_sat l h2
   rw [← M167_eq] at hs
   generalize execFn Tryz.prog (fun _ => none) L167 1010 Tryz.f130 [.c (.sl l.length 1 (intEl l))] = T at hs ⊢
   exact Tr.sat_mono (fun r hr => ⟨by subst hr; rfl, Sees.of_eq hr⟩) hs
  ·cases h
theorem cmp_ext : ExtOk Tryz.prog 261 Extern.BytealgCompare.compare := ⟨Tryz.f261, by kernel_rfl, by kernel_rfl, by kernel_rfl, by kernel_rfl, by kernel_rfl⟩
theorem Γ226_ok : ∀ f s, Γ226 f = some s → SpecOk Tryz.prog f s := one_ok (cmp_ok cmp_ext).spec
theorem f226_ok : PureOk Tryz.prog 231 cmpPure := by
 refine poe Γ226_ok (fn := Tryz.f231) ?_ ?_
 ·intro args v cs h
  unfold cmpPure at h
  split at h
  ·cases h; rfl
  ·cases h
 ·intro args v cs h hc
  unfold cmpPure at h
  split at h
  ·rename_i a b
   cases h
   have hs := (show (M226 a b).sat fun r => r = intA .i64 (Lib.compareBytes a.data.toList b.data.toList) from sat_ret rfl)
   rw [← M226_eq] at hs
   generalize execFn Tryz.prog Γ226 noL 1010 Tryz.f231 [.c (.v (.string a)), .c (.v (.string b))] = T at hs ⊢
   exact Tr.sat_mono (fun r hr => ⟨by subst hr; rfl, Sees.of_eq hr⟩) hs
  ·cases h
theorem Γ195_ok : ∀ f s, Γ195 f = some s → SpecOk Tryz.prog f s := one_ok f226_ok.spec
theorem f195_ok : PureOk Tryz.prog 195 cmpPure := by
 refine poe Γ195_ok (fn := Tryz.f195) ?_ ?_
 ·intro args v cs h
  unfold cmpPure at h
  split at h
  ·cases h; rfl
  ·cases h
 ·intro args v cs h hc
  unfold cmpPure at h
  split at h
  ·rename_i a b
   cases h
   have hs := (show (M195 a b).sat fun r => r = intA .i64 (Lib.compareBytes a.data.toList b.data.toList) from sat_ret rfl)
   rw [← M195_eq] at hs
   generalize execFn Tryz.prog Γ195 noL 1010 Tryz.f195 [.c (.v (.string a)), .c (.v (.string b))] = T at hs ⊢
   exact Tr.sat_mono (fun r hr => ⟨by subst hr; rfl, Sees.of_eq hr⟩) hs
  ·cases h
def K172 : List AV → Option (AV × List Bool)
 | [.c (.v (.string a)), .c (.v (.string b))] => some (.tup [intA .u64 (wordV a), intA .u64 (wordV b), boolA (wordB a && wordB b)], [])
 | _ => none
theorem Γ172_ok : ∀ f s, Γ172 f = some s → SpecOk Tryz.prog f s := one_ok f104_ok.spec
theorem M172_sat (a b : ByteArray) : (M172 a b).sat fun r => r = .tup [intA .u64 (wordV a), intA .u64 (wordV b), boolA (wordB a && wordB b)] := by
 unfold M172
 cases wordB a <;> exact sat_need rfl (sat_ret rfl)
theorem f172_ok : PureOk Tryz.prog 189 K172 := by
 refine poe Γ172_ok (fn := Tryz.f189) ?_ ?_
 ·intro args v cs h
  unfold K172 at h
  split at h
  ·cases h; rfl
  ·cases h
 ·intro args v cs h hc
  unfold K172 at h
  split at h
  ·rename_i a b
   cases h
   have hs := M172_sat a b
   rw [← M172_eq] at hs
   generalize execFn Tryz.prog Γ172 noL 1010 Tryz.f189 [.c (.v (.string a)), .c (.v (.string b))] = T at hs ⊢
   exact Tr.sat_mono (fun r hr => ⟨by subst hr; rfl, Sees.of_eq hr⟩) hs
  ·cases h
def K171 : List AV → Option (AV × List Bool)
 | [.c (.v (.string a)), .c (.v (.string b))] => some (intA .i64 (sgn (magN a.data.toList : Int) (magN b.data.toList : Int)), [canon a.data.toList, canon b.data.toList])
 | _ => none
theorem Γ171_ok : ∀ f s, Γ171 f = some s → SpecOk Tryz.prog f s := step_ok f168_ok.spec (step_ok f195_ok.spec (one_ok f167_ok.spec))
theorem M171_sat (a b : ByteArray) (ha : canon a.data.toList = true) (hb : canon b.data.toList = true) : (M171 a b).sat fun r => r = intA .i64 (sgn (magN a.data.toList : Int) (magN b.data.toList : Int)) := by
 unfold M171
 refine sat_need rfl (sat_need rfl (sat_need rfl (sat_ret ?_)))
 rw [← compare_mag _ _ ha hb]
 rfl
theorem f171_ok : PureOk Tryz.prog 142 K171 := by
 refine poe Γ171_ok (fn := Tryz.f142) ?_ ?_
 ·intro args v cs h
  unfold K171 at h
  split at h
  ·cases h; rfl
  ·cases h
 ·intro args v cs h hc
  unfold K171 at h
  split at h
  ·rename_i a b
   cases h
   have ha : canon a.data.toList = true := hc (canon a.data.toList) (by simp)
   have hb : canon b.data.toList = true := hc (canon b.data.toList) (by simp)
   have hs := M171_sat a b ha hb
   rw [← M171_eq] at hs
   generalize execFn Tryz.prog Γ171 noL 1010 Tryz.f142 [.c (.v (.string a)), .c (.v (.string b))] = T at hs ⊢
   exact Tr.sat_mono (fun r hr => ⟨by subst hr; rfl, Sees.of_eq hr⟩) hs
  ·cases h
def K170 : List AV → Option (AV × List Bool)
 | [.agg [.c (.v (.bool p)), .c (.v (.string a))]] => some (intA .i64 (sgn (iv p a) 0), [okI p a])
 | _ => none
theorem M170_sat (p : Bool) (a : ByteArray) (h : okI p a = true) : (M170 p a).sat fun r => r = intA .i64 (sgn (iv p a) 0) := by
 have hc : canon a.data.toList = true := by simp only [okI, Bool.and_eq_true] at h; exact h.1
 have hz := magN_eq_zero hc
 unfold M170
 refine sat_ite (fun h0 => ?_) (fun h0 => ?_)
 · have h0 : a.data.toList = [] := eq_of_beq h0
   have : iv p a = 0 := by
     have := hz.2 h0
     cases p <;> simp [iv, this]
   rw [this]; exact sat_ret rfl
 · have h0 : a.data.toList ≠ [] := by simpa using h0
   have hm : magN a.data.toList ≠ 0 := fun hh => h0 (hz.1 hh)
   refine sat_ite (fun hp => ?_) (fun hp => ?_)
   · subst hp
     have : sgn (iv true a) 0 = -1 := by unfold sgn; rw [if_pos (by simp only [iv, cond_true]; omega)]
     rw [this]; exact sat_ret rfl
   · subst hp
     have : sgn (iv false a) 0 = 1 := by unfold sgn; rw [if_neg (by simp only [iv, cond_false]; omega), if_pos (by simp only [iv, cond_false]; omega)]
     rw [this]; exact sat_ret rfl
theorem f170_ok : PureOk Tryz.prog 135 K170 := by
 refine poe noΓ_ok (fn := Tryz.f135) ?_ ?_
 ·intro args v cs h
  unfold K170 at h
  split at h
  ·cases h; rfl
  ·cases h
 ·intro args v cs h hc
  unfold K170 at h
  split at h
  ·rename_i p a
   cases h
   have h1 : okI p a = true := hc (okI p a) (by simp)
   have hs := M170_sat p a h1
   rw [← M170_eq] at hs
   generalize execFn Tryz.prog (fun _ => none) noL 1010 Tryz.f135 [.agg [.c (.v (.bool p)), .c (.v (.string a))]] = T at hs ⊢
   exact Tr.sat_mono (fun r hr => ⟨by subst hr; rfl, Sees.of_eq hr⟩) hs
  ·cases h
def K189 : List AV → Option (AV × List Bool)
 | [.agg [.c (.v (.bool p)), .c (.v (.string a))]] => some (intForm (-(iv p a)), [okI p a])
 | _ => none
theorem Γ189_ok : ∀ f s, Γ189 f = some s → SpecOk Tryz.prog f s := one_ok f173_ok.spec
theorem M189_sat (p : Bool) (a : ByteArray) (h : okI p a = true) : (M189 p a).sat fun r => r = intForm (-(iv p a)) := by
 have hc : canon a.data.toList = true := by simp only [okI, Bool.and_eq_true] at h; exact h.1
 have hz := magN_eq_zero hc
 unfold M189
 refine sat_ret ?_
 have e : (!p && !(a.data.toList == [])) = decide (-(iv p a) < 0) := by
   by_cases h0 : a.data.toList = []
   · have := hz.2 h0
     rw [h0]
     cases p <;> simp [iv, this]
   · have hm : magN a.data.toList ≠ 0 := fun hh => h0 (hz.1 hh)
     have hb : (a.data.toList == []) = false := by simpa using h0
     rw [hb]
     cases p <;> simp [iv] <;> (try omega)
 unfold intForm
 rw [← e, Int.natAbs_neg, iv_abs, magB_magN _ hc]
 rfl
theorem f189_ok : PureOk Tryz.prog 136 K189 := by
 refine poe Γ189_ok (fn := Tryz.f136) ?_ ?_
 ·intro args v cs h
  unfold K189 at h
  split at h
  ·cases h; rfl
  ·cases h
 ·intro args v cs h hc
  unfold K189 at h
  split at h
  ·rename_i p a
   cases h
   have h1 : okI p a = true := hc (okI p a) (by simp)
   have hs := M189_sat p a h1
   rw [← M189_eq] at hs
   generalize execFn Tryz.prog Γ189 noL 1010 Tryz.f136 [.agg [.c (.v (.bool p)), .c (.v (.string a))]] = T at hs ⊢
   generalize -(iv p a) = z at hs ⊢
   exact Tr.sat_mono (fun r hr => ⟨by subst hr; rfl, Sees.of_eq hr⟩) hs
  ·cases h
def K123 : List AV → Option (AV × List Bool)
 | [.agg [.c (.v (.bool p)), .c (.v (.string a))]] => some (intA .i64 (if okI p a then 0 else 5), [])
 | _ => none
theorem M123_sat (p : Bool) (a : ByteArray) : (M123 p a).sat fun r => r = intA .i64 (if okI p a then 0 else 5) := by
 unfold M123 okI
 generalize a.data.toList = l
 cases l with
 | nil =>
  cases p
  ·exact sat_need rfl (sat_ite (fun h => Bool.noConfusion h) (fun _ => sat_ret rfl))
  ·exact sat_need rfl (sat_ite (fun _ => sat_ret rfl) (fun h => Bool.noConfusion h))
 | cons c l =>
  have hc : (canon (c :: l) && (!p || !((c :: l) == []))) = (c != 0) := by simp [canon]
  have hlen : decide ((0 : Int) ≤ 0 ∧ (0 : Int) < (((c :: l).length : Nat) : Int)) = true := decide_eq_true (by simp)
  have hg : (c :: l).getD (Int.toNat 0) 0 = c := rfl
  have hnil : ((c :: l) == ([] : List UInt8)) = false := rfl
  rw [hc]
  simp only [hnil, hlen, hg, cond_false, cond_true, Bool.not_false, Bool.and_true]
  refine sat_need rfl (sat_ite (fun h => ?_) (fun h => ?_))
  ·have h : ((c.toNat : Int) == 0) = true := h
   have : c = 0 := UInt8.toNat_inj.1 (by simpa using h)
   subst this
   exact sat_ret rfl
  ·have h : ((c.toNat : Int) == 0) = false := h
   have : c ≠ 0 := by rintro rfl; cases h
   have hb : (c != 0) = true := by simpa using this
   rw [hb]
   exact sat_ret rfl
theorem f123_ok : PureOk Tryz.prog 181 K123 := by
 refine poe noΓ_ok (fn := Tryz.f181) ?_ ?_
 ·intro args v cs h
  unfold K123 at h
  split at h
  ·cases h; rfl
  ·cases h
 ·intro args v cs h hc
  unfold K123 at h
  split at h
  ·rename_i p a
   cases h
   have hs := M123_sat p a
   rw [← M123_eq] at hs
   generalize execFn Tryz.prog (fun _ => none) noL 1010 Tryz.f181 [.agg [.c (.v (.bool p)), .c (.v (.string a))]] = T at hs ⊢
   generalize (if okI p a = true then (0 : Int) else 5) = z at hs ⊢
   exact Tr.sat_mono (fun r hr => ⟨by subst hr; rfl, Sees.of_eq hr⟩) hs
  ·cases h
def K152 : List AV → Option (AV × List Bool)
 | [.c (.v (.int .i64 n))] => some (intForm n, [decide (-9223372036854775808 ≤ n), decide (n ≤ 9223372036854775807)])
 | _ => none
theorem Γ152_ok : ∀ f s, Γ152 f = some s → SpecOk Tryz.prog f s := step_ok f173_ok.spec (one_ok f174_ok.spec)
theorem M152_sat (n : Int) (h1 : -9223372036854775808 ≤ n) (h2 : n ≤ 9223372036854775807) : (M152 n).sat fun r => r = intForm n := by
 have key : ∀ m : Int, m.toNat = n.natAbs → 0 ≤ m → m < 18446744073709551616 → (Tr.need (u64B m) (Tr.ret (AV.agg [AV.c (IV.v (Value.bool (decide (n < 0) && !magB m.toNat == []))), AV.c (IV.v (Value.string { data := { toList := magB m.toNat } }))]))).sat fun r => r = intForm n := by
  intro m hm h0 hlt
  refine sat_need (by simp [u64B, h0, hlt]) (sat_ret ?_)
  rw [hm]
  unfold intForm
  by_cases hn : n < 0
  ·have hne : magB n.natAbs ≠ [] := fun hh => by
    have := magN_magB n.natAbs
    rw [hh] at this
    have h3 : magN [] = 0 := rfl
    omega
   have hb : (magB n.natAbs == []) = false := by simpa using hne
   rw [decide_eq_true hn, hb]
   rfl
  ·rw [decide_eq_false hn]
   rfl
 unfold M152
 refine sat_ite (fun h => ?_) (fun h => ?_)
 ·have h := of_decide_eq_true h
  have e : IntKind.u64.wrap (0 - IntKind.u64.wrap n) = -n := by
   rw [wrap_u64, wrap_u64]; omega
  rw [e]
  exact key (-n) (by omega) (by omega) (by omega)
 ·have h := of_decide_eq_false h
  have e : IntKind.u64.wrap n = n := by rw [wrap_u64]; omega
  rw [e]
  exact key n (by omega) (by omega) (by omega)
theorem f152_ok : PureOk Tryz.prog 103 K152 := by
 refine poe Γ152_ok (fn := Tryz.f103) ?_ ?_
 ·intro args v cs h
  unfold K152 at h
  split at h
  ·cases h; rfl
  ·cases h
 ·intro args v cs h hc
  unfold K152 at h
  split at h
  ·rename_i n
   cases h
   have h1 : -9223372036854775808 ≤ n := dec (hc (decide (-9223372036854775808 ≤ n)) (by simp))
   have h2 : n ≤ 9223372036854775807 := dec (hc (decide (n ≤ 9223372036854775807)) (by simp))
   have hs := M152_sat n h1 h2
   rw [← M152_eq] at hs
   generalize execFn Tryz.prog Γ152 noL 1010 Tryz.f103 [.c (.v (.int .i64 n))] = T at hs ⊢
   exact Tr.sat_mono (fun r hr => ⟨by subst hr; rfl, Sees.of_eq hr⟩) hs
  ·cases h
end Go.Vse
set_option maxRecDepth 100000
namespace Go.Vse
open Go.Proofs
def u32El (l : List Nat) : Nat → List IV := fun k => [.v (.int .u32 ((l.getD k 0 : Nat) : Int))]
def u32Of : List IV → Nat
 | [.v (.int .u32 n)] => n.toNat
 | _ => 0
def isU32 : List IV → Bool
 | [.v (.int .u32 n)] => decide (0 ≤ n) && decide (n < 4294967296)
 | _ => false
def u32sOf (n : Nat) (el : Nat → List IV) : List Nat := (List.range n).map fun k => u32Of (el k)
def isU32s (n : Nat) (el : Nat → List IV) : Bool := (List.range n).all fun k => isU32 (el k)
def okD (l : List Nat) : Bool := l.all fun d => decide (d < 4294967296)
theorem u32sOf_len (n : Nat) (el : Nat → List IV) : (u32sOf n el).length = n := by simp [u32sOf]
theorem isU32s_el {n : Nat} {el : Nat → List IV} (h : isU32s n el = true) : (∀ k, k < n → el k = u32El (u32sOf n el) k) ∧ okD (u32sOf n el) = true := by
 have h1 := List.all_eq_true.1 h
 have key : ∀ k, k < n → el k = [.v (.int .u32 ((u32Of (el k) : Nat) : Int))] ∧ u32Of (el k) < 4294967296 := fun k hk => by
  have h2 := h1 k (List.mem_range.2 hk)
  unfold isU32 at h2
  split at h2
  ·rename_i m hh
   simp only [Bool.and_eq_true, decide_eq_true_eq] at h2
   rw [hh]
   simp only [u32Of]
   exact ⟨by rw [Int.toNat_of_nonneg h2.1], by omega⟩
  ·cases h2
 refine ⟨fun k hk => ?_, List.all_eq_true.2 fun d hd => ?_⟩
 ·have e : (u32sOf n el).getD k 0 = u32Of (el k) := by simp [u32sOf, List.getD_eq_getElem?_getD, hk]
  unfold u32El
  rw [e]; exact (key k hk).1
 ·unfold u32sOf at hd
  obtain ⟨k, hk, rfl⟩ := List.mem_map.1 hd
  exact decide_eq_true (key k (List.mem_range.1 hk)).2
theorem isU32s_mk {l : List Nat} (h : okD l = true) (n : Nat) : isU32s n (u32El l) = true := by
 refine List.all_eq_true.2 fun k _ => ?_
 have : l.getD k 0 < 4294967296 := by
  by_cases hk : k < l.length
  ·have := List.all_eq_true.1 h l[k] (List.getElem_mem hk)
   have e : l.getD k 0 = l[k] := by simp [List.getD_eq_getElem?_getD, hk]
   rw [e]; simpa using this
  ·have e : l.getD k 0 = 0 := by simp [List.getD_eq_getElem?_getD, List.getElem?_eq_none (Nat.le_of_not_lt hk)]
   rw [e]; decide
 simp only [u32El, isU32, Bool.and_eq_true, decide_eq_true_eq]
 omega
theorem u32sOf_el (l : List Nat) : u32sOf l.length (u32El l) = l := by
 apply List.ext_getElem
 ·simp [u32sOf]
 ·intro i h1 h2
  simp [u32sOf, u32El, u32Of, List.getD_eq_getElem?_getD, h2]
theorem splice_u32 (l : List Nat) (k b : Nat) (hk : k < l.length) (hok : okD l = true) (hb : b < 4294967296) :
  u32sOf l.length (spliceE (u32El l) k 0 [IV.v (.int .u32 (b : Int))].reverse) = l.set k b ∧ isU32s l.length (spliceE (u32El l) k 0 [IV.v (.int .u32 (b : Int))].reverse) = true := by
 have hel : ∀ i, spliceE (u32El l) k 0 [IV.v (.int .u32 (b : Int))].reverse i = if i = k then [IV.v (.int .u32 (b : Int))] else u32El l i := by
  intro i
  unfold spliceE
  split
  ·rename_i h; subst h; simp [u32El]
  ·rfl
 constructor
 ·apply List.ext_getElem
  ·simp [u32sOf]
  ·intro i h1 h2
   simp only [u32sOf, List.getElem_map, List.getElem_range, hel]
   by_cases hi : i = k
   ·subst hi
    simp [u32Of]
   ·have hil : i < l.length := by simpa [u32sOf] using h1
    rw [if_neg hi, List.getElem_set_ne (by omega)]
    simp [u32El, u32Of, List.getD_eq_getElem?_getD, hil]
 ·refine List.all_eq_true.2 fun i hi => ?_
  rw [hel]
  split
  ·simp [isU32]; omega
  ·exact List.all_eq_true.1 (isU32s_mk hok l.length) i hi
def u32s (v : Nat) : Nat → List Nat
 | 0 => []
 | k + 1 => v % 4294967296 :: u32s (v / 4294967296) k
theorem u32s_len : ∀ (k v : Nat), (u32s v k).length = k
 | 0, v => rfl
 | k + 1, v => by simp [u32s, u32s_len k]
theorem u32s_get : ∀ (k v i : Nat), i < k → (u32s v k).getD i 0 = v / 4294967296 ^ i % 4294967296
 | k + 1, v, 0, _ => by simp [u32s]
 | k + 1, v, i + 1, h => by
   simp only [u32s, List.getD_cons_succ]
   rw [u32s_get k (v / 4294967296) i (by omega), Nat.div_div_eq_div_mul, ← Nat.pow_succ']
theorem okD_u32s : ∀ (k v : Nat), okD (u32s v k) = true
 | 0, v => rfl
 | k + 1, v => by
  simp only [u32s, okD, List.all_cons, Bool.and_eq_true, decide_eq_true_eq]
  exact ⟨Nat.mod_lt _ (by decide), okD_u32s k _⟩
theorem u32s_ext {l : List Nat} {v : Nat} (h : ∀ i, i < l.length → l.getD i 0 = v / 4294967296 ^ i % 4294967296) : l = u32s v l.length := by
 apply List.ext_getElem
 ·rw [u32s_len]
 ·intro i h1 h2
  have e1 : l.getD i 0 = l[i] := by simp [List.getD_eq_getElem?_getD, h1]
  have e2 : (u32s v l.length).getD i 0 = (u32s v l.length)[i] := by simp [List.getD_eq_getElem?_getD, h2]
  rw [← e1, ← e2, h i h1, u32s_get _ _ _ h1]
structure W197 where
 s : ByteArray
 l : List Nat
 n : Int
 i : Int
def head197 (x : W197) : List AV × List (Option Ent) := ([.c (.v (.string x.s)), .msl 0 x.l.length 1, intA .i64 x.n, intA .i64 x.i], [some (.arr x.l.length 1 (u32El x.l) 274)])
def take197 : List AV × List (Option Ent) → Option (W197 × List Bool)
 | ([.c (.v (.string s)), .msl 0 m 1, .c (.v (.int .i64 n)), .c (.v (.int .i64 i))], [some (.arr m' 1 el 274)]) => some (⟨s, u32sOf m el, n, i⟩, [decide (m = m'), isU32s m el])
 | _ => none
def lp197 (w : Way W197) : LoopSt W197 W197 where
 nIn := { nt := 38, live := [0, 3, 12, 13] }
 nOut := { nt := 38, live := [0, 3, 12, 13] }
 head := head197
 take := take197
 out := fun r => (.normal, head197 r)
 takeR := fun q => match q with | (.normal, q) => take197 q | _ => none
 res := w.res
 pre := w.pre
theorem take197_ok (q : List AV × List (Option Ent)) (x : W197) (cs : List Bool) (h : take197 q = some (x, cs)) (hc : ∀ p ∈ cs, p) : SeesL q.1 (head197 x).1 ∧ EntsEqv q.2 (head197 x).2 := by
 unfold take197 at h
 split at h
 ·rename_i s m n i m' el
  simp only [Option.some.injEq, Prod.mk.injEq] at h
  obtain ⟨rfl, rfl⟩ := h
  have h1 : m = m' := dec (hc (decide (m = m')) (by simp))
  have h2 : isU32s m el = true := hc (isU32s m el) (by simp)
  subst h1
  simp only [head197, u32sOf_len]
  exact ⟨SeesL.refl _, .cons (.arr _ _ _ _ _ (isU32s_el h2).1) .nil⟩
 ·cases h
theorem lp197_good (w : Way W197) : (lp197 w).Good2 where
 take := take197_ok
 takeR := by
  intro e q r cs h hc
  cases e with
  | normal => obtain ⟨h1, h2⟩ := take197_ok q r cs h hc; exact ⟨rfl, h1, h2⟩
  | exit j => cases h
  | ret => cases h
 split := fun r Q h => h
def nDig (n : Nat) : Nat := (n + 3) / 4
def way197 : Way W197 := ⟨fun x => ⟨x.s, u32s (magN x.s.data.toList) x.l.length, x.n, x.n⟩,
 fun x => decide (x.n = (x.s.data.toList.length : Nat)) && decide (x.i = 0) && decide (x.l.length = nDig x.s.data.toList.length) && decide (x.l = List.replicate x.l.length 0) && decide (x.s.data.toList.length ≤ 1000000000)⟩
def L197 : Nat → Option (St → Tr (Ex × St)) := fun id => bif Nat.beq id 0 then some ((lp197 way197).g 0) else none
end Go.Vse
set_option maxRecDepth 100000
namespace Go.Vse
open Go.Proofs
def step197 (s : ByteArray) (l : List Nat) (n : Int) (i : Int) : Tr (W197 ⊕ W197) :=
 let x1 : Int := IntKind.i64.wrap (i.tdiv 4)
 let x2 : Int := ↑l.length
 let x3 : Nat := x1.toNat
 let x4 : List UInt8 := s.data.toList
 let x5 : Int := ↑x4.length
 let x6 : Int := IntKind.i64.wrap (IntKind.i64.wrap (x5 - 1) - i)
 let x7 : Int := IntKind.i64.wrap (8 * i.tmod 4)
 .ite (decide (i < n)) (.need true (.need (decide (0 ≤ x1 ∧ x1 < x2)) (.need (decide (x3 < l.length)) (.need (decide (0 ≤ x6 ∧ x6 < x5)) (.need true (.need (decide ¬x7 < 0) (.need (decide (0 ≤ x1 ∧ x1 < x2)) (.need (decide (x3 < l.length)) (.need (decide (l.length = l.length)) (.need (isU32s l.length (spliceE (u32El l) x3 0 [IV.v (Value.int IntKind.u32 (IntKind.u32.wrap ↑(BitVec.ofInt IntKind.u32.bits ↑(l.getD x3 0) ||| BitVec.ofInt IntKind.u32.bits (IntKind.u32.wrap (IntKind.u32.wrap ↑(x4.getD x6.toNat 0).toNat * 2 ^ min x7.toNat IntKind.u32.bits))).toNat))].reverse)) (.ret (Sum.inl { s := s, l := u32sOf l.length (spliceE (u32El l) x3 0 [IV.v (Value.int IntKind.u32 (IntKind.u32.wrap ↑(BitVec.ofInt IntKind.u32.bits ↑(l.getD x3 0) ||| BitVec.ofInt IntKind.u32.bits (IntKind.u32.wrap (IntKind.u32.wrap ↑(x4.getD x6.toNat 0).toNat * 2 ^ min x7.toNat IntKind.u32.bits))).toNat))].reverse), n := n, i := IntKind.i64.wrap (i + 1) })))))))))))) (.need (decide (l.length = l.length)) (.need (isU32s l.length (u32El l)) (.ret (Sum.inr { s := s, l := u32sOf l.length (u32El l), n := n, i := i }))))
def M197 (s : ByteArray) : Tr MemOut :=
 let x1 : List UInt8 := s.data.toList
 let x2 : Int := ↑x1.length
 let x3 : Int := IntKind.i64.wrap ((IntKind.i64.wrap (x2 + 3)).tdiv 4)
 let x4 : Int := ((4 : Nat) : Int) * x3
 let x5 : Nat := x3.toNat
 let x6 : List Nat := u32sOf x5 fun x => List.map IV.v [Value.int IntKind.u32 0]
 let x7 : Nat := x6.length
 let x8 : List Nat := List.replicate x7 0
 let x9 : List Nat := u32s (magN x1) x7
 let x10 : Nat := x9.length
 .need true (.need (decide (x3 = x3)) (.need (decide (0 ≤ x3)) (.need (decide (x3 ≤ 9223372036854775807)) (.need (decide (x4 ≤ 140737488355328)) (.need (decide (x5 = x5)) (.need (isU32s x5 fun x => List.map IV.v [Value.int IntKind.u32 0]) (.need (decide (x2 = x2) && decide ((0 : Int) = 0) && decide (x7 = nDig x1.length) && decide (x6 = x8) && decide (x1.length ≤ 1000000000)) (.ret { val := AV.msl 0 x10 1, outs := [], new := some (Ent.arr x10 1 (u32El x9) 274) }))))))))
theorem step197_eq (w : Way W197) (x : W197) : (exec Tryz.prog (fun _ => none) noL 1010 (loopOf 0 (codeOf Tryz.f193)) (mkSt (lp197 w).nIn ((lp197 w).head x))).bind ((lp197 w).fin 0 0) = step197 x.s x.l x.n x.i := by
 obtain ⟨s, l, n, i⟩ := x
 kernel_rfl
theorem M197_eq (s : ByteArray) : execM Tryz.prog (fun _ => none) L197 1010 false Tryz.f193 [] [.c (.v (.string s))] = M197 s := by kernel_rfl
theorem wrap_u32 (x : Int) : IntKind.u32.wrap x = x % 4294967296 := by
 simp [IntKind.wrap, IntKind.bits, IntKind.signed]
theorem toNat32 (x : Nat) (hx : x < 4294967296) : (BitVec.ofInt 32 (x : Int)).toNat = x := by
 rw [BitVec.toNat_ofInt]; omega
def lowv (l : List UInt8) (i : Nat) : Nat := magN (l.drop (l.length - i))
theorem lowv_lt (l : List UInt8) (i : Nat) (h : i ≤ l.length) : lowv l i < 256 ^ i := by
 have := magN_lt (l.drop (l.length - i))
 rw [List.length_drop, show l.length - (l.length - i) = i by omega] at this
 exact this
theorem lowv_succ (l : List UInt8) (i : Nat) (h : i < l.length) : lowv l (i + 1) = lowv l i + (l.getD (l.length - 1 - i) 0).toNat * 256 ^ i := by
 unfold lowv
 have e : l.drop (l.length - (i + 1)) = l[l.length - 1 - i]'(by omega) :: l.drop (l.length - i) := by
  have h1 := List.drop_eq_getElem_cons (l := l) (i := l.length - 1 - i) (by omega)
  rw [show l.length - 1 - i + 1 = l.length - i by omega] at h1
  rw [show l.length - (i + 1) = l.length - 1 - i by omega]
  exact h1
 have hg : l.getD (l.length - 1 - i) 0 = l[l.length - 1 - i]'(by omega) := by simp [List.getD_eq_getElem?_getD, show l.length - 1 - i < l.length by omega]
 rw [e, magN_cons, hg, List.length_drop, show l.length - (l.length - i) = i by omega, Nat.add_comm]
theorem lowv_all (l : List UInt8) : lowv l l.length = magN l := by simp [lowv]
theorem pow_split (i : Nat) : 256 ^ i = 4294967296 ^ (i / 4) * 256 ^ (i % 4) := by
 have : (4294967296 : Nat) = 256 ^ 4 := by decide
 rw [this, ← Nat.pow_mul, ← Nat.pow_add, Nat.div_add_mod]
theorem pow_small (r : Nat) (h : r < 4) : 256 ^ r ≤ 16777216 := by
 calc 256 ^ r ≤ 256 ^ 3 := Nat.pow_le_pow_right (by omega) (by omega)
  _ = 16777216 := by decide
theorem dig_old (v i n : Nat) (hv : v < 256 ^ i) (hn : i / 4 < n) : (u32s v n).getD (i / 4) 0 = v / 4294967296 ^ (i / 4) ∧ v / 4294967296 ^ (i / 4) < 256 ^ (i % 4) := by
 have hp : 0 < 4294967296 ^ (i / 4) := Nat.pow_pos (by decide)
 have h1 : v / 4294967296 ^ (i / 4) < 256 ^ (i % 4) := by
  rw [Nat.div_lt_iff_lt_mul hp, Nat.mul_comm, ← pow_split]; exact hv
 have h2 := pow_small (i % 4) (Nat.mod_lt _ (by decide))
 refine ⟨?_, h1⟩
 rw [u32s_get n v _ hn, Nat.mod_eq_of_lt (by omega)]
theorem dig_step (v b i n : Nat) (hv : v < 256 ^ i) (hb : b < 256) (hn : i / 4 < n) : (u32s v n).set (i / 4) (v / 4294967296 ^ (i / 4) + b * 256 ^ (i % 4)) = u32s (v + b * 256 ^ i) n := by
 obtain ⟨_, hlt⟩ := dig_old v i n hv hn
 have hs := pow_small (i % 4) (Nat.mod_lt _ (by decide))
 have hi := pow_split i
 have hlen : ((u32s v n).set (i / 4) (v / 4294967296 ^ (i / 4) + b * 256 ^ (i % 4))).length = n := by rw [List.length_set, u32s_len]
 have := u32s_ext (l := (u32s v n).set (i / 4) (v / 4294967296 ^ (i / 4) + b * 256 ^ (i % 4))) (v := v + b * 256 ^ i) fun j hj => ?_
 ·rw [hlen] at this; exact this
 ·rw [hlen] at hj
  have hpj : 0 < 4294967296 ^ j := Nat.pow_pos (by decide)
  by_cases hjk : j = i / 4
  ·subst hjk
   have e : ((u32s v n).set (i / 4) (v / 4294967296 ^ (i / 4) + b * 256 ^ (i % 4))).getD (i / 4) 0 = v / 4294967296 ^ (i / 4) + b * 256 ^ (i % 4) := by
    simp [List.getD_eq_getElem?_getD, List.getElem?_set_self (show i / 4 < (u32s v n).length by rw [u32s_len]; exact hn)]
   have hmul : b * 256 ^ (i % 4) ≤ 255 * 256 ^ (i % 4) := Nat.mul_le_mul_right _ (by omega)
   have e3 : (v + b * 256 ^ i) / 4294967296 ^ (i / 4) = v / 4294967296 ^ (i / 4) + b * 256 ^ (i % 4) := by
    rw [hi, ← Nat.mul_assoc, Nat.mul_right_comm, Nat.add_mul_div_right _ _ hpj]
   rw [e, e3]
   generalize v / 4294967296 ^ (i / 4) = q at hlt ⊢
   generalize b * 256 ^ (i % 4) = z at hmul ⊢
   generalize 256 ^ (i % 4) = D at hlt hmul hs
   exact (Nat.mod_eq_of_lt (by omega)).symm
  ·have e : ((u32s v n).set (i / 4) (v / 4294967296 ^ (i / 4) + b * 256 ^ (i % 4))).getD j 0 = (u32s v n).getD j 0 := by
    simp [List.getD_eq_getElem?_getD, List.getElem?_set_ne (Ne.symm hjk)]
   rw [e, u32s_get n v j hj]
   by_cases hlt2 : j < i / 4
   ·obtain ⟨m, hm⟩ : ∃ m, i / 4 = j + (m + 1) := ⟨i / 4 - j - 1, by omega⟩
    have e2 : b * 256 ^ i = b * 4294967296 ^ m * 256 ^ (i % 4) * 4294967296 * 4294967296 ^ j := by
     rw [hi, hm, Nat.pow_add, Nat.pow_succ]
     generalize 4294967296 ^ j = A
     generalize 4294967296 ^ m = C
     generalize 256 ^ (i % 4) = D
     simp only [Nat.mul_assoc, Nat.mul_comm, Nat.mul_left_comm]
    rw [e2, Nat.add_mul_div_right _ _ hpj, Nat.add_mul_mod_self_right]
   ·have hgt : i / 4 + 1 ≤ j := by omega
    have h1 : 4294967296 ^ (i / 4 + 1) ≤ 4294967296 ^ j := Nat.pow_le_pow_right (by decide) hgt
    have h2 : 256 ^ (i + 1) ≤ 4294967296 ^ (i / 4 + 1) := by
     have : (4294967296 : Nat) = 256 ^ 4 := by decide
     rw [this, ← Nat.pow_mul]
     exact Nat.pow_le_pow_right (by decide) (by omega)
    have h3 : v + b * 256 ^ i < 256 ^ (i + 1) := by
     have : b * 256 ^ i ≤ 255 * 256 ^ i := Nat.mul_le_mul_right _ (by omega)
     rw [Nat.pow_succ]; omega
    rw [Nat.div_eq_of_lt (show v + b * 256 ^ i < 4294967296 ^ j by omega), Nat.div_eq_of_lt (show v < 4294967296 ^ j by omega)]
theorem or_u32 (o b r : Nat) (ho : o < 256 ^ r) (hb : b < 256) (hr : r < 4) :
  IntKind.u32.wrap ((BitVec.ofInt IntKind.u32.bits (o : Int) ||| BitVec.ofInt IntKind.u32.bits (IntKind.u32.wrap (IntKind.u32.wrap (b : Int) * 2 ^ min (8 * r) IntKind.u32.bits))).toNat : Nat) = ((o + b * 256 ^ r : Nat) : Int) := by
 have hs := pow_small r hr
 have hmul : b * 256 ^ r ≤ 255 * 256 ^ r := Nat.mul_le_mul_right _ (by omega)
 have e1 : min (8 * r) IntKind.u32.bits = 8 * r := by
  change min (8 * r) 32 = 8 * r
  omega
 have e2 : ((2 : Int) ^ (8 * r)) = ((256 ^ r : Nat) : Int) := by
  rw [show (256 : Nat) = 2 ^ 8 from rfl, ← Nat.pow_mul]
  simp
 have e3 : IntKind.u32.wrap (b : Int) = (b : Int) := by rw [wrap_u32]; omega
 have e4 : IntKind.u32.wrap ((b : Int) * ((256 ^ r : Nat) : Int)) = ((b * 256 ^ r : Nat) : Int) := by
  rw [wrap_u32, ← Int.natCast_mul]; omega
 rw [e1, e2, e3, e4]
 change IntKind.u32.wrap ((BitVec.ofInt 32 (o : Int) ||| BitVec.ofInt 32 ((b * 256 ^ r : Nat) : Int)).toNat : Nat) = _
 rw [BitVec.toNat_or, toNat32 _ (by omega), toNat32 _ (by omega)]
 have e5 : o ||| b * 256 ^ r = o + b * 256 ^ r := by
  have h2 : (256 : Nat) ^ r = 2 ^ (8 * r) := by rw [show (256 : Nat) = 2 ^ 8 from rfl, ← Nat.pow_mul]
  have := Nat.two_pow_add_eq_or_of_lt (i := 8 * r) (b := o) (by rw [← h2]; exact ho) b
  rw [Nat.or_comm, h2, Nat.mul_comm b, ← this, Nat.add_comm]
 rw [e5, wrap_u32]; omega
theorem step197_in (s : ByteArray) (n i : Nat) (hn : s.data.toList.length ≤ 1000000000) (hi : i < s.data.toList.length) (hd : n = nDig s.data.toList.length) {R : W197 ⊕ W197 → Prop}
  (hin : R (.inl ⟨s, u32s (lowv s.data.toList (i + 1)) n, (s.data.toList.length : Nat), ((i + 1 : Nat) : Int)⟩)) : (step197 s (u32s (lowv s.data.toList i) n) (s.data.toList.length : Nat) (i : Nat)).sat R := by
 have hk : i / 4 < n := by rw [hd]; unfold nDig; omega
 have hv := lowv_lt s.data.toList i (by omega)
 obtain ⟨o1, o2⟩ := dig_old _ i n hv hk
 have hb := (s.data.toList.getD (s.data.toList.length - 1 - i) 0).toNat_lt
 have w1 : IntKind.i64.wrap ((i : Int).tdiv 4) = ((i / 4 : Nat) : Int) := by
  have : (i : Int).tdiv 4 = ((i / 4 : Nat) : Int) := rfl
  rw [this, wrap_i64 (by omega)]
 have w2 : IntKind.i64.wrap (((s.data.toList.length : Nat) : Int) - 1) = ((s.data.toList.length : Nat) : Int) - 1 := wrap_i64 (by omega)
 have w3 : IntKind.i64.wrap (((s.data.toList.length : Nat) : Int) - 1 - i) = ((s.data.toList.length - 1 - i : Nat) : Int) := by rw [wrap_i64 (by omega)]; omega
 have w4 : IntKind.i64.wrap (8 * (i : Int).tmod 4) = ((8 * (i % 4) : Nat) : Int) := by
  have : (i : Int).tmod 4 = ((i % 4 : Nat) : Int) := rfl
  rw [this, wrap_i64 (by omega)]; omega
 have w5 : IntKind.i64.wrap ((i : Int) + 1) = ((i + 1 : Nat) : Int) := by rw [wrap_i64 (by omega)]; omega
 have hs := pow_small (i % 4) (Nat.mod_lt _ (by decide))
 have hmul : (s.data.toList.getD (s.data.toList.length - 1 - i) 0).toNat * 256 ^ (i % 4) ≤ 255 * 256 ^ (i % 4) := Nat.mul_le_mul_right _ (by omega)
 obtain ⟨s1, s2⟩ := splice_u32 (u32s (lowv s.data.toList i) n) (i / 4) (lowv s.data.toList i / 4294967296 ^ (i / 4) + (s.data.toList.getD (s.data.toList.length - 1 - i) 0).toNat * 256 ^ (i % 4)) (by rw [u32s_len]; exact hk) (okD_u32s _ _) (by omega)
 rw [dig_step _ _ i n hv hb hk, ← lowv_succ _ i hi] at s1
 unfold step197
 simp only [w1, w2, w3, w4, w5, Int.toNat_natCast, o1, or_u32 _ _ _ o2 hb (Nat.mod_lt i (show 0 < 4 by decide)), s1, s2]
 rw [u32s_len] at *
 exact sat_ite (fun _ => sat_need rfl (sat_need (decide_eq_true (by omega)) (sat_need (decide_eq_true (by omega)) (sat_need (decide_eq_true (by omega)) (sat_need rfl (sat_need (decide_eq_true (by omega)) (sat_need (decide_eq_true (by omega)) (sat_need (decide_eq_true (by omega)) (sat_need (by simp) (sat_need rfl (sat_ret hin))))))))))) (fun h => absurd (show (i : Int) < (s.data.toList.length : Nat) by omega) (of_decide_eq_false h))
theorem runs197 (s : ByteArray) (n : Nat) (hn : s.data.toList.length ≤ 1000000000) (hd : n = nDig s.data.toList.length) (Q : W197 → Prop) (hq : Q ⟨s, u32s (magN s.data.toList) n, (s.data.toList.length : Nat), (s.data.toList.length : Nat)⟩) : ∀ (k i : Nat), i + k = s.data.toList.length →
  RunsX (fun x : W197 => step197 x.s x.l x.n x.i) Q (k + 1) ⟨s, u32s (lowv s.data.toList i) n, (s.data.toList.length : Nat), i⟩
 | 0, i, hi => by
  obtain rfl : i = s.data.toList.length := by omega
  rw [lowv_all]
  unfold RunsX
  change Tr.sat _ (step197 s (u32s (magN s.data.toList) n) (s.data.toList.length : Nat) (s.data.toList.length : Nat))
  have e := u32sOf_el (u32s (magN s.data.toList) n)
  unfold step197
  rw [e]
  exact sat_ite (fun h => absurd (of_decide_eq_true h) (Int.lt_irrefl _)) (fun _ => sat_need (by simp) (sat_need (isU32s_mk (okD_u32s _ _) _) (sat_ret hq)))
 | k + 1, i, hi => step197_in s n i hn (by omega) hd (runs197 s n hn hd Q hq k (i + 1) (by omega))
end Go.Vse
set_option maxRecDepth 100000
namespace Go.Vse
open Go.Proofs
theorem f197_loops : BlocksOk Tryz.prog 0 L197 (codeOf Tryz.f193) := by
 refine one_blocks (N := 1010) (L' := noL) noΓ_ok (blocksOk_none 0 _) (lp197_good _) (step197_eq way197) ?_
 rintro ⟨s, l, n, i⟩ hx
 have hx : way197.pre ⟨s, l, n, i⟩ = true := hx
 simp only [way197, Bool.and_eq_true, decide_eq_true_eq] at hx
 obtain ⟨⟨⟨⟨rfl, rfl⟩, h3⟩, h4⟩, h5⟩ := hx
 have hz : ∀ n, u32s 0 n = List.replicate n 0 := by
   intro n
   induction n with
   | zero => rfl
   | succ n ih => simp [u32s, ih, List.replicate_succ]
 have e : l = u32s (lowv s.data.toList 0) l.length := by
   have : lowv s.data.toList 0 = 0 := by
     unfold lowv
     rw [Nat.sub_zero, List.drop_length]; rfl
   rw [this, hz]; exact h4
 have := runs197 s l.length h5 h3 (· = way197.res ⟨s, l, (s.data.toList.length : Nat), 0⟩) rfl s.data.toList.length 0 (by omega)
 rw [← e] at this
 exact ⟨_, this⟩
def digOut (s : ByteArray) : MemOut := { val := .msl 0 (nDig s.data.toList.length) 1, outs := [], new := some (.arr (nDig s.data.toList.length) 1 (u32El (u32s (magN s.data.toList) (nDig s.data.toList.length))) 274) }
def K197 : MSpec
 | [], [.c (.v (.string s))] => some { digOut s with conds := [decide (s.data.toList.length ≤ 1000000000)] }
 | _, _ => none
theorem M197_sat (s : ByteArray) (h : s.data.toList.length ≤ 1000000000) : (M197 s).sat (Out (digOut s)) := by
 have w1 : IntKind.i64.wrap (((s.data.toList.length : Nat) : Int) + 3) = ((s.data.toList.length + 3 : Nat) : Int) := by rw [wrap_i64 (by omega)]; omega
 have w2 : IntKind.i64.wrap (((s.data.toList.length + 3 : Nat) : Int).tdiv 4) = ((nDig s.data.toList.length : Nat) : Int) := by
  have : ((s.data.toList.length + 3 : Nat) : Int).tdiv 4 = ((nDig s.data.toList.length : Nat) : Int) := rfl
  rw [this, wrap_i64 (by unfold nDig; omega)]
 have hn : nDig s.data.toList.length ≤ 1000000000 := by unfold nDig; omega
 have e0 : ∀ k, u32sOf k (fun _ => List.map IV.v [Value.int IntKind.u32 0]) = List.replicate k 0 := by
  intro k
  apply List.ext_getElem
  ·simp [u32sOf]
  ·intro i h1 h2
   simp [u32sOf, u32Of]
 unfold M197
 simp only [w1, w2, Int.toNat_natCast, e0, List.length_replicate, u32s_len]
 refine sat_need rfl (sat_need (by simp) (sat_need (decide_eq_true (by omega)) (sat_need (decide_eq_true (by omega)) (sat_need (decide_eq_true (by omega)) (sat_need (by simp) (sat_need ?_ (sat_need ?_ (sat_ret (Out.refl _)))))))))
 ·exact List.all_eq_true.2 fun _ _ => rfl
 ·simp; exact h
theorem f197_ok : MemOk Tryz.prog 193 K197 := by
 refine memOk_of_exec_c (L := fun _ => L197) prog_mixed noΓ_ok (fn := Tryz.f193) (c := codeOf Tryz.f193) (by kernel_rfl) (by kernel_rfl) (callFunc_enter (fn := Tryz.f193) (c := codeOf Tryz.f193) (by kernel_rfl) (by kernel_rfl) (by kernel_rfl)) (N := 1010) (frz := false) ?_ ?_
 ·intro ents args o h
  unfold K197 at h
  split at h
  ·exact f197_loops
  ·cases h
 ·intro ents args o h hc
  unfold K197 at h
  split at h
  ·rename_i s
   cases h
   have h1 : s.data.toList.length ≤ 1000000000 := dec (hc (decide (s.data.toList.length ≤ 1000000000)) (by simp))
   refine ⟨[], [.c (.v (.string s))], EntsEqv.refl _, SeesL.refl _, ?_⟩
   have hs := M197_sat s h1
   rw [← M197_eq] at hs
   generalize execM Tryz.prog (fun _ => none) L197 1010 false Tryz.f193 [] [.c (.v (.string s))] = T at hs ⊢
   exact hs
  ·cases h
def head227 (l : List Nat) : List AV × List (Option Ent) := ([.c (.sl l.length 1 (u32El l))], [])
def take227 : List AV × List (Option Ent) → Option (List Nat × List Bool)
 | ([.c (.sl n 1 el)], []) => some (u32sOf n el, [isU32s n el])
 | _ => none
structure WayS (X : Type) where
 res : X → X
 pre : X → Bool
def lp227 (w : WayS (List Nat)) : LoopSt (List Nat) (List Nat) where
 nIn := { nt := 21, live := [0] }
 nOut := { nt := 21, live := [0] }
 head := head227
 take := take227
 out := fun r => (.normal, head227 r)
 takeR := fun q => match q with | (.normal, q) => take227 q | _ => none
 res := w.res
 pre := w.pre
theorem take227_ok (q : List AV × List (Option Ent)) (x : List Nat) (cs : List Bool) (h : take227 q = some (x, cs)) (hc : ∀ p ∈ cs, p) : SeesL q.1 (head227 x).1 ∧ EntsEqv q.2 (head227 x).2 := by
 unfold take227 at h
 split at h
 ·rename_i n el
  simp only [Option.some.injEq, Prod.mk.injEq] at h
  obtain ⟨rfl, rfl⟩ := h
  have h1 : isU32s n el = true := hc _ (List.mem_singleton.2 rfl)
  simp only [head227, u32sOf_len]
  exact ⟨.cons (Sees.sl (isU32s_el h1).1) .nil, EntsEqv.refl _⟩
 ·cases h
theorem lp227_good (w : WayS (List Nat)) : (lp227 w).Good2 where
 take := take227_ok
 takeR := by
  intro e q r cs h hc
  cases e with
  | normal => obtain ⟨h1, h2⟩ := take227_ok q r cs h hc; exact ⟨rfl, h1, h2⟩
  | exit j => cases h
  | ret => cases h
 split := fun r Q h => h
def trimD (l : List Nat) : List Nat := (l.reverse.dropWhile (· == 0)).reverse
def way227 : WayS (List Nat) := ⟨trimD, fun l => okD l && decide (l.length ≤ 1000000000)⟩
def L227 : Nat → Option (St → Tr (Ex × St)) := fun id => bif Nat.beq id 0 then some ((lp227 way227).g 0) else none
def head263 (x : List UInt8 × Int) : List AV × List (Option Ent) := ([strA x.1, intA .u8 x.2], [])
def take263 : List AV × List (Option Ent) → Option ((List UInt8 × Int) × List Bool)
 | ([.c (.v (.string s)), .c (.v (.int .u8 c))], []) => some ((s.data.toList, c), [])
 | _ => none
def lp263 (w : WayS (List UInt8 × Int)) : LoopSt (List UInt8 × Int) (List UInt8 × Int) where
 nIn := { nt := 17, live := [0, 1] }
 nOut := { nt := 17, live := [0, 1] }
 head := head263
 take := take263
 out := fun r => (.normal, head263 r)
 takeR := fun q => match q with | (.normal, q) => take263 q | _ => none
 res := w.res
 pre := w.pre
theorem take263_ok (q : List AV × List (Option Ent)) (x : List UInt8 × Int) (cs : List Bool) (h : take263 q = some (x, cs)) (hc : ∀ p ∈ cs, p) : SeesL q.1 (head263 x).1 ∧ EntsEqv q.2 (head263 x).2 := by
 unfold take263 at h
 split at h
 ·cases h; exact ⟨SeesL.refl _, EntsEqv.refl _⟩
 ·cases h
theorem lp263_good (w : WayS (List UInt8 × Int)) : (lp263 w).Good2 where
 take := take263_ok
 takeR := by
  intro e q r cs h hc
  cases e with
  | normal => obtain ⟨h1, h2⟩ := take263_ok q r cs h hc; exact ⟨rfl, h1, h2⟩
  | exit j => cases h
  | ret => cases h
 split := fun r Q h => h
def way263 : WayS (List UInt8 × Int) := ⟨fun x => (x.1.dropWhile (· == 0), x.2), fun x => decide (x.2 = 0)⟩
def L263 : Nat → Option (St → Tr (Ex × St)) := fun id => bif Nat.beq id 0 then some ((lp263 way263).g 0) else none
def K263 : List AV → Option (AV × List Bool)
 | [.c (.v (.string s)), .c (.v (.int .u8 c))] => some (strA (s.data.toList.dropWhile (· == 0)), [decide (c = 0)])
 | _ => none
def Γ228 : FuncId → Option Spec := fun f => bif Nat.beq f 257 then some (pureSpec K263) else none
end Go.Vse
set_option maxRecDepth 100000
namespace Go.Vse
open Go.Proofs
def step227 (l : List Nat) : Tr (List Nat ⊕ List Nat) :=
 let x1 : Int := ↑l.length
 let x2 : Int := IntKind.i64.wrap (x1 - 1)
 let x3 : Nat := x2.toNat
 .need (bif decide (x1 > 0) then decide (0 ≤ x2 ∧ x2 < x1) && true else true) (.ite (bif decide (x1 > 0) then bif true then ((l.getD x3 0 : Nat) : Int) == 0 else false else false) (.need (decide (0 ≤ x2 ∧ x2 ≤ x1)) (.need (isU32s x3 (u32El l)) (.ret (Sum.inl (u32sOf x3 (u32El l)))))) (.need (isU32s l.length (u32El l)) (.ret (Sum.inr (u32sOf l.length (u32El l))))))
def M227 (l : List Nat) : Tr AV :=
 let x1 : List Nat := u32sOf l.length (u32El l)
 let x2 : Nat := x1.length
 let x3 : List Nat := trimD x1
 .need (isU32s l.length (u32El l)) (.need (okD x1 && decide (x2 ≤ 1000000000)) (.ret (AV.c (IV.sl x3.length 1 (u32El x3)))))
def step263 (l : List UInt8) (c : Int) : Tr (List UInt8 × Int ⊕ List UInt8 × Int) :=
 let x1 : Int := ↑l.length
 .need (bif decide (x1 > 0) then decide ((0 : Int) ≤ 0 ∧ 0 < x1) && true else true) (.ite (bif decide (x1 > 0) then bif true then ↑(l.getD (Int.toNat 0) 0).toNat == c else false else false) (.need (decide ((0 : Int) ≤ 1 ∧ 1 ≤ x1)) (.ret (Sum.inl (List.drop (Int.toNat 1) l, c)))) (.ret (Sum.inr (l, c))))
def M263 (s : ByteArray) (c : Int) : Tr AV :=
 .need (decide (c = 0)) (.ret (.c (.v (.string ⟨⟨List.dropWhile (fun x => x == 0) s.data.toList⟩⟩))))
def M228 (s : ByteArray) : Tr AV :=
 let x1 : List UInt8 := s.data.toList
 .need (bif x1 == [] then true else true) (.ite (bif x1 == [] then true else bif false then true else ([0] : List UInt8) == []) (.ret (.c (.v (.string s)))) (.need true (.ite true (.need true (.need true (.ret (.c (.v (.string ⟨⟨List.dropWhile (fun x => x == 0) x1⟩⟩)))))) (.fail "strings.go:1004"))))
theorem step227_eq (w : WayS (List Nat)) (x : List Nat) : (exec Tryz.prog (fun _ => none) noL 1010 (loopOf 0 (codeOf Tryz.f229)) (mkSt (lp227 w).nIn ((lp227 w).head x))).bind ((lp227 w).fin 0 0) = step227 x := by kernel_rfl
theorem M227_eq (l : List Nat) : execFn Tryz.prog (fun _ => none) L227 1010 Tryz.f229 [.c (.sl l.length 1 (u32El l))] = M227 l := by kernel_rfl
theorem step263_eq (w : WayS (List UInt8 × Int)) (x : List UInt8 × Int) : (exec Tryz.prog (fun _ => none) noL 1010 (loopOf 0 (codeOf Tryz.f257)) (mkSt (lp263 w).nIn ((lp263 w).head x))).bind ((lp263 w).fin 0 0) = step263 x.1 x.2 := by
 obtain ⟨l, c⟩ := x
 kernel_rfl
theorem M263_eq (s : ByteArray) (c : Int) : execFn Tryz.prog (fun _ => none) L263 1010 Tryz.f257 [.c (.v (.string s)), .c (.v (.int .u8 c))] = M263 s c := by kernel_rfl
theorem M228_eq (s : ByteArray) : execFn Tryz.prog Γ228 noL 1010 Tryz.f230 [.c (.v (.string s)), .c (.v (.string ⟨⟨[0]⟩⟩))] = M228 s := by kernel_rfl
theorem snocIndN {P : List Nat → Prop} (h0 : P []) (h1 : ∀ l c, P l → P (l ++ [c])) (l : List Nat) : P l := by
 rw [← List.reverse_reverse l]
 induction l.reverse with
 | nil => exact h0
 | cons c l ih => rw [List.reverse_cons]; exact h1 _ _ ih
theorem trimD_zero (l : List Nat) : trimD (l ++ [0]) = trimD l := by simp [trimD]
theorem trimD_last (l : List Nat) (x : Nat) (h : x ≠ 0) : trimD (l ++ [x]) = l ++ [x] := by simp [trimD, h]
theorem okD_append {l m : List Nat} : okD (l ++ m) = (okD l && okD m) := by simp [okD]
theorem okD_trim (l : List Nat) (h : okD l = true) : okD (trimD l) = true := by
 induction l using snocIndN with
 | h0 => rfl
 | h1 l c ih =>
  by_cases hc : c = 0
  ·subst hc
   rw [trimD_zero]
   rw [okD_append, Bool.and_eq_true] at h
   exact ih h.1
  ·rw [trimD_last l c hc]; exact h
theorem u32sOf_take (l m : List Nat) : u32sOf l.length (u32El (l ++ m)) = l := by
 apply List.ext_getElem
 ·simp [u32sOf]
 ·intro i h1 h2
  simp [u32sOf, u32El, u32Of, List.getD_eq_getElem?_getD, List.getElem?_append_left h2, h2]
theorem runs227 (l : List Nat) (hok : okD l = true) (hl : l.length ≤ 1000000000) (Q : List Nat → Prop) (hq : Q (trimD l)) : RunsX step227 Q (l.length + 1) l := by
 induction l using snocIndN with
 | h0 =>
  unfold RunsX
  exact sat_need rfl (sat_ite (fun h => Bool.noConfusion h) (fun _ => sat_need rfl (sat_ret hq)))
 | h1 l c ih =>
  have hlen : (l ++ [c]).length = l.length + 1 := by simp
  have w1 : IntKind.i64.wrap (((l.length + 1 : Nat) : Int) - 1) = ((l.length : Nat) : Int) := by rw [wrap_i64 (by omega)]; omega
  have hg : (l ++ [c]).getD l.length 0 = c := by simp [List.getD_eq_getElem?_getD]
  have hok2 := hok
  rw [okD_append, Bool.and_eq_true] at hok2
  rw [hlen] at hl ⊢
  have key : ∀ {R : List Nat ⊕ List Nat → Prop}, (c = 0 → R (.inl l)) → (c ≠ 0 → R (.inr (l ++ [c]))) → (step227 (l ++ [c])).sat R := by
   intro R h1 h2
   unfold step227
   simp only [hlen, w1, Int.toNat_natCast, hg, u32sOf_take]
   have d1 : decide (((l.length + 1 : Nat) : Int) > 0) = true := decide_eq_true (by omega)
   have d2 : decide ((0 : Int) ≤ ((l.length : Nat) : Int) ∧ ((l.length : Nat) : Int) < ((l.length + 1 : Nat) : Int)) = true := decide_eq_true (by omega)
   simp only [d1, d2, cond_true, Bool.and_true]
   refine sat_need rfl (sat_ite (fun h => sat_need (decide_eq_true (by omega)) (sat_need (isU32s_mk hok _) (sat_ret (h1 ?_)))) (fun h => sat_need (isU32s_mk hok _) (sat_ret ?_)))
   ·have := eq_of_beq h; omega
   ·have e : u32sOf (l.length + 1) (u32El (l ++ [c])) = l ++ [c] := by rw [← hlen, u32sOf_el]
    rw [e]
    refine h2 ?_
    rintro rfl
    cases h
  unfold RunsX
  refine key (fun hc => ?_) (fun hc => ?_)
  ·subst hc
   rw [trimD_zero] at hq
   exact ih hok2.1 (by omega) hq
  ·rw [trimD_last l c hc] at hq
   exact hq
theorem f227_loops : BlocksOk Tryz.prog 0 L227 (codeOf Tryz.f229) := by
 refine one_blocks (N := 1010) (L' := noL) noΓ_ok (blocksOk_none 0 _) (lp227_good _) (step227_eq way227) ?_
 intro l hx
 have hx : (okD l && decide (l.length ≤ 1000000000)) = true := hx
 simp only [Bool.and_eq_true, decide_eq_true_eq] at hx
 exact ⟨_, runs227 l hx.1 hx.2 (· = way227.res l) rfl⟩
def K227 : List AV → Option (AV × List Bool)
 | [.c (.sl n 1 el)] => some (.c (.sl (trimD (u32sOf n el)).length 1 (u32El (trimD (u32sOf n el)))), [isU32s n el, decide (n ≤ 1000000000)])
 | _ => none
theorem M227_sat (l : List Nat) (hok : okD l = true) (hl : l.length ≤ 1000000000) : (M227 l).sat fun r => r = .c (.sl (trimD l).length 1 (u32El (trimD l))) := by
 unfold M227
 simp only [u32sOf_el]
 exact sat_need (isU32s_mk hok _) (sat_need (by simp [hok, hl]) (sat_ret rfl))
theorem f227_ok : PureOk Tryz.prog 229 K227 := by
 refine pureOk_of_exec_c (L := L227) prog_mixed noΓ_ok (fn := Tryz.f229) (c := codeOf Tryz.f229) (by kernel_rfl) (by kernel_rfl) (callFunc_enter (fn := Tryz.f229) (c := codeOf Tryz.f229) (by kernel_rfl) (by kernel_rfl) (by kernel_rfl)) (N := 1010) f227_loops ?_ ?_
 ·intro args v cs h
  unfold K227 at h
  split at h
  ·cases h; rfl
  ·cases h
 ·intro args v cs h hc
  unfold K227 at h
  split at h
  ·rename_i n el
   cases h
   have h1 : isU32s n el = true := hc (isU32s n el) (by simp)
   have h2 : n ≤ 1000000000 := dec (hc (decide (n ≤ 1000000000)) (by simp))
   obtain ⟨e1, e2⟩ := isU32s_el h1
   have hlen := u32sOf_len n el
   generalize u32sOf n el = l at e1 e2 hlen ⊢
   subst hlen
   refine ⟨[.c (.sl l.length 1 (u32El l))], .cons (Sees.sl e1) .nil, ?_⟩
   have hs := M227_sat l e2 h2
   rw [← M227_eq] at hs
   generalize execFn Tryz.prog (fun _ => none) L227 1010 Tryz.f229 [.c (.sl l.length 1 (u32El l))] = T at hs ⊢
   exact Tr.sat_mono (fun r hr => ⟨by subst hr; rfl, Sees.of_eq hr⟩) hs
  ·cases h
theorem runs263 (Q : List UInt8 × Int → Prop) : ∀ (l : List UInt8), Q (l.dropWhile (· == 0), 0) → RunsX (fun x : List UInt8 × Int => step263 x.1 x.2) Q (l.length + 1) (l, 0)
 | [], hq => sat_need rfl (sat_ite (fun h => Bool.noConfusion h) (fun _ => sat_ret hq))
 | c :: l, hq => by
   have ih := runs263 Q l
   have d1 : decide ((((c :: l).length : Nat) : Int) > 0) = true := decide_eq_true (by simp)
   have d2 : decide ((0 : Int) ≤ 0 ∧ (0 : Int) < (((c :: l).length : Nat) : Int)) = true := decide_eq_true (by simp)
   have d3 : decide ((0 : Int) ≤ 1 ∧ (1 : Int) ≤ (((c :: l).length : Nat) : Int)) = true := decide_eq_true (by simp; omega)
   have key : ∀ {R : (List UInt8 × Int) ⊕ (List UInt8 × Int) → Prop}, (c = 0 → R (.inl (l, 0))) → (c ≠ 0 → R (.inr (c :: l, 0))) → (step263 (c :: l) 0).sat R := by
     intro R h1 h2
     unfold step263
     have hg : (c :: l).getD (Int.toNat 0) 0 = c := rfl
     have hd : List.drop (Int.toNat 1) (c :: l) = l := rfl
     simp only [d1, d2, d3, hg, hd, cond_true, Bool.and_true]
     refine sat_need rfl (sat_ite (fun h => sat_need rfl (sat_ret (h1 (UInt8.toNat_inj.1 (by simpa using h))))) (fun h => sat_ret (h2 ?_)))
     rintro rfl
     cases h
   unfold RunsX
   refine key (fun hc => ?_) (fun hc => ?_)
   · subst hc
     exact ih (by simpa using hq)
   · have : (c :: l).dropWhile (· == 0) = c :: l := by simp [hc]
     rw [this] at hq
     exact hq
theorem f263_loops : BlocksOk Tryz.prog 0 L263 (codeOf Tryz.f257) := by
 refine one_blocks (N := 1010) (L' := noL) noΓ_ok (blocksOk_none 0 _) (lp263_good _) (step263_eq way263) ?_
 rintro ⟨l, c⟩ hx
 have hx : decide (c = 0) = true := hx
 obtain rfl := of_decide_eq_true hx
 exact ⟨_, runs263 (· = way263.res (l, 0)) l rfl⟩
theorem f263_ok : PureOk Tryz.prog 257 K263 := by
 refine poL (N := 1010) noΓ_ok f263_loops (fn := Tryz.f257) ?_ ?_
 · intro args v cs h
   unfold K263 at h
   split at h
   · cases h; rfl
   · cases h
 · intro args v cs h hc
   unfold K263 at h
   split at h
   · rename_i s c
     cases h
     have h1 : c = 0 := dec (hc (decide (c = 0)) (by simp))
     have hs := (show (M263 s c).sat fun r => r = strA (s.data.toList.dropWhile (· == 0)) from sat_need (decide_eq_true h1) (sat_ret rfl))
     rw [← M263_eq] at hs
     generalize execFn Tryz.prog (fun _ => none) L263 1010 Tryz.f257 [.c (.v (.string s)), .c (.v (.int .u8 c))] = T at hs ⊢
     exact Tr.sat_mono (fun r hr => ⟨by subst hr; rfl, Sees.of_eq hr⟩) hs
   · cases h
def K228 : List AV → Option (AV × List Bool)
 | [.c (.v (.string s)), .c (.v (.string z))] => some (strA (s.data.toList.dropWhile (· == 0)), [z.data.toList == [0]])
 | _ => none
theorem Γ228_ok : ∀ f s, Γ228 f = some s → SpecOk Tryz.prog f s := one_ok f263_ok.spec
theorem M228_sat (s : ByteArray) : (M228 s).sat fun r => r = strA (s.data.toList.dropWhile (· == 0)) := by
 obtain ⟨⟨l⟩⟩ := s
 cases l with
 | nil => exact sat_need rfl (sat_ite (fun _ => sat_ret rfl) (fun h => Bool.noConfusion h))
 | cons c l => exact sat_need rfl (sat_ite (fun h => Bool.noConfusion h) (fun _ => sat_need rfl (sat_ite (fun _ => sat_need rfl (sat_need rfl (sat_ret rfl))) (fun h => Bool.noConfusion h))))
theorem f228_ok : PureOk Tryz.prog 230 K228 := by
 refine poe Γ228_ok (fn := Tryz.f230) ?_ ?_
 ·intro args v cs h
  unfold K228 at h
  split at h
  ·cases h; rfl
  ·cases h
 ·intro args v cs h hc
  unfold K228 at h
  split at h
  ·rename_i s z
   cases h
   have h1 : (z.data.toList == [0]) = true := hc (z.data.toList == [0]) (by simp)
   have hz : z = ⟨⟨[0]⟩⟩ := by
    obtain ⟨⟨zl⟩⟩ := z
    have : zl = [0] := eq_of_beq h1
    rw [this]
   subst hz
   have hs := M228_sat s
   rw [← M228_eq] at hs
   generalize execFn Tryz.prog Γ228 noL 1010 Tryz.f230 [.c (.v (.string s)), .c (.v (.string ⟨⟨[0]⟩⟩))] = T at hs ⊢
   exact Tr.sat_mono (fun r hr => ⟨by subst hr; rfl, Sees.of_eq hr⟩) hs
  ·cases h
end Go.Vse
set_option maxRecDepth 100000
namespace Go.Vse
open Go.Proofs
structure W199 where
 x : List Nat
 b : List UInt8
 n : Int
 i : Int
def head199 (y : W199) : List AV × List (Option Ent) := ([.msl 0 y.b.length 1, .c (.sl y.x.length 1 (u32El y.x)), intA .i64 y.n, intA .i64 y.i], [some (.arr y.b.length 1 (byteEl y.b) 5)])
def take199 : List AV × List (Option Ent) → Option (W199 × List Bool)
 | ([.msl 0 m 1, .c (.sl k 1 xl), .c (.v (.int .i64 n)), .c (.v (.int .i64 i))], [some (.arr m' 1 el 5)]) => some (⟨u32sOf k xl, bytesOf m el, n, i⟩, [decide (m = m'), isU32s k xl, isBytes m el])
 | _ => none
def lp199 (w : Way W199) : LoopSt W199 W199 where
 nIn := { nt := 46, live := [3, 16, 17, 18] }
 nOut := { nt := 46, live := [3, 16, 17, 18] }
 head := head199
 take := take199
 out := fun r => (.normal, head199 r)
 takeR := fun q => match q with | (.normal, q) => take199 q | _ => none
 res := w.res
 pre := w.pre
theorem take199_ok (q : List AV × List (Option Ent)) (x : W199) (cs : List Bool) (h : take199 q = some (x, cs)) (hc : ∀ p ∈ cs, p) : SeesL q.1 (head199 x).1 ∧ EntsEqv q.2 (head199 x).2 := by
 unfold take199 at h
 split at h
 ·rename_i m k xl n i m' el
  simp only [Option.some.injEq, Prod.mk.injEq] at h
  obtain ⟨rfl, rfl⟩ := h
  have h1 : m = m' := dec (hc (decide (m = m')) (by simp))
  have h2 : isU32s k xl = true := hc (isU32s k xl) (by simp)
  have h3 : isBytes m el = true := hc (isBytes m el) (by simp)
  subst h1
  simp only [head199, u32sOf_len, bytesOf_len]
  exact ⟨.cons (Sees.refl _) (.cons (Sees.sl (isU32s_el h2).1) (SeesL.refl _)), .cons (.arr _ _ _ _ _ (byteEl_of_bytes h3)) .nil⟩
 ·cases h
theorem lp199_good (w : Way W199) : (lp199 w).Good2 where
 take := take199_ok
 takeR := by
  intro e q r cs h hc
  cases e with
  | normal => obtain ⟨h1, h2⟩ := take199_ok q r cs h hc; exact ⟨rfl, h1, h2⟩
  | exit j => cases h
  | ret => cases h
 split := fun r Q h => h
def be4 (d : Nat) : List UInt8 := [UInt8.ofNat (d / 16777216 % 256), UInt8.ofNat (d / 65536 % 256), UInt8.ofNat (d / 256 % 256), UInt8.ofNat (d % 256)]
def beB : List Nat → List UInt8
 | [] => []
 | d :: l => beB l ++ be4 d
def way199 : Way W199 := ⟨fun y => ⟨y.x, beB y.x, y.n, y.n⟩, fun y => decide (y.n = (y.x.length : Nat)) && decide (y.i = 0) && decide (y.b.length = 4 * y.x.length) && okD y.x && decide (y.x.length ≤ 1000000000)⟩
def L199 : Nat → Option (St → Tr (Ex × St)) := fun id => bif Nat.beq id 0 then some ((lp199 way199).g 0) else none
def Γ199 : FuncId → Option Spec := fun f => bif Nat.beq f 229 then some (pureSpec K227) else bif Nat.beq f 230 then some (pureSpec K228) else none
end Go.Vse
set_option maxRecDepth 100000
namespace Go.Vse
open Go.Proofs
def step199 (x : List Nat) (b : List UInt8) (n : Int) (i : Int) : Tr (W199 ⊕ W199) :=
 let x1 : Int := ↑x.length
 let x2 : Int := ↑b.length
 let x3 : Int := IntKind.i64.wrap (IntKind.i64.wrap (x2 - 1) - IntKind.i64.wrap (4 * i))
 let x4 : Int := IntKind.i64.wrap (x3 - 0)
 let x5 : Nat := x4.toNat
 let x6 : Int := IntKind.i64.wrap (0 + 1)
 let x7 : Int := IntKind.i64.wrap (x3 - x6)
 let x8 : Nat := x7.toNat
 let x9 : Int := IntKind.i64.wrap (x6 + 1)
 let x10 : Int := IntKind.i64.wrap (x3 - x9)
 let x11 : Nat := x10.toNat
 let x12 : Int := IntKind.i64.wrap (x9 + 1)
 let x13 : Int := IntKind.i64.wrap (x3 - x12)
 let x14 : Nat := x13.toNat
 let x15 : Int := IntKind.i64.wrap (x3 - IntKind.i64.wrap (x12 + 1))
 let x16 : Nat := x15.toNat
 let x17 : Int := ↑(x.getD i.toNat 0)
 let x18 : List Nat := u32sOf x.length (u32El x)
 let x19 : Int := IntKind.i64.wrap (i + 1)
 let x20 : List UInt8 := bytesOf b.length (byteEl b)
 .ite (decide (i < n)) (.need (decide (0 ≤ i ∧ i < x1)) (.ite true (.need true (.need (decide (0 ≤ x4 ∧ x4 < x2)) (.need (decide (x5 < b.length)) (.ite true (.need true (.need (decide (0 ≤ x7 ∧ x7 < x2)) (.need (decide (x8 < b.length)) (.ite true (.need true (.need (decide (0 ≤ x10 ∧ x10 < x2)) (.need (decide (x11 < b.length)) (.ite true (.need true (.need (decide (0 ≤ x13 ∧ x13 < x2)) (.need (decide (x14 < b.length)) (.ite false (.need true (.need (decide (0 ≤ x15 ∧ x15 < x2)) (.need (decide (x16 < b.length)) (.fail "rounds")))) (.need (decide (b.length = b.length)) (.need (isU32s x.length (u32El x)) (.need (isBytes b.length (spliceE (spliceE (spliceE (spliceE (byteEl b) x5 0 [IV.v (Value.int IntKind.u8 (IntKind.u8.wrap (x17.fdiv (2 ^ min (IntKind.i64.wrap (8 * 0)).toNat IntKind.u32.bits))))].reverse) x8 0 [IV.v (Value.int IntKind.u8 (IntKind.u8.wrap (x17.fdiv (2 ^ min (IntKind.i64.wrap (8 * x6)).toNat IntKind.u32.bits))))].reverse) x11 0 [IV.v (Value.int IntKind.u8 (IntKind.u8.wrap (x17.fdiv (2 ^ min (IntKind.i64.wrap (8 * x9)).toNat IntKind.u32.bits))))].reverse) x14 0 [IV.v (Value.int IntKind.u8 (IntKind.u8.wrap (x17.fdiv (2 ^ min (IntKind.i64.wrap (8 * x12)).toNat IntKind.u32.bits))))].reverse)) (.ret (Sum.inl { x := x18, b := bytesOf b.length (spliceE (spliceE (spliceE (spliceE (byteEl b) x5 0 [IV.v (Value.int IntKind.u8 (IntKind.u8.wrap (x17.fdiv (2 ^ min (IntKind.i64.wrap (8 * 0)).toNat IntKind.u32.bits))))].reverse) x8 0 [IV.v (Value.int IntKind.u8 (IntKind.u8.wrap (x17.fdiv (2 ^ min (IntKind.i64.wrap (8 * x6)).toNat IntKind.u32.bits))))].reverse) x11 0 [IV.v (Value.int IntKind.u8 (IntKind.u8.wrap (x17.fdiv (2 ^ min (IntKind.i64.wrap (8 * x9)).toNat IntKind.u32.bits))))].reverse) x14 0 [IV.v (Value.int IntKind.u8 (IntKind.u8.wrap (x17.fdiv (2 ^ min (IntKind.i64.wrap (8 * x12)).toNat IntKind.u32.bits))))].reverse), n := n, i := x19 }))))))))) (.need (decide (b.length = b.length)) (.need (isU32s x.length (u32El x)) (.need (isBytes b.length (spliceE (spliceE (spliceE (byteEl b) x5 0 [IV.v (Value.int IntKind.u8 (IntKind.u8.wrap (x17.fdiv (2 ^ min (IntKind.i64.wrap (8 * 0)).toNat IntKind.u32.bits))))].reverse) x8 0 [IV.v (Value.int IntKind.u8 (IntKind.u8.wrap (x17.fdiv (2 ^ min (IntKind.i64.wrap (8 * x6)).toNat IntKind.u32.bits))))].reverse) x11 0 [IV.v (Value.int IntKind.u8 (IntKind.u8.wrap (x17.fdiv (2 ^ min (IntKind.i64.wrap (8 * x9)).toNat IntKind.u32.bits))))].reverse)) (.ret (Sum.inl { x := x18, b := bytesOf b.length (spliceE (spliceE (spliceE (byteEl b) x5 0 [IV.v (Value.int IntKind.u8 (IntKind.u8.wrap (x17.fdiv (2 ^ min (IntKind.i64.wrap (8 * 0)).toNat IntKind.u32.bits))))].reverse) x8 0 [IV.v (Value.int IntKind.u8 (IntKind.u8.wrap (x17.fdiv (2 ^ min (IntKind.i64.wrap (8 * x6)).toNat IntKind.u32.bits))))].reverse) x11 0 [IV.v (Value.int IntKind.u8 (IntKind.u8.wrap (x17.fdiv (2 ^ min (IntKind.i64.wrap (8 * x9)).toNat IntKind.u32.bits))))].reverse), n := n, i := x19 }))))))))) (.need (decide (b.length = b.length)) (.need (isU32s x.length (u32El x)) (.need (isBytes b.length (spliceE (spliceE (byteEl b) x5 0 [IV.v (Value.int IntKind.u8 (IntKind.u8.wrap (x17.fdiv (2 ^ min (IntKind.i64.wrap (8 * 0)).toNat IntKind.u32.bits))))].reverse) x8 0 [IV.v (Value.int IntKind.u8 (IntKind.u8.wrap (x17.fdiv (2 ^ min (IntKind.i64.wrap (8 * x6)).toNat IntKind.u32.bits))))].reverse)) (.ret (Sum.inl { x := x18, b := bytesOf b.length (spliceE (spliceE (byteEl b) x5 0 [IV.v (Value.int IntKind.u8 (IntKind.u8.wrap (x17.fdiv (2 ^ min (IntKind.i64.wrap (8 * 0)).toNat IntKind.u32.bits))))].reverse) x8 0 [IV.v (Value.int IntKind.u8 (IntKind.u8.wrap (x17.fdiv (2 ^ min (IntKind.i64.wrap (8 * x6)).toNat IntKind.u32.bits))))].reverse), n := n, i := x19 }))))))))) (.need (decide (b.length = b.length)) (.need (isU32s x.length (u32El x)) (.need (isBytes b.length (spliceE (byteEl b) x5 0 [IV.v (Value.int IntKind.u8 (IntKind.u8.wrap (x17.fdiv (2 ^ min (IntKind.i64.wrap (8 * 0)).toNat IntKind.u32.bits))))].reverse)) (.ret (Sum.inl { x := x18, b := bytesOf b.length (spliceE (byteEl b) x5 0 [IV.v (Value.int IntKind.u8 (IntKind.u8.wrap (x17.fdiv (2 ^ min (IntKind.i64.wrap (8 * 0)).toNat IntKind.u32.bits))))].reverse), n := n, i := x19 }))))))))) (.need (decide (b.length = b.length)) (.need (isU32s x.length (u32El x)) (.need (isBytes b.length (byteEl b)) (.ret (Sum.inl { x := x18, b := x20, n := n, i := x19 }))))))) (.need (decide (b.length = b.length)) (.need (isU32s x.length (u32El x)) (.need (isBytes b.length (byteEl b)) (.ret (Sum.inr { x := x18, b := x20, n := n, i := i })))))
def M199 (x : List Nat) : Tr AV :=
 let x1 : List Nat := trimD (u32sOf x.length (u32El x))
 let x2 : Nat := x1.length
 let x3 : Int := ↑x2
 let x4 : Int := IntKind.i64.wrap (4 * x3)
 let x5 : Int := ↑1 * x4
 let x6 : Nat := x4.toNat
 let x7 : List Nat := u32sOf x2 (u32El x1)
 let x8 : Nat := x7.length
 let x9 : Int := ↑x8
 let x10 : Nat := (bytesOf x6 fun x => List.map IV.v [Value.int IntKind.u8 0]).length
 let x11 : Nat := 4 * x8
 let x12 : List UInt8 := beB x7
 let x13 : Nat := x12.length
 .need (isU32s x.length (u32El x)) (.need (decide (x.length ≤ 1000000000)) (.ite (x3 == 0) (.ret (.c (.v (.string { data := #[] })))) (.need (decide (x4 = x4)) (.need (decide (0 ≤ x4)) (.need (decide (x4 ≤ 9223372036854775807)) (.need (decide (x5 ≤ 140737488355328)) (.need (decide (x6 = x6)) (.need (isU32s x2 (u32El x1)) (.need (isBytes x6 fun x => List.map IV.v [Value.int IntKind.u8 0]) (.need (decide (x3 = x9) && decide (0 = 0) && decide (x10 = x11) && okD x7 && decide (x8 ≤ 1000000000)) (.need (decide (x13 ≤ x13)) (.need (isBytes x13 (byteEl x12)) (.need true (.ret (.c (.v (.string ⟨⟨List.dropWhile (fun x => x == 0) (bytesOf x13 (byteEl x12))⟩⟩)))))))))))))))))
theorem step199_eq (w : Way W199) (y : W199) : (exec Tryz.prog (fun _ => none) noL 1005 (loopOf 0 (codeOf Tryz.f194)) (mkSt (lp199 w).nIn ((lp199 w).head y))).bind ((lp199 w).fin 0 0) = step199 y.x y.b y.n y.i := by
 obtain ⟨x, b, n, i⟩ := y
 kernel_rfl
theorem M199_eq (x : List Nat) : execFn Tryz.prog Γ199 L199 1005 Tryz.f194 [.c (.sl x.length 1 (u32El x))] = M199 x := by kernel_rfl
theorem splice_eq (l : List UInt8) (k b : Nat) (hk : k < l.length) (hb : b < 256) : spliceE (byteEl l) k 0 [IV.v (.int .u8 (b : Int))].reverse = byteEl (l.set k (UInt8.ofNat b)) := by
 funext i
 unfold spliceE
 by_cases h : i = k
 ·subst h
  rw [if_pos rfl]
  simp [byteEl, List.getD_eq_getElem?_getD, List.getElem?_set_self hk]
  omega
 ·rw [if_neg h]
  simp [byteEl, List.getD_eq_getElem?_getD, List.getElem?_set_ne (Ne.symm h)]
theorem shr32 (d k : Nat) (hk : k < 4) : IntKind.u8.wrap ((d : Int).fdiv (2 ^ min (8 * k) IntKind.u32.bits)) = ((d / 256 ^ k % 256 : Nat) : Int) := by
 have e1 : min (8 * k) IntKind.u32.bits = 8 * k := by
  change min (8 * k) 32 = 8 * k
  omega
 rw [e1]
 have e2 : ((2 : Int) ^ (8 * k)) = ((256 ^ k : Nat) : Int) := by
  rw [show (256 : Nat) = 2 ^ 8 from rfl, ← Nat.pow_mul]
  simp
 rw [e2, fdiv_nat, wrap_u8]
 simp
theorem set4 (A B : List UInt8) (y0 y1 y2 y3 c0 c1 c2 c3 : UInt8) : ((((A ++ y3 :: y2 :: y1 :: y0 :: B).set (A.length + 3) c0).set (A.length + 2) c1).set (A.length + 1) c2).set A.length c3 = A ++ c3 :: c2 :: c1 :: c0 :: B := by
 simp [List.set_append]
theorem beB_snoc (d : Nat) : ∀ (l : List Nat), beB (l ++ [d]) = be4 d ++ beB l
 | [] => by simp [beB]
 | e :: l => by simp only [List.cons_append, beB, beB_snoc d l, List.append_assoc]
theorem beB_len : ∀ (l : List Nat), (beB l).length = 4 * l.length
 | [] => rfl
 | d :: l => by simp only [beB, List.length_append, beB_len l, be4, List.length_cons, List.length_nil]; omega
theorem step199_in (x : List Nat) (hok : okD x = true) (hx : x.length ≤ 1000000000) (i : Nat) (hi : i < x.length) (A B : List UInt8) (y0 y1 y2 y3 : UInt8) (hA : A.length + 4 + 4 * i = 4 * x.length) (hB : B.length = 4 * i) {R : W199 ⊕ W199 → Prop}
   (hin : R (.inl ⟨x, A ++ be4 (x.getD i 0) ++ B, (x.length : Nat), ((i + 1 : Nat) : Int)⟩)) : (step199 x (A ++ y3 :: y2 :: y1 :: y0 :: B) (x.length : Nat) (i : Nat)).sat R := by
 have hlen : (A ++ y3 :: y2 :: y1 :: y0 :: B).length = 4 * x.length := by simp only [List.length_append, List.length_cons]; omega
 have w1 : IntKind.i64.wrap (((4 * x.length : Nat) : Int) - 1) = ((4 * x.length - 1 : Nat) : Int) := by rw [wrap_i64 (by omega)]; omega
 have w2 : IntKind.i64.wrap (4 * (i : Int)) = ((4 * i : Nat) : Int) := by rw [wrap_i64 (by omega)]; omega
 have w3 : IntKind.i64.wrap (((4 * x.length - 1 : Nat) : Int) - ((4 * i : Nat) : Int)) = ((A.length + 3 : Nat) : Int) := by rw [wrap_i64 (by omega)]; omega
 have v1 : IntKind.i64.wrap (0 + 1) = 1 := rfl
 have v2 : IntKind.i64.wrap (1 + 1) = 2 := rfl
 have v3 : IntKind.i64.wrap (2 + 1) = 3 := rfl
 have v4 : IntKind.i64.wrap (3 + 1) = 4 := rfl
 have p0 : IntKind.i64.wrap (((A.length + 3 : Nat) : Int) - 0) = ((A.length + 3 : Nat) : Int) := by rw [wrap_i64 (by omega)]; omega
 have p1 : IntKind.i64.wrap (((A.length + 3 : Nat) : Int) - 1) = ((A.length + 2 : Nat) : Int) := by rw [wrap_i64 (by omega)]; omega
 have p2 : IntKind.i64.wrap (((A.length + 3 : Nat) : Int) - 2) = ((A.length + 1 : Nat) : Int) := by rw [wrap_i64 (by omega)]; omega
 have p3 : IntKind.i64.wrap (((A.length + 3 : Nat) : Int) - 3) = ((A.length : Nat) : Int) := by rw [wrap_i64 (by omega)]; omega
 have w5 : IntKind.i64.wrap ((i : Int) + 1) = ((i + 1 : Nat) : Int) := by rw [wrap_i64 (by omega)]; omega
 generalize hd : x.getD i 0 = d at hin
 have b0 : IntKind.u8.wrap ((d : Int).fdiv (2 ^ min (IntKind.i64.wrap (8 * 0)).toNat IntKind.u32.bits)) = ((d % 256 : Nat) : Int) := by
   have := shr32 d 0 (by omega)
   rw [Nat.pow_zero, Nat.div_one] at this
   exact this
 have b1 : IntKind.u8.wrap ((d : Int).fdiv (2 ^ min (IntKind.i64.wrap (8 * 1)).toNat IntKind.u32.bits)) = ((d / 256 % 256 : Nat) : Int) := by
   have := shr32 d 1 (by omega)
   rw [Nat.pow_one] at this
   exact this
 have b2 : IntKind.u8.wrap ((d : Int).fdiv (2 ^ min (IntKind.i64.wrap (8 * 2)).toNat IntKind.u32.bits)) = ((d / 65536 % 256 : Nat) : Int) := shr32 d 2 (by omega)
 have b3 : IntKind.u8.wrap ((d : Int).fdiv (2 ^ min (IntKind.i64.wrap (8 * 3)).toNat IntKind.u32.bits)) = ((d / 16777216 % 256 : Nat) : Int) := shr32 d 3 (by omega)
 have m (z : Nat) : z % 256 < 256 := Nat.mod_lt _ (by decide)
 unfold step199
 simp only [hlen, w1, w2, w3, v1, v2, v3, v4, p0, p1, p2, p3, w5, Int.toNat_natCast, hd, b0, b1, b2, b3]
 rw [splice_eq _ _ _ (by omega) (m _), splice_eq _ _ _ (by rw [List.length_set]; omega) (m _), splice_eq _ _ _ (by rw [List.length_set, List.length_set]; omega) (m _), splice_eq _ _ _ (by rw [List.length_set, List.length_set, List.length_set]; omega) (m _), set4]
 have hl2 : (A ++ UInt8.ofNat (d / 16777216 % 256) :: UInt8.ofNat (d / 65536 % 256) :: UInt8.ofNat (d / 256 % 256) :: UInt8.ofNat (d % 256) :: B).length = 4 * x.length := by simp only [List.length_append, List.length_cons]; omega
 have e := bytesOf_byteEl (A ++ UInt8.ofNat (d / 16777216 % 256) :: UInt8.ofNat (d / 65536 % 256) :: UInt8.ofNat (d / 256 % 256) :: UInt8.ofNat (d % 256) :: B)
 rw [hl2] at e
 rw [e, u32sOf_el]
 have hin2 : R (.inl ⟨x, A ++ UInt8.ofNat (d / 16777216 % 256) :: UInt8.ofNat (d / 65536 % 256) :: UInt8.ofNat (d / 256 % 256) :: UInt8.ofNat (d % 256) :: B, (x.length : Nat), ((i + 1 : Nat) : Int)⟩) := by
   have : A ++ be4 d ++ B = A ++ UInt8.ofNat (d / 16777216 % 256) :: UInt8.ofNat (d / 65536 % 256) :: UInt8.ofNat (d / 256 % 256) :: UInt8.ofNat (d % 256) :: B := by simp [be4]
   rw [← this]; exact hin
 clear e hl2 b0 b1 b2 b3 hin
 refine sat_ite (fun _ => sat_need (decide_eq_true (by omega)) ?_) (fun h => absurd (show (i : Int) < (x.length : Nat) by omega) (of_decide_eq_false h))
 have lv : ∀ {t : Tr (W199 ⊕ W199)} {e : Tr (W199 ⊕ W199)} (k : Nat) (hk : k < 4), t.sat R → (Tr.ite true (Tr.need true (Tr.need (decide ((0 : Int) ≤ ((A.length + k : Nat) : Int) ∧ ((A.length + k : Nat) : Int) < ((4 * x.length : Nat) : Int))) (Tr.need (decide (A.length + k < 4 * x.length)) t))) e).sat R := fun k hk ht =>
   sat_ite (fun _ => sat_need rfl (sat_need (decide_eq_true (by omega)) (sat_need (decide_eq_true (by omega)) ht))) (fun h => Bool.noConfusion h)
 exact lv 3 (by omega) (lv 2 (by omega) (lv 1 (by omega) (lv 0 (by omega) (sat_ite (fun h => Bool.noConfusion h) (fun _ => sat_need (by simp) (sat_need (isU32s_mk hok _) (sat_need (isBytes_byteEl _ _) (sat_ret hin2))))))))
theorem split4 (l : List UInt8) (k : Nat) (h : l.length = 4 * (k + 1)) : ∃ A y3 y2 y1 y0, l = A ++ [y3, y2, y1, y0] ∧ A.length = 4 * k := by
 have h1 : (l.drop (4 * k)).length = 4 := by rw [List.length_drop]; omega
 match hd : l.drop (4 * k), h1 with
 | [y3, y2, y1, y0], _ =>
  exact ⟨l.take (4 * k), y3, y2, y1, y0, by rw [← hd, List.take_append_drop], by rw [List.length_take]; omega⟩
theorem runs199 (x : List Nat) (hok : okD x = true) (hx : x.length ≤ 1000000000) (Q : W199 → Prop) (hq : Q ⟨x, beB x, (x.length : Nat), (x.length : Nat)⟩) : ∀ (k i : Nat) (A : List UInt8), i + k = x.length → A.length = 4 * k →
  RunsX (fun y : W199 => step199 y.x y.b y.n y.i) Q (k + 1) ⟨x, A ++ beB (x.take i), (x.length : Nat), (i : Nat)⟩
 | 0, i, A, hi, hA => by
  obtain rfl : i = x.length := by omega
  obtain rfl : A = [] := List.length_eq_zero_iff.1 (by omega)
  rw [List.take_length, List.nil_append]
  unfold RunsX
  change Tr.sat _ (step199 x (beB x) (x.length : Nat) (x.length : Nat))
  unfold step199
  rw [u32sOf_el, bytesOf_byteEl]
  exact sat_ite (fun h => absurd (of_decide_eq_true h) (Int.lt_irrefl _)) (fun _ => sat_need (by simp) (sat_need (isU32s_mk hok _) (sat_need (isBytes_byteEl _ _) (sat_ret hq))))
 | k + 1, i, A, hi, hA => by
  obtain ⟨A2, y3, y2, y1, y0, rfl, hA2⟩ := split4 A k hA
  have hlt : i < x.length := by omega
  have ih := runs199 x hok hx Q hq k (i + 1) A2 (by omega) hA2
  have ht : x.take (i + 1) = x.take i ++ [x[i]] := List.take_succ_eq_append_getElem hlt
  have hg : x.getD i 0 = x[i] := by simp [List.getD_eq_getElem?_getD, hlt]
  rw [ht, beB_snoc, ← List.append_assoc, ← hg] at ih
  have e : A2 ++ [y3, y2, y1, y0] ++ beB (x.take i) = A2 ++ y3 :: y2 :: y1 :: y0 :: beB (x.take i) := by simp
  rw [e]
  exact step199_in x hok hx i hlt A2 (beB (x.take i)) y0 y1 y2 y3 (by omega) (by rw [beB_len, List.length_take]; omega) ih
end Go.Vse
set_option maxRecDepth 100000
namespace Go.Vse
open Go.Proofs
theorem f199_loops : BlocksOk Tryz.prog 0 L199 (codeOf Tryz.f194) := by
 refine one_blocks (N := 1005) (L' := noL) noΓ_ok (blocksOk_none 0 _) (lp199_good _) (step199_eq way199) ?_
 rintro ⟨x, b, n, i⟩ hx
 have hx : way199.pre ⟨x, b, n, i⟩ = true := hx
 simp only [way199, Bool.and_eq_true, decide_eq_true_eq] at hx
 obtain ⟨⟨⟨⟨rfl, rfl⟩, h3⟩, h4⟩, h5⟩ := hx
 have := runs199 x h4 h5 (· = way199.res ⟨x, b, (x.length : Nat), 0⟩) rfl x.length 0 b (by omega) h3
 have e : b ++ beB (x.take 0) = b := by simp [beB]
 rw [e] at this
 exact ⟨_, this⟩
def natV : List Nat → Nat
 | [] => 0
 | d :: l => d + 4294967296 * natV l
theorem natV_snoc0 : ∀ (l : List Nat), natV (l ++ [0]) = natV l
 | [] => rfl
 | d :: l => by simp only [List.cons_append, natV, natV_snoc0 l]
theorem natV_trim (l : List Nat) : natV (trimD l) = natV l := by
 induction l using snocIndN with
 | h0 => rfl
 | h1 l c ih =>
  by_cases hc : c = 0
  ·subst hc; rw [trimD_zero, natV_snoc0, ih]
  ·rw [trimD_last l c hc]
theorem natV_u32s : ∀ (k v : Nat), v < 4294967296 ^ k → natV (u32s v k) = v
 | 0, v, h => by simp at h; subst h; rfl
 | k + 1, v, h => by
   simp only [u32s, natV]
   rw [natV_u32s k _ (by rw [Nat.pow_succ] at h; omega)]
   omega
theorem magN_append (a b : List UInt8) : magN (a ++ b) = magN a * 256 ^ b.length + magN b := by
 induction b using snocInd with
 | h0 => simp [magN]
 | h1 b c ih =>
  rw [← List.append_assoc, magN_snoc, magN_snoc, ih, List.length_append, List.length_singleton, Nat.pow_succ, Nat.add_mul, Nat.mul_assoc]
  omega
theorem magN_be4 (d : Nat) (h : d < 4294967296) : magN (be4 d) = d := by
 have t : ∀ z : Nat, (UInt8.ofNat (z % 256)).toNat = z % 256 := fun z => by simp [UInt8.toNat_ofNat']
 simp only [be4, magN, List.foldl_cons, List.foldl_nil, t]
 omega
theorem magN_beB : ∀ (l : List Nat), okD l = true → magN (beB l) = natV l
 | [], _ => rfl
 | d :: l, h => by
  simp only [okD, List.all_cons, Bool.and_eq_true, decide_eq_true_eq] at h
  rw [beB, magN_append, magN_beB l h.2, magN_be4 d h.1, natV]
  have : (be4 d).length = 4 := rfl
  rw [this]
  have e : (256 : Nat) ^ 4 = 4294967296 := by decide
  rw [e]; omega
theorem magB_drop : ∀ (l : List UInt8), magB (magN l) = l.dropWhile (· == 0)
 | [] => by rw [magN_nil, magB_zero]; rfl
 | c :: l => by
   by_cases hc : c = 0
   · subst hc
     have : magN (0 :: l) = magN l := by rw [magN_cons]; simp
     rw [this, magB_drop l]
     simp
   · have hcan : canon (c :: l) = true := by simpa [canon] using hc
     rw [magB_magN _ hcan]
     simp [hc]
def K199 : List AV → Option (AV × List Bool)
 | [.c (.sl n 1 el)] => some (strA (magB (natV (u32sOf n el))), [isU32s n el, decide (n ≤ 1000000000)])
 | _ => none
theorem Γ199_ok : ∀ f s, Γ199 f = some s → SpecOk Tryz.prog f s := step_ok f227_ok.spec (one_ok f228_ok.spec)
theorem trimD_len (l : List Nat) : (trimD l).length ≤ l.length := by
 induction l using snocIndN with
 | h0 => exact Nat.le_refl _
 | h1 l c ih =>
  by_cases hc : c = 0
  ·subst hc; rw [trimD_zero, List.length_append]; simp; omega
  ·rw [trimD_last l c hc]; exact Nat.le_refl _
theorem M199_sat (x : List Nat) (hok : okD x = true) (hx : x.length ≤ 1000000000) : (M199 x).sat fun r => r = strA (magB (natV x)) := by
 have hk := okD_trim x hok
 have hl := trimD_len x
 have hv := natV_trim x
 unfold M199
 simp only [u32sOf_el]
 generalize trimD x = y at hk hl hv ⊢
 rw [← hv, ← magN_beB y hk, magB_drop]
 have w4 : IntKind.i64.wrap (4 * ((y.length : Nat) : Int)) = ((4 * y.length : Nat) : Int) := by rw [wrap_i64 (by omega)]; omega
 simp only [w4, u32sOf_el, Int.toNat_natCast, bytesOf_len, bytesOf_byteEl]
 refine sat_need (isU32s_mk hok _) (sat_need (decide_eq_true hx) (sat_ite (fun h => ?_) (fun h => ?_)))
 ·have h := eq_of_beq h
  obtain rfl : y = [] := List.length_eq_zero_iff.1 (by omega)
  exact sat_ret rfl
 ·refine sat_need (by simp) (sat_need (decide_eq_true (by omega)) (sat_need (decide_eq_true (by omega)) (sat_need (decide_eq_true (by omega)) (sat_need (by simp) (sat_need (isU32s_mk hk _) (sat_need ?_ (sat_need ?_ (sat_need (by simp) (sat_need (isBytes_byteEl _ _) (sat_need rfl (sat_ret rfl)))))))))))
  ·exact List.all_eq_true.2 fun _ _ => rfl
  ·simp [hk]; omega
theorem f199_ok : PureOk Tryz.prog 194 K199 := by
 refine pureOk_of_exec_c (L := L199) prog_mixed Γ199_ok (fn := Tryz.f194) (c := codeOf Tryz.f194) (by kernel_rfl) (by kernel_rfl) (callFunc_enter (fn := Tryz.f194) (c := codeOf Tryz.f194) (by kernel_rfl) (by kernel_rfl) (by kernel_rfl)) (N := 1005) f199_loops ?_ ?_
 ·intro args v cs h
  unfold K199 at h
  split at h
  ·cases h; rfl
  ·cases h
 ·intro args v cs h hc
  unfold K199 at h
  split at h
  ·rename_i n el
   cases h
   have h1 : isU32s n el = true := hc (isU32s n el) (by simp)
   have h2 : n ≤ 1000000000 := dec (hc (decide (n ≤ 1000000000)) (by simp))
   obtain ⟨e1, e2⟩ := isU32s_el h1
   have hlen := u32sOf_len n el
   generalize u32sOf n el = l at e1 e2 hlen ⊢
   subst hlen
   refine ⟨[.c (.sl l.length 1 (u32El l))], .cons (Sees.sl e1) .nil, ?_⟩
   have hs := M199_sat l e2 h2
   rw [← M199_eq] at hs
   generalize execFn Tryz.prog Γ199 L199 1005 Tryz.f194 [.c (.sl l.length 1 (u32El l))] = T at hs ⊢
   generalize magB (natV l) = z at hs ⊢
   exact Tr.sat_mono (fun r hr => ⟨by subst hr; rfl, Sees.of_eq hr⟩) hs
  ·cases h
end Go.Vse
set_option maxRecDepth 100000
namespace Go.Vse
open Go.Proofs
structure W222 where
 y : List Nat
 o : List Nat
 c : Int
 n : Int
 i : Int
def head222 (x : W222) : List AV × List (Option Ent) := ([.msl 0 x.y.length 1, .msl 1 x.o.length 1, intA .u64 x.c, intA .i64 x.n, intA .i64 x.i], [some (.arr x.y.length 1 (u32El x.y) 274), some (.arr x.o.length 1 (u32El x.o) 274)])
def take222 : List AV × List (Option Ent) → Option (W222 × List Bool)
 | ([.msl 0 m 1, .msl 1 k 1, .c (.v (.int .u64 c)), .c (.v (.int .i64 n)), .c (.v (.int .i64 i))], [some (.arr m' 1 el 274), some (.arr k' 1 ol 274)]) => some (⟨u32sOf m el, u32sOf k ol, c, n, i⟩, [decide (m = m'), decide (k = k'), isU32s m el, isU32s k ol])
 | _ => none
def lp222 (w : Way W222) : LoopSt W222 W222 where
 nIn := { nt := 84, live := [11, 12, 13, 52, 53] }
 nOut := { nt := 84, live := [11, 12, 13, 52, 53] }
 head := head222
 take := take222
 out := fun r => (.normal, head222 r)
 takeR := fun q => match q with | (.normal, q) => take222 q | _ => none
 res := w.res
 pre := w.pre
theorem take222_ok (q : List AV × List (Option Ent)) (x : W222) (cs : List Bool) (h : take222 q = some (x, cs)) (hc : ∀ p ∈ cs, p) : SeesL q.1 (head222 x).1 ∧ EntsEqv q.2 (head222 x).2 := by
 unfold take222 at h
 split at h
 ·rename_i m k c n i m' el k' ol
  simp only [Option.some.injEq, Prod.mk.injEq] at h
  obtain ⟨rfl, rfl⟩ := h
  have h1 : m = m' := dec (hc (decide (m = m')) (by simp))
  have h2 : k = k' := dec (hc (decide (k = k')) (by simp))
  have h3 : isU32s m el = true := hc (isU32s m el) (by simp)
  have h4 : isU32s k ol = true := hc (isU32s k ol) (by simp)
  subst h1
  subst h2
  simp only [head222, u32sOf_len]
  exact ⟨SeesL.refl _, .cons (.arr _ _ _ _ _ (isU32s_el h3).1) (.cons (.arr _ _ _ _ _ (isU32s_el h4).1) .nil)⟩
 ·cases h
theorem lp222_good (w : Way W222) : (lp222 w).Good2 where
 take := take222_ok
 takeR := by
  intro e q r cs h hc
  cases e with
  | normal => obtain ⟨h1, h2⟩ := take222_ok q r cs h hc; exact ⟨rfl, h1, h2⟩
  | exit j => cases h
  | ret => cases h
 split := fun r Q h => h
abbrev BB : Nat := 4294967296
def carry (X Y i : Nat) : Nat := (X % BB ^ i + Y % BB ^ i) / BB ^ i
def way222 : Way W222 := ⟨fun x => ⟨x.y, u32s (natV x.o + natV x.y) x.o.length, (carry (natV x.o) (natV x.y) x.o.length : Nat), x.n, x.n⟩,
 fun x => decide (x.n = (x.o.length : Nat)) && decide (x.i = 0) && decide (x.c = 0) && okD x.y && okD x.o && decide (x.o.length ≤ 1000000000)⟩
def L222 : Nat → Option (St → Tr (Ex × St)) := fun id => bif Nat.beq id 0 then some ((lp222 way222).g 0) else none
def Γ222 : FuncId → Option Spec := fun f => bif Nat.beq f 189 then some (pureSpec K172) else bif Nat.beq f 192 then some (pureSpec addPure) else bif Nat.beq f 160 then some (pureSpec K174) else
 bif Nat.beq f 193 then some (memSpec K197) else bif Nat.beq f 194 then some (pureSpec K199) else none
end Go.Vse
set_option maxRecDepth 100000
namespace Go.Vse
open Go.Proofs
def step222 (y : List Nat) (o : List Nat) (c : Int) (n : Int) (i : Int) : Tr (W222 ⊕ W222) :=
 let x1 : Int := ↑o.length
 let x2 : Int := ↑y.length
 let x3 : Int := IntKind.u64.wrap (c + IntKind.u64.wrap ↑(o.getD i.toNat 0))
 let x4 : Int := IntKind.u64.wrap (x3 + IntKind.u64.wrap ↑(y.getD i.toNat 0))
 let x5 : List Nat := u32sOf y.length (u32El y)
 let x6 : Int := 2 ^ min (Int.toNat 32) IntKind.u64.bits
 let x7 : Int := IntKind.i64.wrap (i + 1)
 .ite (decide (i < n)) (.need (decide (0 ≤ i ∧ i < x1)) (.need (decide (i.toNat < o.length)) (.ite (decide (i < x2)) (.need (decide (0 ≤ i ∧ i < x2)) (.need (decide (i.toNat < y.length)) (.need true (.need (decide (0 ≤ i ∧ i < x1)) (.need (decide (i.toNat < o.length)) (.need (decide (y.length = y.length)) (.need (decide (o.length = o.length)) (.need (isU32s y.length (u32El y)) (.need (isU32s o.length (spliceE (u32El o) i.toNat 0 [IV.v (Value.int IntKind.u32 (IntKind.u32.wrap x4))].reverse)) (.ret (Sum.inl { y := x5, o := u32sOf o.length (spliceE (u32El o) i.toNat 0 [IV.v (Value.int IntKind.u32 (IntKind.u32.wrap x4))].reverse), c := x4.fdiv x6, n := n, i := x7 }))))))))))) (.need true (.need (decide (0 ≤ i ∧ i < x1)) (.need (decide (i.toNat < o.length)) (.need (decide (y.length = y.length)) (.need (decide (o.length = o.length)) (.need (isU32s y.length (u32El y)) (.need (isU32s o.length (spliceE (u32El o) i.toNat 0 [IV.v (Value.int IntKind.u32 (IntKind.u32.wrap x3))].reverse)) (.ret (Sum.inl { y := x5, o := u32sOf o.length (spliceE (u32El o) i.toNat 0 [IV.v (Value.int IntKind.u32 (IntKind.u32.wrap x3))].reverse), c := x3.fdiv x6, n := n, i := x7 })))))))))))) (.need (decide (y.length = y.length)) (.need (decide (o.length = o.length)) (.need (isU32s y.length (u32El y)) (.need (isU32s o.length (u32El o)) (.ret (Sum.inr { y := x5, o := u32sOf o.length (u32El o), c := c, n := n, i := i }))))))
theorem step222_eq (w : Way W222) (x : W222) : (exec Tryz.prog (fun _ => none) noL 1005 (loopOf 0 (codeOf Tryz.f141)) (mkSt (lp222 w).nIn ((lp222 w).head x))).bind ((lp222 w).fin 0 0) = step222 x.y x.o x.c x.n x.i := by
 obtain ⟨y, o, c, n, i⟩ := x
 kernel_rfl
theorem splice_eq32 (l : List Nat) (k b : Nat) (hk : k < l.length) : spliceE (u32El l) k 0 [IV.v (.int .u32 (b : Int))].reverse = u32El (l.set k b) := by
 funext i
 unfold spliceE
 by_cases h : i = k
 ·subst h
  rw [if_pos rfl]
  simp [u32El, List.getD_eq_getElem?_getD, List.getElem?_set_self hk]
 ·rw [if_neg h]
  simp [u32El, List.getD_eq_getElem?_getD, List.getElem?_set_ne (Ne.symm h)]
theorem natV_lt : ∀ (l : List Nat), okD l = true → natV l < BB ^ l.length
 | [], _ => by simp [natV]
 | d :: l, h => by
   simp only [okD, List.all_cons, Bool.and_eq_true, decide_eq_true_eq] at h
   have := natV_lt l h.2
   rw [natV, List.length_cons, Nat.pow_succ]
   unfold BB at this ⊢
   omega
theorem u32s_natV : ∀ (l : List Nat), okD l = true → u32s (natV l) l.length = l
 | [], _ => rfl
 | d :: l, h => by
  simp only [okD, List.all_cons, Bool.and_eq_true, decide_eq_true_eq] at h
  have ih := u32s_natV l h.2
  have e1 : (d + 4294967296 * natV l) % 4294967296 = d := by omega
  have e2 : (d + 4294967296 * natV l) / 4294967296 = natV l := by omega
  simp only [natV, List.length_cons, u32s, e1, e2, ih]
def mixL (X Z n i : Nat) : List Nat := (List.range n).map fun j => if j < i then Z / BB ^ j % BB else X / BB ^ j % BB
theorem mixL_len (X Z n i : Nat) : (mixL X Z n i).length = n := by simp [mixL]
theorem mixL_get (X Z n i j : Nat) (h : j < n) : (mixL X Z n i).getD j 0 = if j < i then Z / BB ^ j % BB else X / BB ^ j % BB := by
 simp [mixL, List.getD_eq_getElem?_getD, h]
theorem mixL_zero (X Z n : Nat) : mixL X Z n 0 = u32s X n := by
 have := u32s_ext (l := mixL X Z n 0) (v := X) fun j hj => by rw [mixL_len] at hj; rw [mixL_get X Z n 0 j hj]; simp
 rw [mixL_len] at this; exact this
theorem mixL_all (X Z n : Nat) : mixL X Z n n = u32s Z n := by
 have := u32s_ext (l := mixL X Z n n) (v := Z) fun j hj => by rw [mixL_len] at hj; rw [mixL_get X Z n n j hj, if_pos hj]
 rw [mixL_len] at this; exact this
theorem mixL_set (X Z n i : Nat) (h : i < n) : (mixL X Z n i).set i (Z / BB ^ i % BB) = mixL X Z n (i + 1) := by
 apply List.ext_getElem
 ·simp [mixL]
 ·intro j h1 h2
  have hj : j < n := by simpa [mixL] using h2
  by_cases hji : j = i
  ·subst hji
   simp [mixL]
  ·rw [List.getElem_set_ne (by omega)]
   simp only [mixL, List.getElem_map, List.getElem_range]
   by_cases hlt : j < i
   ·rw [if_pos hlt, if_pos (by omega)]
   ·rw [if_neg hlt, if_neg (by omega)]
theorem okD_mixL (X Z n i : Nat) : okD (mixL X Z n i) = true := by
 refine List.all_eq_true.2 fun d hd => ?_
 obtain ⟨j, _, rfl⟩ := List.mem_map.1 hd
 refine decide_eq_true ?_
 split <;> exact Nat.mod_lt _ (by decide)
theorem carry_le (X Y i : Nat) : carry X Y i ≤ 1 := by
 have hp : 0 < BB ^ i := Nat.pow_pos (by decide)
 have h1 := Nat.mod_lt X hp
 have h2 := Nat.mod_lt Y hp
 unfold carry
 have : (X % BB ^ i + Y % BB ^ i) / BB ^ i < 2 := by
  rw [Nat.div_lt_iff_lt_mul hp]; omega
 omega
theorem add_digit (X Y i : Nat) : (X + Y) / BB ^ i % BB = (carry X Y i + X / BB ^ i % BB + Y / BB ^ i % BB) % BB := by
 have hp : 0 < BB ^ i := Nat.pow_pos (by decide)
 have e : (X + Y) / BB ^ i = X / BB ^ i + Y / BB ^ i + carry X Y i := by
  unfold carry
  have h1 := Nat.div_add_mod X (BB ^ i)
  have h2 := Nat.div_add_mod Y (BB ^ i)
  have : X + Y = (X % BB ^ i + Y % BB ^ i) + BB ^ i * (X / BB ^ i + Y / BB ^ i) := by rw [Nat.mul_add]; omega
  rw [this, Nat.add_mul_div_left _ _ hp]
  omega
 rw [e]
 unfold BB
 omega
theorem carry_succ (X Y i : Nat) : carry X Y (i + 1) = (carry X Y i + X / BB ^ i % BB + Y / BB ^ i % BB) / BB := by
 have hp : 0 < BB ^ i := Nat.pow_pos (by decide)
 unfold carry
 rw [Nat.mod_pow_succ, Nat.mod_pow_succ, Nat.pow_succ, ← Nat.div_div_eq_div_mul]
 have e : X % BB ^ i + BB ^ i * (X / BB ^ i % BB) + (Y % BB ^ i + BB ^ i * (Y / BB ^ i % BB)) = (X % BB ^ i + Y % BB ^ i) + BB ^ i * (X / BB ^ i % BB + Y / BB ^ i % BB) := by rw [Nat.mul_add]; omega
 rw [e, Nat.add_mul_div_left _ _ hp, Nat.add_assoc]
theorem dig_zero {Y m i : Nat} (h : Y < BB ^ m) (hi : m ≤ i) : Y / BB ^ i = 0 := by
 have : BB ^ m ≤ BB ^ i := Nat.pow_le_pow_right (by decide) hi
 exact Nat.div_eq_of_lt (by omega)
theorem step222_in (y : List Nat) (hy : okD y = true) (X n i : Nat) (hn : n ≤ 1000000000) (hi : i < n) {R : W222 ⊕ W222 → Prop}
   (hin : R (.inl ⟨y, mixL X (X + natV y) n (i + 1), (carry X (natV y) (i + 1) : Nat), (n : Nat), ((i + 1 : Nat) : Int)⟩)) :
   (step222 y (mixL X (X + natV y) n i) (carry X (natV y) i : Nat) (n : Nat) (i : Nat)).sat R := by
 have hc := carry_le X (natV y) i
 have hYl := natV_lt y hy
 have ho := mixL_get X (X + natV y) n i i hi
 rw [if_neg (Nat.lt_irrefl _)] at ho
 have hox : X / BB ^ i % BB < 4294967296 := Nat.mod_lt _ (by decide)
 have hyx : natV y / BB ^ i % BB < 4294967296 := Nat.mod_lt _ (by decide)
 have hs := mixL_set X (X + natV y) n i hi
 have had := add_digit X (natV y) i
 have hcs := carry_succ X (natV y) i
 have w5 : IntKind.i64.wrap ((i : Int) + 1) = ((i + 1 : Nat) : Int) := by rw [wrap_i64 (by omega)]; omega
 have hyg : y.getD i 0 = natV y / BB ^ i % BB := by
   by_cases hl : i < y.length
   · have := u32s_natV y hy
     rw [← this, u32s_get _ _ _ hl, this]
   · rw [dig_zero hYl (by omega)]
     simp [List.getD_eq_getElem?_getD, List.getElem?_eq_none (Nat.le_of_not_lt hl)]
 have hyz : ¬ i < y.length → natV y / BB ^ i % BB = 0 := fun h => by rw [dig_zero hYl (by omega)]; rfl
 generalize carry X (natV y) i = c at hc had hcs
 generalize carry X (natV y) (i + 1) = c' at hcs hin
 generalize hO : X / BB ^ i % BB = ox at hox ho had hcs
 generalize natV y / BB ^ i % BB = yx at hyx had hcs hyg hyz
 have a1 : IntKind.u64.wrap ((ox : Nat) : Int) = ((ox : Nat) : Int) := by rw [wrap_u64]; omega
 have a2 : IntKind.u64.wrap (((c : Nat) : Int) + ((ox : Nat) : Int)) = ((c + ox : Nat) : Int) := by rw [wrap_u64]; omega
 have a3 : IntKind.u64.wrap ((yx : Nat) : Int) = ((yx : Nat) : Int) := by rw [wrap_u64]; omega
 have a4 : IntKind.u64.wrap (((c + ox : Nat) : Int) + ((yx : Nat) : Int)) = ((c + ox + yx : Nat) : Int) := by rw [wrap_u64]; omega
 have a5 : ∀ z : Nat, IntKind.u32.wrap ((z : Nat) : Int) = ((z % 4294967296 : Nat) : Int) := fun z => by rw [wrap_u32]; omega
 have a6 : ∀ z : Nat, ((z : Nat) : Int).fdiv (2 ^ min (Int.toNat 32) IntKind.u64.bits) = ((z / 4294967296 : Nat) : Int) := fun z => fdiv_nat z 4294967296
 unfold step222
 simp only [Int.toNat_natCast, ho, hyg, w5, a1, a2, a3, a4, a5, a6, mixL_len, u32sOf_el]
 rw [splice_eq32 _ _ _ (by rw [mixL_len]; exact hi), splice_eq32 _ _ _ (by rw [mixL_len]; exact hi)]
 have key : ∀ z : Nat, z = c + ox + yx → u32sOf n (u32El ((mixL X (X + natV y) n i).set i (z % 4294967296))) = mixL X (X + natV y) n (i + 1) ∧ isU32s n (u32El ((mixL X (X + natV y) n i).set i (z % 4294967296))) = true ∧ ((z / 4294967296 : Nat) : Int) = ((c' : Nat) : Int) := by
   intro z hz
   have e1 : z % 4294967296 = (X + natV y) / BB ^ i % BB := by rw [had, hz]
   rw [e1, hs]
   have e2 := u32sOf_el (mixL X (X + natV y) n (i + 1))
   rw [mixL_len] at e2
   refine ⟨e2, isU32s_mk (okD_mixL _ _ _ _) _, ?_⟩
   rw [hcs, hz]
 refine sat_ite (fun _ => sat_need (decide_eq_true (by omega)) (sat_need (decide_eq_true hi) (sat_ite (fun h => ?_) (fun h => ?_)))) (fun h => absurd (show (i : Int) < (n : Nat) by omega) (of_decide_eq_false h))
 · have h := of_decide_eq_true h
   obtain ⟨k1, k2, k3⟩ := key (c + ox + yx) rfl
   rw [k1, k3]
   exact sat_need (decide_eq_true (by omega)) (sat_need (decide_eq_true (by omega)) (sat_need rfl (sat_need (decide_eq_true (by omega)) (sat_need (decide_eq_true hi) (sat_need (by simp) (sat_need (by simp) (sat_need (isU32s_mk hy _) (sat_need k2 (sat_ret hin)))))))))
 · have h := of_decide_eq_false h
   have hz := hyz (by omega)
   obtain ⟨k1, k2, k3⟩ := key (c + ox) (by omega)
   rw [k1, k3]
   exact sat_need rfl (sat_need (decide_eq_true (by omega)) (sat_need (decide_eq_true hi) (sat_need (by simp) (sat_need (by simp) (sat_need (isU32s_mk hy _) (sat_need k2 (sat_ret hin)))))))
theorem runs222 (y : List Nat) (hy : okD y = true) (X n : Nat) (hn : n ≤ 1000000000) (Q : W222 → Prop) (hq : Q ⟨y, u32s (X + natV y) n, (carry X (natV y) n : Nat), (n : Nat), (n : Nat)⟩) : ∀ (k i : Nat), i + k = n →
  RunsX (fun x : W222 => step222 x.y x.o x.c x.n x.i) Q (k + 1) ⟨y, mixL X (X + natV y) n i, (carry X (natV y) i : Nat), (n : Nat), (i : Nat)⟩
 | 0, i, hi => by
  obtain rfl : i = n := by omega
  rw [mixL_all]
  unfold RunsX
  change Tr.sat _ (step222 y (u32s (X + natV y) i) (carry X (natV y) i : Nat) (i : Nat) (i : Nat))
  have e := u32sOf_el (u32s (X + natV y) i)
  unfold step222
  rw [e, u32sOf_el]
  exact sat_ite (fun h => absurd (of_decide_eq_true h) (Int.lt_irrefl _)) (fun _ => sat_need (by simp) (sat_need (by simp) (sat_need (isU32s_mk hy _) (sat_need (isU32s_mk (okD_u32s _ _) _) (sat_ret hq)))))
 | k + 1, i, hi => step222_in y hy X n i hn (by omega) (runs222 y hy X n hn Q hq k (i + 1) (by omega))
theorem f222_loops : BlocksOk Tryz.prog 0 L222 (codeOf Tryz.f141) := by
 refine one_blocks (N := 1005) (L' := noL) noΓ_ok (blocksOk_none 0 _) (lp222_good _) (step222_eq way222) ?_
 rintro ⟨y, o, c, n, i⟩ hx
 have hx : way222.pre ⟨y, o, c, n, i⟩ = true := hx
 simp only [way222, Bool.and_eq_true, decide_eq_true_eq] at hx
 obtain ⟨⟨⟨⟨⟨rfl, rfl⟩, rfl⟩, h4⟩, h5⟩, h6⟩ := hx
 have := runs222 y h4 (natV o) o.length h6 (· = way222.res ⟨y, o, 0, (o.length : Nat), 0⟩) rfl o.length 0 (by omega)
 rw [mixL_zero, u32s_natV o h5] at this
 have c0 : carry (natV o) (natV y) 0 = 0 := by simp [carry, Nat.mod_one]
 rw [c0] at this
 exact ⟨_, this⟩
end Go.Vse
set_option maxRecDepth 100000
namespace Go.Vse
open Go.Proofs
def M222 (a : ByteArray) (b : ByteArray) : Tr AV :=
 let x1 : Nat := (wordV a).toNat + (wordV b).toNat + Int.toNat 0
 let x2 : Int := ↑(x1 % Extern.MathBitsCarry.m64)
 let x3 : List UInt8 := a.data.toList
 let x4 : List UInt8 := b.data.toList
 let x5 : Int := ↑(nDig x3.length)
 let x6 : Int := ↑(nDig x4.length)
 let x7 : Int := IntKind.i64.wrap (x6 + 1)
 let x8 : Int := ((4 : Nat) : Int)
 let x9 : Int := x8 * x7
 let x10 : Nat := x7.toNat
 let x11 : List Nat := u32s (magN x3) (nDig x3.length)
 let x12 : Nat := min (nDig x4.length) x10
 let x13 : List Nat := u32s (magN x4) (nDig x4.length)
 let x14 : List IV := List.map IV.v [Value.int IntKind.u32 0]
 let x15 : Int := ↑x10
 let x16 : List Nat := u32sOf x10 fun i => if i < x12 then u32El x13 i else x14
 let x17 : Nat := x16.length
 let x18 : Int := ↑x17
 let x19 : List Nat := u32sOf (nDig x3.length) (u32El x11)
 let x20 : List Nat := u32s (natV x16 + natV x19) x17
 let x21 : Nat := x20.length
 let x22 : Int := IntKind.i64.wrap (x5 + 1)
 let x23 : Int := x8 * x22
 let x24 : Nat := x22.toNat
 let x25 : Nat := min (nDig x3.length) x24
 let x26 : Int := ↑x24
 let x27 : List Nat := u32sOf x24 fun i => if i < x25 then u32El x11 i else x14
 let x28 : Nat := x27.length
 let x29 : Int := ↑x28
 let x30 : List Nat := u32sOf (nDig x4.length) (u32El x13)
 let x31 : List Nat := u32s (natV x27 + natV x30) x28
 let x32 : Nat := x31.length
 .ite (wordB a && wordB b) (.need true (.ite (((x1 / Extern.MathBitsCarry.m64 : Nat) : Int) == 0) (.need (u64B x2) (.ret (.c (.v (.string ⟨⟨magB x2.toNat⟩⟩))))) (.need (decide (x3.length ≤ 1000000000)) (.need (decide (x4.length ≤ 1000000000)) (.ite (decide (x5 < x6)) (.need (decide (x7 = x7)) (.need (decide (0 ≤ x7)) (.need (decide (x7 ≤ 9223372036854775807)) (.need (decide (x9 ≤ 140737488355328)) (.need (decide (x10 ≤ x10)) (.need (decide (nDig x4.length ≤ nDig x4.length)) (.need (decide (nDig x3.length = nDig x3.length)) (.need (decide (x10 = x10)) (.need (isU32s (nDig x3.length) (u32El x11)) (.need (isU32s x10 fun i => if i < x12 then u32El x13 i else x14) (.need (decide (x15 = x18) && decide ((0 : Int) = 0) && decide ((0 : Int) = 0) && okD x19 && okD x16 && decide (x17 ≤ 1000000000)) (.need (decide (x21 ≤ x21)) (.need (isU32s x21 (u32El x20)) (.need (decide (x21 ≤ 1000000000)) (.ret (.c (.v (.string ⟨⟨magB (natV (u32sOf x21 (u32El x20)))⟩⟩)))))))))))))))))) (.need (decide (x22 = x22)) (.need (decide (0 ≤ x22)) (.need (decide (x22 ≤ 9223372036854775807)) (.need (decide (x23 ≤ 140737488355328)) (.need (decide (x24 ≤ x24)) (.need (decide (nDig x3.length ≤ nDig x3.length)) (.need (decide (nDig x4.length = nDig x4.length)) (.need (decide (x24 = x24)) (.need (isU32s (nDig x4.length) (u32El x13)) (.need (isU32s x24 fun i => if i < x25 then u32El x11 i else x14) (.need (decide (x26 = x29) && decide ((0 : Int) = 0) && decide ((0 : Int) = 0) && okD x30 && okD x27 && decide (x28 ≤ 1000000000)) (.need (decide (x32 ≤ x32)) (.need (isU32s x32 (u32El x31)) (.need (decide (x32 ≤ 1000000000)) (.ret (.c (.v (.string ⟨⟨magB (natV (u32sOf x32 (u32El x31)))⟩⟩))))))))))))))))))))))) (.need (decide (x3.length ≤ 1000000000)) (.need (decide (x4.length ≤ 1000000000)) (.ite (decide (x5 < x6)) (.need (decide (x7 = x7)) (.need (decide (0 ≤ x7)) (.need (decide (x7 ≤ 9223372036854775807)) (.need (decide (x9 ≤ 140737488355328)) (.need (decide (x10 ≤ x10)) (.need (decide (nDig x4.length ≤ nDig x4.length)) (.need (decide (nDig x3.length = nDig x3.length)) (.need (decide (x10 = x10)) (.need (isU32s (nDig x3.length) (u32El x11)) (.need (isU32s x10 fun i => if i < x12 then u32El x13 i else x14) (.need (decide (x15 = x18) && decide ((0 : Int) = 0) && decide ((0 : Int) = 0) && okD x19 && okD x16 && decide (x17 ≤ 1000000000)) (.need (decide (x21 ≤ x21)) (.need (isU32s x21 (u32El x20)) (.need (decide (x21 ≤ 1000000000)) (.ret (.c (.v (.string ⟨⟨magB (natV (u32sOf x21 (u32El x20)))⟩⟩)))))))))))))))))) (.need (decide (x22 = x22)) (.need (decide (0 ≤ x22)) (.need (decide (x22 ≤ 9223372036854775807)) (.need (decide (x23 ≤ 140737488355328)) (.need (decide (x24 ≤ x24)) (.need (decide (nDig x3.length ≤ nDig x3.length)) (.need (decide (nDig x4.length = nDig x4.length)) (.need (decide (x24 = x24)) (.need (isU32s (nDig x4.length) (u32El x13)) (.need (isU32s x24 fun i => if i < x25 then u32El x11 i else x14) (.need (decide (x26 = x29) && decide ((0 : Int) = 0) && decide ((0 : Int) = 0) && okD x30 && okD x27 && decide (x28 ≤ 1000000000)) (.need (decide (x32 ≤ x32)) (.need (isU32s x32 (u32El x31)) (.need (decide (x32 ≤ 1000000000)) (.ret (.c (.v (.string ⟨⟨magB (natV (u32sOf x32 (u32El x31)))⟩⟩)))))))))))))))))))))
theorem M222_eq (a b : ByteArray) : execFn Tryz.prog Γ222 L222 1005 Tryz.f141 [.c (.v (.string a)), .c (.v (.string b))] = M222 a b := by kernel_rfl
end Go.Vse
set_option maxRecDepth 100000
namespace Go.Vse
open Go.Proofs
theorem pad_eq (v k : Nat) : u32sOf (k + 1) (fun i => if i < k then u32El (u32s v k) i else List.map IV.v [Value.int IntKind.u32 0]) = u32s v k ++ [0] := by
 apply List.ext_getElem
 ·simp [u32sOf, u32s_len]
 ·intro i h1 h2
  have hi : i < k + 1 := by simpa [u32sOf] using h1
  by_cases hk : i < k
  ·have hl : i < (u32s v k).length := by rw [u32s_len]; exact hk
   simp [u32sOf, hk, u32El, u32Of, List.getD_eq_getElem?_getD, hl, List.getElem_append_left hl]
  ·obtain rfl : i = k := by omega
   simp [u32sOf, u32Of, List.getElem_append_right, u32s_len]
theorem pad_ok (v k : Nat) : isU32s (k + 1) (fun i => if i < k then u32El (u32s v k) i else List.map IV.v [Value.int IntKind.u32 0]) = true := by
 refine List.all_eq_true.2 fun i hi => ?_
 dsimp only
 split
 ·rename_i h
  exact List.all_eq_true.1 (isU32s_mk (okD_u32s k v) k) i (List.mem_range.2 h)
 ·rfl
theorem natV_pad (v k : Nat) (h : v < BB ^ k) : natV (u32s v k ++ [0]) = v := by rw [natV_snoc0, natV_u32s k v h]
theorem okD_pad (v k : Nat) : okD (u32s v k ++ [0]) = true := by rw [okD_append, okD_u32s]; rfl
theorem mag_dig (s : ByteArray) : magN s.data.toList < BB ^ nDig s.data.toList.length := by
 have h1 := magN_lt s.data.toList
 have h2 : 256 ^ s.data.toList.length ≤ 256 ^ (4 * nDig s.data.toList.length) := Nat.pow_le_pow_right (by decide) (by unfold nDig; omega)
 have h3 : (256 : Nat) ^ (4 * nDig s.data.toList.length) = BB ^ nDig s.data.toList.length := by
  rw [Nat.pow_mul]
 omega
theorem sum_lt {u v k l : Nat} (hu : u < BB ^ k) (hv : v < BB ^ l) (h : l ≤ k) : u + v < BB ^ (k + 1) := by
 have : BB ^ l ≤ BB ^ k := Nat.pow_le_pow_right (by decide) h
 rw [Nat.pow_succ]
 unfold BB at *
 omega
def K222 : List AV → Option (AV × List Bool)
 | [.c (.v (.string a)), .c (.v (.string b))] => some (strA (magB (magN a.data.toList + magN b.data.toList)), [decide (a.data.toList.length ≤ 100000000), decide (b.data.toList.length ≤ 100000000)])
 | _ => none
theorem M222_sat (a b : ByteArray) (ha : a.data.toList.length ≤ 100000000) (hb : b.data.toList.length ≤ 100000000) : (M222 a b).sat fun r => r = strA (magB (magN a.data.toList + magN b.data.toList)) := by
 have la := mag_dig a
 have lb := mag_dig b
 have na : nDig a.data.toList.length ≤ 25000001 := by unfold nDig; omega
 have nb : nDig b.data.toList.length ≤ 25000001 := by unfold nDig; omega
 have wa : IntKind.i64.wrap (((nDig a.data.toList.length : Nat) : Int) + 1) = ((nDig a.data.toList.length + 1 : Nat) : Int) := by rw [wrap_i64 (by omega)]; omega
 have wb : IntKind.i64.wrap (((nDig b.data.toList.length : Nat) : Int) + 1) = ((nDig b.data.toList.length + 1 : Nat) : Int) := by rw [wrap_i64 (by omega)]; omega
 have ma : min (nDig a.data.toList.length) (nDig a.data.toList.length + 1) = nDig a.data.toList.length := by omega
 have mb : min (nDig b.data.toList.length) (nDig b.data.toList.length + 1) = nDig b.data.toList.length := by omega
 have ea : u32sOf (nDig a.data.toList.length) (u32El (u32s (magN a.data.toList) (nDig a.data.toList.length))) = u32s (magN a.data.toList) (nDig a.data.toList.length) := by
  have := u32sOf_el (u32s (magN a.data.toList) (nDig a.data.toList.length)); rw [u32s_len] at this; exact this
 have eb : u32sOf (nDig b.data.toList.length) (u32El (u32s (magN b.data.toList) (nDig b.data.toList.length))) = u32s (magN b.data.toList) (nDig b.data.toList.length) := by
  have := u32sOf_el (u32s (magN b.data.toList) (nDig b.data.toList.length)); rw [u32s_len] at this; exact this
 have lpa : (u32s (magN a.data.toList) (nDig a.data.toList.length) ++ [0]).length = nDig a.data.toList.length + 1 := by simp [u32s_len]
 have lpb : (u32s (magN b.data.toList) (nDig b.data.toList.length) ++ [0]).length = nDig b.data.toList.length + 1 := by simp [u32s_len]
 have hv : ∀ s : ByteArray, wordB s = true → (wordV s).toNat = magN s.data.toList := fun s hs => by
  have : s.data.toList.length ≤ 8 := of_decide_eq_true hs
  unfold wordV
  rw [if_pos this, Int.toNat_natCast]
 have m64 : Extern.MathBitsCarry.m64 = 18446744073709551616 := by rfl
 have z0 : Int.toNat 0 = 0 := rfl
 unfold M222
 simp only [wa, wb, Int.toNat_natCast, ma, mb, ea, eb, pad_eq, lpa, lpb, natV_pad _ _ la, natV_pad _ _ lb, natV_u32s _ _ la, natV_u32s _ _ lb, u32s_len, m64, z0, Nat.add_zero]
 have efa := u32sOf_el (u32s (magN a.data.toList + magN b.data.toList) (nDig a.data.toList.length + 1))
 have efb := u32sOf_el (u32s (magN b.data.toList + magN a.data.toList) (nDig b.data.toList.length + 1))
 rw [u32s_len] at efa efb
 simp only [efa, efb]
 refine sat_ite (fun hw => sat_need rfl (sat_ite (fun h0 => ?_) (fun h0 => ?g1))) (fun hw => ?g2)
 ·rw [Bool.and_eq_true] at hw
  rw [hv a hw.1, hv b hw.2] at h0 ⊢
  have h0 := eq_of_beq h0
  have hlt : magN a.data.toList + magN b.data.toList < 18446744073709551616 := by omega
  rw [Nat.mod_eq_of_lt hlt]
  exact sat_need (by simp [u64B]; omega) (sat_ret rfl)
 all_goals
  refine sat_need (decide_eq_true (by omega)) (sat_need (decide_eq_true (by omega)) (sat_ite (fun hc => ?_) (fun hc => ?_)))
  ·have hc := of_decide_eq_true hc
   have hs := sum_lt lb la (by omega)
   rw [natV_u32s _ _ hs, Nat.add_comm (magN b.data.toList)]
   refine sat_need (by simp) (sat_need (decide_eq_true (by omega)) (sat_need (decide_eq_true (by omega)) (sat_need (decide_eq_true (by omega)) (sat_need (by simp) (sat_need (by simp) (sat_need (by simp) (sat_need (by simp) (sat_need (isU32s_mk (okD_u32s _ _) _) (sat_need (pad_ok _ _) (sat_need ?_ (sat_need (by simp) (sat_need ?_ (sat_need (decide_eq_true (by omega)) (sat_ret rfl))))))))))))))
   ·have q1 := na; have q2 := nb; simp [okD_pad, okD_u32s] at q1 q2 ⊢; omega
   ·exact isU32s_mk (okD_u32s _ _) _
  ·have hc := of_decide_eq_false hc
   have hs := sum_lt la lb (by omega)
   rw [natV_u32s _ _ hs]
   refine sat_need (by simp) (sat_need (decide_eq_true (by omega)) (sat_need (decide_eq_true (by omega)) (sat_need (decide_eq_true (by omega)) (sat_need (by simp) (sat_need (by simp) (sat_need (by simp) (sat_need (by simp) (sat_need (isU32s_mk (okD_u32s _ _) _) (sat_need (pad_ok _ _) (sat_need ?_ (sat_need (by simp) (sat_need ?_ (sat_need (decide_eq_true (by omega)) (sat_ret rfl))))))))))))))
   ·have q1 := na; have q2 := nb; simp [okD_pad, okD_u32s] at q1 q2 ⊢; omega
   ·exact isU32s_mk (okD_u32s _ _) _
theorem add_ext : ExtOk Tryz.prog 192 addExt := ⟨Tryz.f192, by kernel_rfl, by kernel_rfl, by kernel_rfl, by kernel_rfl, by kernel_rfl⟩
theorem Γ222_ok : ∀ f s, Γ222 f = some s → SpecOk Tryz.prog f s := step_ok f172_ok.spec (step_ok (add_ok add_ext).spec (step_ok f174_ok.spec (step_ok f197_ok.spec (one_ok f199_ok.spec))))
theorem f222_ok : PureOk Tryz.prog 141 K222 := by
 refine poL (N := 1005) Γ222_ok f222_loops (fn := Tryz.f141) ?_ ?_
 ·intro args v cs h
  unfold K222 at h
  split at h
  ·cases h; rfl
  ·cases h
 ·intro args v cs h hc
  unfold K222 at h
  split at h
  ·rename_i a b
   cases h
   have h1 : a.data.toList.length ≤ 100000000 := dec (hc (decide (a.data.toList.length ≤ 100000000)) (by simp))
   have h2 : b.data.toList.length ≤ 100000000 := dec (hc (decide (b.data.toList.length ≤ 100000000)) (by simp))
   have hs := M222_sat a b h1 h2
   rw [← M222_eq] at hs
   generalize execFn Tryz.prog Γ222 L222 1005 Tryz.f141 [.c (.v (.string a)), .c (.v (.string b))] = T at hs ⊢
   generalize magB (magN a.data.toList + magN b.data.toList) = z at hs ⊢
   exact Tr.sat_mono (fun r hr => ⟨by subst hr; rfl, Sees.of_eq hr⟩) hs
  ·cases h
end Go.Vse
set_option maxRecDepth 100000
namespace Go.Vse
open Go.Proofs
structure W223 where
 y : List Nat
 o : List Nat
 c : Int
 n : Int
 i : Int
def head223 (x : W223) : List AV × List (Option Ent) := ([.msl 0 x.y.length 1, .msl 1 x.o.length 1, intA .i64 x.c, intA .i64 x.n, intA .i64 x.i], [some (.arr x.y.length 1 (u32El x.y) 274), some (.arr x.o.length 1 (u32El x.o) 274)])
def take223 : List AV × List (Option Ent) → Option (W223 × List Bool)
 | ([.msl 0 m 1, .msl 1 k 1, .c (.v (.int .i64 c)), .c (.v (.int .i64 n)), .c (.v (.int .i64 i))], [some (.arr m' 1 el 274), some (.arr k' 1 ol 274)]) => some (⟨u32sOf m el, u32sOf k ol, c, n, i⟩, [decide (m = m'), decide (k = k'), isU32s m el, isU32s k ol])
 | _ => none
def lp223 (w : Way W223) : LoopSt W223 W223 where
 nIn := { nt := 71, live := [9, 10, 11, 37, 38] }
 nOut := { nt := 71, live := [9, 10, 11, 37, 38] }
 head := head223
 take := take223
 out := fun r => (.normal, head223 r)
 takeR := fun q => match q with | (.normal, q) => take223 q | _ => none
 res := w.res
 pre := w.pre
theorem take223_ok (q : List AV × List (Option Ent)) (x : W223) (cs : List Bool) (h : take223 q = some (x, cs)) (hc : ∀ p ∈ cs, p) : SeesL q.1 (head223 x).1 ∧ EntsEqv q.2 (head223 x).2 := by
 unfold take223 at h
 split at h
 ·rename_i m k c n i m' el k' ol
  simp only [Option.some.injEq, Prod.mk.injEq] at h
  obtain ⟨rfl, rfl⟩ := h
  have h1 : m = m' := dec (hc (decide (m = m')) (by simp))
  have h2 : k = k' := dec (hc (decide (k = k')) (by simp))
  have h3 : isU32s m el = true := hc (isU32s m el) (by simp)
  have h4 : isU32s k ol = true := hc (isU32s k ol) (by simp)
  subst h1
  subst h2
  simp only [head223, u32sOf_len]
  exact ⟨SeesL.refl _, .cons (.arr _ _ _ _ _ (isU32s_el h3).1) (.cons (.arr _ _ _ _ _ (isU32s_el h4).1) .nil)⟩
 ·cases h
theorem lp223_good (w : Way W223) : (lp223 w).Good2 where
 take := take223_ok
 takeR := by
  intro e q r cs h hc
  cases e with
  | normal => obtain ⟨h1, h2⟩ := take223_ok q r cs h hc; exact ⟨rfl, h1, h2⟩
  | exit j => cases h
  | ret => cases h
 split := fun r Q h => h
def borrow (X Y i : Nat) : Nat := if X % BB ^ i < Y % BB ^ i then 1 else 0
def way223 : Way W223 := ⟨fun x => ⟨x.y, u32s (natV x.o - natV x.y) x.o.length, (borrow (natV x.o) (natV x.y) x.o.length : Nat), x.n, x.n⟩,
 fun x => decide (x.n = (x.o.length : Nat)) && decide (x.i = 0) && decide (x.c = 0) && okD x.y && okD x.o && decide (x.o.length ≤ 1000000000) && decide (natV x.y ≤ natV x.o)⟩
def L223 : Nat → Option (St → Tr (Ex × St)) := fun id => bif Nat.beq id 0 then some ((lp223 way223).g 0) else none
def Γ223 : FuncId → Option Spec := fun f => bif Nat.beq f 189 then some (pureSpec K172) else bif Nat.beq f 160 then some (pureSpec K174) else
 bif Nat.beq f 193 then some (memSpec K197) else bif Nat.beq f 194 then some (pureSpec K199) else none
def K223 : List AV → Option (AV × List Bool)
 | [.c (.v (.string a)), .c (.v (.string b))] => some (strA (magB (magN a.data.toList - magN b.data.toList)), [decide (a.data.toList.length ≤ 100000000), decide (b.data.toList.length ≤ 100000000), decide (magN b.data.toList ≤ magN a.data.toList)])
 | _ => none
end Go.Vse
set_option maxRecDepth 100000
namespace Go.Vse
open Go.Proofs
def step223 (y : List Nat) (o : List Nat) (c : Int) (n : Int) (i : Int) : Tr (W223 ⊕ W223) :=
 let x1 : Int := ↑o.length
 let x2 : Int := ↑y.length
 let x3 : Int := IntKind.i64.wrap (IntKind.i64.wrap ↑(o.getD i.toNat 0) - c)
 let x4 : Int := IntKind.i64.wrap (x3 - IntKind.i64.wrap ↑(y.getD i.toNat 0))
 let x5 : List Nat := u32sOf y.length (u32El y)
 let x6 : Int := IntKind.i64.wrap (i + 1)
 .ite (decide (i < n)) (.need (decide (0 ≤ i ∧ i < x1)) (.need (decide (i.toNat < o.length)) (.ite (decide (i < x2)) (.need (decide (0 ≤ i ∧ i < x2)) (.need (decide (i.toNat < y.length)) (.ite (decide (x4 < 0)) (.need (decide (0 ≤ i ∧ i < x1)) (.need (decide (i.toNat < o.length)) (.need (decide (y.length = y.length)) (.need (decide (o.length = o.length)) (.need (isU32s y.length (u32El y)) (.need (isU32s o.length (spliceE (u32El o) i.toNat 0 [IV.v (Value.int IntKind.u32 (IntKind.u32.wrap (IntKind.i64.wrap (x4 + 4294967296))))].reverse)) (.ret (Sum.inl { y := x5, o := u32sOf o.length (spliceE (u32El o) i.toNat 0 [IV.v (Value.int IntKind.u32 (IntKind.u32.wrap (IntKind.i64.wrap (x4 + 4294967296))))].reverse), c := 1, n := n, i := x6 })))))))) (.need (decide (0 ≤ i ∧ i < x1)) (.need (decide (i.toNat < o.length)) (.need (decide (y.length = y.length)) (.need (decide (o.length = o.length)) (.need (isU32s y.length (u32El y)) (.need (isU32s o.length (spliceE (u32El o) i.toNat 0 [IV.v (Value.int IntKind.u32 (IntKind.u32.wrap x4))].reverse)) (.ret (Sum.inl { y := x5, o := u32sOf o.length (spliceE (u32El o) i.toNat 0 [IV.v (Value.int IntKind.u32 (IntKind.u32.wrap x4))].reverse), c := 0, n := n, i := x6 }))))))))))) (.ite (decide (x3 < 0)) (.need (decide (0 ≤ i ∧ i < x1)) (.need (decide (i.toNat < o.length)) (.need (decide (y.length = y.length)) (.need (decide (o.length = o.length)) (.need (isU32s y.length (u32El y)) (.need (isU32s o.length (spliceE (u32El o) i.toNat 0 [IV.v (Value.int IntKind.u32 (IntKind.u32.wrap (IntKind.i64.wrap (x3 + 4294967296))))].reverse)) (.ret (Sum.inl { y := x5, o := u32sOf o.length (spliceE (u32El o) i.toNat 0 [IV.v (Value.int IntKind.u32 (IntKind.u32.wrap (IntKind.i64.wrap (x3 + 4294967296))))].reverse), c := 1, n := n, i := x6 })))))))) (.need (decide (0 ≤ i ∧ i < x1)) (.need (decide (i.toNat < o.length)) (.need (decide (y.length = y.length)) (.need (decide (o.length = o.length)) (.need (isU32s y.length (u32El y)) (.need (isU32s o.length (spliceE (u32El o) i.toNat 0 [IV.v (Value.int IntKind.u32 (IntKind.u32.wrap x3))].reverse)) (.ret (Sum.inl { y := x5, o := u32sOf o.length (spliceE (u32El o) i.toNat 0 [IV.v (Value.int IntKind.u32 (IntKind.u32.wrap x3))].reverse), c := 0, n := n, i := x6 })))))))))))) (.need (decide (y.length = y.length)) (.need (decide (o.length = o.length)) (.need (isU32s y.length (u32El y)) (.need (isU32s o.length (u32El o)) (.ret (Sum.inr { y := x5, o := u32sOf o.length (u32El o), c := c, n := n, i := i }))))))
theorem step223_eq (w : Way W223) (x : W223) : (exec Tryz.prog (fun _ => none) noL 1005 (loopOf 0 (codeOf Tryz.f143)) (mkSt (lp223 w).nIn ((lp223 w).head x))).bind ((lp223 w).fin 0 0) = step223 x.y x.o x.c x.n x.i := by
 obtain ⟨y, o, c, n, i⟩ := x
 kernel_rfl
theorem borrow_le (X Y i : Nat) : borrow X Y i ≤ 1 := by unfold borrow; split <;> omega
theorem sub_div (X Y i : Nat) (h : Y ≤ X) : (X - Y) / BB ^ i + Y / BB ^ i + borrow X Y i = X / BB ^ i := by
 have hp : 0 < BB ^ i := Nat.pow_pos (by decide)
 have h1 := Nat.div_add_mod X (BB ^ i)
 have h2 := Nat.div_add_mod Y (BB ^ i)
 have h3 := Nat.mod_lt X hp
 have h4 := Nat.mod_lt Y hp
 unfold borrow
 generalize hP : BB ^ i = P at *
 have hle : Y / P ≤ X / P := Nat.div_le_div_right h
 by_cases hb : X % P < Y % P
 ·rw [if_pos hb]
  have hlt : Y / P < X / P := by
   rcases Nat.lt_or_ge (Y / P) (X / P) with h | h
   ·exact h
   ·have he : Y / P = X / P := by omega
    rw [he] at h2; omega
  obtain ⟨k, hk⟩ : ∃ k, X / P = Y / P + (k + 1) := ⟨X / P - Y / P - 1, by omega⟩
  have e : X - Y = (P + X % P - Y % P) + P * k := by
   rw [hk, Nat.mul_add, Nat.mul_add] at h1; omega
  rw [e, Nat.add_mul_div_left _ _ hp, Nat.div_eq_of_lt (show P + X % P - Y % P < P by omega)]
  omega
 ·rw [if_neg hb]
  obtain ⟨k, hk⟩ : ∃ k, X / P = Y / P + k := ⟨X / P - Y / P, by omega⟩
  have e : X - Y = (X % P - Y % P) + P * k := by
   rw [hk, Nat.mul_add] at h1; omega
  rw [e, Nat.add_mul_div_left _ _ hp, Nat.div_eq_of_lt (show X % P - Y % P < P by omega)]
  omega
theorem sub_digit (X Y i : Nat) (h : Y ≤ X) : (X - Y) / BB ^ i % BB = (X / BB ^ i % BB + BB - borrow X Y i - Y / BB ^ i % BB) % BB := by
 have e := sub_div X Y i h
 have hb := borrow_le X Y i
 generalize (X - Y) / BB ^ i = a at *
 generalize X / BB ^ i = x at *
 generalize Y / BB ^ i = y at *
 unfold BB
 omega
theorem borrow_succ (X Y i : Nat) : borrow X Y (i + 1) = if X / BB ^ i % BB < borrow X Y i + Y / BB ^ i % BB then 1 else 0 := by
 have hp : 0 < BB ^ i := Nat.pow_pos (by decide)
 have h3 := Nat.mod_lt X hp
 have h4 := Nat.mod_lt Y hp
 unfold borrow
 rw [Nat.mod_pow_succ, Nat.mod_pow_succ]
 generalize X / BB ^ i % BB = x
 generalize Y / BB ^ i % BB = y
 generalize X % BB ^ i = X' at *
 generalize Y % BB ^ i = Y' at *
 generalize BB ^ i = P at *
 have key : X' + P * x < Y' + P * y ↔ x < (if X' < Y' then 1 else 0) + y := by
  rcases Nat.lt_trichotomy x y with h | h | h
  ·obtain ⟨k, rfl⟩ : ∃ k, y = x + (k + 1) := ⟨y - x - 1, by omega⟩
   have : P * (x + (k + 1)) = P * x + P * k + P := by rw [Nat.mul_add, Nat.mul_add]; omega
   constructor
   ·intro _; split <;> omega
   ·intro _; rw [this]; omega
  ·subst h
   split <;> constructor <;> omega
  ·obtain ⟨k, rfl⟩ : ∃ k, x = y + (k + 1) := ⟨x - y - 1, by omega⟩
   have : P * (y + (k + 1)) = P * y + P * k + P := by rw [Nat.mul_add, Nat.mul_add]; omega
   rw [this]
   constructor
   ·intro _; omega
   ·intro hh; split at hh <;> omega
 by_cases hc : X' + P * x < Y' + P * y
 ·rw [if_pos hc, if_pos (key.1 hc)]
 ·rw [if_neg hc, if_neg (fun h => hc (key.2 h))]
theorem step223_in (y : List Nat) (hy : okD y = true) (X n i : Nat) (hX : natV y ≤ X) (hn : n ≤ 1000000000) (hi : i < n) {R : W223 ⊕ W223 → Prop}
  (hin : R (.inl ⟨y, mixL X (X - natV y) n (i + 1), (borrow X (natV y) (i + 1) : Nat), (n : Nat), ((i + 1 : Nat) : Int)⟩)) :
  (step223 y (mixL X (X - natV y) n i) (borrow X (natV y) i : Nat) (n : Nat) (i : Nat)).sat R := by
 have hc := borrow_le X (natV y) i
 have hYl := natV_lt y hy
 have ho := mixL_get X (X - natV y) n i i hi
 rw [if_neg (Nat.lt_irrefl _)] at ho
 have hox : X / BB ^ i % BB < 4294967296 := Nat.mod_lt _ (by decide)
 have hyx : natV y / BB ^ i % BB < 4294967296 := Nat.mod_lt _ (by decide)
 have hs := mixL_set X (X - natV y) n i hi
 have had := sub_digit X (natV y) i hX
 have hcs := borrow_succ X (natV y) i
 have w5 : IntKind.i64.wrap ((i : Int) + 1) = ((i + 1 : Nat) : Int) := by rw [wrap_i64 (by omega)]; omega
 have hyg : y.getD i 0 = natV y / BB ^ i % BB := by
  by_cases hl : i < y.length
  ·have := u32s_natV y hy
   rw [← this, u32s_get _ _ _ hl, this]
  ·rw [dig_zero hYl (by omega)]
   simp [List.getD_eq_getElem?_getD, List.getElem?_eq_none (Nat.le_of_not_lt hl)]
 have hyz : ¬ i < y.length → natV y / BB ^ i % BB = 0 := fun h => by rw [dig_zero hYl (by omega)]; rfl
 generalize borrow X (natV y) i = c at hc had hcs
 generalize borrow X (natV y) (i + 1) = c' at hcs hin
 generalize hO : X / BB ^ i % BB = ox at hox ho had hcs
 generalize natV y / BB ^ i % BB = yx at hyx had hcs hyg hyz
 have a1 : IntKind.i64.wrap ((ox : Nat) : Int) = ((ox : Nat) : Int) := wrap_i64 (by omega)
 have a2 : IntKind.i64.wrap (((ox : Nat) : Int) - ((c : Nat) : Int)) = ((ox : Nat) : Int) - ((c : Nat) : Int) := wrap_i64 (by omega)
 have a3 : IntKind.i64.wrap ((yx : Nat) : Int) = ((yx : Nat) : Int) := wrap_i64 (by omega)
 have a4 : IntKind.i64.wrap (((ox : Nat) : Int) - ((c : Nat) : Int) - ((yx : Nat) : Int)) = ((ox : Nat) : Int) - ((c : Nat) : Int) - ((yx : Nat) : Int) := wrap_i64 (by omega)
 unfold step223
 simp only [Int.toNat_natCast, ho, hyg, w5, a1, a2, a3, a4, mixL_len, u32sOf_el]
 have e2 := u32sOf_el (mixL X (X - natV y) n (i + 1))
 rw [mixL_len] at e2
 have key : ∀ (z : Int) (b : Nat), z = (((ox + BB - c - yx) % BB : Nat) : Int) → b = c' →
   Tr.sat R (Tr.need (isU32s n (spliceE (u32El (mixL X (X - natV y) n i)) i 0 [IV.v (.int .u32 z)].reverse)) (Tr.ret (Sum.inl ⟨y, u32sOf n (spliceE (u32El (mixL X (X - natV y) n i)) i 0 [IV.v (.int .u32 z)].reverse), (b : Nat), (n : Nat), ((i + 1 : Nat) : Int)⟩))) := by
  intro z b hz hb
  subst hz hb
  rw [splice_eq32 _ _ _ (by rw [mixL_len]; exact hi), ← had, hs, e2]
  exact sat_need (isU32s_mk (okD_mixL _ _ _ _) _) (sat_ret hin)
 unfold BB at key
 have k1 : ∀ d : Int, d = ((ox : Nat) : Int) - c - yx → d < 0 → IntKind.u32.wrap (IntKind.i64.wrap (d + 4294967296)) = (((ox + 4294967296 - c - yx) % 4294967296 : Nat) : Int) ∧ 1 = c' := by
  intro d hd h0
  constructor
  ·rw [wrap_i64 (by omega), wrap_u32]; omega
  ·rw [hcs, if_pos (by omega)]
 have k2 : ∀ d : Int, d = ((ox : Nat) : Int) - c - yx → ¬ d < 0 → IntKind.u32.wrap d = (((ox + 4294967296 - c - yx) % 4294967296 : Nat) : Int) ∧ 0 = c' := by
  intro d hd h0
  constructor
  ·rw [wrap_u32]; omega
  ·rw [hcs, if_neg (by omega)]
 refine sat_ite (fun _ => sat_need (decide_eq_true (by omega)) (sat_need (decide_eq_true hi) (sat_ite (fun h => ?_) (fun h => ?_)))) (fun h => absurd (show (i : Int) < (n : Nat) by omega) (of_decide_eq_false h))
 ·have h := of_decide_eq_true h
  refine sat_need (decide_eq_true (by omega)) (sat_need (decide_eq_true (by omega)) (sat_ite (fun h0 => ?_) (fun h0 => ?_)))
  ·obtain ⟨q1, q2⟩ := k1 _ rfl (of_decide_eq_true h0)
   exact sat_need (decide_eq_true (by omega)) (sat_need (decide_eq_true hi) (sat_need (by simp) (sat_need (by simp) (sat_need (isU32s_mk hy _) (key _ _ q1 q2)))))
  ·obtain ⟨q1, q2⟩ := k2 _ rfl (of_decide_eq_false h0)
   exact sat_need (decide_eq_true (by omega)) (sat_need (decide_eq_true hi) (sat_need (by simp) (sat_need (by simp) (sat_need (isU32s_mk hy _) (key _ _ q1 q2)))))
 ·have h := of_decide_eq_false h
  have hz := hyz (by omega)
  refine sat_ite (fun h0 => ?_) (fun h0 => ?_)
  ·obtain ⟨q1, q2⟩ := k1 (((ox : Nat) : Int) - c) (by omega) (of_decide_eq_true h0)
   exact sat_need (decide_eq_true (by omega)) (sat_need (decide_eq_true hi) (sat_need (by simp) (sat_need (by simp) (sat_need (isU32s_mk hy _) (key _ _ q1 q2)))))
  ·obtain ⟨q1, q2⟩ := k2 (((ox : Nat) : Int) - c) (by omega) (of_decide_eq_false h0)
   exact sat_need (decide_eq_true (by omega)) (sat_need (decide_eq_true hi) (sat_need (by simp) (sat_need (by simp) (sat_need (isU32s_mk hy _) (key _ _ q1 q2)))))
theorem runs223 (y : List Nat) (hy : okD y = true) (X n : Nat) (hX : natV y ≤ X) (hn : n ≤ 1000000000) (Q : W223 → Prop) (hq : Q ⟨y, u32s (X - natV y) n, (borrow X (natV y) n : Nat), (n : Nat), (n : Nat)⟩) : ∀ (k i : Nat), i + k = n →
  RunsX (fun x : W223 => step223 x.y x.o x.c x.n x.i) Q (k + 1) ⟨y, mixL X (X - natV y) n i, (borrow X (natV y) i : Nat), (n : Nat), (i : Nat)⟩
 | 0, i, hi => by
  obtain rfl : i = n := by omega
  rw [mixL_all]
  unfold RunsX
  change Tr.sat _ (step223 y (u32s (X - natV y) i) (borrow X (natV y) i : Nat) (i : Nat) (i : Nat))
  have e := u32sOf_el (u32s (X - natV y) i)
  unfold step223
  rw [e, u32sOf_el]
  exact sat_ite (fun h => absurd (of_decide_eq_true h) (Int.lt_irrefl _)) (fun _ => sat_need (by simp) (sat_need (by simp) (sat_need (isU32s_mk hy _) (sat_need (isU32s_mk (okD_u32s _ _) _) (sat_ret hq)))))
 | k + 1, i, hi => step223_in y hy X n i hX hn (by omega) (runs223 y hy X n hX hn Q hq k (i + 1) (by omega))
theorem f223_loops : BlocksOk Tryz.prog 0 L223 (codeOf Tryz.f143) := by
 refine one_blocks (N := 1005) (L' := noL) noΓ_ok (blocksOk_none 0 _) (lp223_good _) (step223_eq way223) ?_
 rintro ⟨y, o, c, n, i⟩ hx
 have hx : way223.pre ⟨y, o, c, n, i⟩ = true := hx
 simp only [way223, Bool.and_eq_true, decide_eq_true_eq] at hx
 obtain ⟨⟨⟨⟨⟨⟨rfl, rfl⟩, rfl⟩, h4⟩, h5⟩, h6⟩, h7⟩ := hx
 have := runs223 y h4 (natV o) o.length h7 h6 (· = way223.res ⟨y, o, 0, (o.length : Nat), 0⟩) rfl o.length 0 (by omega)
 rw [mixL_zero, u32s_natV o h5] at this
 have c0 : borrow (natV o) (natV y) 0 = 0 := by simp [borrow, Nat.mod_one]
 rw [c0] at this
 exact ⟨_, this⟩
end Go.Vse
set_option maxRecDepth 100000
namespace Go.Vse
open Go.Proofs
def M223 (a : ByteArray) (b : ByteArray) : Tr AV :=
 let x1 : Int := IntKind.u64.wrap (wordV a - wordV b)
 let x2 : List UInt8 := a.data.toList
 let x3 : List UInt8 := b.data.toList
 let x4 : Int := ↑(nDig x2.length)
 let x5 : Int := ((4 : Nat) : Int) * x4
 let x6 : Nat := x4.toNat
 let x7 : Nat := min (nDig x2.length) x6
 let x8 : Int := ↑x6
 let x9 : List Nat := u32sOf x6 fun i => if i < x7 then u32El (u32s (magN x2) (nDig x2.length)) i else List.map IV.v [Value.int IntKind.u32 0]
 let x10 : Nat := x9.length
 let x11 : Int := ↑x10
 let x12 : List Nat := u32sOf (nDig x3.length) (u32El (u32s (magN x3) (nDig x3.length)))
 let x13 : Nat := natV x12
 let x14 : Nat := natV x9
 let x15 : List Nat := u32s (x14 - x13) x10
 let x16 : Nat := x15.length
 .ite (wordB a && wordB b) (.need (u64B x1) (.ret (.c (.v (.string ⟨⟨magB x1.toNat⟩⟩))))) (.need (decide (x2.length ≤ 1000000000)) (.need (decide (x3.length ≤ 1000000000)) (.need (decide (x4 = x4)) (.need true (.need (decide (x4 ≤ 9223372036854775807)) (.need (decide (x5 ≤ 140737488355328)) (.need (decide (x6 ≤ x6)) (.need (decide (nDig x2.length ≤ nDig x2.length)) (.need (decide (nDig x3.length = nDig x3.length)) (.need (decide (x6 = x6)) (.need (isU32s (nDig x3.length) (u32El (u32s (magN x3) (nDig x3.length)))) (.need (isU32s x6 fun i => if i < x7 then u32El (u32s (magN x2) (nDig x2.length)) i else List.map IV.v [Value.int IntKind.u32 0]) (.need (decide (x8 = x11) && decide ((0 : Int) = 0) && decide ((0 : Int) = 0) && okD x12 && okD x9 && decide (x10 ≤ 1000000000) && decide (x13 ≤ x14)) (.need (decide (x16 ≤ x16)) (.need (isU32s x16 (u32El x15)) (.need (decide (x16 ≤ 1000000000)) (.ret (.c (.v (.string ⟨⟨magB (natV (u32sOf x16 (u32El x15)))⟩⟩))))))))))))))))))))
theorem M223_eq (a b : ByteArray) : execFn Tryz.prog Γ223 L223 1005 Tryz.f143 [.c (.v (.string a)), .c (.v (.string b))] = M223 a b := by kernel_rfl
theorem Γ223_ok : ∀ f s, Γ223 f = some s → SpecOk Tryz.prog f s := step_ok f172_ok.spec (step_ok f174_ok.spec (step_ok f197_ok.spec (one_ok f199_ok.spec)))
theorem wordV_eq (s : ByteArray) (hs : wordB s = true) : wordV s = ((magN s.data.toList : Nat) : Int) := by
 have : s.data.toList.length ≤ 8 := of_decide_eq_true hs
 unfold wordV
 rw [if_pos this]
theorem magN_word (s : ByteArray) (hs : wordB s = true) : magN s.data.toList < 18446744073709551616 := by
 have h8 : s.data.toList.length ≤ 8 := of_decide_eq_true hs
 have := magN_lt s.data.toList
 have h2 : 256 ^ s.data.toList.length ≤ 256 ^ 8 := Nat.pow_le_pow_right (by decide) h8
 have h3 : 256 ^ 8 = 18446744073709551616 := by decide
 omega
theorem M223_sat (a b : ByteArray) (ha : a.data.toList.length ≤ 100000000) (hb : b.data.toList.length ≤ 100000000) (hle : magN b.data.toList ≤ magN a.data.toList) : (M223 a b).sat fun r => r = strA (magB (magN a.data.toList - magN b.data.toList)) := by
 have la := mag_dig a
 have lb := mag_dig b
 have na : nDig a.data.toList.length ≤ 25000001 := by unfold nDig; omega
 have nb : nDig b.data.toList.length ≤ 25000001 := by unfold nDig; omega
 have ea : (u32sOf (nDig a.data.toList.length) fun i => if i < nDig a.data.toList.length then u32El (u32s (magN a.data.toList) (nDig a.data.toList.length)) i else List.map IV.v [Value.int IntKind.u32 0]) = u32s (magN a.data.toList) (nDig a.data.toList.length) := by
  have := u32sOf_el (u32s (magN a.data.toList) (nDig a.data.toList.length)); rw [u32s_len] at this
  refine Eq.trans ?_ this
  unfold u32sOf
  refine List.map_congr_left fun k hk => ?_
  exact congrArg u32Of (if_pos (List.mem_range.1 hk))
 have eb : u32sOf (nDig b.data.toList.length) (u32El (u32s (magN b.data.toList) (nDig b.data.toList.length))) = u32s (magN b.data.toList) (nDig b.data.toList.length) := by
  have := u32sOf_el (u32s (magN b.data.toList) (nDig b.data.toList.length)); rw [u32s_len] at this; exact this
 have ia : (isU32s (nDig a.data.toList.length) fun i => if i < nDig a.data.toList.length then u32El (u32s (magN a.data.toList) (nDig a.data.toList.length)) i else List.map IV.v [Value.int IntKind.u32 0]) = true := by
  refine List.all_eq_true.2 fun k hk => ?_
  refine (congrArg isU32 (if_pos (List.mem_range.1 hk))).trans ?_
  exact List.all_eq_true.1 (isU32s_mk (okD_u32s _ _) (nDig a.data.toList.length)) k hk
 unfold M223
 simp only [Int.toNat_natCast, Nat.min_self, ea, ia, eb, natV_u32s _ _ la, natV_u32s _ _ lb, u32s_len]
 have efa := u32sOf_el (u32s (magN a.data.toList - magN b.data.toList) (nDig a.data.toList.length))
 rw [u32s_len] at efa
 simp only [efa, natV_u32s _ _ (show magN a.data.toList - magN b.data.toList < BB ^ nDig a.data.toList.length by omega)]
 refine sat_ite (fun hw => ?_) (fun hw => ?_)
 ·rw [Bool.and_eq_true] at hw
  have h1 := magN_word a hw.1
  rw [wordV_eq a hw.1, wordV_eq b hw.2]
  have e : IntKind.u64.wrap (((magN a.data.toList : Nat) : Int) - ((magN b.data.toList : Nat) : Int)) = ((magN a.data.toList - magN b.data.toList : Nat) : Int) := by rw [wrap_u64]; omega
  rw [e, Int.toNat_natCast]
  exact sat_need (by simp [u64B]; omega) (sat_ret rfl)
 ·refine sat_need (decide_eq_true (by omega)) (sat_need (decide_eq_true (by omega)) (sat_need (by simp) (sat_need rfl (sat_need (decide_eq_true (by omega)) (sat_need (decide_eq_true (by omega)) (sat_need (by simp) (sat_need (by simp) (sat_need (by simp) (sat_need (by simp) (sat_need (isU32s_mk (okD_u32s _ _) _) (sat_need rfl (sat_need ?_ (sat_need (by simp) (sat_need (isU32s_mk (okD_u32s _ _) _) (sat_need (decide_eq_true (by omega)) (sat_ret rfl))))))))))))))))
  simp only [okD_u32s, Bool.and_true, Bool.and_eq_true, decide_eq_true_eq]
  refine ⟨⟨⟨⟨trivial, trivial⟩, trivial⟩, by omega⟩, hle⟩
theorem f223_ok : PureOk Tryz.prog 143 K223 := by
 refine poL (N := 1005) Γ223_ok f223_loops (fn := Tryz.f143) ?_ ?_
 ·intro args v cs h
  unfold K223 at h
  split at h
  ·cases h; rfl
  ·cases h
 ·intro args v cs h hc
  unfold K223 at h
  split at h
  ·rename_i a b
   cases h
   have h1 : a.data.toList.length ≤ 100000000 := dec (hc (decide (a.data.toList.length ≤ 100000000)) (by simp))
   have h2 : b.data.toList.length ≤ 100000000 := dec (hc (decide (b.data.toList.length ≤ 100000000)) (by simp))
   have h3 : magN b.data.toList ≤ magN a.data.toList := dec (hc (decide (magN b.data.toList ≤ magN a.data.toList)) (by simp))
   have hs := M223_sat a b h1 h2 h3
   rw [← M223_eq] at hs
   generalize execFn Tryz.prog Γ223 L223 1005 Tryz.f143 [.c (.v (.string a)), .c (.v (.string b))] = T at hs ⊢
   generalize magB (magN a.data.toList - magN b.data.toList) = z at hs ⊢
   exact Tr.sat_mono (fun r hr => ⟨by subst hr; rfl, Sees.of_eq hr⟩) hs
  ·cases h
end Go.Vse
set_option maxRecDepth 100000
namespace Go.Vse
open Go.Proofs
structure W219i where
 y : List Nat
 o : List Nat
 i : Int
 d : Int
 c : Int
 x : List Nat
 N : Int
 I : Int
 n : Int
 k : Int
def head219i (x : W219i) : List AV × List (Option Ent) := ([.msl 0 x.y.length 1, .msl 1 x.o.length 1, intA .i64 x.i, intA .u32 x.d, intA .u64 x.c, .msl 2 x.x.length 1, intA .i64 x.N, intA .i64 x.I, intA .i64 x.n, intA .i64 x.k], [some (.arr x.y.length 1 (u32El x.y) 274), some (.arr x.o.length 1 (u32El x.o) 274), some (.arr x.x.length 1 (u32El x.x) 274)])
def take219i : List AV × List (Option Ent) → Option (W219i × List Bool)
 | ([.msl 0 my 1, .msl 1 mo 1, .c (.v (.int .i64 i)), .c (.v (.int .u32 d)), .c (.v (.int .u64 c)), .msl 2 mx 1, .c (.v (.int .i64 N)), .c (.v (.int .i64 I)), .c (.v (.int .i64 n)), .c (.v (.int .i64 k))], [some (.arr ky 1 ey 274), some (.arr ko 1 eo 274), some (.arr kx 1 ex 274)]) => some (⟨u32sOf my ey, u32sOf mo eo, i, d, c, u32sOf mx ex, N, I, n, k⟩, [decide (my = ky), decide (mo = ko), decide (mx = kx), isU32s my ey, isU32s mo eo, isU32s mx ex])
 | _ => none
def lp219i (w : Way W219i) : LoopSt W219i W219i where
 nIn := { nt := 97, live := [11, 12, 13, 14, 15, 46, 47, 48, 54, 55] }
 nOut := { nt := 97, live := [11, 12, 13, 14, 15, 46, 47, 48, 54, 55] }
 head := head219i
 take := take219i
 out := fun r => (.normal, head219i r)
 takeR := fun q => match q with | (.normal, q) => take219i q | _ => none
 res := w.res
 pre := w.pre
theorem take219i_ok (q : List AV × List (Option Ent)) (x : W219i) (cs : List Bool) (h : take219i q = some (x, cs)) (hc : ∀ p ∈ cs, p) : SeesL q.1 (head219i x).1 ∧ EntsEqv q.2 (head219i x).2 := by
 unfold take219i at h
 split at h
 ·rename_i my mo i d c mx N I n k ky ey ko eo kx ex
  simp only [Option.some.injEq, Prod.mk.injEq] at h
  obtain ⟨rfl, rfl⟩ := h
  have hy : my = ky := dec (hc (decide (my = ky)) (by simp))
  have gy : isU32s my ey = true := hc (isU32s my ey) (by simp)
  have ho : mo = ko := dec (hc (decide (mo = ko)) (by simp))
  have go : isU32s mo eo = true := hc (isU32s mo eo) (by simp)
  have hx : mx = kx := dec (hc (decide (mx = kx)) (by simp))
  have gx : isU32s mx ex = true := hc (isU32s mx ex) (by simp)
  subst hy
  subst ho
  subst hx
  simp only [head219i, u32sOf_len]
  exact ⟨SeesL.refl _, .cons (.arr _ _ _ _ _ (isU32s_el gy).1) (.cons (.arr _ _ _ _ _ (isU32s_el go).1) (.cons (.arr _ _ _ _ _ (isU32s_el gx).1) (.nil)))⟩
 ·cases h
theorem lp219i_good (w : Way W219i) : (lp219i w).Good2 where
 take := take219i_ok
 takeR := by
  intro e q r cs h hc
  cases e with
  | normal => obtain ⟨h1, h2⟩ := take219i_ok q r cs h hc; exact ⟨rfl, h1, h2⟩
  | exit j => cases h
  | ret => cases h
 split := fun r Q h => h
def mulA (o d Y i k : Nat) : Nat := o % BB ^ (i + k) + d * (Y % BB ^ k) * BB ^ i
def way219i : Way W219i := ⟨fun x => ⟨x.y, mixL (natV x.o) (natV x.o + x.d.toNat * natV x.y * BB ^ x.i.toNat) x.o.length (x.i.toNat + x.y.length), x.i, x.d, (mulA (natV x.o) x.d.toNat (natV x.y) x.i.toNat x.y.length / BB ^ (x.i.toNat + x.y.length) : Nat), x.x, x.N, x.I, x.n, x.n⟩,
 fun x => decide (x.n = (x.y.length : Nat)) && decide (x.k = 0) && decide (x.c = 0) && okD x.y && okD x.o && okD x.x && decide (x.o.length ≤ 1000000000) && decide (0 ≤ x.i) && decide (x.i.toNat + x.y.length ≤ x.o.length) && decide (0 ≤ x.d) && decide (x.d < 4294967296)⟩
def L219i : Nat → Option (St → Tr (Ex × St)) := fun id => bif Nat.beq id 2 then some ((lp219i way219i).g 0) else none
structure W219 where
 y : List Nat
 o : List Nat
 x : List Nat
 N : Int
 I : Int
def head219 (x : W219) : List AV × List (Option Ent) := ([.msl 0 x.y.length 1, .msl 1 x.o.length 1, .msl 2 x.x.length 1, intA .i64 x.N, intA .i64 x.I], [some (.arr x.y.length 1 (u32El x.y) 274), some (.arr x.o.length 1 (u32El x.o) 274), some (.arr x.x.length 1 (u32El x.x) 274)])
def take219 : List AV × List (Option Ent) → Option (W219 × List Bool)
 | ([.msl 0 my 1, .msl 1 mo 1, .msl 2 mx 1, .c (.v (.int .i64 N)), .c (.v (.int .i64 I))], [some (.arr ky 1 ey 274), some (.arr ko 1 eo 274), some (.arr kx 1 ex 274)]) => some (⟨u32sOf my ey, u32sOf mo eo, u32sOf mx ex, N, I⟩, [decide (my = ky), decide (mo = ko), decide (mx = kx), isU32s my ey, isU32s mo eo, isU32s mx ex])
 | _ => none
def lp219 (w : Way W219) : LoopSt W219 W219 where
 nIn := { nt := 97, live := [11, 12, 46, 47, 48] }
 nOut := { nt := 97, live := [11, 12, 46, 47, 48] }
 head := head219
 take := take219
 out := fun r => (.normal, head219 r)
 takeR := fun q => match q with | (.normal, q) => take219 q | _ => none
 res := w.res
 pre := w.pre
theorem take219_ok (q : List AV × List (Option Ent)) (x : W219) (cs : List Bool) (h : take219 q = some (x, cs)) (hc : ∀ p ∈ cs, p) : SeesL q.1 (head219 x).1 ∧ EntsEqv q.2 (head219 x).2 := by
 unfold take219 at h
 split at h
 ·rename_i my mo mx N I ky ey ko eo kx ex
  simp only [Option.some.injEq, Prod.mk.injEq] at h
  obtain ⟨rfl, rfl⟩ := h
  have hy : my = ky := dec (hc (decide (my = ky)) (by simp))
  have gy : isU32s my ey = true := hc (isU32s my ey) (by simp)
  have ho : mo = ko := dec (hc (decide (mo = ko)) (by simp))
  have go : isU32s mo eo = true := hc (isU32s mo eo) (by simp)
  have hx : mx = kx := dec (hc (decide (mx = kx)) (by simp))
  have gx : isU32s mx ex = true := hc (isU32s mx ex) (by simp)
  subst hy
  subst ho
  subst hx
  simp only [head219, u32sOf_len]
  exact ⟨SeesL.refl _, .cons (.arr _ _ _ _ _ (isU32s_el gy).1) (.cons (.arr _ _ _ _ _ (isU32s_el go).1) (.cons (.arr _ _ _ _ _ (isU32s_el gx).1) (.nil)))⟩
 ·cases h
theorem lp219_good (w : Way W219) : (lp219 w).Good2 where
 take := take219_ok
 takeR := by
  intro e q r cs h hc
  cases e with
  | normal => obtain ⟨h1, h2⟩ := take219_ok q r cs h hc; exact ⟨rfl, h1, h2⟩
  | exit j => cases h
  | ret => cases h
 split := fun r Q h => h
end Go.Vse
set_option maxRecDepth 100000
namespace Go.Vse
open Go.Proofs
def step219i (y : List Nat) (o : List Nat) (i : Int) (d : Int) (c : Int) (x : List Nat) (N : Int) (I : Int) (n : Int) (k : Int) : Tr (W219i ⊕ W219i) :=
 let x1 : Int := IntKind.i64.wrap (i + k)
 let x2 : Int := ↑o.length
 let x3 : Nat := x1.toNat
 let x4 : Int := ↑y.length
 let x5 : Int := IntKind.u64.wrap (c + IntKind.u64.wrap (IntKind.u64.wrap ↑(o.getD x3 0) + IntKind.u64.wrap (IntKind.u64.wrap d * IntKind.u64.wrap ↑(y.getD k.toNat 0))))
 let x6 : List Nat := u32sOf y.length (u32El y)
 let x7 : List Nat := u32sOf x.length (u32El x)
 .ite (decide (k < n)) (.need (decide (0 ≤ x1 ∧ x1 < x2)) (.need (decide (x3 < o.length)) (.need (decide (0 ≤ k ∧ k < x4)) (.need (decide (k.toNat < y.length)) (.need true (.need (decide (0 ≤ x1 ∧ x1 < x2)) (.need (decide (x3 < o.length)) (.need (decide (y.length = y.length)) (.need (decide (o.length = o.length)) (.need (decide (x.length = x.length)) (.need (isU32s y.length (u32El y)) (.need (isU32s o.length (spliceE (u32El o) x3 0 [IV.v (Value.int IntKind.u32 (IntKind.u32.wrap x5))].reverse)) (.need (isU32s x.length (u32El x)) (.ret (Sum.inl { y := x6, o := u32sOf o.length (spliceE (u32El o) x3 0 [IV.v (Value.int IntKind.u32 (IntKind.u32.wrap x5))].reverse), i := i, d := d, c := x5.fdiv (2 ^ min (Int.toNat 32) IntKind.u64.bits), x := x7, N := N, I := I, n := n, k := IntKind.i64.wrap (k + 1) }))))))))))))))) (.need (decide (y.length = y.length)) (.need (decide (o.length = o.length)) (.need (decide (x.length = x.length)) (.need (isU32s y.length (u32El y)) (.need (isU32s o.length (u32El o)) (.need (isU32s x.length (u32El x)) (.ret (Sum.inr { y := x6, o := u32sOf o.length (u32El o), i := i, d := d, c := c, x := x7, N := N, I := I, n := n, k := k }))))))))
theorem step219i_eq (w : Way W219i) (x : W219i) : (exec Tryz.prog (fun _ => none) noL 1005 (loopOf 2 (codeOf Tryz.f188)) (mkSt (lp219i w).nIn ((lp219i w).head x))).bind ((lp219i w).fin 0 2) = step219i x.y x.o x.i x.d x.c x.x x.N x.I x.n x.k := by
 obtain ⟨y, o, i, d, c, x, N, I, n, k⟩ := x
 kernel_rfl
theorem mulA_lt (o d Y i k : Nat) (hd : d < BB) : mulA o d Y i k < BB * BB ^ (i + k) := by
 have h1 : o % BB ^ (i + k) < BB ^ (i + k) := Nat.mod_lt _ (Nat.pow_pos (by decide))
 have h2 : Y % BB ^ k < BB ^ k := Nat.mod_lt _ (Nat.pow_pos (by decide))
 have h3 : d * (Y % BB ^ k) * BB ^ i ≤ (BB - 1) * BB ^ (i + k) := by
  calc d * (Y % BB ^ k) * BB ^ i ≤ ((BB - 1) * BB ^ k) * BB ^ i := Nat.mul_le_mul_right _ (Nat.mul_le_mul (by omega) (by omega))
   _ = (BB - 1) * BB ^ (i + k) := by rw [Nat.mul_assoc, ← Nat.pow_add, Nat.add_comm k i]
 have h4 : BB * BB ^ (i + k) = (BB - 1) * BB ^ (i + k) + BB ^ (i + k) := by
  have : BB = (BB - 1) + 1 := rfl
  rw [this, Nat.add_mul, Nat.one_mul]; rfl
 unfold mulA
 omega
theorem mulC_lt (o d Y i k : Nat) (hd : d < BB) : mulA o d Y i k / BB ^ (i + k) < BB := by
 rw [Nat.div_lt_iff_lt_mul (Nat.pow_pos (by decide))]
 exact mulA_lt o d Y i k hd
theorem mulA_succ (o d Y i k : Nat) : mulA o d Y i (k + 1) = mulA o d Y i k + BB ^ (i + k) * (o / BB ^ (i + k) % BB + d * (Y / BB ^ k % BB)) := by
 unfold mulA
 rw [← Nat.add_assoc, Nat.mod_pow_succ, Nat.mod_pow_succ, Nat.pow_add]
 generalize o % (BB ^ i * BB ^ k) = a
 generalize o / (BB ^ i * BB ^ k) % BB = b
 generalize Y % BB ^ k = c
 generalize Y / BB ^ k % BB = e
 generalize BB ^ i = p
 generalize BB ^ k = q
 simp only [Nat.mul_add, Nat.add_mul]
 have e1 : d * (q * e) * p = p * q * (d * e) := by simp only [Nat.mul_assoc, Nat.mul_comm, Nat.mul_left_comm]
 omega
theorem mulC_succ (o d Y i k : Nat) : mulA o d Y i (k + 1) / BB ^ (i + (k + 1)) = (mulA o d Y i k / BB ^ (i + k) + (o / BB ^ (i + k) % BB + d * (Y / BB ^ k % BB))) / BB := by
 rw [mulA_succ, ← Nat.add_assoc, Nat.pow_succ, ← Nat.div_div_eq_div_mul, Nat.add_mul_div_left _ _ (Nat.pow_pos (by decide))]
theorem mul_digit (o d Y i k : Nat) : (o + d * Y * BB ^ i) / BB ^ (i + k) % BB = (mulA o d Y i k / BB ^ (i + k) + (o / BB ^ (i + k) % BB + d * (Y / BB ^ k % BB))) % BB := by
 have hp : 0 < BB ^ (i + k) := Nat.pow_pos (by decide)
 have e : o + d * Y * BB ^ i = mulA o d Y i k + BB ^ (i + k) * (o / BB ^ (i + k) + d * (Y / BB ^ k)) := by
  have h1 := Nat.div_add_mod o (BB ^ (i + k))
  have h2 := Nat.div_add_mod Y (BB ^ k)
  unfold mulA
  have e2 : d * Y * BB ^ i = d * (Y % BB ^ k) * BB ^ i + BB ^ (i + k) * (d * (Y / BB ^ k)) := by
   conv => lhs; rw [← h2]
   rw [Nat.pow_add]
   generalize Y % BB ^ k = c
   generalize Y / BB ^ k = e
   generalize BB ^ i = p
   generalize BB ^ k = q
   simp only [Nat.mul_add, Nat.add_mul]
   have e1 : d * (q * e) * p = p * q * (d * e) := by simp only [Nat.mul_assoc, Nat.mul_comm, Nat.mul_left_comm]
   omega
  rw [e2, Nat.mul_add]
  omega
 rw [e, Nat.add_mul_div_left _ _ hp]
 have e3 : d * (Y / BB ^ k) % BB = d * (Y / BB ^ k % BB) % BB := by rw [Nat.mul_mod, Nat.mul_mod d (Y / BB ^ k % BB), Nat.mod_mod]
 generalize mulA o d Y i k / BB ^ (i + k) = a
 generalize o / BB ^ (i + k) = b
 generalize d * (Y / BB ^ k) = u at *
 generalize d * (Y / BB ^ k % BB) = v at *
 unfold BB at *
 omega
theorem mul_full (o d Y i m : Nat) (hY : Y < BB ^ m) (ho : o < BB ^ (i + m)) : mulA o d Y i m = o + d * Y * BB ^ i := by
 unfold mulA
 rw [Nat.mod_eq_of_lt hY, Nat.mod_eq_of_lt ho]
theorem dig_lt (v j : Nat) : v / BB ^ j % BB < 4294967296 := Nat.mod_lt _ (by decide)
theorem mul_le_sq {d e : Nat} (hd : d < 4294967296) (he : e < 4294967296) : d * e ≤ 18446744065119617025 := by
 calc d * e ≤ 4294967295 * 4294967295 := Nat.mul_le_mul (by omega) (by omega)
  _ = 18446744065119617025 := by decide
theorem step219i_in (y x : List Nat) (hy : okD y = true) (hx : okD x = true) (X d n i k : Nat) (N I : Int) (hd : d < 4294967296) (hn : n ≤ 1000000000) (hk : k < y.length) (hi : i + y.length ≤ n) {R : W219i ⊕ W219i → Prop}
   (hin : R (.inl ⟨y, mixL X (X + d * natV y * BB ^ i) n (i + (k + 1)), (i : Nat), (d : Nat), (mulA X d (natV y) i (k + 1) / BB ^ (i + (k + 1)) : Nat), x, N, I, (y.length : Nat), ((k + 1 : Nat) : Int)⟩)) :
   (step219i y (mixL X (X + d * natV y * BB ^ i) n (i + k)) (i : Nat) (d : Nat) (mulA X d (natV y) i k / BB ^ (i + k) : Nat) x N I (y.length : Nat) (k : Nat)).sat R := by
 have ho := mixL_get X (X + d * natV y * BB ^ i) n (i + k) (i + k) (by omega)
 rw [if_neg (Nat.lt_irrefl _)] at ho
 have hox := dig_lt X (i + k)
 have hyx := dig_lt (natV y) k
 have hs := mixL_set X (X + d * natV y * BB ^ i) n (i + k) (by omega)
 have had := mul_digit X d (natV y) i k
 have hcs := mulC_succ X d (natV y) i k
 have hcl := mulC_lt X d (natV y) i k hd
 have hyg : y.getD k 0 = natV y / BB ^ k % BB := by
   have := u32s_natV y hy
   rw [← this, u32s_get _ _ _ hk, this]
 have w0 : IntKind.i64.wrap ((i : Int) + (k : Int)) = ((i + k : Nat) : Int) := by rw [wrap_i64 (by omega)]; omega
 have w1 : IntKind.i64.wrap ((k : Int) + 1) = ((k + 1 : Nat) : Int) := by rw [wrap_i64 (by omega)]; omega
 generalize mulA X d (natV y) i k / BB ^ (i + k) = c at hcl had hcs
 generalize mulA X d (natV y) i (k + 1) / BB ^ (i + (k + 1)) = c' at hcs hin
 generalize hO : X / BB ^ (i + k) % BB = ox at hox ho had hcs
 generalize natV y / BB ^ k % BB = yx at hyx had hcs hyg
 have hm := mul_le_sq hd hyx
 unfold BB at hcl
 have a1 : ∀ z : Nat, z < 18446744073709551616 → IntKind.u64.wrap ((z : Nat) : Int) = ((z : Nat) : Int) := fun z hz => by rw [wrap_u64]; omega
 have a2 : IntKind.u64.wrap (((d : Nat) : Int) * ((yx : Nat) : Int)) = ((d * yx : Nat) : Int) := by rw [← Int.natCast_mul]; exact a1 _ (by omega)
 have a3 : IntKind.u64.wrap (((ox : Nat) : Int) + ((d * yx : Nat) : Int)) = ((ox + d * yx : Nat) : Int) := by rw [← Int.natCast_add]; exact a1 _ (by omega)
 have a4 : IntKind.u64.wrap (((c : Nat) : Int) + ((ox + d * yx : Nat) : Int)) = ((c + (ox + d * yx) : Nat) : Int) := by rw [← Int.natCast_add]; exact a1 _ (by omega)
 have a5 : IntKind.u32.wrap ((c + (ox + d * yx) : Nat) : Int) = (((c + (ox + d * yx)) % 4294967296 : Nat) : Int) := by rw [wrap_u32]; omega
 have a6 : ((c + (ox + d * yx) : Nat) : Int).fdiv (2 ^ min (Int.toNat 32) IntKind.u64.bits) = (((c + (ox + d * yx)) / 4294967296 : Nat) : Int) := fdiv_nat _ 4294967296
 have e2 := u32sOf_el (mixL X (X + d * natV y * BB ^ i) n (i + k + 1))
 rw [mixL_len] at e2
 unfold step219i
 simp only [Int.toNat_natCast, ho, hyg, w0, w1, a1 ox (by omega), a1 d (by omega), a1 yx (by omega), a2, a3, a4, a5, a6, mixL_len, u32sOf_el]
 rw [splice_eq32 _ _ _ (by rw [mixL_len]; omega), ← had, hs, e2, ← hcs]
 refine sat_ite (fun _ => ?_) (fun h => absurd (show (k : Int) < (y.length : Nat) by omega) (of_decide_eq_false h))
 exact sat_need (decide_eq_true (by omega)) (sat_need (decide_eq_true (by omega)) (sat_need (decide_eq_true (by omega)) (sat_need (decide_eq_true hk) (sat_need rfl (sat_need (decide_eq_true (by omega)) (sat_need (decide_eq_true (by omega)) (sat_need (by simp) (sat_need (by simp) (sat_need (by simp) (sat_need (isU32s_mk hy _) (sat_need (isU32s_mk (okD_mixL _ _ _ _) _) (sat_need (isU32s_mk hx _) (sat_ret hin)))))))))))))
theorem runs219i (y x : List Nat) (hy : okD y = true) (hx : okD x = true) (X d n i : Nat) (N I : Int) (hd : d < 4294967296) (hn : n ≤ 1000000000) (hi : i + y.length ≤ n) (Q : W219i → Prop)
  (hq : Q ⟨y, mixL X (X + d * natV y * BB ^ i) n (i + y.length), (i : Nat), (d : Nat), (mulA X d (natV y) i y.length / BB ^ (i + y.length) : Nat), x, N, I, (y.length : Nat), (y.length : Nat)⟩) : ∀ (j k : Nat), k + j = y.length →
  RunsX (fun x : W219i => step219i x.y x.o x.i x.d x.c x.x x.N x.I x.n x.k) Q (j + 1) ⟨y, mixL X (X + d * natV y * BB ^ i) n (i + k), (i : Nat), (d : Nat), (mulA X d (natV y) i k / BB ^ (i + k) : Nat), x, N, I, (y.length : Nat), (k : Nat)⟩
 | 0, k, hk => by
  obtain rfl : k = y.length := by omega
  unfold RunsX
  change Tr.sat _ (step219i y (mixL X (X + d * natV y * BB ^ i) n (i + y.length)) (i : Nat) (d : Nat) (mulA X d (natV y) i y.length / BB ^ (i + y.length) : Nat) x N I (y.length : Nat) (y.length : Nat))
  have e := u32sOf_el (mixL X (X + d * natV y * BB ^ i) n (i + y.length))
  unfold step219i
  rw [e, u32sOf_el, u32sOf_el]
  exact sat_ite (fun h => absurd (of_decide_eq_true h) (Int.lt_irrefl _)) (fun _ => sat_need (by simp) (sat_need (by simp) (sat_need (by simp) (sat_need (isU32s_mk hy _) (sat_need (isU32s_mk (okD_mixL _ _ _ _) _) (sat_need (isU32s_mk hx _) (sat_ret hq)))))))
 | j + 1, k, hk => step219i_in y x hy hx X d n i k N I hd hn (by omega) hi (runs219i y x hy hx X d n i N I hd hn hi Q hq j (k + 1) (by omega))
theorem L219i_ok : ∀ p ∈ blocksOf (fun id => Nat.beq id 2) (codeOf Tryz.f188), ∀ g, L219i p.1 = some g → BlockOk Tryz.prog 0 p.1 p.2 g := by
 have hb : blocksOf (fun id => Nat.beq id 2) (codeOf Tryz.f188) = [(2, .loop (loopOf 2 (codeOf Tryz.f188)))] := by kernel_rfl
 rw [hb]
 intro p hp g hg
 simp only [List.mem_singleton] at hp
 subst hp
 have hh : L219i 2 = some ((lp219i way219i).g 0) := rfl
 rw [hh] at hg
 obtain rfl : g = (lp219i way219i).g 0 := (Option.some.inj hg).symm
 refine LoopSt.ok2 (N := 1005) prog_mixed noΓ_ok (L := noL) (blocksOk_none 0 _) (lp219i_good _) (step219i_eq way219i) ?_
 rintro ⟨y, o, i, d, c, x, N, I, n, k⟩ hx
 have hx : way219i.pre ⟨y, o, i, d, c, x, N, I, n, k⟩ = true := hx
 simp only [way219i, Bool.and_eq_true, decide_eq_true_eq] at hx
 obtain ⟨⟨⟨⟨⟨⟨⟨⟨⟨⟨rfl, rfl⟩, rfl⟩, h4⟩, h5⟩, h6⟩, h7⟩, h8⟩, h9⟩, h10⟩, h11⟩ := hx
 obtain ⟨i, rfl⟩ : ∃ j : Nat, i = j := ⟨i.toNat, by omega⟩
 obtain ⟨d, rfl⟩ : ∃ j : Nat, d = j := ⟨d.toNat, by omega⟩
 rw [Int.toNat_natCast] at h9
 have := runs219i y x h4 h6 (natV o) d o.length i N I (by omega) h7 h9 (· = way219i.res ⟨y, o, (i : Nat), (d : Nat), 0, x, N, I, (y.length : Nat), 0⟩) (by simp [way219i]) y.length 0 (by omega)
 have e0 : mixL (natV o) (natV o + d * natV y * BB ^ i) o.length (i + 0) = o := by
   have e1 : natV o + d * natV y * BB ^ i = natV o % BB ^ i + BB ^ i * (natV o / BB ^ i + d * natV y) := by
     have := Nat.div_add_mod (natV o) (BB ^ i)
     rw [Nat.mul_add, Nat.mul_comm (BB ^ i) (d * natV y)]; omega
   have e2 : mixL (natV o) (natV o + d * natV y * BB ^ i) o.length (i + 0) = u32s (natV o) o.length := by
     rw [← mixL_zero (natV o) 0 o.length]
     unfold mixL
     refine List.map_congr_left fun j hj => ?_
     rw [if_neg (Nat.not_lt_zero j)]
     split
     · rename_i hji
       obtain ⟨m, rfl⟩ : ∃ m, i = j + (m + 1) := ⟨i - j - 1, by omega⟩
       have hpj : 0 < BB ^ j := Nat.pow_pos (by decide)
       have e3 : d * natV y * BB ^ (j + (m + 1)) = BB ^ j * (BB * (d * natV y * BB ^ m)) := by
         rw [Nat.pow_add, Nat.pow_succ]; simp only [Nat.mul_assoc, Nat.mul_comm, Nat.mul_left_comm]
       rw [e3, Nat.add_mul_div_left _ _ hpj, Nat.add_mul_mod_self_left]
     · rfl
   rw [e2, u32s_natV o h5]
 have c0 : mulA (natV o) d (natV y) i 0 / BB ^ (i + 0) = 0 := by
   refine Nat.div_eq_of_lt ?_
   have : 0 < BB ^ i := Nat.pow_pos (by decide)
   simp [mulA, Nat.mod_one]
   exact Nat.mod_lt _ this
 rw [e0, c0] at this
 exact ⟨_, this⟩
theorem f219_in : BlocksOk Tryz.prog 0 L219i (loopOf 0 (codeOf Tryz.f188)) := by
 refine blocksOk_of (d := fun id => Nat.beq id 2) (fun id => by unfold L219i; cases Nat.beq id 2 <;> rfl) _ ?_
 have hb : blocksOf (fun id => Nat.beq id 2) (loopOf 0 (codeOf Tryz.f188)) = blocksOf (fun id => Nat.beq id 2) (codeOf Tryz.f188) := by kernel_rfl
 rw [hb]
 exact L219i_ok
end Go.Vse
set_option maxRecDepth 100000
namespace Go.Vse
open Go.Proofs
def step219 (y : List Nat) (o : List Nat) (x : List Nat) (N : Int) (I : Int) : Tr (W219 ⊕ W219) :=
 let x1 : Int := ↑x.length
 let x2 : Int := ↑y.length
 let x3 : List Nat := u32sOf y.length (u32El y)
 let x4 : Nat := x3.length
 let x5 : Int := ↑x4
 let x6 : List Nat := u32sOf o.length (u32El o)
 let x7 : List Nat := u32sOf x.length (u32El x)
 let x8 : Nat := x6.length
 let x9 : Nat := I.toNat + x4
 let x10 : Int := ↑(x.getD I.toNat 0)
 let x11 : Int := IntKind.i64.wrap (I + x5)
 let x12 : Nat := x10.toNat
 let x13 : List Nat := mixL (natV x6) (natV x6 + x12 * natV x3 * BB ^ I.toNat) x8 x9
 let x14 : Nat := x13.length
 let x15 : Int := ↑x14
 let x16 : Nat := x11.toNat
 let x17 : Nat := x7.length
 .ite (decide (I < N)) (.need (decide (0 ≤ I ∧ I < x1)) (.need (decide (I.toNat < x.length)) (.need (decide (y.length = y.length)) (.need (decide (o.length = o.length)) (.need (decide (x.length = x.length)) (.need (isU32s y.length (u32El y)) (.need (isU32s o.length (u32El o)) (.need (isU32s x.length (u32El x)) (.need (decide (x2 = x5) && decide ((0 : Int) = 0) && decide ((0 : Int) = 0) && okD x3 && okD x6 && okD x7 && decide (x8 ≤ 1000000000) && decide (0 ≤ I) && decide (x9 ≤ x8) && decide (0 ≤ x10) && decide (x10 < 4294967296)) (.need (decide (0 ≤ x11 ∧ x11 < x15)) (.need (decide (x16 < x14)) (.need (decide (x4 = x4)) (.need (decide (x14 = x14)) (.need (decide (x17 = x17)) (.need (isU32s x4 (u32El x3)) (.need (isU32s x14 (spliceE (u32El x13) x16 0 [IV.v (Value.int IntKind.u32 (IntKind.u32.wrap ↑(mulA (natV x6) x12 (natV x3) I.toNat x4 / BB ^ x9)))].reverse)) (.need (isU32s x17 (u32El x7)) (.ret (Sum.inl { y := u32sOf x4 (u32El x3), o := u32sOf x14 (spliceE (u32El x13) x16 0 [IV.v (Value.int IntKind.u32 (IntKind.u32.wrap ↑(mulA (natV x6) x12 (natV x3) I.toNat x4 / BB ^ x9)))].reverse), x := u32sOf x17 (u32El x7), N := N, I := IntKind.i64.wrap (I + 1) }))))))))))))))))))) (.need (decide (y.length = y.length)) (.need (decide (o.length = o.length)) (.need (decide (x.length = x.length)) (.need (isU32s y.length (u32El y)) (.need (isU32s o.length (u32El o)) (.need (isU32s x.length (u32El x)) (.ret (Sum.inr { y := x3, o := x6, x := x7, N := N, I := I }))))))))
theorem step219_eq (w : Way W219) (x : W219) : (exec Tryz.prog (fun _ => none) L219i 1005 (loopOf 0 (codeOf Tryz.f188)) (mkSt (lp219 w).nIn ((lp219 w).head x))).bind ((lp219 w).fin 0 0) = step219 x.y x.o x.x x.N x.I := by
 obtain ⟨y, o, x, N, I⟩ := x
 kernel_rfl
def way219 : Way W219 := ⟨fun x => ⟨x.y, u32s (natV x.x * natV x.y) x.o.length, x.x, x.N, x.N⟩,
 fun x => decide (x.N = (x.x.length : Nat)) && decide (x.I = 0) && okD x.y && okD x.x && decide (x.o = u32s 0 x.o.length) && decide (x.x.length + x.y.length + 1 = x.o.length) && decide (x.o.length ≤ 1000000000)⟩
def L219 : Nat → Option (St → Tr (Ex × St)) := fun id => bif Nat.beq id 0 then some ((lp219 way219).g 0) else none
def K256 : List AV → Option (AV × List Bool)
 | [.c (.v (.int .u64 a)), .c (.v (.int .u64 b))] => some (.tup [intA .u64 ((a.toNat * b.toNat / 18446744073709551616 : Nat) : Int), intA .u64 ((a.toNat * b.toNat % 18446744073709551616 : Nat) : Int)], [u64B a, u64B b])
 | _ => none
def K219 : List AV → Option (AV × List Bool)
 | [.c (.v (.string a)), .c (.v (.string b))] => some (strA (magB (magN a.data.toList * magN b.data.toList)), [decide (a.data.toList.length ≤ 100000000), decide (b.data.toList.length ≤ 100000000)])
 | _ => none
theorem mixL_eq (X S n j : Nat) (hX : X < BB ^ j) (hS : S < BB ^ j) : mixL X S n j = u32s S n := by
 rw [← mixL_all X S n]
 unfold mixL
 refine List.map_congr_left fun k hk => ?_
 rw [if_pos (List.mem_range.1 hk)]
 split
 ·rfl
 ·rename_i h
  have : BB ^ j ≤ BB ^ k := Nat.pow_le_pow_right (by decide) (by omega)
  rw [Nat.div_eq_of_lt (show X < BB ^ k by omega), Nat.div_eq_of_lt (show S < BB ^ k by omega)]
theorem mul_pow_lt (X Y i m : Nat) (hY : Y < BB ^ m) : X % BB ^ i * Y < BB ^ (i + m) := by
 rw [Nat.pow_add]
 have h1 : X % BB ^ i < BB ^ i := Nat.mod_lt _ (Nat.pow_pos (by decide))
 have hp : 0 < BB ^ i := Nat.pow_pos (by decide)
 calc X % BB ^ i * Y ≤ BB ^ i * Y := Nat.mul_le_mul_right _ (by omega)
  _ < BB ^ i * BB ^ m := by exact Nat.mul_lt_mul_of_pos_left hY hp
theorem mul_next (X Y i : Nat) : X % BB ^ (i + 1) * Y = X % BB ^ i * Y + X / BB ^ i % BB * Y * BB ^ i := by
 rw [Nat.mod_pow_succ, Nat.add_mul]
 congr 1
 simp only [Nat.mul_assoc, Nat.mul_comm, Nat.mul_left_comm]
theorem step219_in (y x : List Nat) (hy : okD y = true) (hx : okD x = true) (n i : Nat) (hn : n ≤ 1000000000) (hl : x.length + y.length + 1 = n) (hi : i < x.length) {R : W219 ⊕ W219 → Prop}
  (hin : R (.inl ⟨y, u32s (natV x % BB ^ (i + 1) * natV y) n, x, (x.length : Nat), ((i + 1 : Nat) : Int)⟩)) :
  (step219 y (u32s (natV x % BB ^ i * natV y) n) x (x.length : Nat) (i : Nat)).sat R := by
 have hYl := natV_lt y hy
 have hxg : x.getD i 0 = natV x / BB ^ i % BB := by
  have := u32s_natV x hx
  rw [← this, u32s_get _ _ _ hi, this]
 have hdl := dig_lt (natV x) i
 have hnx := mul_next (natV x) (natV y) i
 have ho := mul_pow_lt (natV x) (natV y) i y.length hYl
 have hS := mul_pow_lt (natV x) (natV y) (i + 1) y.length hYl
 rw [show i + 1 + y.length = i + y.length + 1 by omega] at hS
 generalize natV x / BB ^ i % BB = d at hxg hdl hnx
 generalize natV x % BB ^ i * natV y = o at ho hnx ⊢
 have hc := mulC_lt o d (natV y) i y.length hdl
 rw [mul_full o d (natV y) i y.length hYl ho, ← hnx] at hc
 have hov : natV (u32s o n) = o := natV_u32s _ _ (Nat.lt_of_lt_of_le ho (Nat.pow_le_pow_right (by decide) (by omega)))
 have w0 : IntKind.i64.wrap ((i : Int) + ((y.length : Nat) : Int)) = ((i + y.length : Nat) : Int) := by rw [wrap_i64 (by omega)]; omega
 have w1 : IntKind.i64.wrap ((i : Int) + 1) = ((i + 1 : Nat) : Int) := by rw [wrap_i64 (by omega)]; omega
 have eo := u32sOf_el (u32s o n)
 unfold step219
 rw [eo, u32sOf_el, u32sOf_el]
 simp only [u32s_len, u32sOf_el, Int.toNat_natCast, hxg, hov, w0, w1, mixL_len, mul_full o d (natV y) i y.length hYl ho, ← hnx]
 generalize natV x % BB ^ (i + 1) * natV y = S at *
 have hsd : S / BB ^ (i + y.length) % BB = S / BB ^ (i + y.length) := Nat.mod_eq_of_lt hc
 have e1 : IntKind.u32.wrap ((S / BB ^ (i + y.length) : Nat) : Int) = ((S / BB ^ (i + y.length) % BB : Nat) : Int) := by
  rw [hsd, wrap_u32]
  generalize S / BB ^ (i + y.length) = q at hc ⊢
  unfold BB at hc
  omega
 rw [e1, splice_eq32 _ _ _ (by rw [mixL_len]; omega), mixL_set _ _ _ _ (by omega), mixL_eq o S n (i + y.length + 1) (Nat.lt_of_lt_of_le ho (Nat.pow_le_pow_right (by decide) (by omega))) hS]
 have e2 := u32sOf_el (u32s S n)
 rw [u32s_len] at e2
 rw [e2]
 refine sat_ite (fun _ => ?_) (fun h => absurd (show (i : Int) < (x.length : Nat) by omega) (of_decide_eq_false h))
 refine sat_need (decide_eq_true (by omega)) (sat_need (decide_eq_true hi) (sat_need (by simp) (sat_need (by simp) (sat_need (by simp) (sat_need (isU32s_mk hy _) (sat_need (isU32s_mk (okD_u32s _ _) _) (sat_need (isU32s_mk hx _) (sat_need ?_ (sat_need (decide_eq_true (by omega)) (sat_need (decide_eq_true (by omega)) (sat_need (by simp) (sat_need (by simp) (sat_need (by simp) (sat_need (isU32s_mk hy _) (sat_need (isU32s_mk (okD_u32s _ _) _) (sat_need (isU32s_mk hx _) (sat_ret hin)))))))))))))))))
 simp only [Bool.and_eq_true, decide_eq_true_eq, okD_u32s, hy, hx, and_true, true_and]
 clear hc hin e1 e2 hsd hS hnx
 omega
theorem runs219 (y x : List Nat) (hy : okD y = true) (hx : okD x = true) (n : Nat) (hn : n ≤ 1000000000) (hl : x.length + y.length + 1 = n) (Q : W219 → Prop) (hq : Q ⟨y, u32s (natV x * natV y) n, x, (x.length : Nat), (x.length : Nat)⟩) : ∀ (j i : Nat), i + j = x.length →
  RunsX (fun x : W219 => step219 x.y x.o x.x x.N x.I) Q (j + 1) ⟨y, u32s (natV x % BB ^ i * natV y) n, x, (x.length : Nat), (i : Nat)⟩
 | 0, i, hi => by
  obtain rfl : i = x.length := by omega
  rw [Nat.mod_eq_of_lt (natV_lt x hx)]
  unfold RunsX
  change Tr.sat _ (step219 y (u32s (natV x * natV y) n) x (x.length : Nat) (x.length : Nat))
  have e := u32sOf_el (u32s (natV x * natV y) n)
  unfold step219
  rw [e, u32sOf_el, u32sOf_el]
  exact sat_ite (fun h => absurd (of_decide_eq_true h) (Int.lt_irrefl _)) (fun _ => sat_need (by simp) (sat_need (by simp) (sat_need (by simp) (sat_need (isU32s_mk hy _) (sat_need (isU32s_mk (okD_u32s _ _) _) (sat_need (isU32s_mk hx _) (sat_ret hq)))))))
 | j + 1, i, hi => step219_in y x hy hx n i hn hl (by omega) (runs219 y x hy hx n hn hl Q hq j (i + 1) (by omega))
theorem f219_loops : BlocksOk Tryz.prog 0 L219 (codeOf Tryz.f188) := by
 refine one_blocks (N := 1005) (L' := L219i) noΓ_ok f219_in (lp219_good _) (step219_eq way219) ?_
 rintro ⟨y, o, x, N, I⟩ hx
 have hx : way219.pre ⟨y, o, x, N, I⟩ = true := hx
 simp only [way219, Bool.and_eq_true, decide_eq_true_eq] at hx
 obtain ⟨⟨⟨⟨⟨⟨rfl, rfl⟩, h4⟩, h5⟩, h6⟩, h7⟩, h8⟩ := hx
 have := runs219 y x h4 h5 o.length h8 h7 (· = way219.res ⟨y, o, x, (x.length : Nat), 0⟩) rfl x.length 0 (by omega)
 rw [Nat.pow_zero, Nat.mod_one, Nat.zero_mul, ← h6] at this
 exact ⟨_, this⟩
def Γ219 : FuncId → Option Spec := fun f => bif Nat.beq f 189 then some (pureSpec K172) else bif Nat.beq f 224 then some (pureSpec K256) else bif Nat.beq f 160 then some (pureSpec K174) else
 bif Nat.beq f 193 then some (memSpec K197) else bif Nat.beq f 194 then some (pureSpec K199) else none
end Go.Vse
set_option maxRecDepth 100000
namespace Go.Vse
open Go.Proofs
def M256 (a : Int) (b : Int) : Tr AV :=
 let x1 : Int := 2 ^ min (Int.toNat 32) IntKind.u64.bits
 let x2 : Int := a.fdiv x1
 let x3 : Int := b.fdiv x1
 let x4 : Int := IntKind.u64.wrap ↑(BitVec.ofInt IntKind.u64.bits b &&& BitVec.ofInt IntKind.u64.bits 4294967295).toNat
 let x5 : Int := IntKind.u64.wrap ↑(BitVec.ofInt IntKind.u64.bits a &&& BitVec.ofInt IntKind.u64.bits 4294967295).toNat
 let x6 : Int := IntKind.u64.wrap (IntKind.u64.wrap (x2 * x4) + (IntKind.u64.wrap (x5 * x4)).fdiv x1)
 .need true (.need true (.need true (.need true (.need true (.ret (AV.tup [.c (.v (.int IntKind.u64 (IntKind.u64.wrap (IntKind.u64.wrap (IntKind.u64.wrap (x2 * x3) + x6.fdiv x1) + (IntKind.u64.wrap (IntKind.u64.wrap ↑(BitVec.ofInt IntKind.u64.bits x6 &&& BitVec.ofInt IntKind.u64.bits 4294967295).toNat + IntKind.u64.wrap (x5 * x3))).fdiv x1)))), .c (.v (.int IntKind.u64 (IntKind.u64.wrap (a * b))))]))))))
def M219 (a : ByteArray) (b : ByteArray) : Tr AV :=
 let x1 : Nat := (wordV a).toNat * (wordV b).toNat
 let x2 : Int := ↑(x1 % 18446744073709551616)
 let x3 : List UInt8 := a.data.toList
 let x4 : List UInt8 := b.data.toList
 let x5 : Int := ↑(nDig x3.length)
 let x6 : Int := IntKind.i64.wrap (IntKind.i64.wrap (x5 + ↑(nDig x4.length)) + 1)
 let x7 : Int := ((4 : Nat) : Int) * x6
 let x8 : Nat := x6.toNat
 let x9 : List Nat := u32sOf (nDig x3.length) (u32El (u32s (magN x3) (nDig x3.length)))
 let x10 : Nat := x9.length
 let x11 : Int := ↑x10
 let x12 : List Nat := u32sOf (nDig x4.length) (u32El (u32s (magN x4) (nDig x4.length)))
 let x13 : List Nat := u32sOf x8 fun x => List.map IV.v [Value.int IntKind.u32 0]
 let x14 : Nat := x13.length
 let x15 : List Nat := u32s 0 x14
 let x16 : Nat := x10 + x12.length + 1
 let x17 : List Nat := u32s (natV x9 * natV x12) x14
 let x18 : Nat := x17.length
 .ite (wordB a && wordB b) (.need (u64B (wordV a)) (.need (u64B (wordV b)) (.ite (((x1 / 18446744073709551616 : Nat) : Int) == 0) (.need (u64B x2) (.ret (.c (.v (.string ⟨⟨magB x2.toNat⟩⟩))))) (.need (decide (x3.length ≤ 1000000000)) (.need (decide (x4.length ≤ 1000000000)) (.need (decide (x6 = x6)) (.need (decide (0 ≤ x6)) (.need (decide (x6 ≤ 9223372036854775807)) (.need (decide (x7 ≤ 140737488355328)) (.need (decide (nDig x4.length = nDig x4.length)) (.need (decide (x8 = x8)) (.need (decide (nDig x3.length = nDig x3.length)) (.need (isU32s (nDig x4.length) (u32El (u32s (magN x4) (nDig x4.length)))) (.need (isU32s x8 fun x => List.map IV.v [Value.int IntKind.u32 0]) (.need (isU32s (nDig x3.length) (u32El (u32s (magN x3) (nDig x3.length)))) (.need (decide (x5 = x11) && decide ((0 : Int) = 0) && okD x12 && okD x9 && decide (x13 = x15) && decide (x16 = x14) && decide (x14 ≤ 1000000000)) (.need (decide (x18 ≤ x18)) (.need (isU32s x18 (u32El x17)) (.need (decide (x18 ≤ 1000000000)) (.ret (.c (.v (.string ⟨⟨magB (natV (u32sOf x18 (u32El x17)))⟩⟩))))))))))))))))))))))) (.need (decide (x3.length ≤ 1000000000)) (.need (decide (x4.length ≤ 1000000000)) (.need (decide (x6 = x6)) (.need (decide (0 ≤ x6)) (.need (decide (x6 ≤ 9223372036854775807)) (.need (decide (x7 ≤ 140737488355328)) (.need (decide (nDig x4.length = nDig x4.length)) (.need (decide (x8 = x8)) (.need (decide (nDig x3.length = nDig x3.length)) (.need (isU32s (nDig x4.length) (u32El (u32s (magN x4) (nDig x4.length)))) (.need (isU32s x8 fun x => List.map IV.v [Value.int IntKind.u32 0]) (.need (isU32s (nDig x3.length) (u32El (u32s (magN x3) (nDig x3.length)))) (.need (decide (x5 = x11) && decide ((0 : Int) = 0) && okD x12 && okD x9 && decide (x13 = x15) && decide (x16 = x14) && decide (x14 ≤ 1000000000)) (.need (decide (x18 ≤ x18)) (.need (isU32s x18 (u32El x17)) (.need (decide (x18 ≤ 1000000000)) (.ret (.c (.v (.string ⟨⟨magB (natV (u32sOf x18 (u32El x17)))⟩⟩))))))))))))))))))))
theorem M256_eq (a b : Int) : execFn Tryz.prog (fun _ => none) noL 1005 Tryz.f224 [.c (.v (.int .u64 a)), .c (.v (.int .u64 b))] = M256 a b := by kernel_rfl
theorem M219_eq (a b : ByteArray) : execFn Tryz.prog Γ219 L219 1005 Tryz.f188 [.c (.v (.string a)), .c (.v (.string b))] = M219 a b := by kernel_rfl
theorem and_low (z : Nat) (hz : z < 18446744073709551616) : IntKind.u64.wrap ((BitVec.ofInt IntKind.u64.bits ((z : Nat) : Int) &&& BitVec.ofInt IntKind.u64.bits 4294967295).toNat : Nat) = ((z % 4294967296 : Nat) : Int) := by
 change IntKind.u64.wrap ((BitVec.ofInt 64 ((z : Nat) : Int) &&& BitVec.ofInt 64 4294967295).toNat : Nat) = _
 have e1 : (BitVec.ofInt 64 ((z : Nat) : Int)).toNat = z := by rw [BitVec.toNat_ofInt]; omega
 have e2 : (BitVec.ofInt 64 4294967295).toNat = 2 ^ 32 - 1 := by decide
 rw [BitVec.toNat_and, e1, e2, Nat.and_two_pow_sub_one_eq_mod, wrap_u64]
 omega
theorem M256_sat (a b : Nat) (ha : a < 18446744073709551616) (hb : b < 18446744073709551616) : (M256 (a : Nat) (b : Nat)).sat fun r => r = .tup [intA .u64 ((a * b / 18446744073709551616 : Nat) : Int), intA .u64 ((a * b % 18446744073709551616 : Nat) : Int)] := by
 have f : ∀ z : Nat, ((z : Nat) : Int).fdiv (2 ^ min (Int.toNat 32) IntKind.u64.bits) = ((z / 4294967296 : Nat) : Int) := fun z => fdiv_nat z 4294967296
 have w : ∀ z : Nat, z < 18446744073709551616 → IntKind.u64.wrap ((z : Nat) : Int) = ((z : Nat) : Int) := fun z hz => by rw [wrap_u64]; omega
 have h00 := mul_le_sq (Nat.mod_lt a (show 0 < 4294967296 by decide)) (Nat.mod_lt b (show 0 < 4294967296 by decide))
 have h10 := mul_le_sq (show a / 4294967296 < 4294967296 by omega) (Nat.mod_lt b (show 0 < 4294967296 by decide))
 have h01 := mul_le_sq (Nat.mod_lt a (show 0 < 4294967296 by decide)) (show b / 4294967296 < 4294967296 by omega)
 have h11 := mul_le_sq (show a / 4294967296 < 4294967296 by omega) (show b / 4294967296 < 4294967296 by omega)
 have hab : a * b = a % 4294967296 * (b % 4294967296) + 4294967296 * (a / 4294967296 * (b % 4294967296)) + 4294967296 * (a % 4294967296 * (b / 4294967296)) + 18446744073709551616 * (a / 4294967296 * (b / 4294967296)) := by
   have h1 := Nat.div_add_mod a 4294967296
   have h2 := Nat.div_add_mod b 4294967296
   generalize a / 4294967296 = x at *
   generalize a % 4294967296 = y at *
   generalize b / 4294967296 = u at *
   generalize b % 4294967296 = v at *
   subst h1 h2
   simp only [Nat.mul_add, Nat.add_mul]
   have e1 : 4294967296 * x * (4294967296 * u) = 18446744073709551616 * (x * u) := by rw [Nat.mul_mul_mul_comm]
   have e2 : 4294967296 * x * v = 4294967296 * (x * v) := Nat.mul_assoc _ _ _
   have e3 : y * (4294967296 * u) = 4294967296 * (y * u) := Nat.mul_left_comm _ _ _
   omega
 have hw : IntKind.u64.wrap (((a : Nat) : Int) * ((b : Nat) : Int)) = ((a * b % 18446744073709551616 : Nat) : Int) := by rw [← Int.natCast_mul, wrap_u64]; omega
 have q00 : IntKind.u64.wrap (((a % 4294967296 : Nat) : Int) * ((b % 4294967296 : Nat) : Int)) = ((a % 4294967296 * (b % 4294967296) : Nat) : Int) := by rw [← Int.natCast_mul]; exact w _ (by omega)
 have q10 : IntKind.u64.wrap (((a / 4294967296 : Nat) : Int) * ((b % 4294967296 : Nat) : Int)) = ((a / 4294967296 * (b % 4294967296) : Nat) : Int) := by rw [← Int.natCast_mul]; exact w _ (by omega)
 have q01 : IntKind.u64.wrap (((a % 4294967296 : Nat) : Int) * ((b / 4294967296 : Nat) : Int)) = ((a % 4294967296 * (b / 4294967296) : Nat) : Int) := by rw [← Int.natCast_mul]; exact w _ (by omega)
 have q11 : IntKind.u64.wrap (((a / 4294967296 : Nat) : Int) * ((b / 4294967296 : Nat) : Int)) = ((a / 4294967296 * (b / 4294967296) : Nat) : Int) := by rw [← Int.natCast_mul]; exact w _ (by omega)
 unfold M256
 simp only [f, and_low a ha, and_low b hb, hw, q00, q10, q01, q11]
 generalize a % 4294967296 * (b % 4294967296) = p00 at *
 generalize a / 4294967296 * (b % 4294967296) = p10 at *
 generalize a % 4294967296 * (b / 4294967296) = p01 at *
 generalize a / 4294967296 * (b / 4294967296) = p11 at *
 have t1 : IntKind.u64.wrap (((p10 : Nat) : Int) + ((p00 / 4294967296 : Nat) : Int)) = ((p10 + p00 / 4294967296 : Nat) : Int) := by rw [← Int.natCast_add]; exact w _ (by omega)
 simp only [t1, f, and_low (p10 + p00 / 4294967296) (by omega)]
 have t2 : IntKind.u64.wrap ((((p10 + p00 / 4294967296) % 4294967296 : Nat) : Int) + ((p01 : Nat) : Int)) = (((p10 + p00 / 4294967296) % 4294967296 + p01 : Nat) : Int) := by rw [← Int.natCast_add]; exact w _ (by omega)
 simp only [t2, f]
 have t3 : IntKind.u64.wrap (IntKind.u64.wrap (((p11 : Nat) : Int) + (((p10 + p00 / 4294967296) / 4294967296 : Nat) : Int)) + ((((p10 + p00 / 4294967296) % 4294967296 + p01) / 4294967296 : Nat) : Int)) = ((a * b / 18446744073709551616 : Nat) : Int) := by
   rw [← Int.natCast_add, w _ (by omega), ← Int.natCast_add, w _ (by omega), hab]
   omega
 rw [t3]
 exact sat_need rfl (sat_need rfl (sat_need rfl (sat_need rfl (sat_need rfl (sat_ret rfl)))))
theorem f256_ok : PureOk Tryz.prog 224 K256 := by
 refine poL (N := 1005) noΓ_ok (blocksOk_none _ _) (fn := Tryz.f224) ?_ ?_
 ·intro args v cs h
  unfold K256 at h
  split at h
  ·cases h; rfl
  ·cases h
 ·intro args v cs h hc
  unfold K256 at h
  split at h
  ·rename_i a b
   cases h
   have h1 : u64B a = true := hc (u64B a) (by simp)
   have h2 : u64B b = true := hc (u64B b) (by simp)
   simp only [u64B, Bool.and_eq_true, decide_eq_true_eq] at h1 h2
   obtain ⟨a, rfl⟩ : ∃ j : Nat, a = j := ⟨a.toNat, by omega⟩
   obtain ⟨b, rfl⟩ : ∃ j : Nat, b = j := ⟨b.toNat, by omega⟩
   have hs := M256_sat a b (by omega) (by omega)
   rw [← M256_eq] at hs
   generalize execFn Tryz.prog (fun _ => none) noL 1005 Tryz.f224 [.c (.v (.int .u64 ((a : Nat) : Int))), .c (.v (.int .u64 ((b : Nat) : Int)))] = T at hs ⊢
   exact Tr.sat_mono (fun r hr => ⟨by subst hr; rfl, Sees.of_eq hr⟩) hs
  ·cases h
theorem Γ219_ok : ∀ f s, Γ219 f = some s → SpecOk Tryz.prog f s := step_ok f172_ok.spec (step_ok f256_ok.spec (step_ok f174_ok.spec (step_ok f197_ok.spec (one_ok f199_ok.spec))))
theorem zeros_of (n : Nat) : (u32sOf n fun x => List.map IV.v [Value.int IntKind.u32 0]) = u32s 0 n := by
 have h : ∀ n, u32s 0 n = List.replicate n 0 := fun n => by
  induction n with
  | zero => rfl
  | succ n ih => simp [u32s, ih, List.replicate_succ]
 rw [h]
 unfold u32sOf
 exact List.map_const' .. |>.trans (by rw [List.length_range]; rfl)
theorem zeros_is (n : Nat) : (isU32s n fun x => List.map IV.v [Value.int IntKind.u32 0]) = true := List.all_eq_true.2 fun _ _ => rfl
theorem wordB_lt (a : ByteArray) (h : wordB a = true) : u64B (wordV a) = true := by
 have := magN_word a h
 rw [wordV_eq a h]; simp [u64B]; omega
theorem M219_sat (a b : ByteArray) (ha : a.data.toList.length ≤ 100000000) (hb : b.data.toList.length ≤ 100000000) : (M219 a b).sat fun r => r = strA (magB (magN a.data.toList * magN b.data.toList)) := by
 have la := mag_dig a
 have lb := mag_dig b
 have na : nDig a.data.toList.length ≤ 25000001 := by unfold nDig; omega
 have nb : nDig b.data.toList.length ≤ 25000001 := by unfold nDig; omega
 have ea : u32sOf (nDig a.data.toList.length) (u32El (u32s (magN a.data.toList) (nDig a.data.toList.length))) = u32s (magN a.data.toList) (nDig a.data.toList.length) := by
  have := u32sOf_el (u32s (magN a.data.toList) (nDig a.data.toList.length)); rw [u32s_len] at this; exact this
 have eb : u32sOf (nDig b.data.toList.length) (u32El (u32s (magN b.data.toList) (nDig b.data.toList.length))) = u32s (magN b.data.toList) (nDig b.data.toList.length) := by
  have := u32sOf_el (u32s (magN b.data.toList) (nDig b.data.toList.length)); rw [u32s_len] at this; exact this
 have w1 : IntKind.i64.wrap (IntKind.i64.wrap (((nDig a.data.toList.length : Nat) : Int) + ((nDig b.data.toList.length : Nat) : Int)) + 1) = ((nDig a.data.toList.length + nDig b.data.toList.length + 1 : Nat) : Int) := by
  have : IntKind.i64.wrap (((nDig a.data.toList.length : Nat) : Int) + ((nDig b.data.toList.length : Nat) : Int)) = ((nDig a.data.toList.length + nDig b.data.toList.length : Nat) : Int) := by rw [wrap_i64 (by omega)]; omega
  rw [this, wrap_i64 (by omega)]; omega
 have hS : magN a.data.toList * magN b.data.toList < BB ^ (nDig a.data.toList.length + nDig b.data.toList.length + 1) := by
  have h1 := mul_pow_lt (magN a.data.toList) (magN b.data.toList) (nDig a.data.toList.length) (nDig b.data.toList.length) lb
  rw [Nat.mod_eq_of_lt la] at h1
  exact Nat.lt_of_lt_of_le h1 (Nat.pow_le_pow_right (by decide) (by omega))
 have ep := u32sOf_el (u32s (magN a.data.toList * magN b.data.toList) (nDig a.data.toList.length + nDig b.data.toList.length + 1))
 rw [u32s_len] at ep
 unfold M219
 simp only [w1, ea, eb, zeros_of, zeros_is, Int.toNat_natCast, u32s_len, natV_u32s _ _ la, natV_u32s _ _ lb, ep, natV_u32s _ _ hS]
 have tail : ∀ {T : Tr AV}, Tr.sat (fun r => r = strA (magB (magN a.data.toList * magN b.data.toList))) T → Tr.sat (fun r => r = strA (magB (magN a.data.toList * magN b.data.toList))) T := id
 refine sat_ite (fun hw => sat_need (wordB_lt a (Bool.and_eq_true_iff.1 hw).1) (sat_need (wordB_lt b (Bool.and_eq_true_iff.1 hw).2) (sat_ite (fun h0 => ?_) (fun h0 => ?g1)))) (fun hw => ?g2)
 ·rw [Bool.and_eq_true] at hw
  rw [wordV_eq a hw.1, wordV_eq b hw.2] at h0 ⊢
  simp only [Int.toNat_natCast] at h0 ⊢
  have h0 := eq_of_beq h0
  have hlt : magN a.data.toList * magN b.data.toList < 18446744073709551616 := by omega
  rw [Nat.mod_eq_of_lt hlt]
  exact sat_need (by simp [u64B]; omega) (sat_ret rfl)
 all_goals
  refine sat_need (decide_eq_true (by omega)) (sat_need (decide_eq_true (by omega)) (sat_need (by simp) (sat_need (decide_eq_true (by omega)) (sat_need (decide_eq_true (by omega)) (sat_need (decide_eq_true (by omega)) (sat_need (by simp) (sat_need (by simp) (sat_need (by simp) (sat_need (isU32s_mk (okD_u32s _ _) _) (sat_need rfl (sat_need (isU32s_mk (okD_u32s _ _) _) (sat_need ?_ (sat_need (by simp) (sat_need (isU32s_mk (okD_u32s _ _) _) (sat_need (decide_eq_true (by omega)) (sat_ret rfl))))))))))))))))
  simp only [okD_u32s, Bool.and_true, Bool.and_eq_true, decide_eq_true_eq, true_and, and_true, decide_true]
  omega
theorem f219_ok : PureOk Tryz.prog 188 K219 := by
 refine poL (N := 1005) Γ219_ok f219_loops (fn := Tryz.f188) ?_ ?_
 ·intro args v cs h
  unfold K219 at h
  split at h
  ·cases h; rfl
  ·cases h
 ·intro args v cs h hc
  unfold K219 at h
  split at h
  ·rename_i a b
   cases h
   have h1 : a.data.toList.length ≤ 100000000 := dec (hc (decide (a.data.toList.length ≤ 100000000)) (by simp))
   have h2 : b.data.toList.length ≤ 100000000 := dec (hc (decide (b.data.toList.length ≤ 100000000)) (by simp))
   have hs := M219_sat a b h1 h2
   rw [← M219_eq] at hs
   generalize execFn Tryz.prog Γ219 L219 1005 Tryz.f188 [.c (.v (.string a)), .c (.v (.string b))] = T at hs ⊢
   generalize magB (magN a.data.toList * magN b.data.toList) = z at hs ⊢
   exact Tr.sat_mono (fun r hr => ⟨by subst hr; rfl, Sees.of_eq hr⟩) hs
  ·cases h
end Go.Vse
