/- Helpers for the proof: no statement of its own. -/
import Derived.Test.YtpnbbgegfjefkaaGreatDoorVseD
import Derived.Test.YtpnbbgegfjefkaaGreatDoorProg
set_option linter.unusedVariables false
set_option linter.unusedSimpArgs false
set_option linter.unnecessarySimpa false
set_option linter.deprecated false
namespace Go.Vse
def magN (l : List UInt8) : Nat := l.foldl (fun a c => a * 256 + c.toNat) 0
def magB (n : Nat) : List UInt8 := if h : n = 0 then [] else magB (n / 256) ++ [UInt8.ofNat (n % 256)]
 termination_by n
 decreasing_by exact Nat.div_lt_self (Nat.pos_of_ne_zero h) (by decide)
def canon (l : List UInt8) : Bool := match l with
 | [] => true
 | c :: _ => c != 0
theorem snocInd {P : List UInt8 → Prop} (h0 : P []) (h1 : ∀ l c, P l → P (l ++ [c])) (l : List UInt8) : P l := by
 rw [← List.reverse_reverse l]
 induction l.reverse with
 | nil => exact h0
 | cons c l ih => rw [List.reverse_cons]; exact h1 _ _ ih
theorem magB_zero : magB 0 = [] := by rw [magB]; rfl
theorem magB_pos {n : Nat} (h : 0 < n) : magB n = magB (n / 256) ++ [UInt8.ofNat (n % 256)] := by
 rw [magB, dif_neg (by omega)]
theorem magN_nil : magN [] = 0 := rfl
theorem magN_snoc (l : List UInt8) (c : UInt8) : magN (l ++ [c]) = magN l * 256 + c.toNat := by simp [magN]
theorem magN_take {l : List UInt8} {i : Nat} (h : i < l.length) : magN (l.take (i + 1)) = magN (l.take i) * 256 + (l.getD i 0).toNat := by
 rw [List.take_succ_eq_append_getElem h, magN_snoc]
 simp [List.getD_eq_getElem?_getD, h]
theorem magN_magB (n : Nat) : magN (magB n) = n := by
 induction n using Nat.strongRecOn with
 | ind n ih =>
  by_cases h : n = 0
  ·subst h; rw [magB_zero]; rfl
  ·rw [magB_pos (by omega), magN_snoc, ih (n / 256) (Nat.div_lt_self (by omega) (by decide))]
   have : (UInt8.ofNat (n % 256)).toNat = n % 256 := by simp [UInt8.toNat_ofNat']
   omega
theorem magN_lt (l : List UInt8) : magN l < 256 ^ l.length := by
 induction l using snocInd with
 | h0 => simp [magN]
 | h1 l c ih =>
  rw [magN_snoc, List.length_append, List.length_singleton, Nat.pow_succ]
  have := c.toNat_lt
  omega
theorem magB_len (n : Nat) : ∀ k, n < 256 ^ k → (magB n).length ≤ k := by
 induction n using Nat.strongRecOn with
 | ind n ih =>
  intro k hk
  by_cases h : n = 0
  ·subst h; rw [magB_zero]; simp
  ·cases k with
   | zero => simp at hk; omega
   | succ k =>
    rw [magB_pos (by omega), List.length_append, List.length_singleton]
    have := ih (n / 256) (Nat.div_lt_self (by omega) (by decide)) k (by rw [Nat.pow_succ] at hk; omega)
    omega
theorem canon_magB (n : Nat) : canon (magB n) = true := by
 induction n using Nat.strongRecOn with
 | ind n ih =>
  by_cases h : n = 0
  ·subst h; rw [magB_zero]; rfl
  ·rw [magB_pos (by omega)]
   have ih1 := ih (n / 256) (Nat.div_lt_self (by omega) (by decide))
   cases hm : magB (n / 256) with
   | nil =>
    have hz : n / 256 = 0 := by
     have := magN_magB (n / 256)
     rw [hm] at this
     exact this.symm
    simp only [List.nil_append, canon, bne_iff_ne, ne_eq]
    intro hc
    have := congrArg UInt8.toNat hc
    simp [UInt8.toNat_ofNat'] at this
    omega
   | cons c l =>
    rw [hm] at ih1
    exact ih1
theorem magN_pos_of_canon {c : UInt8} {l : List UInt8} (h : c ≠ 0) : 256 ^ l.length ≤ magN (c :: l) := by
 induction l using snocInd with
 | h0 =>
  have hc : c.toNat ≠ 0 := fun hh => h (UInt8.toNat_inj.1 (by simpa using hh))
  simp [magN]
  omega
 | h1 l d ih =>
  rw [← List.cons_append, magN_snoc, List.length_append, List.length_singleton, Nat.pow_succ]
  omega
theorem magB_magN (l : List UInt8) (h : canon l = true) : magB (magN l) = l := by
 induction l using snocInd with
 | h0 => rw [magN_nil, magB_zero]
 | h1 l c ih =>
  cases l with
  | nil =>
   have hc : c ≠ 0 := by simpa [canon] using h
   have hn : c.toNat ≠ 0 := fun hh => hc (UInt8.toNat_inj.1 (by simpa using hh))
   have hlt := c.toNat_lt
   have e : magN ([] ++ [c]) = c.toNat := by simp [magN]
   rw [e, magB_pos (by omega)]
   have : c.toNat / 256 = 0 := by omega
   rw [this, magB_zero, Nat.mod_eq_of_lt hlt]
   simp
  | cons d l =>
   have hd : d ≠ 0 := by simpa [canon] using h
   have hp := magN_pos_of_canon (l := l) hd
   have hp2 : 0 < 256 ^ l.length := Nat.pow_pos (by decide)
   have hlt := c.toNat_lt
   rw [magN_snoc, magB_pos (by omega)]
   have e1 : (magN (d :: l) * 256 + c.toNat) / 256 = magN (d :: l) := by omega
   have e2 : (magN (d :: l) * 256 + c.toNat) % 256 = c.toNat := by omega
   rw [e1, e2, ih (by simpa [canon] using hd)]
   simp
theorem magB_inj {a b : Nat} (h : magB a = magB b) : a = b := by
 rw [← magN_magB a, h, magN_magB]
end Go.Vse
set_option maxRecDepth 100000
namespace Go.Vse
open Go.Proofs
def strA (l : List UInt8) : AV := .c (.v (.string ⟨⟨l⟩⟩))
theorem noΓ_ok {P : Program} : ∀ f s, (fun _ => none : FuncId → Option Spec) f = some s → SpecOk P f s := fun _ _ h => by cases h
theorem prog_mixed : Tryz.prog.follows .mixedOrders = true := by kernel_rfl
theorem step_ok {P : Program} {a : FuncId} {A : Spec} {Γ' : FuncId → Option Spec} (h : SpecOk P a A) (k : ∀ f s, Γ' f = some s → SpecOk P f s) : ∀ f s, (bif Nat.beq f a then some A else Γ' f) = some s → SpecOk P f s := by
 intro f s hf
 cases h1 : Nat.beq f a with
 | true =>
  obtain rfl : f = a := Nat.eq_of_beq_eq_true h1
  rw [h1] at hf; cases hf; exact h
 | false =>
  rw [h1] at hf
  exact k f s hf
theorem one_ok {P : Program} {f : FuncId} {s : Spec} (h : SpecOk P f s) : ∀ g t, (bif Nat.beq g f then some s else none) = some t → SpecOk P g t := step_ok h noΓ_ok
def Out (o : MemOut) (p : MemOut) : Prop := Sees p.val o.val ∧ EntsEqv (p.outs ++ [p.new]) (o.outs ++ [o.new])
theorem Out.refl (o : MemOut) : Out o o := ⟨Sees.refl _, EntsEqv.refl _⟩
theorem Out.of_eq {o p : MemOut} (h : p = o) : Out o p := h ▸ Out.refl _
structure Way (X : Type) where
 res : X → X
 pre : X → Bool
structure W104 where
 s : ByteArray
 u : Int
 n : Int
 i : Int
def head104 (x : W104) : List AV × List (Option Ent) := ([.c (.v (.string x.s)), intA .u64 x.u, intA .i64 x.n, intA .i64 x.i], [])
def take104 : List AV × List (Option Ent) → Option (W104 × List Bool)
 | ([.c (.v (.string s)), .c (.v (.int .u64 u)), .c (.v (.int .i64 n)), .c (.v (.int .i64 i))], []) => some (⟨s, u, n, i⟩, [])
 | _ => none
def lp104 (w : Way W104) : LoopSt W104 W104 where
 nIn := { nt := 23, live := [0, 4, 10, 11] }
 nOut := { nt := 23, live := [0, 4, 10, 11] }
 head := head104
 take := take104
 out := fun r => (.normal, head104 r)
 takeR := fun q => match q with | (.normal, q) => take104 q | _ => none
 res := w.res
 pre := w.pre
theorem take104_ok (q : List AV × List (Option Ent)) (x : W104) (cs : List Bool) (h : take104 q = some (x, cs)) : SeesL q.1 (head104 x).1 ∧ EntsEqv q.2 (head104 x).2 := by
 unfold take104 at h
 split at h
 ·cases h; exact ⟨SeesL.refl _, EntsEqv.refl _⟩
 ·cases h
theorem lp104_good (w : Way W104) : (lp104 w).Good2 where
 take := fun q x cs h _ => take104_ok q x cs h
 takeR := by
  intro e q r cs h hc
  cases e with
  | normal => obtain ⟨h1, h2⟩ := take104_ok q r cs h; exact ⟨rfl, h1, h2⟩
  | exit j => cases h
  | ret => cases h
 split := fun r Q h => h
def way104 : Way W104 := ⟨fun x => ⟨x.s, (magN x.s.data.toList : Nat), x.n, x.n⟩, fun x => decide (x.n = (x.s.data.toList.length : Nat)) && decide (x.s.data.toList.length ≤ 8) && decide (x.i = 0) && decide (x.u = 0)⟩
def L104 : Nat → Option (St → Tr (Ex × St)) := fun id => bif Nat.beq id 0 then some ((lp104 way104).g 0) else none
end Go.Vse
set_option maxRecDepth 100000
namespace Go.Vse
open Go.Proofs
def step104 (s : ByteArray) (u : Int) (n : Int) (i : Int) : Tr (W104 ⊕ W104) :=
 let x1 : List UInt8 := s.data.toList
 let x2 : Int := ↑x1.length
 .ite (decide (i < n)) (.need true (.need (decide (0 ≤ i ∧ i < x2)) (.ret (Sum.inl { s := s, u := IntKind.u64.wrap ↑(BitVec.ofInt IntKind.u64.bits (IntKind.u64.wrap (u * 2 ^ min (Int.toNat 8) IntKind.u64.bits)) ||| BitVec.ofInt IntKind.u64.bits (IntKind.u64.wrap ↑(x1.getD i.toNat 0).toNat)).toNat, n := n, i := IntKind.i64.wrap (i + 1) })))) (.ret (Sum.inr { s := s, u := u, n := n, i := i }))
def M104 (s : ByteArray) : Tr AV :=
 let x1 : List UInt8 := s.data.toList
 let x2 : Int := ↑x1.length
 .ite (decide (x2 > 8)) (.ret (AV.tup [.c (.v (.int IntKind.u64 0)), .c (.v (.bool false))])) (.need (decide (x2 = x2) && decide (x1.length ≤ 8) && decide (0 = 0) && decide (0 = 0)) (.ret (AV.tup [.c (.v (.int IntKind.u64 ↑(magN x1))), .c (.v (.bool true))])))
def M196 (u : Int) : Tr AV :=
 let x1 : Int := u.fdiv (2 ^ min (Int.toNat 32) IntKind.u64.bits)
 let x2 : Int := 2 ^ min (Int.toNat 16) IntKind.u64.bits
 let x3 : Int := x1.fdiv x2
 let x4 : Int := 2 ^ min (Int.toNat 8) IntKind.u64.bits
 let x5 : Int := IntKind.u8.wrap (x3.fdiv x4)
 let x6 : List UInt8 := [8, 8, 8, 8, 8, 8, 8, 8, 8, 8, 8, 8, 8, 8, 8, 8, 8, 8, 8, 8, 8, 8, 8, 8, 8, 8, 8, 8, 8, 8, 8, 8, 8, 8, 8, 8, 8, 8, 8, 8, 8, 8, 8, 8, 8, 8, 8, 8, 8, 8, 8, 8, 8, 8, 8, 8, 8, 8, 8, 8, 8, 8, 8, 8]
 let x7 : List UInt8 := ([0, 1, 2, 2, 3, 3, 3, 3, 4, 4, 4, 4, 4, 4, 4, 4, 5, 5, 5, 5, 5, 5, 5, 5, 5, 5, 5, 5, 5, 5, 5, 5, 6, 6, 6, 6, 6, 6, 6, 6, 6, 6, 6, 6, 6, 6, 6, 6, 6, 6, 6, 6, 6, 6, 6, 6, 6, 6, 6, 6, 6, 6, 6, 6].append [7, 7, 7, 7, 7, 7, 7, 7, 7, 7, 7, 7, 7, 7, 7, 7, 7, 7, 7, 7, 7, 7, 7, 7, 7, 7, 7, 7, 7, 7, 7, 7, 7, 7, 7, 7, 7, 7, 7, 7, 7, 7, 7, 7, 7, 7, 7, 7, 7, 7, 7, 7, 7, 7, 7, 7, 7, 7, 7, 7, 7, 7, 7, 7]).append (x6.append x6)
 let x8 : Int := ↑x7.length
 let x9 : Int := IntKind.i64.wrap (32 + 16)
 let x10 : Int := IntKind.u8.wrap x3
 let x11 : Int := IntKind.u8.wrap (x1.fdiv x4)
 let x12 : Int := IntKind.u8.wrap x1
 let x13 : Int := u.fdiv x2
 let x14 : Int := IntKind.u8.wrap (x13.fdiv x4)
 let x15 : Int := IntKind.i64.wrap (0 + 16)
 let x16 : Int := IntKind.u8.wrap x13
 let x17 : Int := IntKind.u8.wrap (u.fdiv x4)
 .ite (decide (u ≥ 4294967296)) (.need true (.ite (decide (x1 ≥ 65536)) (.need true (.ite (decide (x3 ≥ 256)) (.need true (.need (decide (0 ≤ x5 ∧ x5 < x8)) (.ret (.c (.v (.int IntKind.i64 (IntKind.i64.wrap (IntKind.i64.wrap (x9 + 8) + IntKind.i64.wrap ↑(x7.getD x5.toNat 0).toNat)))))))) (.need (decide (0 ≤ x10 ∧ x10 < x8)) (.ret (.c (.v (.int IntKind.i64 (IntKind.i64.wrap (x9 + IntKind.i64.wrap ↑(x7.getD x10.toNat 0).toNat))))))))) (.ite (decide (x1 ≥ 256)) (.need true (.need (decide (0 ≤ x11 ∧ x11 < x8)) (.ret (.c (.v (.int IntKind.i64 (IntKind.i64.wrap (IntKind.i64.wrap (32 + 8) + IntKind.i64.wrap ↑(x7.getD x11.toNat 0).toNat)))))))) (.need (decide (0 ≤ x12 ∧ x12 < x8)) (.ret (.c (.v (.int IntKind.i64 (IntKind.i64.wrap (32 + IntKind.i64.wrap ↑(x7.getD x12.toNat 0).toNat)))))))))) (.ite (decide (u ≥ 65536)) (.need true (.ite (decide (x13 ≥ 256)) (.need true (.need (decide (0 ≤ x14 ∧ x14 < x8)) (.ret (.c (.v (.int IntKind.i64 (IntKind.i64.wrap (IntKind.i64.wrap (x15 + 8) + IntKind.i64.wrap ↑(x7.getD x14.toNat 0).toNat)))))))) (.need (decide (0 ≤ x16 ∧ x16 < x8)) (.ret (.c (.v (.int IntKind.i64 (IntKind.i64.wrap (x15 + IntKind.i64.wrap ↑(x7.getD x16.toNat 0).toNat))))))))) (.ite (decide (u ≥ 256)) (.need true (.need (decide (0 ≤ x17 ∧ x17 < x8)) (.ret (.c (.v (.int IntKind.i64 (IntKind.i64.wrap (IntKind.i64.wrap (0 + 8) + IntKind.i64.wrap ↑(x7.getD x17.toNat 0).toNat)))))))) (.need (decide (0 ≤ IntKind.u8.wrap u ∧ IntKind.u8.wrap u < x8)) (.ret (.c (.v (.int IntKind.i64 (IntKind.i64.wrap (0 + IntKind.i64.wrap ↑(x7.getD (IntKind.u8.wrap u).toNat 0).toNat)))))))))
def M173 (b : Bool) (s : ByteArray) : Tr AV :=
 let x1 : List AV := [.c (.v (.string s))]
 .ite b (.ret (AV.agg (.c (.v (.bool (bif true then !s.data.toList == [] else false))) :: x1))) (.ret (AV.agg (.c (.v (.bool false)) :: x1)))
theorem step104_eq (w : Way W104) (x : W104) : (exec Tryz.prog (fun _ => none) noL 1010 (loopOf 0 (codeOf Tryz.f104)) (mkSt (lp104 w).nIn ((lp104 w).head x))).bind ((lp104 w).fin 0 0) = step104 x.s x.u x.n x.i := by
 obtain ⟨s, u, n, i⟩ := x
 kernel_rfl
theorem M104_eq (s : ByteArray) : execFn Tryz.prog (fun _ => none) L104 1010 Tryz.f104 [.c (.v (.string s))] = M104 s := by kernel_rfl
theorem M196_eq (u : Int) : execFn Tryz.prog (fun _ => none) noL 1010 Tryz.f196 [intA .u64 u] = M196 u := by kernel_rfl
theorem M173_eq (b : Bool) (s : ByteArray) : execFn Tryz.prog (fun _ => none) noL 1010 Tryz.f173 [.c (.v (.bool b)), .c (.v (.string s))] = M173 b s := by kernel_rfl
theorem toNat64 (x : Nat) (hx : x < 18446744073709551616) : (BitVec.ofInt 64 (x : Int)).toNat = x := by
 rw [BitVec.toNat_ofInt]; omega
theorem shl8_or (u c : Nat) (hu : u < 72057594037927936) (hc : c < 256) :
  IntKind.u64.wrap ((BitVec.ofInt IntKind.u64.bits (IntKind.u64.wrap ((u : Int) * 2 ^ min (Int.toNat 8) IntKind.u64.bits)) ||| BitVec.ofInt IntKind.u64.bits (IntKind.u64.wrap (c : Int))).toNat : Nat) = ((u * 256 + c : Nat) : Int) := by
 have e1 : IntKind.u64.wrap ((u : Int) * 2 ^ min (Int.toNat 8) IntKind.u64.bits) = ((u * 256 : Nat) : Int) := by
  change IntKind.u64.wrap ((u : Int) * 256) = _
  rw [wrap_u64]; omega
 have e2 : IntKind.u64.wrap (c : Int) = (c : Int) := by rw [wrap_u64]; omega
 rw [e1, e2]
 change IntKind.u64.wrap ((BitVec.ofInt 64 ((u * 256 : Nat) : Int) ||| BitVec.ofInt 64 (c : Int)).toNat : Nat) = _
 rw [BitVec.toNat_or, toNat64 _ (by omega), toNat64 _ (by omega)]
 have e3 : u * 256 ||| c = u * 256 + c := by
  have := Nat.two_pow_add_eq_or_of_lt (i := 8) (b := c) (by omega) u
  rw [Nat.mul_comm u]
  exact this.symm
 rw [e3, wrap_u64]; omega
theorem pow256 (k : Nat) (h : k ≤ 7) : 256 ^ k ≤ 72057594037927936 := by
 calc 256 ^ k ≤ 256 ^ 7 := Nat.pow_le_pow_right (by omega) h
  _ = 72057594037927936 := by decide
theorem runs104 (s : ByteArray) (hl : s.data.toList.length ≤ 8) (Q : W104 → Prop) (hq : Q ⟨s, (magN s.data.toList : Nat), (s.data.toList.length : Nat), (s.data.toList.length : Nat)⟩) : ∀ (k i : Nat), i + k = s.data.toList.length →
  RunsX (fun x : W104 => step104 x.s x.u x.n x.i) Q (k + 1) ⟨s, (magN (s.data.toList.take i) : Nat), (s.data.toList.length : Nat), (i : Nat)⟩
 | 0, i, hi => by
  obtain rfl : i = s.data.toList.length := by omega
  rw [List.take_length]
  exact sat_ite (fun h => absurd (of_decide_eq_true h) (Int.lt_irrefl _)) (fun _ => sat_ret hq)
 | k + 1, i, hi => by
  have ih := runs104 s hl Q hq k (i + 1) (by omega)
  have hw : IntKind.i64.wrap ((i : Int) + 1) = ((i + 1 : Nat) : Int) := by rw [wrap_i64 (by omega)]; omega
  have hm := magN_lt (s.data.toList.take i)
  have hlen : (s.data.toList.take i).length = i := by rw [List.length_take]; omega
  rw [hlen] at hm
  have hp := pow256 i (by omega)
  have hc := (s.data.toList.getD i 0).toNat_lt
  unfold RunsX
  change Tr.sat _ (step104 s (magN (s.data.toList.take i) : Nat) (s.data.toList.length : Nat) (i : Nat))
  refine sat_ite (fun _ => sat_need rfl (sat_need (decide_eq_true (by omega)) (sat_ret ?_))) (fun h => absurd (show (i : Int) < (s.data.toList.length : Nat) by omega) (of_decide_eq_false h))
  have hs := shl8_or (magN (s.data.toList.take i)) (s.data.toList.getD i 0).toNat (by omega) hc
  have ht := magN_take (l := s.data.toList) (i := i) (by omega)
  simp only [Int.toNat_natCast, hw, hs]
  rw [← ht]
  exact ih
theorem f104_loops : BlocksOk Tryz.prog 0 L104 (codeOf Tryz.f104) := by
 refine blocksOk_of (d := fun id => Nat.beq id 0) (fun id => by unfold L104; cases Nat.beq id 0 <;> rfl) _ ?_
 have hb : blocksOf (fun id => Nat.beq id 0) (codeOf Tryz.f104) = [(0, .loop (loopOf 0 (codeOf Tryz.f104)))] := by kernel_rfl
 rw [hb]
 intro p hp g hg
 simp only [List.mem_singleton] at hp
 subst hp
 have hh : L104 0 = some ((lp104 way104).g 0) := rfl
 rw [hh] at hg
 obtain rfl : g = (lp104 way104).g 0 := (Option.some.inj hg).symm
 refine LoopSt.ok2 (N := 1010) prog_mixed noΓ_ok (L := noL) (blocksOk_none 0 _) (lp104_good _) (step104_eq way104) ?_
 rintro ⟨s, u, n, i⟩ hx
 have hx : way104.pre ⟨s, u, n, i⟩ = true := hx
 simp only [way104, Bool.and_eq_true, decide_eq_true_eq] at hx
 obtain ⟨⟨⟨rfl, h2⟩, rfl⟩, rfl⟩ := hx
 have := runs104 s h2 (· = way104.res ⟨s, 0, (s.data.toList.length : Nat), 0⟩) rfl s.data.toList.length 0 (by omega)
 exact ⟨_, this⟩
def wordV (s : ByteArray) : Int := if s.data.toList.length ≤ 8 then (magN s.data.toList : Nat) else 0
def wordB (s : ByteArray) : Bool := decide (s.data.toList.length ≤ 8)
def K104 : List AV → Option (AV × List Bool)
 | [.c (.v (.string s))] => some (.tup [intA .u64 (wordV s), boolA (wordB s)], [])
 | _ => none
theorem M104_sat (s : ByteArray) : (M104 s).sat fun r => r = .tup [intA .u64 (wordV s), boolA (wordB s)] := by
 unfold M104 wordV wordB
 refine sat_ite (fun h => ?_) (fun h => ?_)
 ·have h := of_decide_eq_true h
  have h1 : ¬ s.data.toList.length ≤ 8 := by omega
  rw [if_neg h1, decide_eq_false h1]
  exact sat_ret rfl
 ·have h := of_decide_eq_false h
  have h1 : s.data.toList.length ≤ 8 := by omega
  rw [if_pos h1, decide_eq_true h1]
  exact sat_need (by simp [h1]) (sat_ret rfl)
theorem f104_ok : PureOk Tryz.prog 104 K104 := by
 refine pureOk_of_exec prog_mixed noΓ_ok (fn := Tryz.f104) (c := codeOf Tryz.f104) (by kernel_rfl) (by kernel_rfl) (callFunc_enter (fn := Tryz.f104) (c := codeOf Tryz.f104) (by kernel_rfl) (by kernel_rfl) (by kernel_rfl)) (L := L104) (N := 1010) f104_loops ?_ ?_
 ·intro args v cs h
  unfold K104 at h
  split at h
  ·cases h; rfl
  ·cases h
 ·intro args v cs h hc
  unfold K104 at h
  split at h
  ·rename_i s
   cases h
   have hs := M104_sat s
   rw [← M104_eq] at hs
   generalize execFn Tryz.prog (fun _ => none) L104 1010 Tryz.f104 [.c (.v (.string s))] = T at hs ⊢
   exact Tr.sat_mono (fun r hr => ⟨by subst hr; rfl, Sees.of_eq hr⟩) hs
  ·cases h
def K173 : List AV → Option (AV × List Bool)
 | [.c (.v (.bool b)), .c (.v (.string s))] => some (.agg [boolA (b && !(s.data.toList == [])), .c (.v (.string s))], [])
 | _ => none
theorem f173_ok : PureOk Tryz.prog 173 K173 := by
 refine pureOk_of_exec prog_mixed noΓ_ok (fn := Tryz.f173) (c := codeOf Tryz.f173) (by kernel_rfl) (by kernel_rfl) (callFunc_enter (fn := Tryz.f173) (c := codeOf Tryz.f173) (by kernel_rfl) (by kernel_rfl) (by kernel_rfl)) (L := noL) (N := 1010) (blocksOk_none _ _) ?_ ?_
 ·intro args v cs h
  unfold K173 at h
  split at h
  ·cases h; rfl
  ·cases h
 ·intro args v cs h hc
  unfold K173 at h
  split at h
  ·rename_i b s
   cases h
   have hs : (M173 b s).sat fun r => r = .agg [boolA (b && !(s.data.toList == [])), .c (.v (.string s))] := by
    refine sat_ite (fun h => ?_) (fun h => ?_) <;> subst h <;> exact sat_ret rfl
   rw [← M173_eq] at hs
   generalize execFn Tryz.prog (fun _ => none) noL 1010 Tryz.f173 [.c (.v (.bool b)), .c (.v (.string s))] = T at hs ⊢
   exact Tr.sat_mono (fun r hr => ⟨by subst hr; rfl, Sees.of_eq hr⟩) hs
  ·cases h
end Go.Vse
set_option maxRecDepth 100000
namespace Go.Vse
open Go.Proofs
def bitLen (n : Nat) : Nat := if n = 0 then 0 else Nat.log2 n + 1
theorem bitLen_le {n k : Nat} : bitLen n ≤ k ↔ n < 2 ^ k := by
 unfold bitLen
 split
 ·rename_i h; subst h; simp [Nat.two_pow_pos]
 ·rename_i h
  rw [← Nat.log2_lt h]; omega
theorem bitLen_shift {n k : Nat} (h : 2 ^ k ≤ n) : bitLen n = bitLen (n / 2 ^ k) + k := by
 have key : ∀ m, bitLen n ≤ m ↔ bitLen (n / 2 ^ k) + k ≤ m := by
  intro m
  by_cases hm : k ≤ m
  ·have : bitLen (n / 2 ^ k) + k ≤ m ↔ bitLen (n / 2 ^ k) ≤ m - k := by omega
   rw [this, bitLen_le, bitLen_le, Nat.div_lt_iff_lt_mul (Nat.two_pow_pos k), ← Nat.pow_add]
   rw [show m - k + k = m by omega]
  ·constructor
   ·intro hh
    rw [bitLen_le] at hh
    have : 2 ^ m ≤ 2 ^ k := Nat.pow_le_pow_right (by omega) (by omega)
    omega
   ·intro hh; omega
 exact Nat.le_antisymm ((key _).2 (Nat.le_refl _)) ((key _).1 (Nat.le_refl _))
def len8 : List UInt8 := ([0, 1, 2, 2, 3, 3, 3, 3, 4, 4, 4, 4, 4, 4, 4, 4, 5, 5, 5, 5, 5, 5, 5, 5, 5, 5, 5, 5, 5, 5, 5, 5, 6, 6, 6, 6, 6, 6, 6, 6, 6, 6, 6, 6, 6, 6, 6, 6, 6, 6, 6, 6, 6,
         6, 6, 6, 6, 6, 6, 6, 6, 6, 6, 6].append
     [7, 7, 7, 7, 7, 7, 7, 7, 7, 7, 7, 7, 7, 7, 7, 7, 7, 7, 7, 7, 7, 7, 7, 7, 7, 7, 7, 7, 7, 7, 7, 7, 7, 7, 7, 7, 7, 7, 7, 7, 7, 7, 7, 7, 7, 7, 7, 7, 7, 7, 7,
       7, 7, 7, 7, 7, 7, 7, 7, 7, 7, 7, 7, 7]).append
 (([8, 8, 8, 8, 8, 8, 8, 8, 8, 8, 8, 8, 8, 8, 8, 8, 8, 8, 8, 8, 8, 8, 8, 8, 8, 8, 8, 8, 8, 8, 8, 8, 8, 8, 8, 8, 8, 8, 8, 8, 8, 8, 8, 8, 8, 8, 8, 8, 8, 8, 8, 8, 8,
 8, 8, 8, 8, 8, 8, 8, 8, 8, 8, 8] : List UInt8).append [8, 8, 8, 8, 8, 8, 8, 8, 8, 8, 8, 8, 8, 8, 8, 8, 8, 8, 8, 8, 8, 8, 8, 8, 8, 8, 8, 8, 8, 8, 8, 8, 8, 8, 8, 8, 8, 8, 8, 8, 8, 8, 8, 8, 8, 8, 8, 8, 8, 8, 8, 8, 8,
 8, 8, 8, 8, 8, 8, 8, 8, 8, 8, 8])
theorem len8_all : ((List.range 256).all fun c => Nat.beq (len8.getD c 0).toNat (bitLen c)) = true := by kernel_rfl
theorem len8_len : len8.length = 256 := by kernel_rfl
theorem len8_get {c : Nat} (h : c < 256) : (len8.getD c 0).toNat = bitLen c := Nat.eq_of_beq_eq_true (List.all_eq_true.1 len8_all c (List.mem_range.2 h))
theorem fdiv_nat (n k : Nat) : ((n : Int)).fdiv ((k : Nat) : Int) = ((n / k : Nat) : Int) := by
 rw [Int.fdiv_eq_ediv_of_nonneg _ (by omega)]; rfl
theorem M196_sat (n : Nat) (hn : n < 18446744073709551616) : (M196 (n : Int)).sat fun r => r = intA .i64 (bitLen n : Nat) := by
 have q32 : ((n : Int)).fdiv (2 ^ min (Int.toNat 32) IntKind.u64.bits) = ((n / 4294967296 : Nat) : Int) := fdiv_nat n 4294967296
 have q16 : ∀ m : Nat, ((m : Int)).fdiv (2 ^ min (Int.toNat 16) IntKind.u64.bits) = ((m / 65536 : Nat) : Int) := fun m => fdiv_nat m 65536
 have q8 : ∀ m : Nat, ((m : Int)).fdiv (2 ^ min (Int.toNat 8) IntKind.u64.bits) = ((m / 256 : Nat) : Int) := fun m => fdiv_nat m 256
 have leaf : ∀ (m : Nat) (k : Int) (b : Nat), m < 256 → 0 ≤ k → k + 8 < 1000 → ((b : Nat) : Int) = k + (bitLen m : Nat) → bitLen m ≤ 8 →
   (Tr.need (decide (0 ≤ IntKind.u8.wrap (m : Int) ∧ IntKind.u8.wrap (m : Int) < ((len8.length : Nat) : Int))) (Tr.ret (AV.c (IV.v (Value.int IntKind.i64 (IntKind.i64.wrap (k + IntKind.i64.wrap (((len8.getD (IntKind.u8.wrap (m : Int)).toNat 0).toNat : Nat) : Int)))))))).sat fun r => r = intA .i64 (b : Nat) := by
  intro m k b hm h0 hk hb hle
  have e1 : IntKind.u8.wrap (m : Int) = (m : Int) := by rw [wrap_u8]; omega
  rw [e1, Int.toNat_natCast, len8_get hm, len8_len]
  refine sat_need (decide_eq_true (by omega)) (sat_ret ?_)
  rw [wrap_i64 (x := ((bitLen m : Nat) : Int)) (by omega), wrap_i64 (by omega), hb]
  rfl
 have b8 : ∀ m, m < 256 → bitLen m ≤ 8 := fun m hm => bitLen_le.2 (by simpa using hm)
 have w1 : IntKind.i64.wrap (32 + 16) = 48 := by rfl
 have w2 : IntKind.i64.wrap (48 + 8) = 56 := by rfl
 have w3 : IntKind.i64.wrap (32 + 8) = 40 := by rfl
 have w4 : IntKind.i64.wrap (0 + 16) = 16 := by rfl
 have w5 : IntKind.i64.wrap (16 + 8) = 24 := by rfl
 have w6 : IntKind.i64.wrap (0 + 8) = 8 := by rfl
 unfold M196
 simp only [q32, q16, q8, w1, w2, w3, w4, w5, w6]
 refine sat_ite (fun h => sat_need rfl ?_) (fun h => ?_)
 ·have h := of_decide_eq_true h
  have s1 := bitLen_shift (n := n) (k := 32) (by omega)
  rw [show (2 : Nat) ^ 32 = 4294967296 from rfl] at s1
  refine sat_ite (fun h => sat_need rfl ?_) (fun h => ?_)
  ·have h := of_decide_eq_true h
   have s2 := bitLen_shift (n := n / 4294967296) (k := 16) (by omega)
   rw [show (2 : Nat) ^ 16 = 65536 from rfl] at s2
   refine sat_ite (fun h => sat_need rfl ?_) (fun h => ?_)
   ·have h := of_decide_eq_true h
    have s3 := bitLen_shift (n := n / 4294967296 / 65536) (k := 8) (by omega)
    rw [show (2 : Nat) ^ 8 = 256 from rfl] at s3
    exact leaf (n / 4294967296 / 65536 / 256) 56 (bitLen n) (by omega) (by omega) (by omega) (by omega) (b8 _ (by omega))
   ·have h := of_decide_eq_false h
    exact leaf (n / 4294967296 / 65536) 48 (bitLen n) (by omega) (by omega) (by omega) (by omega) (b8 _ (by omega))
  ·have h := of_decide_eq_false h
   refine sat_ite (fun h => sat_need rfl ?_) (fun h => ?_)
   ·have h := of_decide_eq_true h
    have s3 := bitLen_shift (n := n / 4294967296) (k := 8) (by omega)
    rw [show (2 : Nat) ^ 8 = 256 from rfl] at s3
    exact leaf (n / 4294967296 / 256) 40 (bitLen n) (by omega) (by omega) (by omega) (by omega) (b8 _ (by omega))
   ·have h := of_decide_eq_false h
    exact leaf (n / 4294967296) 32 (bitLen n) (by omega) (by omega) (by omega) (by omega) (b8 _ (by omega))
 ·have h := of_decide_eq_false h
  refine sat_ite (fun h => sat_need rfl ?_) (fun h => ?_)
  ·have h := of_decide_eq_true h
   have s2 := bitLen_shift (n := n) (k := 16) (by omega)
   rw [show (2 : Nat) ^ 16 = 65536 from rfl] at s2
   refine sat_ite (fun h => sat_need rfl ?_) (fun h => ?_)
   ·have h := of_decide_eq_true h
    have s3 := bitLen_shift (n := n / 65536) (k := 8) (by omega)
    rw [show (2 : Nat) ^ 8 = 256 from rfl] at s3
    exact leaf (n / 65536 / 256) 24 (bitLen n) (by omega) (by omega) (by omega) (by omega) (b8 _ (by omega))
   ·have h := of_decide_eq_false h
    exact leaf (n / 65536) 16 (bitLen n) (by omega) (by omega) (by omega) (by omega) (b8 _ (by omega))
  ·have h := of_decide_eq_false h
   refine sat_ite (fun h => sat_need rfl ?_) (fun h => ?_)
   ·have h := of_decide_eq_true h
    have s3 := bitLen_shift (n := n) (k := 8) (by omega)
    rw [show (2 : Nat) ^ 8 = 256 from rfl] at s3
    exact leaf (n / 256) 8 (bitLen n) (by omega) (by omega) (by omega) (by omega) (b8 _ (by omega))
   ·have h := of_decide_eq_false h
    exact leaf n 0 (bitLen n) (by omega) (by omega) (by omega) (by omega) (b8 _ (by omega))
def u64B (n : Int) : Bool := decide (0 ≤ n) && decide (n < 18446744073709551616)
def K196 : List AV → Option (AV × List Bool)
 | [.c (.v (.int .u64 n))] => some (intA .i64 (bitLen n.toNat : Nat), [u64B n])
 | _ => none
theorem f196_ok : PureOk Tryz.prog 196 K196 := by
 refine pureOk_of_exec prog_mixed noΓ_ok (fn := Tryz.f196) (c := codeOf Tryz.f196) (by kernel_rfl) (by kernel_rfl) (callFunc_enter (fn := Tryz.f196) (c := codeOf Tryz.f196) (by kernel_rfl) (by kernel_rfl) (by kernel_rfl)) (L := noL) (N := 1010) (blocksOk_none _ _) ?_ ?_
 ·intro args v cs h
  unfold K196 at h
  split at h
  ·cases h; rfl
  ·cases h
 ·intro args v cs h hc
  unfold K196 at h
  split at h
  ·rename_i n
   cases h
   have hr : u64B n = true := hc (u64B n) (List.mem_singleton.2 rfl)
   simp only [u64B, Bool.and_eq_true, decide_eq_true_eq] at hr
   obtain ⟨m, rfl⟩ : ∃ m : Nat, n = m := ⟨n.toNat, by omega⟩
   have hs := M196_sat m (by omega)
   rw [← M196_eq] at hs
   rw [Int.toNat_natCast]
   have e : (intA .u64 (m : Int)) = .c (.v (.int .u64 (m : Int))) := rfl
   rw [e] at hs
   generalize execFn Tryz.prog (fun _ => none) noL 1010 Tryz.f196 [.c (.v (.int .u64 (m : Int)))] = T at hs ⊢
   exact Tr.sat_mono (fun r hr => ⟨by subst hr; rfl, Sees.of_eq hr⟩) hs
  ·cases h
end Go.Vse
set_option maxRecDepth 100000
namespace Go.Vse
open Go.Proofs
structure W174 where
 u : Int
 n : Int
 n2 : Int
 i : Int
 l : List UInt8
def head174 (x : W174) : List AV × List (Option Ent) := ([intA .u64 x.u, intA .i64 x.n, .eptr 0 0 0 1, intA .i64 x.n2, intA .i64 x.i], [some (.arr 8 1 (byteEl x.l) 279)])
def take174 : List AV × List (Option Ent) → Option (W174 × List Bool)
 | ([.c (.v (.int .u64 u)), .c (.v (.int .i64 n)), .eptr 0 0 0 1, .c (.v (.int .i64 n2)), .c (.v (.int .i64 i))], [some (.arr 8 1 el 279)]) => some (⟨u, n, n2, i, bytesOf 8 el⟩, [isBytes 8 el])
 | _ => none
def lp174 (w : Way W174) : LoopSt W174 W174 where
 nIn := { nt := 30, live := [0, 3, 4, 12, 13] }
 nOut := { nt := 30, live := [0, 3, 4, 12, 13] }
 head := head174
 take := take174
 out := fun r => (.normal, head174 r)
 takeR := fun q => match q with | (.normal, q) => take174 q | _ => none
 res := w.res
 pre := w.pre
theorem take174_ok (q : List AV × List (Option Ent)) (x : W174) (cs : List Bool) (h : take174 q = some (x, cs)) (hc : ∀ p ∈ cs, p) : SeesL q.1 (head174 x).1 ∧ EntsEqv q.2 (head174 x).2 := by
 unfold take174 at h
 split at h
 ·rename_i u n n2 i el
  simp only [Option.some.injEq, Prod.mk.injEq] at h
  obtain ⟨rfl, rfl⟩ := h
  have h1 : isBytes 8 el = true := hc _ (List.mem_singleton.2 rfl)
  exact ⟨SeesL.refl _, .cons (.arr _ _ _ _ _ (byteEl_of_bytes h1)) .nil⟩
 ·cases h
theorem lp174_good (w : Way W174) : (lp174 w).Good2 where
 take := take174_ok
 takeR := by
  intro e q r cs h hc
  cases e with
  | normal => obtain ⟨h1, h2⟩ := take174_ok q r cs h hc; exact ⟨rfl, h1, h2⟩
  | exit j => cases h
  | ret => cases h
 split := fun r Q h => h
def lowB (u : Nat) : Nat → List UInt8
 | 0 => []
 | k + 1 => UInt8.ofNat (u / 256 ^ k % 256) :: lowB u k
def way174 : Way W174 := ⟨fun x => ⟨x.u, x.n, x.n2, x.n2, lowB x.u.toNat x.n.toNat ++ x.l.drop x.n.toNat⟩,
 fun x => u64B x.u && decide (x.n2 = x.n) && decide (x.i = 0) && decide (0 ≤ x.n) && decide (x.n ≤ 8) && decide (x.l.length = 8)⟩
def L174 : Nat → Option (St → Tr (Ex × St)) := fun id => bif Nat.beq id 0 then some ((lp174 way174).g 0) else none
def Γ174 : FuncId → Option Spec := fun f => bif Nat.beq f 196 then some (pureSpec K196) else none
end Go.Vse
set_option maxRecDepth 100000
namespace Go.Vse
open Go.Proofs
def step174 (u : Int) (n : Int) (n2 : Int) (i : Int) (l : List UInt8) : Tr (W174 ⊕ W174) :=
 let x1 : Int := IntKind.i64.wrap (8 * i)
 let x2 : Int := IntKind.i64.wrap (IntKind.i64.wrap (n - 1) - i)
 let x3 : Int := ↑8
 let x4 : Nat := x2.toNat
 .ite (decide (i < n2)) (.need (decide ¬x1 < 0) (.need (decide (0 ≤ x2 ∧ x2 < x3)) (.need (decide (x4 < 8)) (.need (isBytes 8 (spliceE (byteEl l) x4 0 [IV.v (Value.int IntKind.u8 (IntKind.u8.wrap (u.fdiv (2 ^ min x1.toNat IntKind.u64.bits))))].reverse)) (.ret (Sum.inl { u := u, n := n, n2 := n2, i := IntKind.i64.wrap (i + 1), l := bytesOf 8 (spliceE (byteEl l) x4 0 [IV.v (Value.int IntKind.u8 (IntKind.u8.wrap (u.fdiv (2 ^ min x1.toNat IntKind.u64.bits))))].reverse) })))))) (.need (isBytes 8 (byteEl l)) (.ret (Sum.inr { u := u, n := n, n2 := n2, i := i, l := bytesOf 8 (byteEl l) })))
def M174 (u : Int) : Tr AV :=
 let x1 : Int := IntKind.i64.wrap ((IntKind.i64.wrap (↑(bitLen u.toNat) + 7)).tdiv 8)
 let x2 : List UInt8 := bytesOf 8 fun x => List.map IV.v [Value.int IntKind.u8 0]
 let x3 : Nat := x2.length
 let x4 : Int := ↑8
 let x5 : Nat := x1.toNat
 .ite (u == 0) (.ret (.c (.v (.string { data := #[] })))) (.need (u64B u) (.need true (.need true (.need (u64B u && decide (x1 = x1) && decide (0 = 0) && decide (0 ≤ x1) && decide (x1 ≤ 8) && decide (x3 = 8)) (.need (decide (0 ≤ x1 ∧ x1 ≤ x4)) (.need (isBytes x5 (byteEl (lowB u.toNat x5 ++ List.drop x5 x2))) (.ret (.c (.v (.string ⟨⟨bytesOf x5 (byteEl (lowB u.toNat x5 ++ List.drop x5 x2))⟩⟩))))))))))
theorem step174_eq (w : Way W174) (x : W174) : (exec Tryz.prog (fun _ => none) noL 1010 (loopOf 0 (codeOf Tryz.f174)) (mkSt (lp174 w).nIn ((lp174 w).head x))).bind ((lp174 w).fin 0 0) = step174 x.u x.n x.n2 x.i x.l := by
 obtain ⟨u, n, n2, i, l⟩ := x
 kernel_rfl
theorem M174_eq (u : Int) : execFn Tryz.prog Γ174 L174 1010 Tryz.f174 [.c (.v (.int .u64 u))] = M174 u := by kernel_rfl
theorem splice_bytes (l : List UInt8) (k : Nat) (b : Nat) (hk : k < l.length) (hb : b < 256) : bytesOf l.length (spliceE (byteEl l) k 0 [IV.v (.int .u8 (b : Int))].reverse) = l.set k (UInt8.ofNat b) ∧ isBytes l.length (spliceE (byteEl l) k 0 [IV.v (.int .u8 (b : Int))].reverse) = true := by
 have hel : ∀ i, spliceE (byteEl l) k 0 [IV.v (.int .u8 (b : Int))].reverse i = if i = k then [IV.v (.int .u8 (b : Int))] else byteEl l i := by
  intro i
  unfold spliceE
  split
  ·rename_i h; subst h; simp [byteEl]
  ·rfl
 constructor
 ·apply List.ext_getElem
  ·simp [bytesOf]
  ·intro i h1 h2
   simp only [bytesOf, List.getElem_map, List.getElem_range, hel]
   by_cases hi : i = k
   ·subst hi
    simp [byteOf]
   ·have hil : i < l.length := by simpa [bytesOf] using h1
    rw [if_neg hi, List.getElem_set_ne (by omega)]
    simp [byteEl, byteOf_int, List.getD_eq_getElem?_getD, hil]
 ·refine List.all_eq_true.2 fun i hi => ?_
  rw [hel]
  split
  ·simp [isByte]; omega
  ·have := isBytes_byteEl l.length l
   exact List.all_eq_true.1 this i hi
theorem shr_byte (u i : Nat) (hi : i < 8) : IntKind.u8.wrap ((u : Int).fdiv (2 ^ min (8 * i) IntKind.u64.bits)) = ((u / 256 ^ i % 256 : Nat) : Int) := by
 have e1 : min (8 * i) IntKind.u64.bits = 8 * i := by
  change min (8 * i) 64 = 8 * i
  omega
 rw [e1]
 have e2 : ((2 : Int) ^ (8 * i)) = ((256 ^ i : Nat) : Int) := by
  rw [show (256 : Nat) = 2 ^ 8 from rfl, ← Nat.pow_mul]
  simp
 rw [e2, fdiv_nat, wrap_u8]
 simp
theorem set_mid (A B : List UInt8) (x b : UInt8) : (A ++ x :: B).set A.length b = A ++ b :: B := by
 simp [List.set_append]
theorem step174_in (u n i : Nat) (l : List UInt8) (hn : n ≤ 8) (hi : i < n) (hl : l.length = 8) {R : W174 ⊕ W174 → Prop}
  (hin : R (.inl ⟨u, n, n, ((i + 1 : Nat) : Int), l.set (n - 1 - i) (UInt8.ofNat (u / 256 ^ i % 256))⟩)) : (step174 (u : Nat) (n : Nat) (n : Nat) (i : Nat) l).sat R := by
 have w1 : IntKind.i64.wrap (8 * (i : Int)) = ((8 * i : Nat) : Int) := by rw [wrap_i64 (by omega)]; omega
 have w2 : IntKind.i64.wrap ((n : Int) - 1) = (n : Int) - 1 := wrap_i64 (by omega)
 have w3 : IntKind.i64.wrap ((n : Int) - 1 - i) = ((n - 1 - i : Nat) : Int) := by rw [wrap_i64 (by omega)]; omega
 have w4 : IntKind.i64.wrap ((i : Int) + 1) = ((i + 1 : Nat) : Int) := by rw [wrap_i64 (by omega)]; omega
 obtain ⟨s1, s2⟩ := splice_bytes l (n - 1 - i) (u / 256 ^ i % 256) (by omega) (Nat.mod_lt _ (by decide))
 rw [hl] at s1 s2
 unfold step174
 simp only [w1, w2, w3, w4, Int.toNat_natCast, shr_byte u i (by omega), s1, s2]
 exact sat_ite (fun _ => sat_need (decide_eq_true (by omega)) (sat_need (decide_eq_true (by omega)) (sat_need (decide_eq_true (by omega)) (sat_need rfl (sat_ret hin))))) (fun h => absurd (show (i : Int) < (n : Nat) by omega) (of_decide_eq_false h))
theorem lowB_len (u : Nat) : ∀ k, (lowB u k).length = k
 | 0 => rfl
 | k + 1 => by simp [lowB, lowB_len u k]
theorem runs174 (u n : Nat) (l0 : List UInt8) (hn : n ≤ 8) (hl : l0.length = 8) (Q : W174 → Prop) (hq : Q ⟨u, n, n, n, lowB u n ++ l0.drop n⟩) : ∀ (k i : Nat), i + k = n →
   RunsX (fun x : W174 => step174 x.u x.n x.n2 x.i x.l) Q (k + 1) ⟨u, n, n, i, l0.take (n - i) ++ (lowB u i ++ l0.drop n)⟩
 | 0, i, hi => by
   obtain rfl : i = n := by omega
   have hlen : (lowB u i ++ l0.drop i).length = 8 := by rw [List.length_append, lowB_len, List.length_drop]; omega
   unfold RunsX
   rw [Nat.sub_self, List.take_zero, List.nil_append]
   change Tr.sat _ (step174 (u : Nat) (i : Nat) (i : Nat) (i : Nat) (lowB u i ++ l0.drop i))
   unfold step174
   have e8 : bytesOf 8 (byteEl (lowB u i ++ l0.drop i)) = lowB u i ++ l0.drop i := by rw [← hlen, bytesOf_byteEl]
   rw [e8]
   exact sat_ite (fun h => absurd (of_decide_eq_true h) (Int.lt_irrefl _)) (fun _ => sat_need (isBytes_byteEl _ _) (sat_ret hq))
 | k + 1, i, hi => by
   have ih := runs174 u n l0 hn hl Q hq k (i + 1) (by omega)
   have ht : l0.take (n - i) = l0.take (n - 1 - i) ++ [l0[n - 1 - i]'(by omega)] := by
     rw [show n - i = (n - 1 - i) + 1 by omega]
     exact List.take_succ_eq_append_getElem (by omega)
   refine step174_in u n i _ hn (by omega) (by simp only [List.length_append, List.length_take, lowB_len, List.length_drop]; omega) ?_
   rw [ht, List.append_assoc, List.singleton_append]
   have hA : (l0.take (n - 1 - i)).length = n - 1 - i := by rw [List.length_take]; omega
   have hs := set_mid (l0.take (n - 1 - i)) (lowB u i ++ l0.drop n) (l0[n - 1 - i]'(by omega)) (UInt8.ofNat (u / 256 ^ i % 256))
   rw [hA] at hs
   rw [hs]
   have e : n - (i + 1) = n - 1 - i := by omega
   rw [e] at ih
   exact ih
theorem f174_loops : BlocksOk Tryz.prog 0 L174 (codeOf Tryz.f174) := by
 refine blocksOk_of (d := fun id => Nat.beq id 0) (fun id => by unfold L174; cases Nat.beq id 0 <;> rfl) _ ?_
 have hb : blocksOf (fun id => Nat.beq id 0) (codeOf Tryz.f174) = [(0, .loop (loopOf 0 (codeOf Tryz.f174)))] := by kernel_rfl
 rw [hb]
 intro p hp g hg
 simp only [List.mem_singleton] at hp
 subst hp
 have hh : L174 0 = some ((lp174 way174).g 0) := rfl
 rw [hh] at hg
 obtain rfl : g = (lp174 way174).g 0 := (Option.some.inj hg).symm
 refine LoopSt.ok2 (N := 1010) prog_mixed noΓ_ok (L := noL) (blocksOk_none 0 _) (lp174_good _) (step174_eq way174) ?_
 rintro ⟨u, n, n2, i, l⟩ hx
 have hx : way174.pre ⟨u, n, n2, i, l⟩ = true := hx
 simp only [way174, u64B, Bool.and_eq_true, decide_eq_true_eq] at hx
 obtain ⟨⟨⟨⟨⟨⟨h1, h2⟩, rfl⟩, rfl⟩, h5⟩, h6⟩, h7⟩ := hx
 obtain ⟨u, rfl⟩ : ∃ m : Nat, u = m := ⟨u.toNat, by omega⟩
 obtain ⟨n, rfl⟩ : ∃ m : Nat, n2 = m := ⟨n2.toNat, by omega⟩
 have := runs174 u n l (by omega) h7 (· = way174.res ⟨u, n, n, 0, l⟩) (by simp [way174]) n 0 (by omega)
 have e : l.take (n - 0) ++ (lowB u 0 ++ l.drop n) = l := by simp [lowB]
 rw [e] at this
 exact ⟨_, this⟩
theorem lowB_snoc : ∀ (k u : Nat), lowB u (k + 1) = lowB (u / 256) k ++ [UInt8.ofNat (u % 256)]
 | 0, u => by simp [lowB]
 | k + 1, u => by
   rw [lowB, lowB_snoc k u, lowB]
   rw [Nat.div_div_eq_div_mul, ← Nat.pow_succ']
   rfl
theorem lowB_magB : ∀ (k u : Nat), u < 256 ^ k → (k = 0 ∨ 256 ^ (k - 1) ≤ u) → lowB u k = magB u
 | 0, u, h, _ => by
  have : u = 0 := by simpa using h
  subst this
  rw [magB_zero]; rfl
 | k + 1, u, h, h2 => by
  have hu : 0 < u := by
   have := h2.resolve_left (by omega)
   have hp : 0 < 256 ^ (k + 1 - 1) := Nat.pow_pos (by decide)
   omega
  rw [lowB_snoc, magB_pos hu]
  congr 1
  refine lowB_magB k (u / 256) ?_ ?_
  ·rw [Nat.pow_succ] at h; omega
  ·by_cases hk : k = 0
   ·exact .inl hk
   ·right
    have := h2.resolve_left (by omega)
    rw [show k + 1 - 1 = (k - 1) + 1 by omega, Nat.pow_succ] at this
    omega
def byteLen (u : Nat) : Nat := (bitLen u + 7) / 8
theorem lowB_all {u : Nat} (h : 0 < u) : lowB u (byteLen u) = magB u := by
 have h1 : u < 2 ^ bitLen u := bitLen_le.1 (Nat.le_refl _)
 have h2 : ¬ u < 2 ^ (bitLen u - 1) := fun hh => by
   have hb : bitLen u ≠ 0 := fun hz => by rw [hz] at h1; simp at h1; omega
   have := bitLen_le.2 hh
   omega
 have hb : 0 < bitLen u := by
   rcases Nat.eq_zero_or_pos (bitLen u) with hz | hz
   · rw [hz] at h1; simp at h1; omega
   · exact hz
 refine lowB_magB _ u ?_ (.inr ?_)
 · rw [show (256 : Nat) = 2 ^ 8 from rfl, ← Nat.pow_mul]
   have : 2 ^ bitLen u ≤ 2 ^ (8 * byteLen u) := Nat.pow_le_pow_right (by omega) (by unfold byteLen; omega)
   omega
 · rw [show (256 : Nat) = 2 ^ 8 from rfl, ← Nat.pow_mul]
   have : 2 ^ (8 * (byteLen u - 1)) ≤ 2 ^ (bitLen u - 1) := Nat.pow_le_pow_right (by omega) (by unfold byteLen; omega)
   omega
def K174 : List AV → Option (AV × List Bool)
 | [.c (.v (.int .u64 n))] => some (strA (magB n.toNat), [u64B n])
 | _ => none
theorem M174_sat (u : Nat) (hu : u < 18446744073709551616) : (M174 (u : Nat)).sat fun r => r = strA (magB u) := by
 have hb : bitLen u ≤ 64 := bitLen_le.2 (by simpa using hu)
 have w1 : IntKind.i64.wrap (((bitLen u : Nat) : Int) + 7) = ((bitLen u + 7 : Nat) : Int) := by rw [wrap_i64 (by omega)]; omega
 have w2 : IntKind.i64.wrap ((((bitLen u + 7 : Nat) : Int)).tdiv 8) = ((byteLen u : Nat) : Int) := by
  have : (((bitLen u + 7 : Nat) : Int)).tdiv 8 = ((byteLen u : Nat) : Int) := rfl
  rw [this, wrap_i64 (by unfold byteLen; omega)]
 have hk : byteLen u ≤ 8 := by unfold byteLen; omega
 have hU : u64B ((u : Nat) : Int) = true := by simp [u64B]; omega
 unfold M174
 simp only [Int.toNat_natCast, w1, w2]
 refine sat_ite (fun h => ?_) (fun h => ?_)
 ·have h := eq_of_beq h
  obtain rfl : u = 0 := by omega
  rw [magB_zero]; exact sat_ret rfl
 ·have hpos : 0 < u := by
   rcases Nat.eq_zero_or_pos u with hz | hz
   ·subst hz; cases h
   ·exact hz
  rw [lowB_all hpos]
  have hlen : (magB u).length = byteLen u := by rw [← lowB_all hpos, lowB_len]
  have e1 : bytesOf (byteLen u) (byteEl (magB u ++ List.drop (byteLen u) (bytesOf 8 fun _ => List.map IV.v [Value.int IntKind.u8 0]))) = magB u := by
   apply List.ext_getElem
   ·simp [bytesOf, hlen]
   ·intro i h1 h2
    have hi : i < (magB u).length := h2
    simp [bytesOf, byteEl, byteOf_int, List.getD_eq_getElem?_getD, List.getElem?_append_left hi]
    rw [List.getElem?_eq_getElem hi]; rfl
  rw [e1]
  refine sat_need hU (sat_need rfl (sat_need rfl (sat_need ?_ (sat_need (decide_eq_true (by omega)) (sat_need (isBytes_byteEl _ _) (sat_ret rfl))))))
  have e8 : (bytesOf 8 fun _ => List.map IV.v [Value.int IntKind.u8 0]).length = 8 := rfl
  simp only [bytesOf_len, hU, Bool.true_and, Bool.and_eq_true, decide_eq_true_eq, true_and, and_true]
  omega
theorem Γ174_ok : ∀ f s, Γ174 f = some s → SpecOk Tryz.prog f s := one_ok f196_ok.spec
theorem f174_ok : PureOk Tryz.prog 174 K174 := by
 refine pureOk_of_exec prog_mixed Γ174_ok (fn := Tryz.f174) (c := codeOf Tryz.f174) (by kernel_rfl) (by kernel_rfl) (callFunc_enter (fn := Tryz.f174) (c := codeOf Tryz.f174) (by kernel_rfl) (by kernel_rfl) (by kernel_rfl)) (L := L174) (N := 1010) f174_loops ?_ ?_
 ·intro args v cs h
  unfold K174 at h
  split at h
  ·cases h; rfl
  ·cases h
 ·intro args v cs h hc
  unfold K174 at h
  split at h
  ·rename_i n
   cases h
   have hr : u64B n = true := hc (u64B n) (List.mem_singleton.2 rfl)
   simp only [u64B, Bool.and_eq_true, decide_eq_true_eq] at hr
   obtain ⟨m, rfl⟩ : ∃ m : Nat, n = m := ⟨n.toNat, by omega⟩
   have hs := M174_sat m (by omega)
   rw [← M174_eq] at hs
   rw [Int.toNat_natCast]
   generalize execFn Tryz.prog Γ174 L174 1010 Tryz.f174 [.c (.v (.int .u64 ((m : Nat) : Int)))] = T at hs ⊢
   generalize magB m = l at hs ⊢
   exact Tr.sat_mono (fun r hr => ⟨by subst hr; rfl, Sees.of_eq hr⟩) hs
  ·cases h
end Go.Vse
