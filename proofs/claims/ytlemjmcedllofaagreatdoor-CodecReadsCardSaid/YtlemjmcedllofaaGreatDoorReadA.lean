/- Helpers for the proof: no statement of its own. -/
import Derived.Test.YtlemjmcedllofaaGreatDoorNumB
set_option linter.unusedVariables false
set_option linter.unusedSimpArgs false
set_option linter.unnecessarySimpa false
set_option linter.deprecated false
set_option maxRecDepth 100000
namespace Go.Vse
open Go.Proofs

theorem zig_unzig (u : Nat) : zig (unzig u) = u := by
  unfold unzig zig
  split <;> split <;> omega

/-- how many bytes from a place on go on -/
def ext (l : List UInt8) : Nat → Nat → Nat
  | 0, _ => 0
  | f + 1, p => if p < l.length ∧ 128 ≤ (l.getD p 0).toNat then ext l f (p + 1) + 1 else 0

theorem ext_le (l : List UInt8) : ∀ (f p : Nat), ext l f p ≤ f
  | 0, _ => by simp [ext]
  | f + 1, p => by
    unfold ext
    split
    · have := ext_le l f (p + 1); omega
    · omega

/-- what is read is a form -/
theorem rdN_some (l : List UInt8) : ∀ (f u sh p : Nat) (v : Int) (q : Nat) (e : Int), sh + 7 * f = 70 → rdN l f u sh p = (some v, q, e) →
    ∃ x, v = unzig (u + x * 2 ^ sh) ∧ x * 2 ^ sh < 18446744073709551616 ∧ (sh > 0 → x > 0) ∧ p < q ∧ q ≤ l.length ∧ (l.take q).drop p = lebInit f x ++ [UInt8.ofNat (lebLast f x)]
  | 0, _, _, _, _, _, _, _, h => by simp [rdN] at h
  | f + 1, u, sh, p, v, q, e, hf, h => by
    rw [rdN] at h
    split at h
    · simp at h
    rename_i hp
    dsimp only at h
    split at h
    · simp at h
    rename_i hbad
    have hlt : (l.getD p 0).toNat < 256 := (l.getD p 0).toBitVec.isLt
    have hpl : p < l.length := by omega
    have hget : l.getD p 0 = l[p] := by simp [List.getD_eq_getElem?_getD, hpl]
    split at h
    · rename_i hc
      simp only [Prod.mk.injEq, Option.some.injEq] at h
      obtain ⟨rfl, rfl, rfl⟩ := h
      refine ⟨(l.getD p 0).toNat, ?_, ?_, ?_, by omega, by omega, ?_⟩
      · rw [Nat.mod_eq_of_lt hc]
      · by_cases h63 : sh = 63
        · subst h63
          have : (l.getD p 0).toNat ≤ 1 := by omega
          omega
        · have : sh ≤ 56 := by omega
          have h1 : 2 ^ sh ≤ 2 ^ 56 := Nat.pow_le_pow_right (by omega) this
          have h2 : (l.getD p 0).toNat * 2 ^ sh ≤ 127 * 2 ^ 56 := Nat.mul_le_mul (by omega) h1
          omega
      · intro h0
        omega
      · have e1 : lebInit (f + 1) (l.getD p 0).toNat = [] := by simp only [lebInit, hc, if_true]
        have e2 : lebLast (f + 1) (l.getD p 0).toNat = (l.getD p 0).toNat := by simp only [lebLast, hc, if_true]
        rw [e1, e2, UInt8.ofNat_toNat, hget]
        rw [List.take_succ_eq_append_getElem hpl, List.drop_append_of_le_length (by simp; omega), List.drop_eq_nil_of_le (by rw [List.length_take]; exact Nat.min_le_left _ _)]
    · rename_i hc
      have hsh : sh ≤ 56 := by
        by_cases h63 : sh = 63
        · exfalso; omega
        · omega
      obtain ⟨x, hv, hb, h0, hpq, hq, hl⟩ := rdN_some l f _ (sh + 7) (p + 1) v q e (by omega) h
      have hx : x > 0 := h0 (by omega)
      have hpow : (2 : Nat) ^ (sh + 7) = 128 * 2 ^ sh := by rw [Nat.pow_add, Nat.mul_comm]
      have hxe : x * 2 ^ (sh + 7) = 128 * x * 2 ^ sh := by rw [hpow, ← Nat.mul_assoc, Nat.mul_comm x 128]
      have hadd : ((l.getD p 0).toNat % 128 + 128 * x) * 2 ^ sh = (l.getD p 0).toNat % 128 * 2 ^ sh + x * 2 ^ (sh + 7) := by rw [Nat.add_mul, hxe]
      have hd : (128 + (l.getD p 0).toNat % 128) = (l.getD p 0).toNat := by omega
      refine ⟨(l.getD p 0).toNat % 128 + 128 * x, ?_, ?_, fun _ => by omega, by omega, hq, ?_⟩
      · rw [hv, hadd, Nat.add_assoc]
      · -- the sum stays below
        rw [hxe] at hb
        have h2 : 2 ^ sh * 2 ^ (64 - sh) = 18446744073709551616 := by
          rw [← Nat.pow_add, show sh + (64 - sh) = 64 by omega]
        have hk : 2 ^ (64 - sh) = 128 * 2 ^ (57 - sh) := by
          rw [show 64 - sh = 7 + (57 - sh) by omega, Nat.pow_add]
        have hxlt : 128 * x < 2 ^ (64 - sh) := by
          have : 128 * x * 2 ^ sh < 2 ^ (64 - sh) * 2 ^ sh := by rw [Nat.mul_comm (2 ^ (64 - sh)), h2]; exact hb
          exact Nat.lt_of_mul_lt_mul_right this
        have hxl2 : x < 2 ^ (57 - sh) := by omega
        have : (l.getD p 0).toNat % 128 + 128 * x < 2 ^ (64 - sh) := by omega
        calc ((l.getD p 0).toNat % 128 + 128 * x) * 2 ^ sh < 2 ^ (64 - sh) * 2 ^ sh := Nat.mul_lt_mul_of_pos_right this (Nat.two_pow_pos _)
          _ = 18446744073709551616 := by rw [Nat.mul_comm, h2]
      · have e1 : lebInit (f + 1) ((l.getD p 0).toNat % 128 + 128 * x) = UInt8.ofNat (l.getD p 0).toNat :: lebInit f x := by
          rw [lebInit, if_neg (by omega)]
          congr 2
          · omega
          · omega
        have e2 : lebLast (f + 1) ((l.getD p 0).toNat % 128 + 128 * x) = lebLast f x := by
          rw [lebLast, if_neg (by omega)]
          congr 1
          omega
        rw [e1, e2, UInt8.ofNat_toNat, hget, List.cons_append, ← hl]
        rw [List.drop_eq_getElem_cons (by simp; omega)]
        simp

/-- what is not read says why -/
theorem rdN_none (l : List UInt8) : ∀ (f u sh p q : Nat) (e : Int), sh + 7 * f = 70 → p ≤ l.length → rdN l f u sh p = (none, q, e) →
    (p + ext l f p = l.length ∧ ext l f p < f → e = 22) ∧
    (¬ (p + ext l f p = l.length ∧ ext l f p < f) → e = 5 ∧ (ext l f p = f ∨ (ext l f p + 1 = f ∧ p + ext l f p < l.length ∧ (l.getD (p + ext l f p) 0).toNat > 1) ∨
      ((sh > 0 ∨ ext l f p > 0) ∧ p + ext l f p < l.length ∧ (l.getD (p + ext l f p) 0).toNat = 0)))
  | 0, u, sh, p, q, e, hf, hp, h => by
    simp only [rdN, Prod.mk.injEq] at h
    obtain ⟨_, _, rfl⟩ := h
    simp [ext]
  | f + 1, u, sh, p, q, e, hf, hp, h => by
    rw [rdN] at h
    split at h
    · rename_i hpl
      simp only [Prod.mk.injEq] at h
      obtain ⟨_, _, rfl⟩ := h
      have : ext l (f + 1) p = 0 := by rw [ext, if_neg (by omega)]
      rw [this]
      refine ⟨fun _ => rfl, fun hn => absurd ⟨by omega, by omega⟩ hn⟩
    rename_i hpl
    dsimp only at h
    split at h
    · rename_i hbad
      simp only [Prod.mk.injEq] at h
      obtain ⟨_, _, rfl⟩ := h
      by_cases hc : 128 ≤ (l.getD p 0).toNat
      · have hf0 : f = 0 := by omega
        subst hf0
        have : ext l (0 + 1) p = 1 := by rw [ext, if_pos (by omega)]; simp [ext]
        rw [this]
        exact ⟨fun hh => by omega, fun _ => ⟨rfl, .inl (by omega)⟩⟩
      · have : ext l (f + 1) p = 0 := by rw [ext, if_neg (by omega)]
        rw [this]
        refine ⟨fun hh => by omega, fun _ => ⟨rfl, ?_⟩⟩
        rcases hbad with ⟨h63, hc1⟩ | ⟨h0, hc0⟩
        · exact .inr (.inl ⟨by omega, by omega, by simpa using hc1⟩)
        · exact .inr (.inr ⟨.inl h0, by omega, by simpa using hc0⟩)
    · rename_i hbad
      split at h
      · simp at h
      · rename_i hc
        have hx : ext l (f + 1) p = ext l f (p + 1) + 1 := by rw [ext, if_pos (by omega)]
        obtain ⟨h1, h2⟩ := rdN_none l f _ (sh + 7) (p + 1) q e (by omega) (by omega) h
        rw [hx]
        have hpe : p + (ext l f (p + 1) + 1) = p + 1 + ext l f (p + 1) := by omega
        rw [hpe]
        refine ⟨fun hh => h1 ⟨hh.1, by omega⟩, fun hn => ?_⟩
        obtain ⟨he, hcase⟩ := h2 (fun hh => hn ⟨hh.1, by omega⟩)
        refine ⟨he, ?_⟩
        rcases hcase with h | ⟨h, h', h3⟩ | ⟨h, h', h3⟩
        · exact .inl (by omega)
        · exact .inr (.inl ⟨by omega, h', h3⟩)
        · exact .inr (.inr ⟨.inr (by omega), h', h3⟩)
end Go.Vse


set_option maxRecDepth 100000
namespace Go.Vse
open Go.Proofs

/-- the look for the end of a number -/
structure ESt where
  s : ByteArray
  at_ : Int
  e : Int
  en : Int
def take4 : List AV × List (Option Ent) → Option (ESt × List Bool)
  | ([.c (.v (.string s)), .c (.v (.int .i64 a)), .c (.v (.int .i64 e)), .c (.v (.int .i64 n))], []) => some (⟨s, a, e, n⟩, [])
  | _ => none
def head4 (x : ESt) : List AV × List (Option Ent) := ([.c (.v (.string x.s)), intA .i64 x.at_, intA .i64 x.e, intA .i64 x.en], [])
def takeR4 : Ex × (List AV × List (Option Ent)) → Option (ESt × List Bool)
  | (.normal, q) => take4 q
  | _ => none
def lp4 (res : ESt → ESt) (pre : ESt → Bool) : LoopSt ESt ESt where
  nIn := { nt := 133, live := [0, 1, 7, 8] }
  nOut := { nt := 133, live := [0, 1, 7, 8] }
  head := head4
  take := take4
  out := fun r => (.normal, head4 r)
  takeR := takeR4
  res := res
  pre := pre
theorem take4_ok (q : List AV × List (Option Ent)) (x : ESt) (cs : List Bool) (h : take4 q = some (x, cs)) : q.1 = (head4 x).1 ∧ EntsEqv q.2 (head4 x).2 := by
  unfold take4 at h
  split at h
  · cases h; exact ⟨rfl, EntsEqv.refl _⟩
  · cases h
theorem lp4_good (res : ESt → ESt) (pre : ESt → Bool) : (lp4 res pre).Good where
  take := fun q x cs h _ => take4_ok q x cs h
  takeR := by
    intro e q r cs h _
    cases e with
    | normal => obtain ⟨h1, h2⟩ := take4_ok q r cs h; exact ⟨rfl, h1, h2⟩
    | exit j => cases h
    | ret => cases h
  split := fun r Q h => h
def eres : ESt → ESt := fun x => x
def epre : ESt → Bool := fun _ => true
end Go.Vse

set_option maxRecDepth 100000
namespace Go.Vse
open Go.Proofs
def res4 : ESt → ESt := fun x => { x with en := ((x.en.toNat + ext x.s.data.toList (10 - (x.en.toNat - x.at_.toNat)) x.en.toNat : Nat) : Int) }
def pre4 : ESt → Bool := fun x => decide (0 ≤ x.at_) && decide (x.at_ ≤ x.en) && decide (x.en ≤ x.at_ + 10) && decide (x.en ≤ (x.s.data.toList.length : Nat)) && decide (x.s.data.toList.length ≤ 4611686018427387904)
def L4 : Nat → Option (St → Tr (Ex × St)) := fun id => bif Nat.beq id 0 then some ((lp4 res4 pre4).g 0) else none
def step4 (s : ByteArray) (a : Int) (e : Int) (n : Int) : Tr (ESt ⊕ ESt) :=
let x1 : List UInt8 := s.data.toList
let x2 : Int := ↑x1.length
let x3 : Int := IntKind.i64.wrap (n - a)
let x4 : Int := ↑(x1.getD n.toNat 0).toNat
Tr.need
  (bif decide (n < x2) then bif bif true then decide (x3 < 10) else false then decide (0 ≤ n ∧ n < x2) && true else true
  else bif false then decide (0 ≤ n ∧ n < x2) && true else true)
  (Tr.ite
    (bif decide (n < x2) then bif bif true then decide (x3 < 10) else false then bif true then decide (x4 ≥ 128) else false else false
    else bif false then bif true then decide (x4 ≥ 128) else false else false)
    (Tr.ret (Sum.inl { s := s, at_ := a, e := e, en := IntKind.i64.wrap (n + 1) })) (Tr.ret (Sum.inr { s := s, at_ := a, e := e, en := n })))
def M4 (s : ByteArray) (a : Int) : Tr AV :=
let x1 : List UInt8 := s.data.toList
let x2 : Int := ↑x1.length
let x3 : Int := if 100 < x2 then 100 else x2
let x4 : List UInt8 := List.take x3.toNat x1
let x5 : Nat := x4.length
let x6 : Int := ↑x5
let x7 : ByteArray := { data := { toList := x4 } }
let x8 : Int := (rn x7 a).fst
let x9 : Int := (rn x7 a).snd.fst
let x10 : Int := (rn x7 a).snd.snd
let x11 : Int := ↑(a.toNat + ext x4 (10 - (a.toNat - a.toNat)) a.toNat)
let x12 : Int := IntKind.i64.wrap (x11 - a)
let x13 : Int := ↑(x4.getD x11.toNat 0).toNat
Tr.need (decide (0 ≤ x3 ∧ x3 ≤ x2))
  (Tr.need (decide (x5 ≤ 4611686018427387904))
    (Tr.ite false (Tr.ret (AV.c (IV.v (Value.bool false))))
      (Tr.need (bif decide (a < 0) then true else true)
        (Tr.ite (bif decide (a < 0) then true else bif false then true else decide (a > x6))
          (Tr.need (bif x8 == 0 then bif bif true then x9 == 0 else false then true else true else bif false then true else true)
            (Tr.ret
              (AV.c
                (IV.v
                  (Value.bool
                    (bif x8 == 0 then bif bif true then x9 == 0 else false then bif true then x10 == 2 else false else false
                    else bif false then bif true then x10 == 2 else false else false))))))
          (Tr.ite (x10 == 0)
            (Tr.need
              (bif decide (x9 > a) then
                bif bif true then decide (x9 ≤ x6) else false then
                  decide (0 ≤ a ∧ a ≤ x9 ∧ x9 ≤ x6) && (decide (-9223372036854775808 ≤ x8) && decide (x8 ≤ 9223372036854775807) && true)
                else true
              else
                bif false then decide (0 ≤ a ∧ a ≤ x9 ∧ x9 ≤ x6) && (decide (-9223372036854775808 ≤ x8) && decide (x8 ≤ 9223372036854775807) && true) else true)
              (Tr.ret
                (AV.c
                  (IV.v
                    (Value.bool
                      (bif decide (x9 > a) then
                        bif bif true then decide (x9 ≤ x6) else false then bif true then List.drop a.toNat (List.take x9.toNat x4) == leb (zig x8) else false
                        else false
                      else bif false then bif true then List.drop a.toNat (List.take x9.toNat x4) == leb (zig x8) else false else false))))))
            (Tr.need (bif x8 != 0 then true else true)
              (Tr.ite (bif x8 != 0 then true else bif false then true else x9 != 0) (Tr.ret (AV.c (IV.v (Value.bool false))))
                (Tr.need (pre4 { s := x7, at_ := a, e := x10, en := a })
                  (Tr.need (bif x11 == x6 then true else true)
                    (Tr.ite (bif x11 == x6 then bif true then decide (x12 < 10) else false else false) (Tr.ret (AV.c (IV.v (Value.bool (x10 == 22)))))
                      (Tr.ite (decide (x11 < x6))
                        (Tr.need (decide (0 ≤ x11 ∧ x11 < x6))
                          (Tr.need
                            (bif x10 == 5 then
                              bif x12 == 10 then bif true then true else bif decide (x11 > a) then true else true
                              else
                                bif x12 == 9 then
                                  bif bif false then true else bif true then decide (x13 > 1) else false then true else bif decide (x11 > a) then true else true
                                else bif bif false then true else false then true else bif decide (x11 > a) then true else true
                            else true)
                            (Tr.ret
                              (AV.c
                                (IV.v
                                  (Value.bool
                                    (bif x10 == 5 then
                                      bif x12 == 10 then
                                        bif true then bif true then true else false
                                        else
                                          bif decide (x11 > a) then bif true then bif false then true else bif true then x13 == 0 else false else false
                                          else bif true then bif false then true else false else false
                                      else
                                        bif x12 == 9 then
                                          bif bif false then true else bif true then decide (x13 > 1) else false then bif true then true else false
                                          else
                                            bif decide (x11 > a) then bif true then bif false then true else bif true then x13 == 0 else false else false
                                            else bif true then bif false then true else false else false
                                        else
                                          bif bif false then true else false then bif true then true else false
                                          else
                                            bif decide (x11 > a) then bif true then bif false then true else bif true then x13 == 0 else false else false
                                            else bif true then bif false then true else false else false
                                    else false)))))))
                        (Tr.need
                          (bif x10 == 5 then
                            bif x12 == 10 then bif true then true else bif decide (x11 > a) then true else true
                            else
                              bif x12 == 9 then
                                bif bif false then true else bif true then decide (128 > 1) else false then true else bif decide (x11 > a) then true else true
                              else bif bif false then true else false then true else bif decide (x11 > a) then true else true
                          else true)
                          (Tr.ret
                            (AV.c
                              (IV.v
                                (Value.bool
                                  (bif x10 == 5 then
                                    bif x12 == 10 then
                                      bif true then bif true then true else false
                                      else
                                        bif decide (x11 > a) then bif true then bif false then true else bif true then 128 == 0 else false else false
                                        else bif true then bif false then true else false else false
                                    else
                                      bif x12 == 9 then
                                        bif bif false then true else bif true then decide (128 > 1) else false then bif true then true else false
                                        else
                                          bif decide (x11 > a) then bif true then bif false then true else bif true then 128 == 0 else false else false
                                          else bif true then bif false then true else false else false
                                      else
                                        bif bif false then true else false then bif true then true else false
                                        else
                                          bif decide (x11 > a) then bif true then bif false then true else bif true then 128 == 0 else false else false
                                          else bif true then bif false then true else false else false
                                  else false)))))))))))))))))

theorem step4_eq (res : ESt → ESt) (pre : ESt → Bool) (x : ESt) : (exec Tryz.prog (fun _ => none) noL 1010 (loopOf 0 (codeOf Tryz.f4)) (mkSt (lp4 res pre).nIn ((lp4 res pre).head x))).bind ((lp4 res pre).fin 0 0) = step4 x.s x.at_ x.e x.en := by
  obtain ⟨s, a, e, n⟩ := x
  kernel_rfl
theorem M4_eq (s : ByteArray) (a : Int) : execFn Tryz.prog ΓC L4 1010 Tryz.f4 [.c (.v (.string s)), intA .i64 a] = M4 s a := by kernel_rfl
end Go.Vse

set_option maxRecDepth 100000
namespace Go.Vse
open Go.Proofs

theorem step4_in (s : ByteArray) (a en : Nat) (e : Int) (hl : s.data.toList.length ≤ 4611686018427387904) (h1 : a ≤ en) (h2 : en < s.data.toList.length) (h3 : en - a < 10) (h4 : 128 ≤ (s.data.toList.getD en 0).toNat) {R : ESt ⊕ ESt → Prop}
    (h : R (.inl ⟨s, a, e, ((en + 1 : Nat) : Int)⟩)) : (step4 s a e en).sat R := by
  have hw : IntKind.i64.wrap ((en : Int) - a) = (en : Int) - a := wrap_i64 (by omega)
  have hw2 : IntKind.i64.wrap ((en : Int) + 1) = ((en + 1 : Nat) : Int) := by rw [wrap_i64 (by omega)]; omega
  unfold step4
  have e1 : decide ((en : Int) < s.data.toList.length) = true := decide_eq_true (by omega)
  have e2 : decide ((en : Int) - a < 10) = true := decide_eq_true (by omega)
  have e3 : decide (((s.data.toList.getD en 0).toNat : Int) ≥ 128) = true := decide_eq_true (by omega)
  have e4 : decide ((0 : Int) ≤ en ∧ (en : Int) < s.data.toList.length) = true := decide_eq_true (by omega)
  simp only [hw, hw2, e1, e2, e3, e4, Int.toNat_natCast, cond_true, cond_false, Bool.and_true]
  exact sat_need rfl (sat_ite (fun _ => h) (fun h => by cases h))
theorem step4_out (s : ByteArray) (a en : Nat) (e : Int) (hl : s.data.toList.length ≤ 4611686018427387904) (h1 : a ≤ en) (hen : en ≤ s.data.toList.length) (h2 : ¬ (en < s.data.toList.length ∧ en - a < 10 ∧ 128 ≤ (s.data.toList.getD en 0).toNat)) {R : ESt ⊕ ESt → Prop}
    (h : R (.inr ⟨s, a, e, en⟩)) : (step4 s a e en).sat R := by
  have hw : IntKind.i64.wrap ((en : Int) - a) = (en : Int) - a := wrap_i64 (by omega)
  unfold step4
  simp only [hw, Int.toNat_natCast, cond_true, cond_false, Bool.and_true]
  by_cases e1 : (en : Int) < s.data.toList.length
  · by_cases e2 : (en : Int) - a < 10
    · have e3 : decide (((s.data.toList.getD en 0).toNat : Int) ≥ 128) = false := decide_eq_false (by omega)
      have e4 : decide ((0 : Int) ≤ en ∧ (en : Int) < s.data.toList.length) = true := decide_eq_true (by omega)
      simp only [decide_eq_true e1, decide_eq_true e2, e3, e4, cond_true]
      exact sat_need rfl (sat_ite (fun h => by cases h) (fun _ => h))
    · simp only [decide_eq_true e1, decide_eq_false e2, cond_true, cond_false]
      exact sat_need rfl (sat_ite (fun h => by cases h) (fun _ => h))
  · simp only [decide_eq_false e1, cond_false]
    exact sat_need rfl (sat_ite (fun h => by cases h) (fun _ => h))

theorem runs4 (s : ByteArray) (a : Nat) (e : Int) (hl : s.data.toList.length ≤ 4611686018427387904) (Q : ESt → Prop) : ∀ (f en : Nat), a ≤ en → en ≤ s.data.toList.length → f + (en - a) = 10 →
    Q ⟨s, a, e, ((en + ext s.data.toList f en : Nat) : Int)⟩ → RunsX (fun x : ESt => step4 x.s x.at_ x.e x.en) Q (f + 1) ⟨s, a, e, en⟩
  | 0, en, h1, h2, hf, hq => step4_out s a en e hl h1 h2 (by omega) hq
  | f + 1, en, h1, h2, hf, hq => by
    unfold ext at hq
    by_cases h : en < s.data.toList.length ∧ 128 ≤ (s.data.toList.getD en 0).toNat
    · rw [if_pos h] at hq
      exact step4_in s a en e hl h1 h.1 (by omega) h.2 (runs4 s a e hl Q f (en + 1) (by omega) (by omega) (by omega) (by rw [show en + 1 + ext s.data.toList f (en + 1) = en + (ext s.data.toList f (en + 1) + 1) by omega]; exact hq))
    · rw [if_neg h] at hq
      exact step4_out s a en e hl h1 h2 (fun hh => h ⟨hh.1, hh.2.2⟩) hq

theorem f4_loops : BlocksOk Tryz.prog 0 L4 (codeOf Tryz.f4) := by
  refine blocksOk_of (d := fun id => Nat.beq id 0) (fun id => by unfold L4; cases Nat.beq id 0 <;> rfl) _ ?_
  have hb : blocksOf (fun id => Nat.beq id 0) (codeOf Tryz.f4) = [(0, .loop (loopOf 0 (codeOf Tryz.f4)))] := by kernel_rfl
  rw [hb]
  intro p hp g hg
  simp only [List.mem_singleton] at hp
  subst hp
  have hh : L4 0 = some ((lp4 res4 pre4).g 0) := rfl
  rw [hh] at hg
  have : g = (lp4 res4 pre4).g 0 := (Option.some.inj hg).symm
  subst this
  refine LoopSt.ok (N := 1010) prog_mixed noΓ_ok (L := noL) (blocksOk_none 0 _) (lp4_good _ _) (step4_eq res4 pre4) ?_
  rintro ⟨s, a, e, en⟩ hx
  have hx : pre4 ⟨s, a, e, en⟩ = true := hx
  simp only [pre4, Bool.and_eq_true, decide_eq_true_eq] at hx
  obtain ⟨⟨⟨⟨h1, h2⟩, h3⟩, h4⟩, hl⟩ := hx
  obtain ⟨a, rfl⟩ : ∃ n : Nat, a = n := ⟨a.toNat, by omega⟩
  obtain ⟨en, rfl⟩ : ∃ n : Nat, en = n := ⟨en.toNat, by omega⟩
  exact ⟨_, runs4 s a e hl (· = res4 ⟨s, a, e, en⟩) (10 - (en - a)) en (by omega) (by omega) (by omega) (by simp [res4])⟩

/-- what ReadNumber answers -/
theorem rn_out (s : ByteArray) (a : Int) (h : a < 0 ∨ a > (s.data.toList.length : Nat)) : rn s a = (0, 0, 2) := by
  unfold rn; rw [if_pos h]
theorem rn_in (s : ByteArray) (p : Nat) (h : p ≤ s.data.toList.length) :
    (∃ n q, rn s p = (n, ((q : Nat) : Int), 0) ∧ p < q ∧ q ≤ s.data.toList.length ∧ -9223372036854775808 ≤ n ∧ n ≤ 9223372036854775807 ∧ (s.data.toList.take q).drop p = leb (zig n)) ∨
    (∃ e, rn s p = (0, 0, e) ∧ e ≠ 0 ∧ (p + ext s.data.toList 10 p = s.data.toList.length ∧ ext s.data.toList 10 p < 10 → e = 22) ∧
      (¬ (p + ext s.data.toList 10 p = s.data.toList.length ∧ ext s.data.toList 10 p < 10) → e = 5 ∧ (ext s.data.toList 10 p = 10 ∨ (ext s.data.toList 10 p + 1 = 10 ∧ p + ext s.data.toList 10 p < s.data.toList.length ∧ (s.data.toList.getD (p + ext s.data.toList 10 p) 0).toNat > 1) ∨
      (ext s.data.toList 10 p > 0 ∧ p + ext s.data.toList 10 p < s.data.toList.length ∧ (s.data.toList.getD (p + ext s.data.toList 10 p) 0).toNat = 0)))) := by
  have hneg : ¬ ((p : Int) < 0 ∨ (p : Int) > (s.data.toList.length : Nat)) := by omega
  have hall : rdAll s p = rdN s.data.toList 10 0 0 p := by unfold rdAll; rw [Int.toNat_natCast]
  rcases hr : rdN s.data.toList 10 0 0 p with ⟨o, q, e⟩
  rw [hr] at hall
  cases o with
  | some v =>
    obtain ⟨x, hv, hb, h0, hpq, hq, hl⟩ := rdN_some s.data.toList 10 0 0 p v q e (by omega) hr
    simp only [Nat.pow_zero, Nat.mul_one, Nat.zero_add] at hv hb
    refine .inl ⟨v, q, ?_, hpq, hq, ?_, ?_, ?_⟩
    · unfold rn
      rw [if_neg hneg, hall]
      simp [rdErr]
    · subst hv; unfold unzig; split <;> omega
    · subst hv; unfold unzig; split <;> omega
    · subst hv
      rw [zig_unzig, hl]; rfl
  | none =>
    obtain ⟨h1, h2⟩ := rdN_none s.data.toList 10 0 0 p q e (by omega) h hr
    have he : e ≠ 0 := by
      by_cases hc : p + ext s.data.toList 10 p = s.data.toList.length ∧ ext s.data.toList 10 p < 10
      · rw [h1 hc]; decide
      · rw [(h2 hc).1]; decide
    refine .inr ⟨e, ?_, he, h1, fun hc => ?_⟩
    · unfold rn
      rw [if_neg hneg, hall]
      simp [rdErr, he]
    · obtain ⟨a, b⟩ := h2 hc
      refine ⟨a, ?_⟩
      rcases b with b | b | b
      · exact .inl b
      · exact .inr (.inl b)
      · exact .inr (.inr ⟨by omega, b.2⟩)

theorem M4_sat (s : ByteArray) (a : Int) (ha : -9223372036854775808 ≤ a ∧ a ≤ 9223372036854775807) : (M4 s a).sat fun r => r = boolA true := by
  unfold M4
  dsimp only
  generalize hx3 : (if 100 < (s.data.toList.length : Int) then 100 else (s.data.toList.length : Int)) = x3
  have h3 : 0 ≤ x3 ∧ x3 ≤ (s.data.toList.length : Int) ∧ x3 ≤ 100 := by rw [← hx3]; split <;> omega
  have hlen : (s.data.toList.take x3.toNat).length ≤ 100 := by simp only [List.length_take]; omega
  generalize hl : s.data.toList.take x3.toNat = l at hlen
  have hd : (⟨⟨l⟩⟩ : ByteArray).data.toList = l := rfl
  refine sat_need (decide_eq_true ⟨h3.1, h3.2.1⟩) (sat_need (decide_eq_true (by omega)) (sat_ite (fun h => by cases h) (fun _ => sat_need ?_ (sat_ite (fun hc => ?_) (fun hc => ?_)))))
  · cases decide (a < 0) <;> rfl
  · have hout : a < 0 ∨ a > (l.length : Nat) := by
      by_cases h : a < 0
      · exact .inl h
      · simp only [h, decide_false, cond_false, decide_eq_true_eq] at hc
        exact .inr hc
    rw [rn_out ⟨⟨l⟩⟩ a (by rw [hd]; exact hout)]
    exact sat_need rfl rfl
  · have hin : ¬ a < 0 ∧ ¬ a > (l.length : Nat) := by
      by_cases h : a < 0
      · simp only [h, decide_true, cond_true] at hc; cases hc
      · simp only [h, decide_false, cond_false, decide_eq_false_iff_not] at hc
        exact ⟨h, hc⟩
    obtain ⟨p, rfl⟩ : ∃ n : Nat, a = n := ⟨a.toNat, by omega⟩
    have hp : p ≤ l.length := by omega
    rcases rn_in ⟨⟨l⟩⟩ p (by rw [hd]; exact hp) with ⟨n, q, hr, hpq, hq, hn1, hn2, hf⟩ | ⟨e, hr, he, h22, h5⟩
    · rw [hd] at hq hf
      rw [hr]
      refine sat_ite (fun _ => ?_) (fun h => by cases h)
      have e1 : ((q : Nat) : Int) > p := by omega
      have e2 : ((q : Nat) : Int) ≤ l.length := by omega
      have e3 : (0 : Int) ≤ p ∧ (p : Int) ≤ q ∧ (q : Int) ≤ l.length := by omega
      refine sat_need ?_ ?_
      · simp [e1, e2, e3, hn1, hn2]
      · simp only [Int.toNat_natCast, hf, e1, e2, decide_true, cond_true, BEq.rfl]
        rfl
    · rw [hd] at h22 h5
      have hx := ext_le l 10 p
      rw [hr]
      refine sat_ite (fun h => absurd (eq_of_beq h) he) (fun _ => sat_need rfl (sat_ite (fun h => by cases h) (fun _ => ?_)))
      have hw : IntKind.i64.wrap (((p + ext l 10 p : Nat) : Int) - p) = (ext l 10 p : Nat) := by rw [wrap_i64 (by omega)]; omega
      simp only [Int.toNat_natCast, Nat.sub_self, Nat.sub_zero, hw]
      generalize ext l 10 p = k at *
      refine sat_need ?_ (sat_need (by simp) (sat_ite (fun hc => ?_) (fun hc => ?_)))
      · simp only [pre4, hd, Bool.and_eq_true, decide_eq_true_eq]; omega
      · refine sat_ret ?_
        have : p + k = l.length ∧ k < 10 := by
          cases hb : (((p + k : Nat) : Int) == (l.length : Int)) with
          | true =>
            rw [hb] at hc
            simp only [cond_true, decide_eq_true_eq] at hc
            have := eq_of_beq hb
            omega
          | false => rw [hb] at hc; cases hc
        rw [h22 this]; rfl
      · have hne : ¬ (p + k = l.length ∧ k < 10) := by
          rintro ⟨h1, h2⟩
          have hb : (((p + k : Nat) : Int) == (l.length : Int)) = true := by rw [h1]; exact BEq.rfl
          rw [hb] at hc
          simp only [cond_true, decide_eq_false_iff_not] at hc
          omega
        obtain ⟨he5, hcase⟩ := h5 hne
        subst he5
        refine sat_ite (fun hlt => ?_) (fun hlt => ?_)
        · have hlt := of_decide_eq_true hlt
          refine sat_need (decide_eq_true (by omega)) (sat_need ?_ (sat_ret ?_))
          · generalize (((k : Nat) : Int) == 10) = b1
            generalize (((k : Nat) : Int) == 9) = b2
            generalize decide (((p + k : Nat) : Int) > p) = b3
            generalize decide (((l.getD (p + k) 0).toNat : Int) > 1) = b4
            cases b1 <;> cases b2 <;> cases b3 <;> cases b4 <;> rfl
          · rcases hcase with h | ⟨h, _, h4⟩ | ⟨h, _, h4⟩
            · subst h; rfl
            · obtain rfl : k = 9 := by omega
              have h6 : decide (((l.getD (p + 9) 0).toNat : Int) > 1) = true := decide_eq_true (by omega)
              rw [h6]; rfl
            · have h7 : decide (((p + k : Nat) : Int) > p) = true := decide_eq_true (by omega)
              have h8 : (((l.getD (p + k) 0).toNat : Int) == 0) = true := by rw [h4]; rfl
              rw [h7, h8]
              generalize (((k : Nat) : Int) == 10) = b1
              generalize (((k : Nat) : Int) == 9) = b2
              generalize decide (((l.getD (p + k) 0).toNat : Int) > 1) = b4
              cases b1 <;> cases b2 <;> cases b4 <;> rfl
        · have hlt := of_decide_eq_false hlt
          have hk : k = 10 := by
            rcases hcase with h | ⟨h, h4, _⟩ | ⟨h, h4, _⟩
            · exact h
            · omega
            · omega
          subst hk
          refine sat_need ?_ (sat_ret rfl)
          rfl
end Go.Vse

set_option maxRecDepth 100000
namespace Go.Vse
open Go.Proofs
theorem f4_calls (s : ByteArray) (n : Int) (h : -9223372036854775808 ≤ n ∧ n ≤ 9223372036854775807) (w : World) :
    Calls Tryz.prog 4 #[.string s, .int .i64 n] w fun e w' => e = .returned (.bool true) ∧ RowKit.Below w.heap.size w w' := by
  have hs : (execFn Tryz.prog ΓC L4 1010 Tryz.f4 [.c (.v (.string s)), intA .i64 n]).sat fun r => Vse.noPtr r = true ∧ r = boolA true := by
    rw [M4_eq]
    exact Tr.sat_mono (fun r hr => by subst hr; exact ⟨rfl, rfl⟩) (M4_sat s n h)
  refine (calls_of_exec prog_mixed ΓC_ok (f := 4) (fn := Tryz.f4) (c := codeOf Tryz.f4) (by kernel_rfl) (by kernel_rfl) f4_loops hs (A := fun _ => False) (w := w) (vs := [.string s, .int .i64 n]) (fun _ h => h.elim)
    (.cons (ARel.lit _) (.cons (ARel.lit _) .nil))).mono ?_
  rintro e w' ⟨r, v, rfl, _, rfl, hrel, hb⟩
  exact ⟨by rw [hrel.plain], hb⟩
end Go.Vse
