/- Helpers for the proof: no statement of its own. -/
import Derived.Test.YtlemjmcedllofaaGreatDoorNumB
set_option linter.unusedVariables false
set_option linter.unusedSimpArgs false
set_option linter.unnecessarySimpa false
set_option linter.deprecated false
set_option maxRecDepth 100000
namespace Go.Vse
open Go.Proofs

theorem zig_unzig (u : Nat) : zig (unzig u) = u := by
  unfold unzig zig
  split <;> split <;> omega

/-- how many bytes from a place on go on -/
def ext (l : List UInt8) : Nat → Nat → Nat
  | 0, _ => 0
  | f + 1, p => if p < l.length ∧ 128 ≤ (l.getD p 0).toNat then ext l f (p + 1) + 1 else 0

theorem ext_le (l : List UInt8) : ∀ (f p : Nat), ext l f p ≤ f
  | 0, _ => by simp [ext]
  | f + 1, p => by
    unfold ext
    split
    · have := ext_le l f (p + 1); omega
    · omega

/-- what is read is a form -/
theorem rdN_some (l : List UInt8) : ∀ (f u sh p : Nat) (v : Int) (q : Nat) (e : Int), sh + 7 * f = 70 → rdN l f u sh p = (some v, q, e) →
    ∃ x, v = unzig (u + x * 2 ^ sh) ∧ x * 2 ^ sh < 18446744073709551616 ∧ (sh > 0 → x > 0) ∧ p < q ∧ q ≤ l.length ∧ (l.take q).drop p = lebInit f x ++ [UInt8.ofNat (lebLast f x)]
  | 0, _, _, _, _, _, _, _, h => by simp [rdN] at h
  | f + 1, u, sh, p, v, q, e, hf, h => by
    rw [rdN] at h
    split at h
    · simp at h
    rename_i hp
    dsimp only at h
    split at h
    · simp at h
    rename_i hbad
    have hlt : (l.getD p 0).toNat < 256 := (l.getD p 0).toBitVec.isLt
    have hpl : p < l.length := by omega
    have hget : l.getD p 0 = l[p] := by simp [List.getD_eq_getElem?_getD, hpl]
    split at h
    · rename_i hc
      simp only [Prod.mk.injEq, Option.some.injEq] at h
      obtain ⟨rfl, rfl, rfl⟩ := h
      refine ⟨(l.getD p 0).toNat, ?_, ?_, ?_, by omega, by omega, ?_⟩
      · rw [Nat.mod_eq_of_lt hc]
      · by_cases h63 : sh = 63
        · subst h63
          have : (l.getD p 0).toNat ≤ 1 := by omega
          omega
        · have : sh ≤ 56 := by omega
          have h1 : 2 ^ sh ≤ 2 ^ 56 := Nat.pow_le_pow_right (by omega) this
          have h2 : (l.getD p 0).toNat * 2 ^ sh ≤ 127 * 2 ^ 56 := Nat.mul_le_mul (by omega) h1
          omega
      · intro h0
        omega
      · have e1 : lebInit (f + 1) (l.getD p 0).toNat = [] := by simp only [lebInit, hc, if_true]
        have e2 : lebLast (f + 1) (l.getD p 0).toNat = (l.getD p 0).toNat := by simp only [lebLast, hc, if_true]
        rw [e1, e2, UInt8.ofNat_toNat, hget]
        rw [List.take_succ_eq_append_getElem hpl, List.drop_append_of_le_length (by simp; omega), List.drop_eq_nil_of_le (by rw [List.length_take]; exact Nat.min_le_left _ _)]
    · rename_i hc
      have hsh : sh ≤ 56 := by
        by_cases h63 : sh = 63
        · exfalso; omega
        · omega
      obtain ⟨x, hv, hb, h0, hpq, hq, hl⟩ := rdN_some l f _ (sh + 7) (p + 1) v q e (by omega) h
      have hx : x > 0 := h0 (by omega)
      have hpow : (2 : Nat) ^ (sh + 7) = 128 * 2 ^ sh := by rw [Nat.pow_add, Nat.mul_comm]
      have hxe : x * 2 ^ (sh + 7) = 128 * x * 2 ^ sh := by rw [hpow, ← Nat.mul_assoc, Nat.mul_comm x 128]
      have hadd : ((l.getD p 0).toNat % 128 + 128 * x) * 2 ^ sh = (l.getD p 0).toNat % 128 * 2 ^ sh + x * 2 ^ (sh + 7) := by rw [Nat.add_mul, hxe]
      have hd : (128 + (l.getD p 0).toNat % 128) = (l.getD p 0).toNat := by omega
      refine ⟨(l.getD p 0).toNat % 128 + 128 * x, ?_, ?_, fun _ => by omega, by omega, hq, ?_⟩
      · rw [hv, hadd, Nat.add_assoc]
      · -- the sum stays below
        rw [hxe] at hb
        have h2 : 2 ^ sh * 2 ^ (64 - sh) = 18446744073709551616 := by
          rw [← Nat.pow_add, show sh + (64 - sh) = 64 by omega]
        have hk : 2 ^ (64 - sh) = 128 * 2 ^ (57 - sh) := by
          rw [show 64 - sh = 7 + (57 - sh) by omega, Nat.pow_add]
        have hxlt : 128 * x < 2 ^ (64 - sh) := by
          have : 128 * x * 2 ^ sh < 2 ^ (64 - sh) * 2 ^ sh := by rw [Nat.mul_comm (2 ^ (64 - sh)), h2]; exact hb
          exact Nat.lt_of_mul_lt_mul_right this
        have hxl2 : x < 2 ^ (57 - sh) := by omega
        have : (l.getD p 0).toNat % 128 + 128 * x < 2 ^ (64 - sh) := by omega
        calc ((l.getD p 0).toNat % 128 + 128 * x) * 2 ^ sh < 2 ^ (64 - sh) * 2 ^ sh := Nat.mul_lt_mul_of_pos_right this (Nat.two_pow_pos _)
          _ = 18446744073709551616 := by rw [Nat.mul_comm, h2]
      · have e1 : lebInit (f + 1) ((l.getD p 0).toNat % 128 + 128 * x) = UInt8.ofNat (l.getD p 0).toNat :: lebInit f x := by
          rw [lebInit, if_neg (by omega)]
          congr 2
          · omega
          · omega
        have e2 : lebLast (f + 1) ((l.getD p 0).toNat % 128 + 128 * x) = lebLast f x := by
          rw [lebLast, if_neg (by omega)]
          congr 1
          omega
        rw [e1, e2, UInt8.ofNat_toNat, hget, List.cons_append, ← hl]
        rw [List.drop_eq_getElem_cons (by simp; omega)]
        simp

/-- what is not read says why -/
theorem rdN_none (l : List UInt8) : ∀ (f u sh p q : Nat) (e : Int), sh + 7 * f = 70 → p ≤ l.length → rdN l f u sh p = (none, q, e) →
    (p + ext l f p = l.length ∧ ext l f p < f → e = 22) ∧
    (¬ (p + ext l f p = l.length ∧ ext l f p < f) → e = 5 ∧ (ext l f p = f ∨ (ext l f p + 1 = f ∧ p + ext l f p < l.length ∧ (l.getD (p + ext l f p) 0).toNat > 1) ∨
      ((sh > 0 ∨ ext l f p > 0) ∧ p + ext l f p < l.length ∧ (l.getD (p + ext l f p) 0).toNat = 0)))
  | 0, u, sh, p, q, e, hf, hp, h => by
    simp only [rdN, Prod.mk.injEq] at h
    obtain ⟨_, _, rfl⟩ := h
    simp [ext]
  | f + 1, u, sh, p, q, e, hf, hp, h => by
    rw [rdN] at h
    split at h
    · rename_i hpl
      simp only [Prod.mk.injEq] at h
      obtain ⟨_, _, rfl⟩ := h
      have : ext l (f + 1) p = 0 := by rw [ext, if_neg (by omega)]
      rw [this]
      refine ⟨fun _ => rfl, fun hn => absurd ⟨by omega, by omega⟩ hn⟩
    rename_i hpl
    dsimp only at h
    split at h
    · rename_i hbad
      simp only [Prod.mk.injEq] at h
      obtain ⟨_, _, rfl⟩ := h
      by_cases hc : 128 ≤ (l.getD p 0).toNat
      · have hf0 : f = 0 := by omega
        subst hf0
        have : ext l (0 + 1) p = 1 := by rw [ext, if_pos (by omega)]; simp [ext]
        rw [this]
        exact ⟨fun hh => by omega, fun _ => ⟨rfl, .inl (by omega)⟩⟩
      · have : ext l (f + 1) p = 0 := by rw [ext, if_neg (by omega)]
        rw [this]
        refine ⟨fun hh => by omega, fun _ => ⟨rfl, ?_⟩⟩
        rcases hbad with ⟨h63, hc1⟩ | ⟨h0, hc0⟩
        · exact .inr (.inl ⟨by omega, by omega, by simpa using hc1⟩)
        · exact .inr (.inr ⟨.inl h0, by omega, by simpa using hc0⟩)
    · rename_i hbad
      split at h
      · simp at h
      · rename_i hc
        have hx : ext l (f + 1) p = ext l f (p + 1) + 1 := by rw [ext, if_pos (by omega)]
        obtain ⟨h1, h2⟩ := rdN_none l f _ (sh + 7) (p + 1) q e (by omega) (by omega) h
        rw [hx]
        have hpe : p + (ext l f (p + 1) + 1) = p + 1 + ext l f (p + 1) := by omega
        rw [hpe]
        refine ⟨fun hh => h1 ⟨hh.1, by omega⟩, fun hn => ?_⟩
        obtain ⟨he, hcase⟩ := h2 (fun hh => hn ⟨hh.1, by omega⟩)
        refine ⟨he, ?_⟩
        rcases hcase with h | ⟨h, h', h3⟩ | ⟨h, h', h3⟩
        · exact .inl (by omega)
        · exact .inr (.inl ⟨by omega, h', h3⟩)
        · exact .inr (.inr ⟨.inr (by omega), h', h3⟩)
end Go.Vse
