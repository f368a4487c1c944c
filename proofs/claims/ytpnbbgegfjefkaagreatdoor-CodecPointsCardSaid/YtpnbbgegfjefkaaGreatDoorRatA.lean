/- Helpers for the proof: no statement of its own. -/
import Derived.Test.YtpnbbgegfjefkaaGreatDoorNumG
set_option linter.unusedVariables false
set_option linter.unusedSimpArgs false
set_option linter.unnecessarySimpa false
set_option linter.deprecated false
set_option maxRecDepth 100000
namespace Go.Vse
open Go.Proofs
def denB (d : Nat) : List UInt8 := bif Nat.beq d 1 then [] else magB d
def denV (b : ByteArray) : Nat := bif b.data.toList == [] then 1 else magN b.data.toList
def ratCells (q : Rat) : List AV := [.c (.v (.bool (decide (q.num < 0)))), strA (magB q.num.natAbs), .c (.v (.bool false)), strA (denB q.den)]
def ratA (q : Rat) : AV := .agg (ratCells q)
def ratOk : List AV → Bool
 | [.c (.v (.bool p)), .c (.v (.string a)), .c (.v (.bool q)), .c (.v (.string b))] => okI p a && !q && canon b.data.toList && !(b.data.toList == [1]) && Nat.beq (Nat.gcd (magN a.data.toList) (denV b)) 1
 | _ => false
def ratV : List AV → Rat
 | [.c (.v (.bool p)), .c (.v (.string a)), .c (.v (.bool q)), .c (.v (.string b))] => mkRat (iv p a) (denV b)
 | _ => 0
theorem iv_form (z : Int) : iv (decide (z < 0)) ⟨⟨magB z.natAbs⟩⟩ = z := by
 unfold iv
 show (bif decide (z < 0) then -(magN (magB z.natAbs) : Int) else (magN (magB z.natAbs) : Int)) = z
 rw [magN_magB]
 by_cases h : z < 0
 ·rw [decide_eq_true h]; simp only [cond_true]; omega
 ·rw [decide_eq_false h]; simp only [cond_false]; omega
theorem okI_form (z : Int) : okI (decide (z < 0)) ⟨⟨magB z.natAbs⟩⟩ = true := by
 unfold okI
 show (canon (magB z.natAbs) && (!decide (z < 0) || !(magB z.natAbs == []))) = true
 rw [canon_magB, magB_nil]
 by_cases h : z < 0
 ·rw [decide_eq_true h, decide_eq_false (by omega)]; rfl
 ·rw [decide_eq_false h]; rfl
theorem denV_denB (d : Nat) (h : d ≠ 0) : denV ⟨⟨denB d⟩⟩ = d := by
 unfold denV denB
 show (bif (bif Nat.beq d 1 then [] else magB d) == [] then 1 else magN (bif Nat.beq d 1 then [] else magB d)) = d
 cases hd : Nat.beq d 1 with
 | true => simp only [cond_true]; exact (Nat.eq_of_beq_eq_true hd).symm
 | false =>
  simp only [cond_false, magN_magB, magB_nil, decide_eq_false h]
theorem magB_one : magB 1 = [1] := by
 rw [magB_pos (by omega), show (1 : Nat) / 256 = 0 from rfl, magB_zero]; rfl
theorem canon_denB (d : Nat) : canon (denB d) = true := by
 unfold denB
 cases Nat.beq d 1 with
 | true => rfl
 | false => exact canon_magB d
theorem denB_ne (d : Nat) : denB d ≠ [1] := by
 unfold denB
 cases h : Nat.beq d 1 with
 | true => simp
 | false =>
  intro hh
  simp only [cond_false] at hh
  rw [← magB_one] at hh
  have := magB_inj hh
  subst this
  simp at h
theorem ratOk_cells (q : Rat) : ratOk (ratCells q) = true := by
 show (okI (decide (q.num < 0)) ⟨⟨magB q.num.natAbs⟩⟩ && !false && canon (denB q.den) && !(denB q.den == [1]) && Nat.beq (Nat.gcd (magN (magB q.num.natAbs)) (denV ⟨⟨denB q.den⟩⟩)) 1) = true
 rw [okI_form, canon_denB, magN_magB, denV_denB _ q.den_nz]
 have h1 : (denB q.den == [1]) = false := by
  have := denB_ne q.den
  simpa using this
 have h2 : Nat.gcd q.num.natAbs q.den = 1 := q.reduced
 rw [h1, h2]; rfl
theorem ratV_cells (q : Rat) : ratV (ratCells q) = q := by
 show mkRat (iv (decide (q.num < 0)) ⟨⟨magB q.num.natAbs⟩⟩) (denV ⟨⟨denB q.den⟩⟩) = q
 rw [iv_form, denV_denB _ q.den_nz]
 exact Rat.mkRat_self q
theorem ratOk_eq {l : List AV} (h : ratOk l = true) : l = ratCells (ratV l) := by
 unfold ratOk at h
 split at h
 · rename_i p a q b
   simp only [Bool.and_eq_true, Bool.not_eq_true'] at h
   obtain ⟨⟨⟨⟨h1, h2⟩, h3⟩, h4⟩, h5⟩ := h
   subst h2
   have h5 := Nat.eq_of_beq_eq_true h5
   have hd : denV b ≠ 0 := by
     unfold denV
     cases hb : (b.data.toList == []) with
     | true => simp
     | false =>
       simp only [cond_false]
       intro hz
       rw [(magN_eq_zero h3).1 hz] at hb
       simp at hb
   have hn : (iv p a).natAbs = magN a.data.toList := by cases p <;> simp [iv]
   have hc : Nat.gcd (iv p a).natAbs (denV b) = 1 := by rw [hn]; exact h5
   have hq : mkRat (iv p a) (denV b) = { num := iv p a, den := denV b, den_nz := hd, reduced := hc } := Rat.mkRat_self { num := iv p a, den := denV b, den_nz := hd, reduced := hc }
   show _ = ratCells (mkRat (iv p a) (denV b))
   rw [hq]
   have e1 := form_eq h1
   unfold intForm at e1
   injection e1 with e1
   have e2 : b.data.toList = denB (denV b) := by
     unfold denV denB
     cases hb : (b.data.toList == []) with
     | true => simp only [cond_true]; simpa using hb
     | false =>
       simp only [cond_false]
       cases h1 : Nat.beq (magN b.data.toList) 1 with
       | true =>
         have := Nat.eq_of_beq_eq_true h1
         have h6 : b.data.toList = [1] := by rw [← magB_magN b.data.toList h3, this, magB_one]
         rw [h6] at h4; simp at h4
       | false => simp only [cond_false]; exact (magB_magN b.data.toList h3).symm
   unfold ratCells strA
   rw [← e2]
   show _ :: _ :: [_, _] = _
   injection e1 with e3 e4
   injection e4 with e4 e5
   rw [e3, e4]
   rfl
 · cases h
theorem ratV_lit (q : Rat) : ratV [.c (.v (.bool (decide (q.num < 0)))), .c (.v (.string ⟨⟨magB q.num.natAbs⟩⟩)), .c (.v (.bool false)), .c (.v (.string ⟨⟨denB q.den⟩⟩))] = q := ratV_cells q
theorem ratOk_lit (q : Rat) : ratOk [.c (.v (.bool (decide (q.num < 0)))), .c (.v (.string ⟨⟨magB q.num.natAbs⟩⟩)), .c (.v (.bool false)), .c (.v (.string ⟨⟨denB q.den⟩⟩))] = true := ratOk_cells q
theorem divInt_cells (n d : Int) (h : 0 < d) : ratCells (Rat.divInt n d) = [.c (.v (.bool (decide (n / (Int.gcd n d : Int) < 0)))), strA (magB (n / (Int.gcd n d : Int)).natAbs), .c (.v (.bool false)), strA (denB (d / (Int.gcd n d : Int)).natAbs)] := by
 have e1 : (Rat.divInt n d).num = n / (Int.gcd n d : Int) := by
  rw [Rat.num_divInt, Int.sign_eq_one_of_pos h, Int.one_mul, Int.gcd_comm]
 have e2 : (Rat.divInt n d).den = (d / (Int.gcd n d : Int)).natAbs := by
  rw [Rat.den_divInt, if_neg (by omega), Int.gcd_comm]
  have := Int.natAbs_ediv_of_dvd (a := d) (b := (Int.gcd n d : Int)) (Int.gcd_dvd_right ..)
  rw [this, Int.natAbs_natCast]
 unfold ratCells
 rw [e1, e2]
def hold (q : Rat) : Rat := match q.num.natAbs with
 | 0 => q
 | _ + 1 => q
theorem hold_eq (q : Rat) : hold q = q := by unfold hold; split <;> rfl
theorem ratV_int (n : Int) : ratV [.c (.v (.bool (decide (n < 0)))), .c (.v (.string ⟨⟨magB n.natAbs⟩⟩)), .c (.v (.bool false)), .c (.v (.string { data := #[] }))] = (n : Rat) := ratV_cells (n : Rat)
theorem ratOk_int (n : Int) : ratOk [.c (.v (.bool (decide (n < 0)))), .c (.v (.string ⟨⟨magB n.natAbs⟩⟩)), .c (.v (.bool false)), .c (.v (.string { data := #[] }))] = true := ratOk_cells (n : Rat)
theorem ratV_zero : ratV [.c (.v (.bool false)), .c (.v (.string { data := #[] })), .c (.v (.bool false)), .c (.v (.string { data := #[] }))] = 0 := by
 have h := ratV_cells (0 : Rat)
 unfold ratCells strA at h
 rw [show (0 : Rat).num.natAbs = 0 from rfl, magB_zero] at h
 exact h
theorem ratOk_zero : ratOk [.c (.v (.bool false)), .c (.v (.string { data := #[] })), .c (.v (.bool false)), .c (.v (.string { data := #[] }))] = true := by
 have h := ratOk_cells (0 : Rat)
 unfold ratCells strA at h
 rw [show (0 : Rat).num.natAbs = 0 from rfl, magB_zero] at h
 exact h
def Bnd (N D : Nat) (q : Rat) : Prop := q.num.natAbs ≤ N ∧ q.den ≤ D
theorem Bnd.mono {N D N' D' : Nat} {q : Rat} (h : Bnd N D q) (h1 : N ≤ N') (h2 : D ≤ D') : Bnd N' D' q := ⟨Nat.le_trans h.1 h1, Nat.le_trans h.2 h2⟩
theorem Bnd.divInt {n d : Int} {N D : Nat} (h : 0 < d) (h1 : n.natAbs ≤ N) (h2 : d.natAbs ≤ D) : Bnd N D (Rat.divInt n d) := by
 constructor
 ·rw [Rat.num_divInt, Int.sign_eq_one_of_pos h, Int.one_mul]
  exact Nat.le_trans (Int.natAbs_ediv_le_natAbs _ _) h1
 ·rw [Rat.den_divInt, if_neg (by omega)]
  exact Nat.le_trans (Nat.div_le_self _ _) h2
theorem Bnd.add {x y : Rat} {N D N' D' : Nat} (h : Bnd N D x) (h' : Bnd N' D' y) : Bnd (N * D' + N' * D) (D * D') (x + y) := by
 have hx := x.den_pos
 have hy := y.den_pos
 rw [Rat.add_def']
 refine Bnd.divInt (n := x.num * y.den + y.num * x.den) (d := (x.den * y.den : Nat)) (by have := Nat.mul_pos hx hy; omega) ?_ ?_
 · refine Nat.le_trans (Int.natAbs_add_le _ _) ?_
   rw [Int.natAbs_mul, Int.natAbs_mul, Int.natAbs_natCast, Int.natAbs_natCast]
   exact Nat.add_le_add (Nat.mul_le_mul h.1 h'.2) (Nat.mul_le_mul h'.1 h.2)
 · rw [Int.natAbs_natCast]
   exact Nat.mul_le_mul h.2 h'.2
theorem Bnd.mul {x y : Rat} {N D N' D' : Nat} (h : Bnd N D x) (h' : Bnd N' D' y) : Bnd (N * N') (D * D') (x * y) := by
 have hx := x.den_pos
 have hy := y.den_pos
 rw [Rat.mul_def']
 refine Bnd.divInt (n := x.num * y.num) (d := (x.den * y.den : Nat)) (by have := Nat.mul_pos hx hy; omega) ?_ ?_
 · rw [Int.natAbs_mul]
   exact Nat.mul_le_mul h.1 h'.1
 · rw [Int.natAbs_natCast]
   exact Nat.mul_le_mul h.2 h'.2
theorem Bnd.neg {x : Rat} {N D : Nat} (h : Bnd N D x) : Bnd N D (-x) := ⟨by rw [Rat.neg_num, Int.natAbs_neg]; exact h.1, by rw [Rat.neg_den]; exact h.2⟩
theorem Bnd.int (n : Int) : Bnd n.natAbs 1 (n : Rat) := ⟨Nat.le_refl _, Nat.le_refl _⟩
end Go.Vse
set_option maxRecDepth 100000
namespace Go.Vse
open Go.Proofs
def Γ175 : FuncId → Option Spec := fun f => bif Nat.beq f 172 then some (pureSpec K172) else bif Nat.beq f 174 then some (pureSpec K174) else none
theorem Γ175_ok : ∀ f s, Γ175 f = some s → SpecOk Tryz.prog f s := step_ok f172_ok.spec (one_ok f174_ok.spec)
def K175 : List AV → Option (AV × List Bool)
 | [.c (.v (.string a)), .c (.v (.string b))] => some (.tup [strA (magB (magN a.data.toList / magN b.data.toList)), strA (magB (magN a.data.toList % magN b.data.toList))], [decide (a.data.toList.length ≤ 8), decide (b.data.toList.length ≤ 8), decide (magN b.data.toList ≠ 0)])
 | _ => none
def K257 : List AV → Option (AV × List Bool)
 | [.agg [.c (.v (.bool p)), .c (.v (.string a))], .agg [.c (.v (.bool q)), .c (.v (.string b))]] => some (.tup [intForm (iv p a / iv q b), intForm (iv p a % iv q b), intA .i64 0], [okI p a, okI q b, decide (0 < iv q b), decide (a.data.toList.length ≤ 8), decide (b.data.toList.length ≤ 8)])
 | _ => none
def K220 : List AV → Option (AV × List Bool)
 | [.agg [.c (.v (.bool p)), .c (.v (.string a))], .agg [.c (.v (.bool q)), .c (.v (.string b))]] => some (intForm (iv p a / iv q b), [okI p a, okI q b, decide (0 < iv q b), decide (a.data.toList.length ≤ 8), decide (b.data.toList.length ≤ 8)])
 | _ => none
def Γ257 : FuncId → Option Spec := fun f => bif Nat.beq f 175 then some (pureSpec K175) else bif Nat.beq f 222 then some (pureSpec K222) else bif Nat.beq f 223 then some (pureSpec K223) else bif Nat.beq f 173 then some (pureSpec K173) else none
def Γ220 : FuncId → Option Spec := fun f => bif Nat.beq f 257 then some (pureSpec K257) else none
def M175 (a : ByteArray) (b : ByteArray) : Tr AV :=
 let x1 : Int := IntKind.u64.wrap ((wordV a).tdiv (wordV b))
 let x2 : Int := (wordV a).tmod (wordV b)
 .ite (wordB a && wordB b) (.need (decide (wordV b ≠ 0)) (.need (u64B x1) (.need (decide (wordV b ≠ 0)) (.need (u64B x2) (.ret (AV.tup [.c (.v (.string ⟨⟨magB x1.toNat⟩⟩)), .c (.v (.string ⟨⟨magB x2.toNat⟩⟩))])))))) (.fail "integer.go:245")
def M257 (p : Bool) (q : Bool) (a : ByteArray) (b : ByteArray) : Tr AV :=
 let x1 : List UInt8 := b.data.toList
 let x2 : List UInt8 := a.data.toList
 let x3 : List UInt8 := magB (magN x2 % magN x1)
 let x4 : List UInt8 := magB (magN x2 / magN x1)
 let x5 : Nat := x4.length
 let x6 : Nat := x3.length
 let x7 : Nat := magN x3
 let x8 : List UInt8 := magB (magN x4 + magN [1])
 let x9 : List AV := [.c (.v (.int IntKind.i64 0))]
 .ite (x1 == []) (.ret (AV.tup [AV.agg [.c (.v (.bool false)), .c (.v (.string { data := #[] }))], AV.agg [.c (.v (.bool false)), .c (.v (.string { data := #[] }))], .c (.v (.int IntKind.i64 6))])) (.need (decide (x2.length ≤ 8)) (.need (decide (x1.length ≤ 8)) (.need (decide (magN x1 ≠ 0)) (.need (bif p then true else true) (.ite (bif p then bif true then !x3 == [] else false else false) (.need (decide (x5 ≤ 100000000)) (.need true (.need (decide (x1.length ≤ 100000000)) (.need (decide (x6 ≤ 100000000)) (.need (decide (x7 ≤ magN x1)) (.ret (AV.tup (AV.agg [.c (.v (.bool (!p == q && !x8 == []))), .c (.v (.string ⟨⟨x8⟩⟩))] :: AV.agg [.c (.v (.bool false)), .c (.v (.string ⟨⟨magB (magN x1 - x7)⟩⟩))] :: x9)))))))) (.ret (AV.tup (AV.agg [.c (.v (.bool (!p == q && !x4 == []))), .c (.v (.string ⟨⟨x4⟩⟩))] :: AV.agg [.c (.v (.bool false)), .c (.v (.string ⟨⟨x3⟩⟩))] :: x9))))))))
def M220 (p : Bool) (q : Bool) (a : ByteArray) (b : ByteArray) : Tr AV :=
 let x1 : Int := iv p a / iv q b
 .need (okI p a) (.need (okI q b) (.need (decide (0 < iv q b)) (.need (decide (a.data.toList.length ≤ 8)) (.need (decide (b.data.toList.length ≤ 8)) (.ret (AV.agg [.c (.v (.bool (decide (x1 < 0)))), .c (.v (.string ⟨⟨magB x1.natAbs⟩⟩))]))))))
theorem M175_eq (a b : ByteArray) : execFn Tryz.prog Γ175 noL 1010 Tryz.f175 [.c (.v (.string a)), .c (.v (.string b))] = M175 a b := by kernel_rfl
theorem M257_eq (p q : Bool) (a b : ByteArray) : execFn Tryz.prog Γ257 noL 1010 Tryz.f257 [.agg [.c (.v (.bool p)), .c (.v (.string a))], .agg [.c (.v (.bool q)), .c (.v (.string b))]] = M257 p q a b := by kernel_rfl
theorem M220_eq (p q : Bool) (a b : ByteArray) : execFn Tryz.prog Γ220 noL 1010 Tryz.f220 [.agg [.c (.v (.bool p)), .c (.v (.string a))], .agg [.c (.v (.bool q)), .c (.v (.string b))]] = M220 p q a b := by kernel_rfl
theorem len8_lt {l : List UInt8} (h : l.length ≤ 8) : magN l < 18446744073709551616 := by
 have h1 := magN_lt l
 have h2 : 256 ^ l.length ≤ 256 ^ 8 := Nat.pow_le_pow_right (by omega) h
 omega
theorem magB_len8 {n : Nat} (h : n < 18446744073709551616) : (magB n).length ≤ 8 := magB_len n 8 (by omega)
theorem M175_sat (a b : ByteArray) (la : a.data.toList.length ≤ 8) (lb : b.data.toList.length ≤ 8) (hb : magN b.data.toList ≠ 0) : (M175 a b).sat fun r => r = .tup [strA (magB (magN a.data.toList / magN b.data.toList)), strA (magB (magN a.data.toList % magN b.data.toList))] := by
 have ea : wordV a = (magN a.data.toList : Nat) := by unfold wordV; rw [if_pos la]
 have eb : wordV b = (magN b.data.toList : Nat) := by unfold wordV; rw [if_pos lb]
 have ha := len8_lt la
 have hb2 := len8_lt lb
 generalize magN a.data.toList = n at *
 generalize magN b.data.toList = m at *
 have hq : n / m ≤ n := Nat.div_le_self _ _
 have hr : n % m < m := Nat.mod_lt _ (Nat.pos_of_ne_zero hb)
 have e1 : IntKind.u64.wrap ((wordV a).tdiv (wordV b)) = ((n / m : Nat) : Int) := by
  rw [ea, eb, ← Int.ofNat_tdiv, wrap_u64]
  generalize n / m = q at *
  omega
 have e2 : (wordV a).tmod (wordV b) = ((n % m : Nat) : Int) := by
  rw [ea, eb]; exact (Int.ofNat_tmod n m).symm
 simp only [M175, e1, e2]
 generalize n / m = q at *
 generalize n % m = r at *
 refine sat_ite (fun _ => sat_need ?_ (sat_need ?_ (sat_need ?_ (sat_need ?_ (sat_ret ?_))))) (fun h => ?_)
 ·rw [eb]; exact decide_eq_true (by omega)
 ·unfold u64B; simp; omega
 ·rw [eb]; exact decide_eq_true (by omega)
 ·unfold u64B; simp; omega
 ·rw [Int.toNat_natCast, Int.toNat_natCast]; rfl
 ·have la' : a.data.toList.length ≤ 8 := la
  unfold wordB at h
  rw [decide_eq_true la, decide_eq_true lb] at h
  cases h
theorem div_neg (n m : Nat) (hm : 0 < m) : (-(n : Int)) / (m : Int) = (if n % m = 0 then -((n / m : Nat) : Int) else -((n / m + 1 : Nat) : Int)) ∧ (-(n : Int)) % (m : Int) = (if n % m = 0 then 0 else ((m - n % m : Nat) : Int)) := by
 have h1 := Nat.div_add_mod n m
 have h2 := Nat.mod_lt n hm
 rw [Int.ediv_emod_unique (by omega)]
 generalize hq : n / m = q at *
 generalize n % m = r at *
 have h3 : (m : Int) * (q : Int) + (r : Int) = (n : Int) := by rw [← h1, Int.natCast_add, Int.natCast_mul]
 by_cases hr : r = 0
 ·rw [if_pos hr, if_pos hr]
  subst hr
  rw [Int.mul_neg]
  omega
 ·rw [if_neg hr, if_neg hr, Int.mul_neg, Int.natCast_add, Int.mul_add]
  omega
theorem iv_pos {q : Bool} {b : ByteArray} (h : 0 < iv q b) : q = false ∧ 0 < magN b.data.toList := by
 cases q
 · exact ⟨rfl, by simp only [iv, cond_false] at h; omega⟩
 · simp only [iv, cond_true] at h; omega
theorem made_pos (n : Nat) : AV.agg [.c (.v (.bool false)), strA (magB n)] = intForm (n : Int) := by
 have := made_form false n
 simp only [Bool.false_and, cond_false] at this
 exact this
theorem M257_sat (p q : Bool) (a b : ByteArray) (hb : 0 < iv q b) (la : a.data.toList.length ≤ 8) (lb : b.data.toList.length ≤ 8) : (M257 p q a b).sat fun r => r = .tup [intForm (iv p a / iv q b), intForm (iv p a % iv q b), intA .i64 0] := by
 obtain ⟨rfl, hm⟩ := iv_pos hb
 have ha := len8_lt la
 have hb2 := len8_lt lb
 have hne : (b.data.toList == []) = false := by
   cases hh : b.data.toList with
   | nil => rw [hh] at hm; simp [magN] at hm
   | cons c l => rfl
 have eb : iv false b = ((magN b.data.toList : Nat) : Int) := rfl
 rw [eb]
 unfold M257
 generalize hxb : b.data.toList = lb' at *
 generalize hxa : a.data.toList = la' at *
 have hq : magN la' / magN lb' ≤ magN la' := Nat.div_le_self _ _
 have hr : magN la' % magN lb' < magN lb' := Nat.mod_lt _ hm
 have l1 := magB_len8 (n := magN la' / magN lb') (by omega)
 have l2 := magB_len8 (n := magN la' % magN lb') (by omega)
 have hone : magN [1] = 1 := rfl
 refine sat_ite (fun h => by rw [hne] at h; cases h) (fun _ => sat_need (decide_eq_true la) (sat_need (decide_eq_true lb) (sat_need (decide_eq_true (by omega)) (sat_need (by cases p <;> rfl) (sat_ite (fun h => ?_) (fun h => sat_ret ?_))))))
 · cases p with
   | false => cases h
   | true =>
     simp only [cond_true, magB_nil, Bool.not_eq_true', decide_eq_false_iff_not] at h
     simp only [magN_magB, hone]
     refine sat_need (decide_eq_true (by omega)) (sat_need rfl (sat_need (decide_eq_true (by omega)) (sat_need (decide_eq_true (by omega)) (sat_need (decide_eq_true (by omega)) (sat_ret ?_)))))
     have ea : iv true a = -((magN la' : Nat) : Int) := by show -((magN a.data.toList : Nat) : Int) = _; rw [hxa]
     obtain ⟨d1, d2⟩ := div_neg (magN la') (magN lb') hm
     rw [if_neg h] at d1 d2
     rw [ea, d1, d2]
     have m1 := made_form true (magN la' / magN lb' + 1)
     have m2 := made_pos (magN lb' - magN la' % magN lb')
     simp only [cond_true] at m1
     rw [← m1, ← m2]
     rfl
 · cases p with
   | false =>
     have ea : iv false a = ((magN la' : Nat) : Int) := by show ((magN a.data.toList : Nat) : Int) = _; rw [hxa]
     rw [ea, ← Int.natCast_ediv, ← Int.natCast_emod]
     rw [← made_pos, ← made_pos]
     rfl
   | true =>
     simp only [cond_true, magB_nil, Bool.not_eq_false', decide_eq_true_eq] at h
     have ea : iv true a = -((magN la' : Nat) : Int) := by show -((magN a.data.toList : Nat) : Int) = _; rw [hxa]
     obtain ⟨d1, d2⟩ := div_neg (magN la') (magN lb') hm
     rw [if_pos h] at d1 d2
     rw [ea, d1, d2]
     have m1 := made_form true (magN la' / magN lb')
     have m2 := made_pos 0
     simp only [cond_true] at m1
     rw [← m1]
     rw [h]
     have e0 : intForm ((0 : Nat) : Int) = intForm 0 := rfl
     rw [← e0, ← m2]
     rfl
theorem f175_ok : PureOk Tryz.prog 175 K175 := by
 refine pureOk_of_exec prog_mixed Γ175_ok (fn := Tryz.f175) (c := codeOf Tryz.f175) (by kernel_rfl) (by kernel_rfl) (callFunc_enter (fn := Tryz.f175) (c := codeOf Tryz.f175) (by kernel_rfl) (by kernel_rfl) (by kernel_rfl)) (L := noL) (N := 1010) (blocksOk_none _ _) ?_ ?_
 ·intro args v cs h
  unfold K175 at h
  split at h
  ·cases h; rfl
  ·cases h
 ·intro args v cs h hc
  unfold K175 at h
  split at h
  ·rename_i a b
   cases h
   have h1 : a.data.toList.length ≤ 8 := dec (hc (decide (a.data.toList.length ≤ 8)) (by simp))
   have h2 : b.data.toList.length ≤ 8 := dec (hc (decide (b.data.toList.length ≤ 8)) (by simp))
   have h3 : magN b.data.toList ≠ 0 := dec (hc (decide (magN b.data.toList ≠ 0)) (by simp))
   have hs := M175_sat a b h1 h2 h3
   rw [← M175_eq] at hs
   generalize execFn Tryz.prog Γ175 noL 1010 Tryz.f175 [.c (.v (.string a)), .c (.v (.string b))] = T at hs ⊢
   generalize magN a.data.toList / magN b.data.toList = z at hs ⊢
   generalize magN a.data.toList % magN b.data.toList = y at hs ⊢
   exact Tr.sat_mono (fun r hr => ⟨by subst hr; rfl, Sees.of_eq hr⟩) hs
  ·cases h
theorem Γ257_ok : ∀ f s, Γ257 f = some s → SpecOk Tryz.prog f s := step_ok f175_ok.spec (step_ok f222_ok.spec (step_ok f223_ok.spec (one_ok f173_ok.spec)))
theorem f257_ok : PureOk Tryz.prog 257 K257 := by
 refine pureOk_of_exec prog_mixed Γ257_ok (fn := Tryz.f257) (c := codeOf Tryz.f257) (by kernel_rfl) (by kernel_rfl) (callFunc_enter (fn := Tryz.f257) (c := codeOf Tryz.f257) (by kernel_rfl) (by kernel_rfl) (by kernel_rfl)) (L := noL) (N := 1010) (blocksOk_none _ _) ?_ ?_
 ·intro args v cs h
  unfold K257 at h
  split at h
  ·cases h; rfl
  ·cases h
 ·intro args v cs h hc
  unfold K257 at h
  split at h
  ·rename_i p a q b
   cases h
   have h1 : okI p a = true := hc (okI p a) (by simp)
   have h2 : okI q b = true := hc (okI q b) (by simp)
   have h3 : 0 < iv q b := dec (hc (decide (0 < iv q b)) (by simp))
   have h4 : a.data.toList.length ≤ 8 := dec (hc (decide (a.data.toList.length ≤ 8)) (by simp))
   have h5 : b.data.toList.length ≤ 8 := dec (hc (decide (b.data.toList.length ≤ 8)) (by simp))
   have hs := M257_sat p q a b h3 h4 h5
   rw [← M257_eq] at hs
   generalize execFn Tryz.prog Γ257 noL 1010 Tryz.f257 [.agg [.c (.v (.bool p)), .c (.v (.string a))], .agg [.c (.v (.bool q)), .c (.v (.string b))]] = T at hs ⊢
   generalize iv p a / iv q b = z at hs ⊢
   generalize iv p a % iv q b = y at hs ⊢
   exact Tr.sat_mono (fun r hr => ⟨by subst hr; rfl, Sees.of_eq hr⟩) hs
  ·cases h
theorem Γ220_ok : ∀ f s, Γ220 f = some s → SpecOk Tryz.prog f s := one_ok f257_ok.spec
theorem M220_sat (p q : Bool) (a b : ByteArray) (h1 : okI p a = true) (h2 : okI q b = true) (h3 : 0 < iv q b) (h4 : a.data.toList.length ≤ 8) (h5 : b.data.toList.length ≤ 8) : (M220 p q a b).sat fun r => r = intForm (iv p a / iv q b) := by
 unfold M220
 exact sat_need h1 (sat_need h2 (sat_need (decide_eq_true h3) (sat_need (decide_eq_true h4) (sat_need (decide_eq_true h5) (sat_ret rfl)))))
theorem f220_ok : PureOk Tryz.prog 220 K220 := by
 refine pureOk_of_exec prog_mixed Γ220_ok (fn := Tryz.f220) (c := codeOf Tryz.f220) (by kernel_rfl) (by kernel_rfl) (callFunc_enter (fn := Tryz.f220) (c := codeOf Tryz.f220) (by kernel_rfl) (by kernel_rfl) (by kernel_rfl)) (L := noL) (N := 1010) (blocksOk_none _ _) ?_ ?_
 ·intro args v cs h
  unfold K220 at h
  split at h
  ·cases h; rfl
  ·cases h
 ·intro args v cs h hc
  unfold K220 at h
  split at h
  ·rename_i p a q b
   cases h
   have h1 : okI p a = true := hc (okI p a) (by simp)
   have h2 : okI q b = true := hc (okI q b) (by simp)
   have h3 : 0 < iv q b := dec (hc (decide (0 < iv q b)) (by simp))
   have h4 : a.data.toList.length ≤ 8 := dec (hc (decide (a.data.toList.length ≤ 8)) (by simp))
   have h5 : b.data.toList.length ≤ 8 := dec (hc (decide (b.data.toList.length ≤ 8)) (by simp))
   have hs := M220_sat p q a b h1 h2 h3 h4 h5
   rw [← M220_eq] at hs
   generalize execFn Tryz.prog Γ220 noL 1010 Tryz.f220 [.agg [.c (.v (.bool p)), .c (.v (.string a))], .agg [.c (.v (.bool q)), .c (.v (.string b))]] = T at hs ⊢
   generalize iv p a / iv q b = z at hs ⊢
   exact Tr.sat_mono (fun r hr => ⟨by subst hr; rfl, Sees.of_eq hr⟩) hs
  ·cases h
end Go.Vse
set_option maxRecDepth 100000
namespace Go.Vse
open Go.Proofs
structure W126 where
 u : Int
 v : Int
def cell0 : Ent := .cells [.c (.v (.bool false)), .c (.v (.string ⟨⟨[]⟩⟩))] 41
def head126 (x : W126) : List AV × List (Option Ent) := ([.ptr 0 0, intA .u64 x.u, intA .u64 x.v], [some cell0])
def take126 : List AV × List (Option Ent) → Option (W126 × List Bool)
 | ([.ptr 0 0, .c (.v (.int .u64 u)), .c (.v (.int .u64 v))], [some (.cells [.c (.v (.bool false)), .c (.v (.string ⟨⟨[]⟩⟩))] 41)]) => some (⟨u, v⟩, [])
 | _ => none
def lp126 (w : Way W126) : LoopSt W126 W126 where
 nIn := { nt := 45, live := [4, 7, 8] }
 nOut := { nt := 45, live := [4, 7, 8] }
 head := head126
 take := take126
 out := fun r => (.normal, head126 r)
 takeR := fun q => match q with | (.normal, q) => take126 q | _ => none
 res := w.res
 pre := w.pre
theorem take126_ok (q : List AV × List (Option Ent)) (x : W126) (cs : List Bool) (h : take126 q = some (x, cs)) (hc : ∀ p ∈ cs, p) : SeesL q.1 (head126 x).1 ∧ EntsEqv q.2 (head126 x).2 := by
 unfold take126 at h
 split at h
 ·cases h
  exact ⟨SeesL.refl _, EntsEqv.refl _⟩
 ·cases h
theorem lp126_good (w : Way W126) : (lp126 w).Good2 where
 take := take126_ok
 takeR := by
  intro e q r cs h hc
  cases e with
  | normal => obtain ⟨h1, h2⟩ := take126_ok q r cs h hc; exact ⟨rfl, h1, h2⟩
  | exit j => cases h
  | ret => cases h
 split := fun r Q h => h
def way126 : Way W126 := ⟨fun x => ⟨(Nat.gcd x.u.toNat x.v.toNat : Nat), 0⟩, fun x => u64B x.u && u64B x.v⟩
def L126 : Nat → Option (St → Tr (Ex × St)) := fun id => bif Nat.beq id 2 then some ((lp126 way126).g 0) else none
def Γ126 : FuncId → Option Spec := fun f => bif Nat.beq f 172 then some (pureSpec K172) else bif Nat.beq f 174 then some (pureSpec K174) else bif Nat.beq f 173 then some (pureSpec K173) else none
theorem Γ126_ok : ∀ f s, Γ126 f = some s → SpecOk Tryz.prog f s := step_ok f172_ok.spec (step_ok f174_ok.spec (one_ok f173_ok.spec))
def step126 (u : Int) (v : Int) : Tr (W126 ⊕ W126) :=
 .ite (v != 0) (.need (decide (v ≠ 0)) (.ret (Sum.inl { u := v, v := u.tmod v }))) (.ret (Sum.inr { u := u, v := v }))
def M126 (p : Bool) (q : Bool) (a : ByteArray) (b : ByteArray) : Tr AV :=
 let x1 : Int := ↑((wordV a).toNat.gcd (wordV b).toNat)
 .ite (!b.data.toList == []) (.ite (wordB a && wordB b) (.need (u64B (wordV a) && u64B (wordV b)) (.need (u64B x1) (.ret (AV.agg [.c (.v (.bool false)), .c (.v (.string ⟨⟨magB x1.toNat⟩⟩))])))) (.fail "integer.go:341")) (.ret (AV.agg [.c (.v (.bool false)), .c (.v (.string a))]))
theorem step126_eq (w : Way W126) (x : W126) : (exec Tryz.prog (fun _ => none) noL 1010 (loopOf 2 (codeOf Tryz.f126)) (mkSt (lp126 w).nIn ((lp126 w).head x))).bind ((lp126 w).fin 0 2) = step126 x.u x.v := by
 obtain ⟨u, v⟩ := x
 kernel_rfl
theorem M126_eq (p q : Bool) (a b : ByteArray) : execFn Tryz.prog Γ126 L126 1010 Tryz.f126 [.agg [.c (.v (.bool p)), .c (.v (.string a))], .agg [.c (.v (.bool q)), .c (.v (.string b))]] = M126 p q a b := by kernel_rfl
theorem runs126 (Q : W126 → Prop) : ∀ (n u v : Nat), v < n → Q ⟨(Nat.gcd u v : Nat), 0⟩ → RunsX (fun x : W126 => step126 x.u x.v) Q n ⟨(u : Nat), (v : Nat)⟩
 | 0, u, v, h, _ => absurd h (Nat.not_lt_zero _)
 | n + 1, u, v, h, hq => by
   unfold RunsX
   change Tr.sat _ (step126 (u : Nat) (v : Nat))
   by_cases hv : v = 0
   · subst hv
     refine sat_ite (fun hc => by simp at hc) (fun _ => sat_ret ?_)
     have : Nat.gcd u 0 = u := Nat.gcd_zero_right u
     rw [this] at hq
     exact hq
   · refine sat_ite (fun _ => sat_need (decide_eq_true (by omega)) (sat_ret ?_)) (fun hc => by simp at hc; omega)
     have e1 : ((u : Nat) : Int).tmod ((v : Nat) : Int) = ((u % v : Nat) : Int) := (Int.ofNat_tmod u v).symm
     rw [e1]
     have hlt : u % v < v := Nat.mod_lt _ (by omega)
     refine runs126 Q n v (u % v) (by omega) ?_
     have : Nat.gcd v (u % v) = Nat.gcd u v := by rw [Nat.gcd_comm v, ← Nat.gcd_rec, Nat.gcd_comm]
     rw [this]
     exact hq
theorem f126_loops : BlocksOk Tryz.prog 0 L126 (codeOf Tryz.f126) := by
 refine blocksOk_of (d := fun id => Nat.beq id 2) (fun id => by unfold L126; cases Nat.beq id 2 <;> rfl) _ ?_
 have hb : blocksOf (fun id => Nat.beq id 2) (codeOf Tryz.f126) = [(2, .loop (loopOf 2 (codeOf Tryz.f126)))] := by kernel_rfl
 rw [hb]
 intro p hp g hg
 simp only [List.mem_singleton] at hp
 subst hp
 have hh : L126 2 = some ((lp126 way126).g 0) := rfl
 rw [hh] at hg
 obtain rfl : g = (lp126 way126).g 0 := (Option.some.inj hg).symm
 refine LoopSt.ok2 (N := 1010) prog_mixed noΓ_ok (L := noL) (blocksOk_none 0 _) (lp126_good _) (step126_eq way126) ?_
 rintro ⟨u, v⟩ hx
 have hx : way126.pre ⟨u, v⟩ = true := hx
 simp only [way126, Bool.and_eq_true, u64B, decide_eq_true_eq] at hx
 have e1 : u = ((u.toNat : Nat) : Int) := by omega
 have e2 : v = ((v.toNat : Nat) : Int) := by omega
 have := runs126 (· = way126.res ⟨u, v⟩) (v.toNat + 1) u.toNat v.toNat (by omega) rfl
 rw [← e1, ← e2] at this
 exact ⟨_, this⟩
def K126 : List AV → Option (AV × List Bool)
 | [.agg [.c (.v (.bool p)), .c (.v (.string a))], .agg [.c (.v (.bool q)), .c (.v (.string b))]] => some (intForm (Int.gcd (iv p a) (iv q b) : Nat), [okI p a, okI q b, decide (a.data.toList.length ≤ 8), decide (b.data.toList.length ≤ 8)])
 | _ => none
theorem iv_natAbs (p : Bool) (a : ByteArray) : (iv p a).natAbs = magN a.data.toList := by cases p <;> simp [iv]
theorem M126_sat (p q : Bool) (a b : ByteArray) (ha : okI p a = true) (la : a.data.toList.length ≤ 8) (lb : b.data.toList.length ≤ 8) : (M126 p q a b).sat fun r => r = intForm (Int.gcd (iv p a) (iv q b) : Nat) := by
 have ea : wordV a = (magN a.data.toList : Nat) := by unfold wordV; rw [if_pos la]
 have eb : wordV b = (magN b.data.toList : Nat) := by unfold wordV; rw [if_pos lb]
 have h1 := len8_lt la
 have h2 := len8_lt lb
 have hg : Int.gcd (iv p a) (iv q b) = Nat.gcd (magN a.data.toList) (magN b.data.toList) := by unfold Int.gcd; rw [iv_natAbs, iv_natAbs]
 rw [hg]
 simp only [M126]
 refine sat_ite (fun hb => sat_ite (fun _ => sat_need ?_ (sat_need ?_ (sat_ret ?_))) (fun h => ?_)) (fun hb => sat_ret ?_)
 ·rw [ea, eb]; simp only [u64B, Bool.and_eq_true, decide_eq_true_eq]; omega
 ·rw [ea, eb]
  simp only [Int.toNat_natCast]
  have : Nat.gcd (magN a.data.toList) (magN b.data.toList) < 18446744073709551616 := by
   rcases Nat.eq_zero_or_pos (magN a.data.toList) with h0 | h0
   ·rw [h0, Nat.gcd_zero_left]; omega
   ·have := Nat.gcd_le_left (magN b.data.toList) h0; omega
  simp only [u64B, Bool.and_eq_true, decide_eq_true_eq]; omega
 ·rw [ea, eb]
  simp only [Int.toNat_natCast]
  exact made_pos _
 ·unfold wordB at h
  rw [decide_eq_true la, decide_eq_true lb] at h
  cases h
 ·have hb : b.data.toList = [] := by simpa using hb
  rw [hb]
  show _ = intForm ((Nat.gcd (magN a.data.toList) 0 : Nat) : Int)
  rw [Nat.gcd_zero_right, ← made_pos, magB_magN _ (okI_canon ha)]
  rfl
theorem f126_ok : PureOk Tryz.prog 126 K126 := by
 refine pureOk_of_exec prog_mixed Γ126_ok (fn := Tryz.f126) (c := codeOf Tryz.f126) (by kernel_rfl) (by kernel_rfl) (callFunc_enter (fn := Tryz.f126) (c := codeOf Tryz.f126) (by kernel_rfl) (by kernel_rfl) (by kernel_rfl)) (L := L126) (N := 1010) f126_loops ?_ ?_
 ·intro args v cs h
  unfold K126 at h
  split at h
  ·cases h; rfl
  ·cases h
 ·intro args v cs h hc
  unfold K126 at h
  split at h
  ·rename_i p a q b
   cases h
   have h1 : okI p a = true := hc (okI p a) (by simp)
   have h2 : okI q b = true := hc (okI q b) (by simp)
   have h4 : a.data.toList.length ≤ 8 := dec (hc (decide (a.data.toList.length ≤ 8)) (by simp))
   have h5 : b.data.toList.length ≤ 8 := dec (hc (decide (b.data.toList.length ≤ 8)) (by simp))
   have hs := M126_sat p q a b h1 h4 h5
   rw [← M126_eq] at hs
   generalize execFn Tryz.prog Γ126 L126 1010 Tryz.f126 [.agg [.c (.v (.bool p)), .c (.v (.string a))], .agg [.c (.v (.bool q)), .c (.v (.string b))]] = T at hs ⊢
   generalize Int.gcd (iv p a) (iv q b) = z at hs ⊢
   exact Tr.sat_mono (fun r hr => ⟨by subst hr; rfl, Sees.of_eq hr⟩) hs
  ·cases h
end Go.Vse
set_option maxRecDepth 100000
namespace Go.Vse
open Go.Proofs
def w64 (z : Int) : Bool := decide (z.natAbs < 18446744073709551616)
def K125 : List AV → Option (AV × List Bool)
 | [] => some (intForm 1, [])
 | _ => none
def K187 : List AV → Option (AV × List Bool)
 | [.agg [.c (.v (.bool p)), .c (.v (.string a))], .agg [.c (.v (.bool q)), .c (.v (.string b))]] => some (ratA (Rat.divInt (iv p a) (iv q b)), [okI p a, okI q b, decide (iv q b ≠ 0), decide (a.data.toList.length ≤ 8), decide (b.data.toList.length ≤ 8)])
 | _ => none
def K186 : List AV → Option (AV × List Bool)
 | [.agg l] => some (intForm ((ratV l).den : Nat), [ratOk l])
 | _ => none
def K160 : List AV → Option (AV × List Bool)
 | [.agg l] => some (ratA (hold (-(ratV l))), [ratOk l])
 | _ => none
def K157 : List AV → Option (AV × List Bool)
 | [.agg l] => some (intA .i64 (sgn (ratV l).num 0), [ratOk l])
 | _ => none
def K103 : List AV → Option (AV × List Bool)
 | [.c (.v (.int .i64 n))] => some (ratA (n : Rat), [decide (-9223372036854775808 ≤ n), decide (n ≤ 9223372036854775807)])
 | _ => none
def Γ125 : FuncId → Option Spec := fun f => bif Nat.beq f 152 then some (pureSpec K152) else none
def Γ187 : FuncId → Option Spec := fun f => bif Nat.beq f 170 then some (pureSpec K170) else bif Nat.beq f 189 then some (pureSpec K189) else bif Nat.beq f 126 then some (pureSpec K126) else bif Nat.beq f 220 then some (pureSpec K220) else bif Nat.beq f 125 then some (pureSpec K125) else none
def Γ186 : FuncId → Option Spec := fun f => bif Nat.beq f 125 then some (pureSpec K125) else none
def Γ160 : FuncId → Option Spec := fun f => bif Nat.beq f 189 then some (pureSpec K189) else none
def Γ157 : FuncId → Option Spec := fun f => bif Nat.beq f 170 then some (pureSpec K170) else none
def Γ103 : FuncId → Option Spec := fun f => bif Nat.beq f 152 then some (pureSpec K152) else none
def M125 : Tr AV :=
 .need true (.need true (.ret (AV.agg [.c (.v (.bool false)), .c (.v (.string ⟨⟨magB (Int.natAbs 1)⟩⟩))])))
def M187 (x : Int) (y : Int) : Tr AV :=
 let x1 : ByteArray := ⟨⟨magB y.natAbs⟩⟩
 let x2 : Int := iv (decide (y < 0)) x1
 let x3 : Int := sgn x2 0
 let x4 : ByteArray := ⟨⟨magB x.natAbs⟩⟩
 let x5 : Int := iv (decide (x < 0)) x4
 let x6 : Int := -x5
 let x7 : List UInt8 := magB x6.natAbs
 let x8 : ByteArray := ⟨⟨x7⟩⟩
 let x9 : Int := -x2
 let x10 : List UInt8 := magB x9.natAbs
 let x11 : ByteArray := ⟨⟨x10⟩⟩
 let x12 : Nat := x7.length
 let x13 : Nat := x10.length
 let x14 : Int := iv (decide (x6 < 0)) x8
 let x15 : Int := iv (decide (x9 < 0)) x11
 let x16 : Int := ↑(x14.gcd x15)
 let x17 : List UInt8 := magB x16.natAbs
 let x18 : ByteArray := ⟨⟨x17⟩⟩
 let x19 : Int := iv (decide (x16 < 0)) x18
 let x20 : Nat := x17.length
 let x21 : Int := x15 / x19
 let x22 : List UInt8 := magB x21.natAbs
 let x23 : List UInt8 := magB (Int.natAbs 1)
 let x24 : Int := x14 / x19
 let x25 : List AV := [.c (.v (.bool false)), .c (.v (.string { data := #[] }))]
 let x26 : Int := ↑(x5.gcd x2)
 let x27 : List UInt8 := magB x26.natAbs
 let x28 : ByteArray := ⟨⟨x27⟩⟩
 let x29 : Int := iv (decide (x26 < 0)) x28
 let x30 : Nat := x27.length
 let x31 : Int := x2 / x29
 let x32 : List UInt8 := magB x31.natAbs
 let x33 : Int := x5 / x29
 .need (okI (decide (y < 0)) x1) (.ite (decide (x3 < 0)) (.need (okI (decide (x < 0)) x4) (.need (okI (decide (y < 0)) x1) (.need (okI (decide (x6 < 0)) x8) (.need (okI (decide (x9 < 0)) x11) (.need (decide (x12 ≤ 8)) (.need (decide (x13 ≤ 8)) (.need (okI (decide (x6 < 0)) x8) (.need (okI (decide (x16 < 0)) x18) (.need (decide (0 < x19)) (.need (decide (x12 ≤ 8)) (.need (decide (x20 ≤ 8)) (.need (okI (decide (x9 < 0)) x11) (.need (okI (decide (x16 < 0)) x18) (.need (decide (0 < x19)) (.need (decide (x13 ≤ 8)) (.need (decide (x20 ≤ 8)) (.ite (andAll [x22 == x23, decide (x21 < 0) == decide ((1 : Int) < 0)].reverse) (.ret (AV.agg (.c (.v (.bool (decide (x24 < 0)))) :: .c (.v (.string ⟨⟨magB x24.natAbs⟩⟩)) :: x25))) (.ret (AV.agg [.c (.v (.bool (decide (x24 < 0)))), .c (.v (.string ⟨⟨magB x24.natAbs⟩⟩)), .c (.v (.bool (decide (x21 < 0)))), .c (.v (.string ⟨⟨x22⟩⟩))]))))))))))))))))))) (.need (okI (decide (x < 0)) x4) (.need (okI (decide (y < 0)) x1) (.need (decide ((magB x.natAbs).length ≤ 8)) (.need (decide ((magB y.natAbs).length ≤ 8)) (.need (okI (decide (x < 0)) x4) (.need (okI (decide (x26 < 0)) x28) (.need (decide (0 < x29)) (.need (decide ((magB x.natAbs).length ≤ 8)) (.need (decide (x30 ≤ 8)) (.need (okI (decide (y < 0)) x1) (.need (okI (decide (x26 < 0)) x28) (.need (decide (0 < x29)) (.need (decide ((magB y.natAbs).length ≤ 8)) (.need (decide (x30 ≤ 8)) (.ite (andAll [x32 == x23, decide (x31 < 0) == decide ((1 : Int) < 0)].reverse) (.ret (AV.agg (.c (.v (.bool (decide (x33 < 0)))) :: .c (.v (.string ⟨⟨magB x33.natAbs⟩⟩)) :: x25))) (.ret (AV.agg [.c (.v (.bool (decide (x33 < 0)))), .c (.v (.string ⟨⟨magB x33.natAbs⟩⟩)), .c (.v (.bool (decide (x31 < 0)))), .c (.v (.string ⟨⟨x32⟩⟩))]))))))))))))))))))
def M186 (x : Rat) : Tr AV :=
 .ite (andAll [denB x.den == [], false == false].reverse) (.ret (AV.agg [.c (.v (.bool false)), .c (.v (.string ⟨⟨magB (Int.natAbs 1)⟩⟩))])) (.ret (AV.agg [.c (.v (.bool false)), .c (.v (.string ⟨⟨denB x.den⟩⟩))]))
def M160 (x : Rat) : Tr AV :=
 let x1 : ByteArray := ⟨⟨magB x.num.natAbs⟩⟩
 let x2 : Int := -iv (decide (x.num < 0)) x1
 .need (okI (decide (x.num < 0)) x1) (.ret (AV.agg [.c (.v (.bool (decide (x2 < 0)))), .c (.v (.string ⟨⟨magB x2.natAbs⟩⟩)), .c (.v (.bool false)), .c (.v (.string ⟨⟨denB x.den⟩⟩))]))
def M157 (x : Rat) : Tr AV :=
 let x1 : ByteArray := ⟨⟨magB x.num.natAbs⟩⟩
 .need (okI (decide (x.num < 0)) x1) (.ret (.c (.v (.int IntKind.i64 (sgn (iv (decide (x.num < 0)) x1) 0)))))
def M103 (n : Int) : Tr AV :=
 .need (decide (-9223372036854775808 ≤ n)) (.need (decide (n ≤ 9223372036854775807)) (.ret (AV.agg [.c (.v (.bool (decide (n < 0)))), .c (.v (.string ⟨⟨magB n.natAbs⟩⟩)), .c (.v (.bool false)), .c (.v (.string { data := #[] }))])))
theorem M125_eq : execFn Tryz.prog Γ125 noL 1010 Tryz.f125 [] = M125 := by kernel_rfl
theorem M187_eq (x y : Int) : execFn Tryz.prog Γ187 noL 1010 Tryz.f187 [intForm x, intForm y] = M187 x y := by kernel_rfl
theorem M186_eq (x : Rat) : execFn Tryz.prog Γ186 noL 1010 Tryz.f186 [.agg (ratCells x)] = M186 x := by kernel_rfl
theorem M160_eq (x : Rat) : execFn Tryz.prog Γ160 noL 1010 Tryz.f160 [.agg (ratCells x)] = M160 x := by kernel_rfl
theorem M157_eq (x : Rat) : execFn Tryz.prog Γ157 noL 1010 Tryz.f157 [.agg (ratCells x)] = M157 x := by kernel_rfl
theorem M103_eq (n : Int) : execFn Tryz.prog Γ103 noL 1010 Tryz.f103 [.c (.v (.int .i64 n))] = M103 n := by kernel_rfl
theorem nbeq {d e : Nat} (h : d ≠ e) : Nat.beq d e = false := by
 cases hh : Nat.beq d e with
 | true => exact absurd (Nat.eq_of_beq_eq_true hh) h
 | false => rfl
theorem magB_eq (a b : Nat) : (magB a == magB b) = decide (a = b) := by
 by_cases h : a = b
 ·subst h; simp
 ·rw [decide_eq_false h]
  have : magB a ≠ magB b := fun hh => h (magB_inj hh)
  simpa using this
theorem eqI_cells (a b : Int) : (andAll [magB a.natAbs == magB b.natAbs, decide (a < 0) == decide (b < 0)].reverse) = decide (a = b) := by
 show ((decide (a < 0) == decide (b < 0)) && (magB a.natAbs == magB b.natAbs)) = decide (a = b)
 rw [magB_eq]
 by_cases h : a = b
 ·subst h; simp
 ·rw [decide_eq_false h]
  by_cases h1 : a < 0 <;> by_cases h2 : b < 0 <;> simp [h1, h2] <;> omega
theorem denB_nil (d : Nat) (h : d ≠ 0) : (denB d == []) = decide (d = 1) := by
 unfold denB
 by_cases h1 : d = 1
 ·subst h1; rfl
 ·have : Nat.beq d 1 = false := nbeq h1
  rw [this, decide_eq_false h1]
  simp only [cond_false, magB_nil, decide_eq_false h]
theorem denB_eq (d e : Nat) (h : d ≠ 0) (k : e ≠ 0) : (denB d == denB e) = decide (d = e) := by
 by_cases h1 : d = e
 ·subst h1; simp
 ·rw [decide_eq_false h1]
  have : denB d ≠ denB e := by
   intro hh
   have e1 := denV_denB d h
   have e2 := denV_denB e k
   rw [hh] at e1
   exact h1 (e1.symm.trans e2)
  simpa using this
theorem M125_sat : M125.sat fun r => r = intForm 1 := sat_need rfl (sat_need rfl (sat_ret rfl))
theorem gcd_pos' (x y : Int) (h : y ≠ 0) : 0 < Int.gcd x y := Int.gcd_pos_of_ne_zero_right x h
theorem gcd_le' (x y : Int) (h : y ≠ 0) : Int.gcd x y ≤ y.natAbs := Nat.gcd_le_right _ (by omega)
theorem canon_fin (x y : Int) (hy : 0 < y) : (andAll [magB (y / (Int.gcd x y : Nat)).natAbs == magB (Int.natAbs 1), decide (y / ((Int.gcd x y : Nat) : Int) < 0) == decide ((1 : Int) < 0)].reverse = true → AV.agg [.c (.v (.bool (decide (x / ((Int.gcd x y : Nat) : Int) < 0)))), .c (.v (.string ⟨⟨magB (x / ((Int.gcd x y : Nat) : Int)).natAbs⟩⟩)), .c (.v (.bool false)), .c (.v (.string ⟨#[]⟩))] = ratA (Rat.divInt x y)) ∧
  (andAll [magB (y / (Int.gcd x y : Nat)).natAbs == magB (Int.natAbs 1), decide (y / ((Int.gcd x y : Nat) : Int) < 0) == decide ((1 : Int) < 0)].reverse = false → AV.agg [.c (.v (.bool (decide (x / ((Int.gcd x y : Nat) : Int) < 0)))), .c (.v (.string ⟨⟨magB (x / ((Int.gcd x y : Nat) : Int)).natAbs⟩⟩)), .c (.v (.bool (decide (y / ((Int.gcd x y : Nat) : Int) < 0)))), .c (.v (.string ⟨⟨magB (y / ((Int.gcd x y : Nat) : Int)).natAbs⟩⟩))] = ratA (Rat.divInt x y)) := by
 have hg := gcd_pos' x y (by omega)
 have hd : ((Int.gcd x y : Nat) : Int) ∣ y := Int.gcd_dvd_right ..
 have hq : 0 < y / ((Int.gcd x y : Nat) : Int) := Int.ediv_pos_of_pos_of_dvd hy (by omega) hd
 unfold ratA
 rw [divInt_cells x y hy]
 rw [eqI_cells]
 constructor
 ·intro h
  have h := of_decide_eq_true h
  rw [h]
  rfl
 ·intro h
  have h := of_decide_eq_false h
  have h1 : denB (y / ((Int.gcd x y : Nat) : Int)).natAbs = magB (y / ((Int.gcd x y : Nat) : Int)).natAbs := by
   unfold denB
   have : Nat.beq (y / ((Int.gcd x y : Nat) : Int)).natAbs 1 = false := by
    have : (y / ((Int.gcd x y : Nat) : Int)).natAbs ≠ 1 := by omega
    exact nbeq this
   rw [this]; rfl
  have h2 : decide (y / ((Int.gcd x y : Nat) : Int) < 0) = false := decide_eq_false (by omega)
  rw [h1, h2]
  rfl
theorem M187_sat (x y : Int) (hy : y ≠ 0) (bx : x.natAbs < 18446744073709551616) (by_ : y.natAbs < 18446744073709551616) : (M187 x y).sat fun r => r = ratA (Rat.divInt x y) := by
 have nx : (-x).natAbs = x.natAbs := Int.natAbs_neg x
 have ny : (-y).natAbs = y.natAbs := Int.natAbs_neg y
 have lx := magB_len8 bx
 have ly := magB_len8 by_
 have lx' : (magB (-x).natAbs).length ≤ 8 := by rw [nx]; exact lx
 have ly' : (magB (-y).natAbs).length ≤ 8 := by rw [ny]; exact ly
 have ng : Int.gcd (-x) (-y) = Int.gcd x y := by simp [Int.gcd]
 have gp := gcd_pos' x y hy
 have gl := gcd_le' x y hy
 have lg : (magB ((Int.gcd x y : Nat) : Int).natAbs).length ≤ 8 := magB_len8 (by rw [Int.natAbs_natCast]; omega)
 simp only [M187, iv_form, okI_form, ng]
 refine sat_need rfl (sat_ite (fun h => ?_) (fun h => ?_))
 ·have hneg : y < 0 := by
   have h := of_decide_eq_true h
   unfold sgn at h
   split at h
   ·assumption
   ·split at h <;> omega
  have e0 : Rat.divInt x y = Rat.divInt (-x) (-y) := (Rat.neg_divInt_neg x y).symm
  have hf := canon_fin (-x) (-y) (by omega)
  rw [ng] at hf
  rw [e0]
  refine sat_need rfl (sat_need rfl (sat_need rfl (sat_need rfl (sat_need (decide_eq_true lx') (sat_need (decide_eq_true ly') (sat_need rfl (sat_need rfl (sat_need (decide_eq_true (by omega)) (sat_need (decide_eq_true lx') (sat_need (decide_eq_true lg) (sat_need rfl (sat_need rfl (sat_need (decide_eq_true (by omega)) (sat_need (decide_eq_true ly') (sat_need (decide_eq_true lg) (sat_ite (fun hh => sat_ret ?_) (fun hh => sat_ret ?_)))))))))))))))))
  ·exact hf.1 hh
  ·exact hf.2 hh
 ·have hpos : 0 < y := by
   have h := of_decide_eq_false h
   unfold sgn at h
   split at h
   ·omega
   ·omega
  have hf := canon_fin x y hpos
  refine sat_need rfl (sat_need rfl (sat_need (decide_eq_true lx) (sat_need (decide_eq_true ly) (sat_need rfl (sat_need rfl (sat_need (decide_eq_true (by omega)) (sat_need (decide_eq_true lx) (sat_need (decide_eq_true lg) (sat_need rfl (sat_need rfl (sat_need (decide_eq_true (by omega)) (sat_need (decide_eq_true ly) (sat_need (decide_eq_true lg) (sat_ite (fun hh => sat_ret ?_) (fun hh => sat_ret ?_)))))))))))))))
  ·exact hf.1 hh
  ·exact hf.2 hh
theorem M186_sat (x : Rat) : (M186 x).sat fun r => r = intForm (x.den : Nat) := by
 have h0 := x.den_nz
 unfold M186
 refine sat_ite (fun h => sat_ret ?_) (fun h => sat_ret ?_)
 ·have h : (denB x.den == []) = true := by simpa [andAll] using h
  rw [denB_nil _ h0] at h
  rw [of_decide_eq_true h]
  rfl
 ·have h : (denB x.den == []) = false := by simpa [andAll] using h
  rw [denB_nil _ h0] at h
  have h := of_decide_eq_false h
  have h1 : denB x.den = magB x.den := by
   unfold denB
   have : Nat.beq x.den 1 = false := nbeq h
   rw [this]; rfl
  rw [h1]
  exact made_pos x.den
theorem M160_sat (x : Rat) : (M160 x).sat fun r => r = ratA (hold (-x)) := by
 rw [hold_eq]
 simp only [M160, iv_form, okI_form]
 refine sat_need rfl (sat_ret ?_)
 unfold ratA ratCells
 rw [Rat.neg_num, Rat.neg_den]
 rfl
theorem M157_sat (x : Rat) : (M157 x).sat fun r => r = intA .i64 (sgn x.num 0) := by
 simp only [M157, iv_form, okI_form]
 exact sat_need rfl (sat_ret rfl)
theorem M103_sat (n : Int) (h1 : -9223372036854775808 ≤ n) (h2 : n ≤ 9223372036854775807) : (M103 n).sat fun r => r = ratA (n : Rat) := sat_need (decide_eq_true h1) (sat_need (decide_eq_true h2) (sat_ret rfl))
theorem Γ125_ok : ∀ f s, Γ125 f = some s → SpecOk Tryz.prog f s := one_ok f152_ok.spec
theorem f125_ok : PureOk Tryz.prog 125 K125 := by
 refine pureOk_of_exec prog_mixed Γ125_ok (fn := Tryz.f125) (c := codeOf Tryz.f125) (by kernel_rfl) (by kernel_rfl) (callFunc_enter (fn := Tryz.f125) (c := codeOf Tryz.f125) (by kernel_rfl) (by kernel_rfl) (by kernel_rfl)) (L := noL) (N := 1010) (blocksOk_none _ _) ?_ ?_
 ·intro args v cs h
  unfold K125 at h
  split at h
  ·cases h; rfl
  ·cases h
 ·intro args v cs h hc
  unfold K125 at h
  split at h
  ·skip
   cases h
   have hs := M125_sat
   rw [← M125_eq] at hs
   generalize execFn Tryz.prog Γ125 noL 1010 Tryz.f125 [] = T at hs ⊢
   exact Tr.sat_mono (fun r hr => ⟨by subst hr; rfl, Sees.of_eq hr⟩) hs
  ·cases h
theorem Γ187_ok : ∀ f s, Γ187 f = some s → SpecOk Tryz.prog f s := step_ok f170_ok.spec (step_ok f189_ok.spec (step_ok f126_ok.spec (step_ok f220_ok.spec (one_ok f125_ok.spec))))
theorem f187_ok : PureOk Tryz.prog 187 K187 := by
 refine pureOk_of_exec prog_mixed Γ187_ok (fn := Tryz.f187) (c := codeOf Tryz.f187) (by kernel_rfl) (by kernel_rfl) (callFunc_enter (fn := Tryz.f187) (c := codeOf Tryz.f187) (by kernel_rfl) (by kernel_rfl) (by kernel_rfl)) (L := noL) (N := 1010) (blocksOk_none _ _) ?_ ?_
 ·intro args v cs h
  unfold K187 at h
  split at h
  ·cases h; rfl
  ·cases h
 ·intro args v cs h hc
  unfold K187 at h
  split at h
  ·rename_i p a q b
   cases h
   have h1 : okI p a = true := hc (okI p a) (by simp)
   have h2 : okI q b = true := hc (okI q b) (by simp)
   have h3 : iv q b ≠ 0 := dec (hc (decide (iv q b ≠ 0)) (by simp))
   have h4 : a.data.toList.length ≤ 8 := dec (hc (decide (a.data.toList.length ≤ 8)) (by simp))
   have h5 : b.data.toList.length ≤ 8 := dec (hc (decide (b.data.toList.length ≤ 8)) (by simp))
   have l1 : (iv p a).natAbs < 18446744073709551616 := by rw [iv_natAbs]; exact len8_lt h4
   have l2 : (iv q b).natAbs < 18446744073709551616 := by rw [iv_natAbs]; exact len8_lt h5
   rw [form_eq h1, form_eq h2]
   generalize iv p a = x at *
   generalize iv q b = y at *
   have hs := M187_sat x y h3 l1 l2
   rw [← M187_eq] at hs
   generalize execFn Tryz.prog Γ187 noL 1010 Tryz.f187 [intForm x, intForm y] = T at hs ⊢
   generalize Rat.divInt x y = z at hs ⊢
   exact Tr.sat_mono (fun r hr => ⟨by subst hr; rfl, Sees.of_eq hr⟩) hs
  ·cases h
theorem Γ186_ok : ∀ f s, Γ186 f = some s → SpecOk Tryz.prog f s := one_ok f125_ok.spec
theorem f186_ok : PureOk Tryz.prog 186 K186 := by
 refine pureOk_of_exec prog_mixed Γ186_ok (fn := Tryz.f186) (c := codeOf Tryz.f186) (by kernel_rfl) (by kernel_rfl) (callFunc_enter (fn := Tryz.f186) (c := codeOf Tryz.f186) (by kernel_rfl) (by kernel_rfl) (by kernel_rfl)) (L := noL) (N := 1010) (blocksOk_none _ _) ?_ ?_
 ·intro args v cs h
  unfold K186 at h
  split at h
  ·cases h; rfl
  ·cases h
 ·intro args v cs h hc
  unfold K186 at h
  split at h
  ·rename_i l
   cases h
   have h1 : ratOk l = true := hc (ratOk l) (by simp)
   obtain ⟨x, rfl⟩ : ∃ x, l = ratCells x := ⟨_, ratOk_eq h1⟩
   simp only [ratV_cells] at *
   have hs := M186_sat x
   rw [← M186_eq] at hs
   generalize execFn Tryz.prog Γ186 noL 1010 Tryz.f186 [.agg (ratCells x)] = T at hs ⊢
   exact Tr.sat_mono (fun r hr => ⟨by subst hr; rfl, Sees.of_eq hr⟩) hs
  ·cases h
theorem Γ160_ok : ∀ f s, Γ160 f = some s → SpecOk Tryz.prog f s := one_ok f189_ok.spec
theorem f160_ok : PureOk Tryz.prog 160 K160 := by
 refine pureOk_of_exec prog_mixed Γ160_ok (fn := Tryz.f160) (c := codeOf Tryz.f160) (by kernel_rfl) (by kernel_rfl) (callFunc_enter (fn := Tryz.f160) (c := codeOf Tryz.f160) (by kernel_rfl) (by kernel_rfl) (by kernel_rfl)) (L := noL) (N := 1010) (blocksOk_none _ _) ?_ ?_
 ·intro args v cs h
  unfold K160 at h
  split at h
  ·cases h; rfl
  ·cases h
 ·intro args v cs h hc
  unfold K160 at h
  split at h
  ·rename_i l
   cases h
   have h1 : ratOk l = true := hc (ratOk l) (by simp)
   obtain ⟨x, rfl⟩ : ∃ x, l = ratCells x := ⟨_, ratOk_eq h1⟩
   simp only [ratV_cells] at *
   have hs := M160_sat x
   rw [← M160_eq] at hs
   generalize execFn Tryz.prog Γ160 noL 1010 Tryz.f160 [.agg (ratCells x)] = T at hs ⊢
   generalize hold (-x) = z at hs ⊢
   exact Tr.sat_mono (fun r hr => ⟨by subst hr; rfl, Sees.of_eq hr⟩) hs
  ·cases h
theorem Γ157_ok : ∀ f s, Γ157 f = some s → SpecOk Tryz.prog f s := one_ok f170_ok.spec
theorem f157_ok : PureOk Tryz.prog 157 K157 := by
 refine pureOk_of_exec prog_mixed Γ157_ok (fn := Tryz.f157) (c := codeOf Tryz.f157) (by kernel_rfl) (by kernel_rfl) (callFunc_enter (fn := Tryz.f157) (c := codeOf Tryz.f157) (by kernel_rfl) (by kernel_rfl) (by kernel_rfl)) (L := noL) (N := 1010) (blocksOk_none _ _) ?_ ?_
 ·intro args v cs h
  unfold K157 at h
  split at h
  ·cases h; rfl
  ·cases h
 ·intro args v cs h hc
  unfold K157 at h
  split at h
  ·rename_i l
   cases h
   have h1 : ratOk l = true := hc (ratOk l) (by simp)
   obtain ⟨x, rfl⟩ : ∃ x, l = ratCells x := ⟨_, ratOk_eq h1⟩
   simp only [ratV_cells] at *
   have hs := M157_sat x
   rw [← M157_eq] at hs
   generalize execFn Tryz.prog Γ157 noL 1010 Tryz.f157 [.agg (ratCells x)] = T at hs ⊢
   generalize sgn x.num 0 = z at hs ⊢
   exact Tr.sat_mono (fun r hr => ⟨by subst hr; rfl, Sees.of_eq hr⟩) hs
  ·cases h
theorem Γ103_ok : ∀ f s, Γ103 f = some s → SpecOk Tryz.prog f s := one_ok f152_ok.spec
theorem f103_ok : PureOk Tryz.prog 103 K103 := by
 refine pureOk_of_exec prog_mixed Γ103_ok (fn := Tryz.f103) (c := codeOf Tryz.f103) (by kernel_rfl) (by kernel_rfl) (callFunc_enter (fn := Tryz.f103) (c := codeOf Tryz.f103) (by kernel_rfl) (by kernel_rfl) (by kernel_rfl)) (L := noL) (N := 1010) (blocksOk_none _ _) ?_ ?_
 ·intro args v cs h
  unfold K103 at h
  split at h
  ·cases h; rfl
  ·cases h
 ·intro args v cs h hc
  unfold K103 at h
  split at h
  ·rename_i n
   cases h
   have h1 : -9223372036854775808 ≤ n := dec (hc (decide (-9223372036854775808 ≤ n)) (by simp))
   have h2 : n ≤ 9223372036854775807 := dec (hc (decide (n ≤ 9223372036854775807)) (by simp))
   have hs := M103_sat n h1 h2
   rw [← M103_eq] at hs
   generalize execFn Tryz.prog Γ103 noL 1010 Tryz.f103 [.c (.v (.int .i64 n))] = T at hs ⊢
   generalize (n : Rat) = z at hs ⊢
   exact Tr.sat_mono (fun r hr => ⟨by subst hr; rfl, Sees.of_eq hr⟩) hs
  ·cases h
end Go.Vse
set_option maxRecDepth 100000
namespace Go.Vse
open Go.Proofs
def fit4 (x y : Rat) : Bool := w64 x.num && w64 x.den && w64 y.num && w64 y.den
def fitA (x y : Rat) : Bool := fit4 x y && w64 (x.num * y.den + y.num * x.den) && w64 (x.den * y.den)
def fitM (x y : Rat) : Bool := fit4 x y && w64 (x.num * y.num) && w64 (x.den * y.den)
def fitD (x y : Rat) : Bool := fit4 x y && w64 (x.num * y.den) && w64 (x.den * y.num)
def crs (x y : Rat) : Int × Int × Int := if x.den = y.den then (x.num, y.num, x.den) else (x.num * y.den, y.num * x.den, x.den * y.den)
def K191 : List AV → Option (AV × List Bool)
 | [.agg l, .agg m] => some (.tup [intForm (crs (ratV l) (ratV m)).1, intForm (crs (ratV l) (ratV m)).2.1, intForm (crs (ratV l) (ratV m)).2.2], [ratOk l, ratOk m, fit4 (ratV l) (ratV m)])
 | _ => none
def K162 : List AV → Option (AV × List Bool)
 | [.agg l, .agg m] => some (ratA (hold (ratV l + ratV m)), [ratOk l, ratOk m, fitA (ratV l) (ratV m)])
 | _ => none
def K156 : List AV → Option (AV × List Bool)
 | [.agg l, .agg m] => some (ratA (hold (ratV l * ratV m)), [ratOk l, ratOk m, fitM (ratV l) (ratV m)])
 | _ => none
def K154 : List AV → Option (AV × List Bool)
 | [.agg l, .agg m] => some (ratA (hold (ratV l - ratV m)), [ratOk l, ratOk m, fitA (ratV l) (-(ratV m))])
 | _ => none
def K184 : List AV → Option (AV × List Bool)
 | [.agg [.c (.v (.bool p)), .c (.v (.string a))], .agg [.c (.v (.bool q)), .c (.v (.string b))]] => some (.tup [ratA (Rat.divInt (iv p a) (iv q b)), intA .i64 0], [okI p a, okI q b, decide (iv q b ≠ 0), decide (a.data.toList.length ≤ 8), decide (b.data.toList.length ≤ 8)])
 | _ => none
def K153 : List AV → Option (AV × List Bool)
 | [.agg l, .agg m] => some (.tup [ratA (hold (ratV l / ratV m)), intA .i64 0], [ratOk l, ratOk m, fitD (ratV l) (ratV m), decide (ratV m ≠ 0)])
 | _ => none
def K190 : List AV → Option (AV × List Bool)
 | [.agg l, .agg m] => some (intA .i64 (sgn ((ratV l).num * (ratV m).den) ((ratV m).num * (ratV l).den)), [ratOk l, ratOk m, fit4 (ratV l) (ratV m)])
 | _ => none
def Γ191 : FuncId → Option Spec := fun f => bif Nat.beq f 186 then some (pureSpec K186) else bif Nat.beq f 185 then some (pureSpec K185) else none
def Γ162 : FuncId → Option Spec := fun f => bif Nat.beq f 191 then some (pureSpec K191) else bif Nat.beq f 192 then some (pureSpec K192) else bif Nat.beq f 187 then some (pureSpec K187) else none
def Γ156 : FuncId → Option Spec := fun f => bif Nat.beq f 185 then some (pureSpec K185) else bif Nat.beq f 186 then some (pureSpec K186) else bif Nat.beq f 187 then some (pureSpec K187) else none
def Γ154 : FuncId → Option Spec := fun f => bif Nat.beq f 160 then some (pureSpec K160) else bif Nat.beq f 162 then some (pureSpec K162) else none
def Γ184 : FuncId → Option Spec := fun f => bif Nat.beq f 170 then some (pureSpec K170) else bif Nat.beq f 187 then some (pureSpec K187) else none
def Γ153 : FuncId → Option Spec := fun f => bif Nat.beq f 186 then some (pureSpec K186) else bif Nat.beq f 185 then some (pureSpec K185) else bif Nat.beq f 184 then some (pureSpec K184) else none
def Γ190 : FuncId → Option Spec := fun f => bif Nat.beq f 191 then some (pureSpec K191) else bif Nat.beq f 124 then some (pureSpec K124) else none
def M191 (x : Rat) (y : Rat) : Tr AV :=
 let x1 : List UInt8 := magB x.num.natAbs
 let x2 : ByteArray := ⟨⟨x1⟩⟩
 let x3 : List AV := [.c (.v (.bool (decide (x.num < 0)))), .c (.v (.string x2)), .c (.v (.bool false)), .c (.v (.string ⟨⟨denB x.den⟩⟩))]
 let x4 : List UInt8 := magB y.num.natAbs
 let x5 : ByteArray := ⟨⟨x4⟩⟩
 let x6 : Int := ↑(ratV x3).den
 let x7 : List UInt8 := magB x6.natAbs
 let x8 : ByteArray := ⟨⟨x7⟩⟩
 let x9 : List AV := [.c (.v (.bool (decide (y.num < 0)))), .c (.v (.string x5)), .c (.v (.bool false)), .c (.v (.string ⟨⟨denB y.den⟩⟩))]
 let x10 : Int := ↑(ratV x9).den
 let x11 : List UInt8 := magB x10.natAbs
 let x12 : ByteArray := ⟨⟨x11⟩⟩
 let x13 : Nat := x11.length
 let x14 : Nat := x7.length
 let x15 : Int := iv (decide (x10 < 0)) x12
 let x16 : Int := iv (decide (x.num < 0)) x2 * x15
 let x17 : Int := iv (decide (x6 < 0)) x8
 let x18 : Int := iv (decide (y.num < 0)) x5 * x17
 .ite (andAll [denB x.den == denB y.den, false == false].reverse) (.need (ratOk x3) (.ret (AV.tup [AV.agg [.c (.v (.bool (decide (x.num < 0)))), .c (.v (.string x2))], AV.agg [.c (.v (.bool (decide (y.num < 0)))), .c (.v (.string x5))], AV.agg [.c (.v (.bool false)), .c (.v (.string x8))]]))) (.need (ratOk x9) (.need (okI (decide (x.num < 0)) x2) (.need (okI (decide (x10 < 0)) x12) (.need (decide (x1.length ≤ 100000000)) (.need (decide (x13 ≤ 100000000)) (.need (ratOk x3) (.need (okI (decide (y.num < 0)) x5) (.need (okI (decide (x6 < 0)) x8) (.need (decide (x4.length ≤ 100000000)) (.need (decide (x14 ≤ 100000000)) (.need (ratOk x3) (.need (ratOk x9) (.need (okI (decide (x6 < 0)) x8) (.need (okI (decide (x10 < 0)) x12) (.need (decide (x14 ≤ 100000000)) (.need (decide (x13 ≤ 100000000)) (.ret (AV.tup [AV.agg [.c (.v (.bool (decide (x16 < 0)))), .c (.v (.string ⟨⟨magB x16.natAbs⟩⟩))], AV.agg [.c (.v (.bool (decide (x18 < 0)))), .c (.v (.string ⟨⟨magB x18.natAbs⟩⟩))], AV.agg [.c (.v (.bool false)), .c (.v (.string ⟨⟨magB (x17 * x15).natAbs⟩⟩))]]))))))))))))))))))
def M162 (x : Rat) (y : Rat) : Tr AV :=
 let x1 : List AV := [.c (.v (.bool (decide (x.num < 0)))), .c (.v (.string ⟨⟨magB x.num.natAbs⟩⟩)), .c (.v (.bool false)), .c (.v (.string ⟨⟨denB x.den⟩⟩))]
 let x2 : List AV := [.c (.v (.bool (decide (y.num < 0)))), .c (.v (.string ⟨⟨magB y.num.natAbs⟩⟩)), .c (.v (.bool false)), .c (.v (.string ⟨⟨denB y.den⟩⟩))]
 let x3 : Int := (crs (ratV x1) (ratV x2)).fst
 let x4 : List UInt8 := magB x3.natAbs
 let x5 : ByteArray := ⟨⟨x4⟩⟩
 let x6 : Int := (crs (ratV x1) (ratV x2)).snd.fst
 let x7 : List UInt8 := magB x6.natAbs
 let x8 : ByteArray := ⟨⟨x7⟩⟩
 let x9 : Nat := x4.length
 let x10 : Nat := x7.length
 let x11 : Int := iv (decide (x3 < 0)) x5 + iv (decide (x6 < 0)) x8
 let x12 : List UInt8 := magB x11.natAbs
 let x13 : ByteArray := ⟨⟨x12⟩⟩
 let x14 : Int := (crs (ratV x1) (ratV x2)).snd.snd
 let x15 : List UInt8 := magB x14.natAbs
 let x16 : ByteArray := ⟨⟨x15⟩⟩
 let x17 : Int := iv (decide (x14 < 0)) x16
 let x18 : Nat := x12.length
 let x19 : Nat := x15.length
 let x20 : Int := (Rat.divInt (iv (decide (x11 < 0)) x13) x17).num
 .need (ratOk x1) (.need (ratOk x2) (.need (fit4 (ratV x1) (ratV x2)) (.need (okI (decide (x3 < 0)) x5) (.need (okI (decide (x6 < 0)) x8) (.need (decide (x9 ≤ 100000000)) (.need (decide (x10 ≤ 100000000)) (.need (okI (decide (x11 < 0)) x13) (.need (okI (decide (x14 < 0)) x16) (.need (decide (x17 ≠ 0)) (.need (decide (x18 ≤ 8)) (.need (decide (x19 ≤ 8)) (.ret (AV.agg [.c (.v (.bool (decide (x20 < 0)))), .c (.v (.string ⟨⟨magB x20.natAbs⟩⟩)), .c (.v (.bool false)), .c (.v (.string ⟨⟨denB (Rat.divInt (iv (decide (x11 < 0)) x13) x17).den⟩⟩))])))))))))))))
def M156 (x : Rat) (y : Rat) : Tr AV :=
 let x1 : List UInt8 := magB x.num.natAbs
 let x2 : ByteArray := ⟨⟨x1⟩⟩
 let x3 : List UInt8 := magB y.num.natAbs
 let x4 : ByteArray := ⟨⟨x3⟩⟩
 let x5 : List AV := [.c (.v (.bool (decide (x.num < 0)))), .c (.v (.string x2)), .c (.v (.bool false)), .c (.v (.string ⟨⟨denB x.den⟩⟩))]
 let x6 : List AV := [.c (.v (.bool (decide (y.num < 0)))), .c (.v (.string x4)), .c (.v (.bool false)), .c (.v (.string ⟨⟨denB y.den⟩⟩))]
 let x7 : Int := ↑(ratV x5).den
 let x8 : List UInt8 := magB x7.natAbs
 let x9 : ByteArray := ⟨⟨x8⟩⟩
 let x10 : Int := ↑(ratV x6).den
 let x11 : List UInt8 := magB x10.natAbs
 let x12 : ByteArray := ⟨⟨x11⟩⟩
 let x13 : Nat := x8.length
 let x14 : Nat := x11.length
 let x15 : Int := iv (decide (x.num < 0)) x2 * iv (decide (y.num < 0)) x4
 let x16 : List UInt8 := magB x15.natAbs
 let x17 : ByteArray := ⟨⟨x16⟩⟩
 let x18 : Int := iv (decide (x7 < 0)) x9 * iv (decide (x10 < 0)) x12
 let x19 : List UInt8 := magB x18.natAbs
 let x20 : ByteArray := ⟨⟨x19⟩⟩
 let x21 : Int := iv (decide (x18 < 0)) x20
 let x22 : Nat := x16.length
 let x23 : Nat := x19.length
 let x24 : Int := (Rat.divInt (iv (decide (x15 < 0)) x17) x21).num
 .need (okI (decide (x.num < 0)) x2) (.need (okI (decide (y.num < 0)) x4) (.need (decide (x1.length ≤ 100000000)) (.need (decide (x3.length ≤ 100000000)) (.need (ratOk x5) (.need (ratOk x6) (.need (okI (decide (x7 < 0)) x9) (.need (okI (decide (x10 < 0)) x12) (.need (decide (x13 ≤ 100000000)) (.need (decide (x14 ≤ 100000000)) (.need (okI (decide (x15 < 0)) x17) (.need (okI (decide (x18 < 0)) x20) (.need (decide (x21 ≠ 0)) (.need (decide (x22 ≤ 8)) (.need (decide (x23 ≤ 8)) (.ret (AV.agg [.c (.v (.bool (decide (x24 < 0)))), .c (.v (.string ⟨⟨magB x24.natAbs⟩⟩)), .c (.v (.bool false)), .c (.v (.string ⟨⟨denB (Rat.divInt (iv (decide (x15 < 0)) x17) x21).den⟩⟩))]))))))))))))))))
def M154 (x : Rat) (y : Rat) : Tr AV :=
 let x1 : List AV := [.c (.v (.bool (decide (y.num < 0)))), .c (.v (.string ⟨⟨magB y.num.natAbs⟩⟩)), .c (.v (.bool false)), .c (.v (.string ⟨⟨denB y.den⟩⟩))]
 let x2 : List AV := [.c (.v (.bool (decide (x.num < 0)))), .c (.v (.string ⟨⟨magB x.num.natAbs⟩⟩)), .c (.v (.bool false)), .c (.v (.string ⟨⟨denB x.den⟩⟩))]
 let x3 : Int := (hold (-ratV x1)).num
 let x4 : List AV := [.c (.v (.bool (decide (x3 < 0)))), .c (.v (.string ⟨⟨magB x3.natAbs⟩⟩)), .c (.v (.bool false)), .c (.v (.string ⟨⟨denB (hold (-ratV x1)).den⟩⟩))]
 let x5 : Int := (hold (ratV x2 + ratV x4)).num
 .need (ratOk x1) (.need (ratOk x2) (.need (ratOk x4) (.need (fitA (ratV x2) (ratV x4)) (.ret (AV.agg [.c (.v (.bool (decide (x5 < 0)))), .c (.v (.string ⟨⟨magB x5.natAbs⟩⟩)), .c (.v (.bool false)), .c (.v (.string ⟨⟨denB (hold (ratV x2 + ratV x4)).den⟩⟩))])))))
def M184 (x : Int) (y : Int) : Tr AV :=
 let x1 : ByteArray := ⟨⟨magB y.natAbs⟩⟩
 let x2 : Int := iv (decide (y < 0)) x1
 let x3 : ByteArray := ⟨⟨magB x.natAbs⟩⟩
 let x4 : Int := (Rat.divInt (iv (decide (x < 0)) x3) x2).num
 .need (okI (decide (y < 0)) x1) (.ite (sgn x2 0 == 0) (.ret (AV.tup [AV.agg [.c (.v (.bool false)), .c (.v (.string { data := #[] })), .c (.v (.bool false)), .c (.v (.string { data := #[] }))], .c (.v (.int IntKind.i64 6))])) (.need (okI (decide (x < 0)) x3) (.need (okI (decide (y < 0)) x1) (.need (decide (x2 ≠ 0)) (.need (decide ((magB x.natAbs).length ≤ 8)) (.need (decide ((magB y.natAbs).length ≤ 8)) (.ret (AV.tup [AV.agg [.c (.v (.bool (decide (x4 < 0)))), .c (.v (.string ⟨⟨magB x4.natAbs⟩⟩)), .c (.v (.bool false)), .c (.v (.string ⟨⟨denB (Rat.divInt (iv (decide (x < 0)) x3) x2).den⟩⟩))], .c (.v (.int IntKind.i64 0))]))))))))
def M153 (x : Rat) (y : Rat) : Tr AV :=
 let x1 : List UInt8 := magB y.num.natAbs
 let x2 : ByteArray := ⟨⟨x1⟩⟩
 let x3 : List AV := [.c (.v (.bool (decide (y.num < 0)))), .c (.v (.string x2)), .c (.v (.bool false)), .c (.v (.string ⟨⟨denB y.den⟩⟩))]
 let x4 : List UInt8 := magB x.num.natAbs
 let x5 : ByteArray := ⟨⟨x4⟩⟩
 let x6 : Int := ↑(ratV x3).den
 let x7 : List UInt8 := magB x6.natAbs
 let x8 : ByteArray := ⟨⟨x7⟩⟩
 let x9 : Nat := x7.length
 let x10 : List AV := [.c (.v (.bool (decide (x.num < 0)))), .c (.v (.string x5)), .c (.v (.bool false)), .c (.v (.string ⟨⟨denB x.den⟩⟩))]
 let x11 : Int := ↑(ratV x10).den
 let x12 : List UInt8 := magB x11.natAbs
 let x13 : ByteArray := ⟨⟨x12⟩⟩
 let x14 : Nat := x12.length
 let x15 : Int := iv (decide (x.num < 0)) x5 * iv (decide (x6 < 0)) x8
 let x16 : List UInt8 := magB x15.natAbs
 let x17 : ByteArray := ⟨⟨x16⟩⟩
 let x18 : Int := iv (decide (x11 < 0)) x13 * iv (decide (y.num < 0)) x2
 let x19 : List UInt8 := magB x18.natAbs
 let x20 : ByteArray := ⟨⟨x19⟩⟩
 let x21 : Int := iv (decide (x18 < 0)) x20
 let x22 : Nat := x16.length
 let x23 : Nat := x19.length
 let x24 : Int := (Rat.divInt (iv (decide (x15 < 0)) x17) x21).num
 .need (ratOk x3) (.need (okI (decide (x.num < 0)) x5) (.need (okI (decide (x6 < 0)) x8) (.need (decide (x4.length ≤ 100000000)) (.need (decide (x9 ≤ 100000000)) (.need (ratOk x10) (.need (okI (decide (x11 < 0)) x13) (.need (okI (decide (y.num < 0)) x2) (.need (decide (x14 ≤ 100000000)) (.need (decide (x1.length ≤ 100000000)) (.need (okI (decide (x15 < 0)) x17) (.need (okI (decide (x18 < 0)) x20) (.need (decide (x21 ≠ 0)) (.need (decide (x22 ≤ 8)) (.need (decide (x23 ≤ 8)) (.ret (AV.tup [AV.agg [.c (.v (.bool (decide (x24 < 0)))), .c (.v (.string ⟨⟨magB x24.natAbs⟩⟩)), .c (.v (.bool false)), .c (.v (.string ⟨⟨denB (Rat.divInt (iv (decide (x15 < 0)) x17) x21).den⟩⟩))], .c (.v (.int IntKind.i64 0))]))))))))))))))))
def M190 (x : Rat) (y : Rat) : Tr AV :=
 let x1 : List UInt8 := magB x.num.natAbs
 let x2 : List UInt8 := magB y.num.natAbs
 let x3 : List AV := [.c (.v (.bool (decide (x.num < 0)))), .c (.v (.string ⟨⟨x1⟩⟩)), .c (.v (.bool false)), .c (.v (.string ⟨⟨denB x.den⟩⟩))]
 let x4 : List AV := [.c (.v (.bool (decide (y.num < 0)))), .c (.v (.string ⟨⟨x2⟩⟩)), .c (.v (.bool false)), .c (.v (.string ⟨⟨denB y.den⟩⟩))]
 let x5 : Int := (crs (ratV x3) (ratV x4)).fst
 let x6 : ByteArray := ⟨⟨magB x5.natAbs⟩⟩
 let x7 : Int := (crs (ratV x3) (ratV x4)).snd.fst
 let x8 : ByteArray := ⟨⟨magB x7.natAbs⟩⟩
 .ite (andAll [andAll [denB x.den == denB y.den, false == false].reverse, andAll [x1 == x2, decide (x.num < 0) == decide (y.num < 0)].reverse].reverse) (.ret (.c (.v (.int IntKind.i64 0)))) (.need (ratOk x3) (.need (ratOk x4) (.need (fit4 (ratV x3) (ratV x4)) (.need (okI (decide (x5 < 0)) x6) (.need (okI (decide (x7 < 0)) x8) (.ret (.c (.v (.int IntKind.i64 (sgn (iv (decide (x5 < 0)) x6) (iv (decide (x7 < 0)) x8)))))))))))
theorem M191_eq (x y : Rat) : execFn Tryz.prog Γ191 noL 1010 Tryz.f191 [.agg (ratCells x), .agg (ratCells y)] = M191 x y := by kernel_rfl
theorem M162_eq (x y : Rat) : execFn Tryz.prog Γ162 noL 1010 Tryz.f162 [.agg (ratCells x), .agg (ratCells y)] = M162 x y := by kernel_rfl
theorem M156_eq (x y : Rat) : execFn Tryz.prog Γ156 noL 1010 Tryz.f156 [.agg (ratCells x), .agg (ratCells y)] = M156 x y := by kernel_rfl
theorem M154_eq (x y : Rat) : execFn Tryz.prog Γ154 noL 1010 Tryz.f154 [.agg (ratCells x), .agg (ratCells y)] = M154 x y := by kernel_rfl
theorem M184_eq (x y : Int) : execFn Tryz.prog Γ184 noL 1010 Tryz.f184 [intForm x, intForm y] = M184 x y := by kernel_rfl
theorem M153_eq (x y : Rat) : execFn Tryz.prog Γ153 noL 1010 Tryz.f153 [.agg (ratCells x), .agg (ratCells y)] = M153 x y := by kernel_rfl
theorem M190_eq (x y : Rat) : execFn Tryz.prog Γ190 noL 1010 Tryz.f190 [.agg (ratCells x), .agg (ratCells y)] = M190 x y := by kernel_rfl
theorem sat_true {α : Type} {t : Tr α} {Q : α → Prop} : (Tr.need true t).sat Q = t.sat Q := propext ⟨fun h => h.2 rfl, fun h => ⟨rfl, fun _ => h⟩⟩
theorem lenZ {z : Int} (h : w64 z = true) : (magB z.natAbs).length ≤ 8 := magB_len8 (of_decide_eq_true h)
theorem lenM {z : Int} (h : w64 z = true) : decide ((magB z.natAbs).length ≤ 100000000) = true := decide_eq_true (Nat.le_trans (lenZ h) (by omega))
theorem len88 {z : Int} (h : w64 z = true) : decide ((magB z.natAbs).length ≤ 8) = true := decide_eq_true (lenZ h)
theorem len16 {z : Int} (h : z.natAbs < 340282366920938463463374607431768211456) : decide ((magB z.natAbs).length ≤ 100000000) = true := decide_eq_true (Nat.le_trans (magB_len _ 16 h) (by omega))
theorem mul_lt128 {a b : Int} (h : w64 a = true) (k : w64 b = true) : (a * b).natAbs < 340282366920938463463374607431768211456 := by
 have h := of_decide_eq_true h
 have k := of_decide_eq_true k
 rw [Int.natAbs_mul]
 exact Nat.mul_lt_mul'' h k
theorem w64_128 {a : Int} (h : w64 a = true) : a.natAbs < 340282366920938463463374607431768211456 := by
 have h := of_decide_eq_true h
 omega
theorem fit4_all {x y : Rat} (h : fit4 x y = true) : w64 x.num = true ∧ w64 x.den = true ∧ w64 y.num = true ∧ w64 y.den = true := by
 simp only [fit4, Bool.and_eq_true] at h
 exact ⟨h.1.1.1, h.1.1.2, h.1.2, h.2⟩
theorem made_den (d : Nat) : AV.agg [.c (.v (.bool false)), .c (.v (.string ⟨⟨magB ((d : Nat) : Int).natAbs⟩⟩))] = intForm (d : Int) := made_pos d
theorem den_test (x y : Rat) : (andAll [denB x.den == denB y.den, false == false].reverse) = decide (x.den = y.den) := by
 rw [denB_eq _ _ x.den_nz y.den_nz]
 simp [andAll]
theorem M191_sat (x y : Rat) (h : fit4 x y = true) : (M191 x y).sat fun r => r = .tup [intForm (crs x y).1, intForm (crs x y).2.1, intForm (crs x y).2.2] := by
 obtain ⟨h1, h2, h3, h4⟩ := fit4_all h
 simp only [M191, ratV_lit, ratOk_lit, iv_form, okI_form, lenM h1, lenM h2, lenM h3, lenM h4, sat_true, den_test]
 refine sat_ite (fun hd => ?_) (fun hd => ?_) <;> simp only [sat_true] <;> refine sat_ret ?_
 ·have hd := of_decide_eq_true hd
  unfold crs
  rw [if_pos hd]
  simp only [made_den]
  rfl
 ·have hd := of_decide_eq_false hd
  unfold crs
  rw [if_neg hd]
  have e : ((x.den : Nat) : Int) * ((y.den : Nat) : Int) = ((x.den * y.den : Nat) : Int) := by simp
  simp only [e, made_den]
  rfl
theorem crs_small {x y : Rat} (h : fit4 x y = true) : (crs x y).1.natAbs < 340282366920938463463374607431768211456 ∧ (crs x y).2.1.natAbs < 340282366920938463463374607431768211456 := by
 obtain ⟨h1, h2, h3, h4⟩ := fit4_all h
 unfold crs
 split
 ·exact ⟨w64_128 h1, w64_128 h3⟩
 ·exact ⟨mul_lt128 h1 h4, mul_lt128 h3 h2⟩
theorem crs_add (x y : Rat) : Rat.divInt ((crs x y).1 + (crs x y).2.1) (crs x y).2.2 = x + y := by
 have hx := x.den_nz
 have hy := y.den_nz
 have e : x + y = Rat.divInt (x.num * y.den + y.num * x.den) (x.den * y.den : Int) := by
  rw [Rat.add_def', ← Rat.divInt_ofNat, Int.natCast_mul]
 unfold crs
 split
 ·rename_i hd
  change Rat.divInt (x.num + y.num) (x.den : Int) = x + y
  rw [e, hd]
  rw [Rat.divInt_eq_divInt_iff (by omega) (Int.mul_ne_zero (by omega) (by omega))]
  grind
 ·exact e.symm
theorem crs_den (x y : Rat) : 0 < (crs x y).2.2 := by
 have hx := x.den_pos
 have hy := y.den_pos
 unfold crs
 split
 ·simp only []; omega
 ·simp only []; exact Int.mul_pos (by omega) (by omega)
theorem crs_fit {x y : Rat} (h : fitA x y = true) : w64 ((crs x y).1 + (crs x y).2.1) = true ∧ w64 (crs x y).2.2 = true := by
 simp only [fitA, Bool.and_eq_true] at h
 obtain ⟨⟨h0, h5⟩, h6⟩ := h
 obtain ⟨h1, h2, h3, h4⟩ := fit4_all h0
 unfold crs
 split
 ·rename_i hd
  refine ⟨?_, h2⟩
  have h5 := of_decide_eq_true h5
  refine decide_eq_true ?_
  rw [hd, ← Int.add_mul, Int.natAbs_mul, Int.natAbs_natCast] at h5
  have hy := y.den_pos
  exact Nat.lt_of_le_of_lt (Nat.le_mul_of_pos_right _ hy) h5
 ·exact ⟨h5, h6⟩
theorem M162_sat (x y : Rat) (h : fitA x y = true) : (M162 x y).sat fun r => r = ratA (hold (x + y)) := by
 have h0 : fit4 x y = true := by simp only [fitA, Bool.and_eq_true] at h; exact h.1.1
 obtain ⟨b1, b2⟩ := crs_small h0
 obtain ⟨b3, b4⟩ := crs_fit h
 have hp := crs_den x y
 have hz : decide ((crs x y).2.2 ≠ 0) = true := decide_eq_true (by omega)
 simp only [M162, ratV_lit, ratOk_lit, iv_form, okI_form, h0, len16 b1, len16 b2, len88 b3, len88 b4, hz, sat_true, hold_eq, crs_add]
 exact sat_ret rfl
theorem mul_divInt (x y : Rat) : Rat.divInt (x.num * y.num) (x.den * y.den : Int) = x * y := by
 rw [Rat.mul_def', ← Rat.divInt_ofNat, Int.natCast_mul]
theorem den_mul_ne (x y : Rat) : decide (((x.den : Nat) : Int) * ((y.den : Nat) : Int) ≠ 0) = true := by
 have hx := x.den_pos
 have hy := y.den_pos
 have := Int.mul_pos (a := (x.den : Int)) (b := (y.den : Int)) (by omega) (by omega)
 exact decide_eq_true (by omega)
theorem M156_sat (x y : Rat) (h : fitM x y = true) : (M156 x y).sat fun r => r = ratA (hold (x * y)) := by
 simp only [fitM, Bool.and_eq_true] at h
 obtain ⟨⟨h0, h5⟩, h6⟩ := h
 obtain ⟨h1, h2, h3, h4⟩ := fit4_all h0
 simp only [M156, ratV_lit, ratOk_lit, iv_form, okI_form, lenM h1, lenM h2, lenM h3, lenM h4, len88 h5, len88 h6, den_mul_ne, sat_true, hold_eq, mul_divInt]
 exact sat_ret rfl
theorem M154_sat (x y : Rat) (h : fitA x (-y) = true) : (M154 x y).sat fun r => r = ratA (hold (x - y)) := by
 simp only [M154, ratV_lit, ratOk_lit, hold_eq, h, sat_true, Rat.sub_eq_add_neg]
 exact sat_ret rfl
theorem M184_sat (x y : Int) (hy : y ≠ 0) (bx : x.natAbs < 18446744073709551616) (by_ : y.natAbs < 18446744073709551616) : (M184 x y).sat fun r => r = .tup [ratA (Rat.divInt x y), intA .i64 0] := by
 have lx : decide ((magB x.natAbs).length ≤ 8) = true := decide_eq_true (magB_len8 bx)
 have ly : decide ((magB y.natAbs).length ≤ 8) = true := decide_eq_true (magB_len8 by_)
 have hz : decide (y ≠ 0) = true := decide_eq_true hy
 have hs : (sgn y 0 == 0) = false := by
  unfold sgn
  split
  ·rfl
  ·split
   ·rfl
   ·omega
 simp only [M184, iv_form, okI_form, lx, ly, hz, hs, sat_true]
 refine sat_ite (fun h => by cases h) (fun _ => ?_)
 simp only [sat_true]
 exact sat_ret rfl
theorem div_divInt (x y : Rat) : Rat.divInt (x.num * y.den) ((x.den : Int) * y.num) = x / y := by
 rw [Rat.div_def, Rat.inv_def]
 conv => rhs; rw [← Rat.num_divInt_den x]
 rw [Rat.divInt_mul_divInt]
theorem M153_sat (x y : Rat) (h : fitD x y = true) (hy : y ≠ 0) : (M153 x y).sat fun r => r = .tup [ratA (hold (x / y)), intA .i64 0] := by
 simp only [fitD, Bool.and_eq_true] at h
 obtain ⟨⟨h0, h5⟩, h6⟩ := h
 obtain ⟨h1, h2, h3, h4⟩ := fit4_all h0
 have hn : y.num ≠ 0 := fun hh => hy (Rat.num_eq_zero.1 hh)
 have hz : decide (((x.den : Nat) : Int) * y.num ≠ 0) = true := decide_eq_true (Int.mul_ne_zero (by have := x.den_nz; omega) hn)
 simp only [M153, ratV_lit, ratOk_lit, iv_form, okI_form, lenM h1, lenM h2, lenM h3, lenM h4, len88 h5, len88 h6, hz, sat_true, hold_eq, div_divInt]
 exact sat_ret rfl
theorem rat_test (x y : Rat) : (andAll [andAll [denB x.den == denB y.den, false == false].reverse, andAll [magB x.num.natAbs == magB y.num.natAbs, decide (x.num < 0) == decide (y.num < 0)].reverse].reverse) = decide (x = y) := by
 rw [den_test, eqI_cells]
 show (decide (x.num = y.num) && decide (x.den = y.den)) = decide (x = y)
 by_cases h : x = y
 ·subst h; simp
 ·rw [decide_eq_false h]
  by_cases h1 : x.num = y.num
  ·have h2 : x.den ≠ y.den := fun h2 => h (Rat.ext h1 h2)
   rw [decide_eq_false h2, Bool.and_false]
  ·rw [decide_eq_false h1, Bool.false_and]
theorem sgn_mul (a b d : Int) (h : 0 < d) : sgn (a * d) (b * d) = sgn a b := by
 have h1 : a * d < b * d ↔ a < b := Int.mul_lt_mul_right h
 have h2 : b * d < a * d ↔ b < a := Int.mul_lt_mul_right h
 simp only [sgn, gt_iff_lt, h1, h2]
theorem M190_sat (x y : Rat) (h : fit4 x y = true) : (M190 x y).sat fun r => r = intA .i64 (sgn (x.num * y.den) (y.num * x.den)) := by
 simp only [M190, ratV_lit, ratOk_lit, iv_form, okI_form, h, sat_true, rat_test]
 refine sat_ite (fun hh => sat_ret ?_) (fun _ => ?_)
 · have hh := of_decide_eq_true hh
   subst hh
   have : sgn (x.num * x.den) (x.num * x.den) = 0 := by simp [sgn]
   rw [this]; rfl
 · simp only [sat_true]
   refine sat_ret ?_
   unfold crs
   split
   · rename_i hd
     rw [hd, sgn_mul _ _ _ (by have := y.den_pos; omega)]
     rfl
   · rfl
theorem Γ191_ok : ∀ f s, Γ191 f = some s → SpecOk Tryz.prog f s := step_ok f186_ok.spec (one_ok f185_ok.spec)
theorem f191_ok : PureOk Tryz.prog 191 K191 := by
 refine pureOk_of_exec prog_mixed Γ191_ok (fn := Tryz.f191) (c := codeOf Tryz.f191) (by kernel_rfl) (by kernel_rfl) (callFunc_enter (fn := Tryz.f191) (c := codeOf Tryz.f191) (by kernel_rfl) (by kernel_rfl) (by kernel_rfl)) (L := noL) (N := 1010) (blocksOk_none _ _) ?_ ?_
 ·intro args v cs h
  unfold K191 at h
  split at h
  ·cases h; rfl
  ·cases h
 ·intro args v cs h hc
  unfold K191 at h
  split at h
  ·rename_i l m
   cases h
   have h1 : ratOk l = true := hc (ratOk l) (by simp)
   have h2 : ratOk m = true := hc (ratOk m) (by simp)
   have h3 : fit4 (ratV l) (ratV m) = true := hc (fit4 (ratV l) (ratV m)) (by simp)
   obtain ⟨x, rfl⟩ : ∃ x, l = ratCells x := ⟨_, ratOk_eq h1⟩
   obtain ⟨y, rfl⟩ : ∃ y, m = ratCells y := ⟨_, ratOk_eq h2⟩
   simp only [ratV_cells] at *
   have hs := M191_sat x y h3
   rw [← M191_eq] at hs
   generalize execFn Tryz.prog Γ191 noL 1010 Tryz.f191 [.agg (ratCells x), .agg (ratCells y)] = T at hs ⊢
   generalize crs x y = z at hs ⊢
   exact Tr.sat_mono (fun r hr => ⟨by subst hr; rfl, Sees.of_eq hr⟩) hs
  ·cases h
theorem Γ162_ok : ∀ f s, Γ162 f = some s → SpecOk Tryz.prog f s := step_ok f191_ok.spec (step_ok f192_ok.spec (one_ok f187_ok.spec))
theorem f162_ok : PureOk Tryz.prog 162 K162 := by
 refine pureOk_of_exec prog_mixed Γ162_ok (fn := Tryz.f162) (c := codeOf Tryz.f162) (by kernel_rfl) (by kernel_rfl) (callFunc_enter (fn := Tryz.f162) (c := codeOf Tryz.f162) (by kernel_rfl) (by kernel_rfl) (by kernel_rfl)) (L := noL) (N := 1010) (blocksOk_none _ _) ?_ ?_
 ·intro args v cs h
  unfold K162 at h
  split at h
  ·cases h; rfl
  ·cases h
 ·intro args v cs h hc
  unfold K162 at h
  split at h
  ·rename_i l m
   cases h
   have h1 : ratOk l = true := hc (ratOk l) (by simp)
   have h2 : ratOk m = true := hc (ratOk m) (by simp)
   have h3 : fitA (ratV l) (ratV m) = true := hc (fitA (ratV l) (ratV m)) (by simp)
   obtain ⟨x, rfl⟩ : ∃ x, l = ratCells x := ⟨_, ratOk_eq h1⟩
   obtain ⟨y, rfl⟩ : ∃ y, m = ratCells y := ⟨_, ratOk_eq h2⟩
   simp only [ratV_cells] at *
   have hs := M162_sat x y h3
   rw [← M162_eq] at hs
   generalize execFn Tryz.prog Γ162 noL 1010 Tryz.f162 [.agg (ratCells x), .agg (ratCells y)] = T at hs ⊢
   generalize hold (x + y) = z at hs ⊢
   exact Tr.sat_mono (fun r hr => ⟨by subst hr; rfl, Sees.of_eq hr⟩) hs
  ·cases h
theorem Γ156_ok : ∀ f s, Γ156 f = some s → SpecOk Tryz.prog f s := step_ok f185_ok.spec (step_ok f186_ok.spec (one_ok f187_ok.spec))
theorem f156_ok : PureOk Tryz.prog 156 K156 := by
 refine pureOk_of_exec prog_mixed Γ156_ok (fn := Tryz.f156) (c := codeOf Tryz.f156) (by kernel_rfl) (by kernel_rfl) (callFunc_enter (fn := Tryz.f156) (c := codeOf Tryz.f156) (by kernel_rfl) (by kernel_rfl) (by kernel_rfl)) (L := noL) (N := 1010) (blocksOk_none _ _) ?_ ?_
 ·intro args v cs h
  unfold K156 at h
  split at h
  ·cases h; rfl
  ·cases h
 ·intro args v cs h hc
  unfold K156 at h
  split at h
  ·rename_i l m
   cases h
   have h1 : ratOk l = true := hc (ratOk l) (by simp)
   have h2 : ratOk m = true := hc (ratOk m) (by simp)
   have h3 : fitM (ratV l) (ratV m) = true := hc (fitM (ratV l) (ratV m)) (by simp)
   obtain ⟨x, rfl⟩ : ∃ x, l = ratCells x := ⟨_, ratOk_eq h1⟩
   obtain ⟨y, rfl⟩ : ∃ y, m = ratCells y := ⟨_, ratOk_eq h2⟩
   simp only [ratV_cells] at *
   have hs := M156_sat x y h3
   rw [← M156_eq] at hs
   generalize execFn Tryz.prog Γ156 noL 1010 Tryz.f156 [.agg (ratCells x), .agg (ratCells y)] = T at hs ⊢
   generalize hold (x * y) = z at hs ⊢
   exact Tr.sat_mono (fun r hr => ⟨by subst hr; rfl, Sees.of_eq hr⟩) hs
  ·cases h
theorem Γ154_ok : ∀ f s, Γ154 f = some s → SpecOk Tryz.prog f s := step_ok f160_ok.spec (one_ok f162_ok.spec)
theorem f154_ok : PureOk Tryz.prog 154 K154 := by
 refine pureOk_of_exec prog_mixed Γ154_ok (fn := Tryz.f154) (c := codeOf Tryz.f154) (by kernel_rfl) (by kernel_rfl) (callFunc_enter (fn := Tryz.f154) (c := codeOf Tryz.f154) (by kernel_rfl) (by kernel_rfl) (by kernel_rfl)) (L := noL) (N := 1010) (blocksOk_none _ _) ?_ ?_
 ·intro args v cs h
  unfold K154 at h
  split at h
  ·cases h; rfl
  ·cases h
 ·intro args v cs h hc
  unfold K154 at h
  split at h
  ·rename_i l m
   cases h
   have h1 : ratOk l = true := hc (ratOk l) (by simp)
   have h2 : ratOk m = true := hc (ratOk m) (by simp)
   have h3 : fitA (ratV l) (-(ratV m)) = true := hc (fitA (ratV l) (-(ratV m))) (by simp)
   obtain ⟨x, rfl⟩ : ∃ x, l = ratCells x := ⟨_, ratOk_eq h1⟩
   obtain ⟨y, rfl⟩ : ∃ y, m = ratCells y := ⟨_, ratOk_eq h2⟩
   simp only [ratV_cells] at *
   have hs := M154_sat x y h3
   rw [← M154_eq] at hs
   generalize execFn Tryz.prog Γ154 noL 1010 Tryz.f154 [.agg (ratCells x), .agg (ratCells y)] = T at hs ⊢
   generalize hold (x - y) = z at hs ⊢
   exact Tr.sat_mono (fun r hr => ⟨by subst hr; rfl, Sees.of_eq hr⟩) hs
  ·cases h
theorem Γ184_ok : ∀ f s, Γ184 f = some s → SpecOk Tryz.prog f s := step_ok f170_ok.spec (one_ok f187_ok.spec)
theorem f184_ok : PureOk Tryz.prog 184 K184 := by
 refine pureOk_of_exec prog_mixed Γ184_ok (fn := Tryz.f184) (c := codeOf Tryz.f184) (by kernel_rfl) (by kernel_rfl) (callFunc_enter (fn := Tryz.f184) (c := codeOf Tryz.f184) (by kernel_rfl) (by kernel_rfl) (by kernel_rfl)) (L := noL) (N := 1010) (blocksOk_none _ _) ?_ ?_
 ·intro args v cs h
  unfold K184 at h
  split at h
  ·cases h; rfl
  ·cases h
 ·intro args v cs h hc
  unfold K184 at h
  split at h
  ·rename_i p a q b
   cases h
   have h1 : okI p a = true := hc (okI p a) (by simp)
   have h2 : okI q b = true := hc (okI q b) (by simp)
   have h3 : iv q b ≠ 0 := dec (hc (decide (iv q b ≠ 0)) (by simp))
   have h4 : a.data.toList.length ≤ 8 := dec (hc (decide (a.data.toList.length ≤ 8)) (by simp))
   have h5 : b.data.toList.length ≤ 8 := dec (hc (decide (b.data.toList.length ≤ 8)) (by simp))
   have l1 : (iv p a).natAbs < 18446744073709551616 := by rw [iv_natAbs]; exact len8_lt h4
   have l2 : (iv q b).natAbs < 18446744073709551616 := by rw [iv_natAbs]; exact len8_lt h5
   rw [form_eq h1, form_eq h2]
   generalize iv p a = x at *
   generalize iv q b = y at *
   have hs := M184_sat x y h3 l1 l2
   rw [← M184_eq] at hs
   generalize execFn Tryz.prog Γ184 noL 1010 Tryz.f184 [intForm x, intForm y] = T at hs ⊢
   generalize Rat.divInt x y = z at hs ⊢
   exact Tr.sat_mono (fun r hr => ⟨by subst hr; rfl, Sees.of_eq hr⟩) hs
  ·cases h
theorem Γ153_ok : ∀ f s, Γ153 f = some s → SpecOk Tryz.prog f s := step_ok f186_ok.spec (step_ok f185_ok.spec (one_ok f184_ok.spec))
theorem f153_ok : PureOk Tryz.prog 153 K153 := by
 refine pureOk_of_exec prog_mixed Γ153_ok (fn := Tryz.f153) (c := codeOf Tryz.f153) (by kernel_rfl) (by kernel_rfl) (callFunc_enter (fn := Tryz.f153) (c := codeOf Tryz.f153) (by kernel_rfl) (by kernel_rfl) (by kernel_rfl)) (L := noL) (N := 1010) (blocksOk_none _ _) ?_ ?_
 ·intro args v cs h
  unfold K153 at h
  split at h
  ·cases h; rfl
  ·cases h
 ·intro args v cs h hc
  unfold K153 at h
  split at h
  ·rename_i l m
   cases h
   have h1 : ratOk l = true := hc (ratOk l) (by simp)
   have h2 : ratOk m = true := hc (ratOk m) (by simp)
   have h3 : fitD (ratV l) (ratV m) = true := hc (fitD (ratV l) (ratV m)) (by simp)
   have h4 : ratV m ≠ 0 := dec (hc (decide (ratV m ≠ 0)) (by simp))
   obtain ⟨x, rfl⟩ : ∃ x, l = ratCells x := ⟨_, ratOk_eq h1⟩
   obtain ⟨y, rfl⟩ : ∃ y, m = ratCells y := ⟨_, ratOk_eq h2⟩
   simp only [ratV_cells] at *
   have hs := M153_sat x y h3 h4
   rw [← M153_eq] at hs
   generalize execFn Tryz.prog Γ153 noL 1010 Tryz.f153 [.agg (ratCells x), .agg (ratCells y)] = T at hs ⊢
   generalize hold (x / y) = z at hs ⊢
   exact Tr.sat_mono (fun r hr => ⟨by subst hr; rfl, Sees.of_eq hr⟩) hs
  ·cases h
theorem Γ190_ok : ∀ f s, Γ190 f = some s → SpecOk Tryz.prog f s := step_ok f191_ok.spec (one_ok f124_ok.spec)
theorem f190_ok : PureOk Tryz.prog 190 K190 := by
 refine pureOk_of_exec prog_mixed Γ190_ok (fn := Tryz.f190) (c := codeOf Tryz.f190) (by kernel_rfl) (by kernel_rfl) (callFunc_enter (fn := Tryz.f190) (c := codeOf Tryz.f190) (by kernel_rfl) (by kernel_rfl) (by kernel_rfl)) (L := noL) (N := 1010) (blocksOk_none _ _) ?_ ?_
 ·intro args v cs h
  unfold K190 at h
  split at h
  ·cases h; rfl
  ·cases h
 ·intro args v cs h hc
  unfold K190 at h
  split at h
  ·rename_i l m
   cases h
   have h1 : ratOk l = true := hc (ratOk l) (by simp)
   have h2 : ratOk m = true := hc (ratOk m) (by simp)
   have h3 : fit4 (ratV l) (ratV m) = true := hc (fit4 (ratV l) (ratV m)) (by simp)
   obtain ⟨x, rfl⟩ : ∃ x, l = ratCells x := ⟨_, ratOk_eq h1⟩
   obtain ⟨y, rfl⟩ : ∃ y, m = ratCells y := ⟨_, ratOk_eq h2⟩
   simp only [ratV_cells] at *
   have hs := M190_sat x y h3
   rw [← M190_eq] at hs
   generalize execFn Tryz.prog Γ190 noL 1010 Tryz.f190 [.agg (ratCells x), .agg (ratCells y)] = T at hs ⊢
   generalize sgn (x.num * y.den) (y.num * x.den) = z at hs ⊢
   exact Tr.sat_mono (fun r hr => ⟨by subst hr; rfl, Sees.of_eq hr⟩) hs
  ·cases h
end Go.Vse
