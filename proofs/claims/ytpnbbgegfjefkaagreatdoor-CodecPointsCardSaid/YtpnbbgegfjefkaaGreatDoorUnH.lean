/- Helpers for the proof: no statement of its own. -/
import Derived.Test.YtpnbbgegfjefkaaGreatDoorUnG
set_option linter.unusedVariables false
set_option linter.unusedSimpArgs false
set_option linter.unnecessarySimpa false
set_option linter.deprecated false
set_option maxRecDepth 100000
namespace Go.Vse
open Go.Proofs
theorem rawU_snoc : ∀ (l : List Un) (v : Un), rawU l = true → oneU v = true → (∀ u, l.getLast? = some u → linkU u v = true) → rawU (l ++ [v]) = true
 | [], v, _, hv, _ => by simp only [List.nil_append, rawU, hv, Bool.and_self]
 | [u], v, h, hv, hl => by
   have := hl u rfl
   have hu := rawU_head h
   show rawU (u :: [v]) = true
   simp only [rawU, hu, hv, this, Bool.and_self]
 | u :: w :: l, v, h, hv, hl => by
   have ih := rawU_snoc (w :: l) v (rawU_tail h) hv (fun x hx => hl x (by rw [List.getLast?_cons_cons]; exact hx))
   show rawU (u :: (w :: (l ++ [v]))) = true
   rw [rawU, rawU_head h, rawU_link h]
   exact ih
structure Inv (k : Int) (st : List Un × Sm × Bool) : Prop where
 raw : rawU st.1 = true
 hd : ∀ u l, st.1 = u :: l → u.oa = false
 len : (st.1.length : Int) ≤ k
 sm : smpB st.2.1 = true
 t : st.2.1.t ≤ 15 + 8 * k
 last : ∀ u, st.1.getLast? = some u → u.a < u.b ∧ (bif st.2.2 then u.b < st.2.1.t else u.b = st.2.1.t)
 nil : st.1 = [] → st.2.2 = true
theorem inv_step {k : Int} {st : List Un × Sm × Bool} {s : Stp} (h : Inv k st) (hk0 : 0 ≤ k) (hk : k ≤ 5) (hs : s.ok = true) : Inv (k + 1) (stepTr st s) := by
 obtain ⟨O, l, al⟩ := st
 obtain ⟨h1, h2, h3, h4, h5, h6, h7⟩ := h
 simp only at h1 h2 h3 h4 h5 h6 h7
 simp only [Stp.ok, u8B, Bool.and_eq_true, decide_eq_true_eq] at hs
 have hs2 := h4
 simp only [smpB, Bool.and_eq_true, decide_eq_true_eq] at hs2
 obtain ⟨l1, l2, l3, l4, l5, l6⟩ := hs2
 have hn : smpB (nxt l s) = true := by
   simp only [smpB, Bool.and_eq_true, decide_eq_true_eq]
   simp only [nxt]
   omega
 have hnt : (nxt l s).t ≤ 15 + 8 * (k + 1) := by simp only [nxt]; omega
 by_cases k0 : s.k % 8 = 0
 · have f2 : decide (s.k % 8 = 0) = true := decide_eq_true k0
   have he : stepTr (O, l, al) s = (O, nxt l s, true) := by unfold stepTr; simp only [f2, cond_true]
   rw [he]
   refine ⟨h1, h2, by show (O.length : Int) ≤ _; omega, hn, hnt, fun u hu => ?_, fun _ => rfl⟩
   obtain ⟨a, b⟩ := h6 u hu
   refine ⟨a, ?_⟩
   show u.b < (nxt l s).t
   simp only [nxt]
   cases al with
   | true => simp only [cond_true] at b; omega
   | false => simp only [cond_false] at b; omega
 · have f2 : decide (s.k % 8 = 0) = false := decide_eq_false k0
   have hft : (frm l s).t = l.t := by
     unfold frm
     cases decide (s.k % 8 = 1) <;> rfl
   have hpre : preT (frm l s) (nxt l s) = true := by
     have hsf : smpB (frm l s) = true := by
       unfold frm
       cases decide (s.k % 8 = 1) with
       | true => simp only [cond_true, smpB, Bool.and_eq_true, decide_eq_true_eq]; omega
       | false => exact h4
     simp only [preT, hsf, hft, Bool.true_and, Bool.and_eq_true, decide_eq_true_eq]
     simp only [nxt]
     omega
   obtain ⟨_, _, hlb⟩ := thru_bnd hpre
   generalize hv : (⟨(frm l s).t, (nxt l s).t, decide (0 < O.length) && !al, false, thruL (frm l s) (nxt l s)⟩ : Un) = v
   have he : stepTr (O, l, al) s = (O ++ [v], nxt l s, false) := by unfold stepTr; simp only [f2, cond_false, hv]
   rw [he]
   have va : v.a = l.t := by rw [← hv]; exact hft
   have vb : v.b = l.t + 1 + s.t % 8 := by rw [← hv]; rfl
   have vo : v.oa = (decide (0 < O.length) && !al) := by rw [← hv]
   have vob : v.ob = false := by rw [← hv]
   have vf : lbB v.f = true := by rw [← hv]; exact hlb
   have hone : oneU v = true := by
     simp only [lbB, Bool.and_eq_true] at vf
     have e1 : decide (v.a < v.b) = true := decide_eq_true (by omega)
     have e2 : decide (0 ≤ v.a) = true := decide_eq_true (by omega)
     have e3 : decide (v.b ≤ 63) = true := decide_eq_true (by omega)
     unfold oneU
     rw [e1, e2, e3, vob, vf.1.1, vf.1.2, vf.2.1, vf.2.2]
     rfl
   have hlink : ∀ u, O.getLast? = some u → linkU u v = true := by
     intro u hu
     obtain ⟨a, b⟩ := h6 u hu
     have hO : 0 < O.length := by
       cases O with
       | nil => simp at hu
       | cons x O => simp
     have e1 : decide (u.a < u.b) = true := decide_eq_true a
     unfold linkU
     rw [vo, decide_eq_true hO, e1, va]
     cases al with
     | true => simp only [cond_true] at b; simp; omega
     | false => simp only [cond_false] at b; simp; omega
   refine ⟨rawU_snoc O v h1 hone hlink, ?_, by simp; omega, hn, hnt, ?_, fun h => absurd h (by simp)⟩
   · intro u m hm
     cases O with
     | nil =>
       have := h7 rfl
       subst this
       simp only [List.nil_append, List.cons.injEq] at hm
       rw [← hm.1, vo]
       rfl
     | cons x O =>
       simp only [List.cons_append, List.cons.injEq] at hm
       rw [← hm.1]
       exact h2 x O rfl
   · intro u hu
     rw [List.getLast?_concat] at hu
     cases hu
     refine ⟨by omega, ?_⟩
     show v.b = (nxt l s).t
     rw [vb]
     rfl
theorem inv_run : ∀ (S : List Stp) (k : Int) (st : List Un × Sm × Bool), Inv k st → 0 ≤ k → k + S.length ≤ 6 → S.all Stp.ok = true → Inv (k + S.length) (runTr st S)
 | [], k, st, h, _, _, _ => by simpa [runTr] using h
 | s :: S, k, st, h, h0, hk, hs => by
   simp only [List.all_cons, Bool.and_eq_true] at hs
   simp only [List.length_cons] at hk
   have h1 := inv_step h h0 (by omega) hs.1
   have h2 := inv_run S (k + 1) _ h1 (by omega) (by omega) hs.2
   have : k + ((s :: S).length : Int) = k + 1 + (S.length : Int) := by simp only [List.length_cons]; omega
   rw [this]
   exact h2
def Cr.ok (c : Cr) : Bool := u8B c.t && (u8B c.x && (u8B c.y && (c.S.all Stp.ok && decide (c.S.length ≤ 6))))
def Cr.s0 (c : Cr) : Sm := ⟨c.t % 16, c.x % 64, c.y % 64⟩
def trajRaw (c : Cr) : List Un :=
 let r := runTr ([], c.s0, true) c.S
 bif r.2.2 then r.1 ++ [stillU r.2.1] else r.1
def trajU (c : Cr) : List Un := mergeU (trajRaw c)
theorem int_bnd {n : Int} {N D : Nat} (h : n.natAbs ≤ N) (hD : 1 ≤ D) : bndB N D (n : Rat) = true := bndB_iff.2 ⟨h, hD⟩
theorem traj_inv {c : Cr} (h : c.ok = true) : Inv c.S.length (runTr ([], c.s0, true) c.S) := by
 simp only [Cr.ok, Bool.and_eq_true, decide_eq_true_eq] at h
 obtain ⟨h1, h2, h3, h4, h5⟩ := h
 simp only [u8B, Bool.and_eq_true, decide_eq_true_eq] at h1 h2 h3
 have h0 : Inv 0 ([], c.s0, true) := by
   refine ⟨rfl, fun u l h => by simp at h, by simp, ?_, ?_, fun u hu => by simp at hu, fun _ => rfl⟩
   · simp only [smpB, Bool.and_eq_true, decide_eq_true_eq]; simp only [Cr.s0]; omega
   · simp only [Cr.s0]; omega
 have := inv_run c.S 0 _ h0 (by omega) (by omega) h4
 simpa using this
theorem traj_raw {c : Cr} (h : c.ok = true) : rawOk (trajRaw c) = true ∧ 1 ≤ (trajRaw c).length ∧ (trajRaw c).length ≤ 7 := by
 have hi := traj_inv h
 have h5 : c.S.length ≤ 6 := by
   simp only [Cr.ok, Bool.and_eq_true, decide_eq_true_eq] at h
   exact h.2.2.2.2
 unfold trajRaw
 generalize runTr ([], c.s0, true) c.S = r at *
 obtain ⟨O, l, al⟩ := r
 obtain ⟨h1, h2, h3, h4, h6, h7, h8⟩ := hi
 simp only at h1 h2 h3 h4 h6 h7 h8
 simp only
 cases al with
 | false =>
   simp only [cond_false]
   have hne : O ≠ [] := fun e => by have := h8 e; cases this
   cases O with
   | nil => exact absurd rfl hne
   | cons u O =>
     refine ⟨?_, by simp, by simp only [List.length_cons] at *; omega⟩
     unfold rawOk
     rw [h1]
     show (!u.oa) = true
     rw [h2 u O rfl]; rfl
 | true =>
   simp only [cond_true]
   simp only [smpB, Bool.and_eq_true, decide_eq_true_eq] at h4
   have hone : oneU (stillU l) = true := by
     have z : bndB 63 8 0 = true := bndB_iff.2 ⟨by decide, by decide⟩
     have e1 : decide (0 ≤ l.t) = true := decide_eq_true (by omega)
     have e2 : decide (l.t ≤ 63) = true := decide_eq_true (by omega)
     have e3 : bndB 32768 8 (l.x : Rat) = true := int_bnd (by omega) (by decide)
     have e4 : bndB 32768 8 (l.y : Rat) = true := int_bnd (by omega) (by decide)
     unfold oneU stillU
     simp only [e1, e2, e3, e4, z]
     simp
   have hlink : ∀ u, O.getLast? = some u → linkU u (stillU l) = true := by
     intro u hu
     obtain ⟨a, b⟩ := h7 u hu
     simp only [cond_true] at b
     unfold linkU stillU
     rw [decide_eq_true a]
     simp only [cond_false, Bool.true_and]
     exact decide_eq_true b
   have hr := rawU_snoc O (stillU l) h1 hone hlink
   refine ⟨?_, by simp, by simp; omega⟩
   cases O with
   | nil =>
     unfold rawOk
     rw [hr]; rfl
   | cons u O =>
     unfold rawOk
     rw [hr]
     show (!u.oa) = true
     rw [h2 u O rfl]; rfl
theorem traj_good {c : Cr} (h : c.ok = true) : goodU (trajU c) = true ∧ 1 ≤ (trajU c).length ∧ (trajU c).length ≤ 7 := by
 obtain ⟨h1, h2, h3⟩ := traj_raw h
 have hm := mergeU_len (trajRaw c)
 exact ⟨merge_good h1, hm.2 (fun e => by rw [e] at h2; simp at h2), Nat.le_trans hm.1 h3⟩
abbrev stp16 : T16 → Tr (T16 ⊕ ((Nat × Unit × Bool × Unit) × (List Un × Sm))) := fun x => step16 x.1.2.1 x.1.2.2.2.1 x.1.2.2.2.2.1 x.2.1 x.2.2.1 x.2.2.2
theorem runs16 (c : Cr) (hc : c.S.all Stp.ok = true) (h6 : c.S.length ≤ 6) (Q : (Nat × Unit × Bool × Unit) × (List Un × Sm) → Prop) : ∀ (k i : Nat) (O : List Un) (l : Sm) (al : Bool), i + k = c.S.length → Inv i (O, l, al) →
  Q (((runTr (O, l, al) (c.S.drop i)).1.length, (), (runTr (O, l, al) (c.S.drop i)).2.2, ()), ((runTr (O, l, al) (c.S.drop i)).1, (runTr (O, l, al) (c.S.drop i)).2.1)) →
  RunsX stp16 Q (k + 1) (((), O.length, (), al, (i : Nat), ()), (c, O, l))
 | 0, i, O, l, al, he, hv, hq => by
  obtain rfl : i = c.S.length := by omega
  rw [List.drop_length] at hq
  exact step16_end c O l al _ hq
 | k + 1, i, O, l, al, he, hv, hq => by
  have hl : i < c.S.length := by omega
  have hlen : (O.length : Int) ≤ i := hv.len
  have hsm : smpB l = true := hv.sm
  have ht : l.t ≤ 15 + 8 * i := hv.t
  have hu : c.S.getD i st0 = c.S[i] := by simp [List.getD_eq_getElem?_getD, hl]
  refine step16_in c O l al i hc hl (by omega) (by omega) hsm ht _ ?_
  have hok : (c.S.getD i st0).ok = true := by rw [hu]; exact List.all_eq_true.1 hc _ (List.getElem_mem hl)
  have hv2 := inv_step hv (by omega) (by omega) hok
  rw [List.drop_eq_getElem_cons hl, ← hu] at hq
  have hrun : runTr (O, l, al) (c.S.getD i st0 :: c.S.drop (i + 1)) = runTr (stepTr (O, l, al) (c.S.getD i st0)) (c.S.drop (i + 1)) := rfl
  rw [hrun] at hq
  generalize stepTr (O, l, al) (c.S.getD i st0) = st at *
  obtain ⟨O', l', al'⟩ := st
  have hv3 : Inv ((i + 1 : Nat) : Int) (O', l', al') := by
   have : ((i + 1 : Nat) : Int) = (i : Int) + 1 := by omega
   rw [this]; exact hv2
  exact runs16 c hc h6 Q k (i + 1) O' l' al' (by omega) hv3 hq
theorem f16_loops : BlocksOk Tryz.prog 0 L16 (codeOf Tryz.f16) := by
 refine blocksOk_of (d := fun id => Nat.beq id 0) (fun id => by unfold L16; cases Nat.beq id 0 <;> rfl) _ ?_
 have hb : blocksOf (fun id => Nat.beq id 0) (codeOf Tryz.f16) = [(0, .loop (loopOf 0 (codeOf Tryz.f16)))] := by kernel_rfl
 rw [hb]
 intro p hp g hg
 simp only [List.mem_singleton] at hp
 subst hp
 have hh : L16 0 = some ((lp16).g 0) := rfl
 rw [hh] at hg
 obtain rfl : g = (lp16).g 0 := (Option.some.inj hg).symm
 refine LoopSt.ok2 (N := 1010) prog_mixed (inlΓ_ok prog_mixed Γb16_ok 1) (L := noL) (blocksOk_none 0 _) lp16_good (fun x => step16_eq x) ?_
 rintro ⟨⟨⟨⟩, m, ⟨⟩, al, i, ⟨⟩⟩, c, O, l⟩ hx
 have hx : pre16 (((), m, (), al, i, ()), (c, O, l)) = true := hx
 simp only [pre16, Bool.and_eq_true, decide_eq_true_eq] at hx
 have h1 : m = 0 := hx.1
 have h2 : O.length = 0 := hx.2.1
 have h3 : al = true := hx.2.2.1
 have h4 : i = 0 := hx.2.2.2.1
 have h5 : smpB l = true := hx.2.2.2.2.1
 have h6 : l.t ≤ 15 := hx.2.2.2.2.2.1
 have h7 : c.S.all Stp.ok = true := hx.2.2.2.2.2.2.1
 have h8 : c.S.length ≤ 6 := hx.2.2.2.2.2.2.2
 clear hx
 have h9 : O = [] := List.eq_nil_of_length_eq_zero h2
 subst h1 h3 h4 h9
 have hv : Inv ((0 : Nat) : Int) ([], l, true) := ⟨rfl, fun u l h => by simp at h, by simp, h5, by simpa using h6, fun u hu => by simp at hu, fun _ => rfl⟩
 exact ⟨_, runs16 c h7 h8 (· = lp16.res (((), 0, (), true, 0, ()), (c, [], l))) c.S.length 0 [] l true (by omega) hv rfl⟩
theorem M16_sat (c : Cr) (h : c.ok = true) : (M16 c).sat fun r => r = usA (trajU c) := by
 obtain ⟨hr, hl1, hl2⟩ := traj_raw h
 have hi := traj_inv h
 have h2 := h
 simp only [Cr.ok, Bool.and_eq_true, decide_eq_true_eq] at h2
 obtain ⟨a1, a2, a3, hS, hS6⟩ := h2
 simp only [u8B, Bool.and_eq_true, decide_eq_true_eq] at a1 a2 a3
 have tT : IntKind.i64.wrap (c.t.tmod 16) = c.t % 16 := by rw [Int.tmod_eq_emod_of_nonneg a1.1, wrap_i64 (by omega)]
 have tX : IntKind.i64.wrap (c.x.tmod 64) = c.x % 64 := by rw [Int.tmod_eq_emod_of_nonneg a2.1, wrap_i64 (by omega)]
 have tY : IntKind.i64.wrap (c.y.tmod 64) = c.y % 64 := by rw [Int.tmod_eq_emod_of_nonneg a3.1, wrap_i64 (by omega)]
 have r3 : ∀ z : Int, 0 ≤ z → z ≤ 1000 → decide (-9223372036854775808 ≤ z) = true := fun z h k => decide_eq_true (by omega)
 have r4 : ∀ z : Int, 0 ≤ z → z ≤ 1000 → decide (z ≤ 9223372036854775807) = true := fun z h k => decide_eq_true (by omega)
 have b1 := r3 (c.t % 16) (by omega) (by omega)
 have b2 := r4 (c.t % 16) (by omega) (by omega)
 have b3 := r3 (c.x % 64) (by omega) (by omega)
 have b4 := r4 (c.x % 64) (by omega) (by omega)
 have b5 := r3 (c.y % 64) (by omega) (by omega)
 have b6 := r4 (c.y % 64) (by omega) (by omega)
 have e0 : unsOf 0 (fun _ => ([] : List IV)) = [] := rfl
 have hcs : (⟨c.t % 16, c.x % 64, c.y % 64⟩ : Sm) = c.s0 := rfl
 have hcr : (⟨c.t, c.x, c.y, c.S⟩ : Cr) = c := rfl
 have hp : pre16 (((), 0, (), true, 0, ()), (c, [], c.s0)) = true := by
   have hs : smpB c.s0 = true := by simp only [smpB, Bool.and_eq_true, decide_eq_true_eq]; simp only [Cr.s0]; omega
   have ht : decide (c.s0.t ≤ 15) = true := decide_eq_true (by simp only [Cr.s0]; omega)
   simp only [pre16, hs, ht, hS, decide_true, Bool.true_and, List.length_nil, decide_eq_true hS6]
 simp only [M16, tT, tX, tY, arr_nil, b1, b2, b3, b4, b5, b6, e0]
 simp only [↓sm_fold, smV_cells, smOk_cells, stsOf_el, stsOk_sts hS, hcs, hcr, hp, sat_true]
 have hdef : trajRaw c = bif (runTr ([], c.s0, true) c.S).2.2 then (runTr ([], c.s0, true) c.S).1 ++ [stillU (runTr ([], c.s0, true) c.S).2.1] else (runTr ([], c.s0, true) c.S).1 := rfl
 unfold trajU
 generalize runTr ([], c.s0, true) c.S = r at *
 obtain ⟨O, l, al⟩ := r
 have hlen : (O.length : Int) ≤ c.S.length := hi.len
 have d1 : decide (O.length + 1 ≤ 9223372036854775807) = true := decide_eq_true (by omega)
 have d2 : decide ((O.length + 1) * 408 ≤ 140737488355328) = true := decide_eq_true (by omega)
 cases al with
 | true =>
   simp only [cond_true] at hdef
   rw [hdef] at hr hl1 hl2 ⊢
   have c1 : decide (1 ≤ (O ++ [stillU l]).length) = true := decide_eq_true hl1
   have c2 : decide ((O ++ [stillU l]).length ≤ 19) = true := decide_eq_true (by omega)
   have hle : (⟨l.t, l.x, l.y⟩ : Sm) = l := rfl
   simp only [↓un_fold, ↓iv_fold, ↓ln_fold, ↓tm_fold, un_eta, iv_eta, take_un1, take_un2, take_iv1, take_iv2, tmV_cells, tmOk_cells, unV_cells, unOk_cells, ivV_lit, ivOk_lit, lineV_cells, lineOk_cells, unsOf_el, unsOk_units, sat_true, rev_fold, take_univ, unV_iv, unOk_iv, unsOf_join, unsOk_join, Bool.and_true, eq_self, decide_true, Nat.le_refl, rev_still, hle, hr, c1, c2, d1, d2]
   repeat first
     | refine sat_need rfl ?_
     | refine sat_ite (fun h => Bool.noConfusion h) (fun _ => ?_)
     | refine sat_ite (fun _ => ?_) (fun h => Bool.noConfusion h)
   exact sat_ret rfl
 | false =>
   simp only [cond_false] at hdef
   rw [hdef] at hr hl1 hl2 ⊢
   have c1 : decide (1 ≤ O.length) = true := decide_eq_true hl1
   have c2 : decide (O.length ≤ 19) = true := decide_eq_true (by omega)
   simp only [↓un_fold, ↓iv_fold, ↓ln_fold, ↓tm_fold, un_eta, iv_eta, take_un1, take_un2, take_iv1, take_iv2, tmV_cells, tmOk_cells, unV_cells, unOk_cells, ivV_lit, ivOk_lit, lineV_cells, lineOk_cells, unsOf_el, unsOk_units, sat_true, rev_fold, take_univ, unV_iv, unOk_iv, unsOf_join, unsOk_join, Bool.and_true, eq_self, decide_true, Nat.le_refl, hr, c1, c2]
   repeat first
     | refine sat_need rfl ?_
     | refine sat_ite (fun h => Bool.noConfusion h) (fun _ => ?_)
     | refine sat_ite (fun _ => ?_) (fun h => Bool.noConfusion h)
   exact sat_ret rfl
def K16 : List AV → Option (AV × List Bool) := (F1 argCr).K (fun x => usA (trajU x.1)) fun x => [x.1.ok]
theorem f16_ok : PureOk Tryz.prog 16 K16 :=
 (F1 argCr).pureEq (N := 1010) (L := L16) prog_mixed (inlΓ_ok prog_mixed Γb16_ok 1) (fn := Tryz.f16) (c := codeOf Tryz.f16) (by kernel_rfl) (by kernel_rfl) (by kernel_rfl) f16_loops (fun _ => rfl) (M := fun x => M16 x.1) (fun x => M16_eq x.1)
  fun x h => M16_sat x.1 (h _ (by simp))
end Go.Vse
