/- Helpers for the proof: no statement of its own. -/
import Derived.Test.YtaidphfhmbpelaaGreatDoorSeqB
import Derived.Test.YtaidphfhmbpelaaGreatDoorTabC
import Derived.Test.YtaidphfhmbpelaaGreatDoorTabD
import Derived.Test.YtaidphfhmbpelaaGreatDoorLawB
set_option linter.unusedVariables false
set_option linter.unusedSimpArgs false
set_option linter.unnecessarySimpa false
set_option linter.deprecated false
set_option maxRecDepth 1000000
namespace Go.Vse
open Go.Proofs
def Γ4 : FuncId → Option Spec := fun f => bif Nat.beq f 180 then some (pureSpec cmpPure) else bif Nat.beq f 168 then some (pureSpec addPure) else bif Nat.beq f 72 then some (pureSpec K72) else bif Nat.beq f 67 then some (pureSpec K67) else bif Nat.beq f 43 then some (pureSpec K43) else bif Nat.beq f 66 then some (pureSpec K66) else bif Nat.beq f 75 then some (pureSpec K75) else bif Nat.beq f 107 then some (pureSpec K107) else bif Nat.beq f 108 then some (pureSpec K108) else bif Nat.beq f 18 then some (pureSpec K18) else bif Nat.beq f 20 then some (pureSpec K20) else bif Nat.beq f 19 then some (pureSpec K19) else bif Nat.beq f 76 then some (pureSpec K76) else bif Nat.beq f 77 then some (pureSpec K77) else bif Nat.beq f 41 then some (pureSpec K41) else bif Nat.beq f 56 then some (pureSpec K56) else bif Nat.beq f 38 then some (pureSpec (tabK rows38)) else bif Nat.beq f 37 then some (pureSpec (tabK rows37)) else bif Nat.beq f 55 then some (pureSpec (tabK rows55)) else bif Nat.beq f 36 then some (memSpec (tabM 9 36 rows36)) else none
theorem Γ4_ok : ∀ f s, Γ4 f = some s → SpecOk Tryz.prog f s := by
 intro f s h
 unfold Γ4 at h
 have key : ∀ (n : Nat) (S : Spec) (o : Option Spec), SpecOk Tryz.prog n S → ((bif Nat.beq f n then some S else o) = some s) → SpecOk Tryz.prog f s ∨ o = some s := by
   intro n S o hK h
   cases hb : Nat.beq f n with
   | true =>
     rw [hb] at h
     cases h
     rw [Nat.eq_of_beq_eq_true hb]
     exact .inl hK
   | false => rw [hb] at h; exact .inr h
 rcases key _ _ _ (cmp_ok cmp_ext).spec h with h | h; exact h
 rcases key _ _ _ (add_ok add_ext).spec h with h | h; exact h
 rcases key _ _ _ f72_ok.spec h with h | h; exact h
 rcases key _ _ _ f67_ok.spec h with h | h; exact h
 rcases key _ _ _ f43_ok.spec h with h | h; exact h
 rcases key _ _ _ f66_ok.spec h with h | h; exact h
 rcases key _ _ _ f75_ok.spec h with h | h; exact h
 rcases key _ _ _ f107_ok.spec h with h | h; exact h
 rcases key _ _ _ f108_ok.spec h with h | h; exact h
 rcases key _ _ _ f18_ok.spec h with h | h; exact h
 rcases key _ _ _ f20_ok.spec h with h | h; exact h
 rcases key _ _ _ f19_ok.spec h with h | h; exact h
 rcases key _ _ _ f76_ok.spec h with h | h; exact h
 rcases key _ _ _ f77_ok.spec h with h | h; exact h
 rcases key _ _ _ f41_ok.spec h with h | h; exact h
 rcases key _ _ _ f56_ok.spec h with h | h; exact h
 rcases key _ _ _ tab38_ok.spec h with h | h; exact h
 rcases key _ _ _ tab37_ok.spec h with h | h; exact h
 rcases key _ _ _ tab55_ok.spec h with h | h; exact h
 rcases key _ _ _ tab36_ok.spec h with h | h; exact h
 cases h
def ms4 : FuncId → Bool := fun f => Nat.beq f 35 || Nat.beq f 57 || Nat.beq f 58 || Nat.beq f 86 || Nat.beq f 88 || Nat.beq f 123 || Nat.beq f 152
def rows16 : List (List AV × AV) := [([shpK, aggI iv1], .tup [aggI re1, boolA true, boolA true]), ([shpK, aggI iv2], .tup [aggI re0, boolA false, boolA false])]
theorem row16_0 : rowOk (concPure Tryz.prog (concΓ2 Tryz.prog Γ4 ms4 70 20) 70 Tryz.f16) ([shpK, aggI iv1], .tup [aggI re1, boolA true, boolA true]) = true := by kernel_rfl
theorem row16_1 : rowOk (concPure Tryz.prog (concΓ2 Tryz.prog Γ4 ms4 70 20) 70 Tryz.f16) ([shpK, aggI iv2], .tup [aggI re0, boolA false, boolA false]) = true := by kernel_rfl
theorem tab16_ok : PureOk Tryz.prog 16 (tabK rows16) := by
 refine tab_ok (concPure_ok (N := 70) prog_mixed (concΓ2_ok (N := 70) (ms := ms4) prog_mixed Γ4_ok 20) (fn := Tryz.f16) (c := codeOf Tryz.f16) (by kernel_rfl) (by kernel_rfl) (by kernel_rfl)) ?_
 intro r hr
 simp only [rows16, List.mem_cons, List.not_mem_nil, or_false] at hr
 rcases hr with rfl | rfl
 · exact row16_0
 · exact row16_1
end Go.Vse
set_option maxRecDepth 1000000
namespace Go.Vse
open Go.Proofs
def Γ4f : FuncId → Option Spec := fun f => bif Nat.beq f 7 then some (pureSpec K7) else bif Nat.beq f 8 then some (pureSpec K8) else bif Nat.beq f 16 then some (pureSpec (tabK rows16)) else none
theorem Γ4f_ok : ∀ f s, Γ4f f = some s → SpecOk Tryz.prog f s := step_ok f7_ok.spec (step_ok f8_ok.spec (one_ok tab16_ok.spec))
theorem run4 : (execFn Tryz.prog Γ4f noL 1010 Tryz.f4 []).run = some (boolA true) := by kernel_rfl
theorem f4_ok : PureOk Tryz.prog 4 K4 := by
 refine pureOk_of_exec prog_mixed Γ4f_ok (fn := Tryz.f4) (c := codeOf Tryz.f4) (by kernel_rfl) (by kernel_rfl) (callFunc_enter (fn := Tryz.f4) (c := codeOf Tryz.f4) (by kernel_rfl) (by kernel_rfl) (by kernel_rfl)) (L := noL) (N := 1010) (blocksOk_none _ _) ?_ ?_
 · intro args v cs h
   unfold K4 at h
   split at h
   · cases h; rfl
   · cases h
 · intro args v cs h hc
   unfold K4 at h
   split at h
   · cases h
     refine Tr.sat_mono ?_ (Tr.run_sat run4)
     rintro r rfl
     exact ⟨rfl, Sees.refl _⟩
   · cases h
theorem f3_ok : PureOk Tryz.prog 3 K3 := f3_ok_of f4_ok
end Go.Vse
