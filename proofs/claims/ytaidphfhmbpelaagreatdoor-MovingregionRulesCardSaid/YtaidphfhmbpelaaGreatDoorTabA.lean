/- Helpers for the proof: no statement of its own. -/
import Derived.Test.YtaidphfhmbpelaaGreatDoorQuadB
import Derived.Test.YtaidphfhmbpelaaGreatDoorVseE
set_option linter.unusedVariables false
set_option linter.unusedSimpArgs false
set_option linter.unnecessarySimpa false
set_option linter.deprecated false
set_option maxRecDepth 1000000
namespace Go.Vse
open Go.Proofs
def Γk : FuncId → Option Spec := fun f => bif Nat.beq f 180 then some (pureSpec cmpPure) else bif Nat.beq f 168 then some (pureSpec addPure) else bif Nat.beq f 72 then some (pureSpec K72) else bif Nat.beq f 67 then some (pureSpec K67) else bif Nat.beq f 43 then some (pureSpec K43) else bif Nat.beq f 66 then some (pureSpec K66) else bif Nat.beq f 75 then some (pureSpec K75) else bif Nat.beq f 107 then some (pureSpec K107) else bif Nat.beq f 108 then some (pureSpec K108) else bif Nat.beq f 18 then some (pureSpec K18) else none
def msK : FuncId → Bool := fun f => Nat.beq f 53 || Nat.beq f 57 || Nat.beq f 58 || Nat.beq f 86 || Nat.beq f 88 || Nat.beq f 123 || Nat.beq f 152
def bsK (l : List UInt8) : ByteArray := ⟨⟨l⟩⟩
def rzK (n : Bool) (m : List UInt8) : List IV := [.v (.bool n), .v (.string (bsK m)), .v (.bool false), .v (.string (bsK []))]
def zK : List IV := rzK false []
def reK (m d : List UInt8) : List IV := [.v (.bool false), .v (.string (bsK m)), .v (.bool false), .v (.string (bsK d)), .v (.bool false), .v (.string (bsK [])), .v (.bool false), .v (.string (bsK [])), .v (.bool false)]
def re0 : List IV := reK [] []
def re1 : List IV := reK [1] []
def re2 : List IV := reK [2] []
def reh : List IV := reK [1] [2]
def re3 : List IV := reK [3] [2]
def inK (a b : List IV) (o p : Bool) : List IV := a ++ b ++ [.v (.bool o), .v (.bool p)]
def aggI (l : List IV) : AV := .agg (l.map .c)
def iv1 : List IV := inK re0 re2 false false
def iv2 : List IV := inK re1 re2 true false
def sl20 (l : List (List IV)) : AV := .c (.sl l.length 20 fun k => l.getD k [])
def lnsK : List (List IV) := [zK ++ zK ++ zK ++ zK, rzK false [4] ++ zK ++ zK ++ zK, zK ++ zK ++ rzK false [4] ++ rzK true [4]]
def shpK : AV := .agg [.c (.sl 3 16 fun k => lnsK.getD k []), .c (.v (.slice none 0 0))]
theorem Γk_ok : ∀ f s, Γk f = some s → SpecOk Tryz.prog f s := by
 intro f s h
 unfold Γk at h
 have key : ∀ (n : Nat) (K : List AV → Option (AV × List Bool)) (o : Option Spec), PureOk Tryz.prog n K → ((bif Nat.beq f n then some (pureSpec K) else o) = some s) → SpecOk Tryz.prog f s ∨ o = some s := by
   intro n K o hK h
   cases hb : Nat.beq f n with
   | true =>
     rw [hb] at h
     cases h
     rw [Nat.eq_of_beq_eq_true hb]
     exact .inl hK.spec
   | false => rw [hb] at h; exact .inr h
 rcases key _ _ _ (cmp_ok cmp_ext) h with h | h; exact h
 rcases key _ _ _ (add_ok add_ext) h with h | h; exact h
 rcases key _ _ _ f72_ok h with h | h; exact h
 rcases key _ _ _ f67_ok h with h | h; exact h
 rcases key _ _ _ f43_ok h with h | h; exact h
 rcases key _ _ _ f66_ok h with h | h; exact h
 rcases key _ _ _ f75_ok h with h | h; exact h
 rcases key _ _ _ f107_ok h with h | h; exact h
 rcases key _ _ _ f108_ok h with h | h; exact h
 rcases key _ _ _ f18_ok h with h | h; exact h
 cases h
end Go.Vse
set_option maxRecDepth 1000000
namespace Go.Vse
open Go.Proofs
def Γv : FuncId → Option Spec := fun f => bif Nat.beq f 180 then some (pureSpec cmpPure) else bif Nat.beq f 168 then some (pureSpec addPure) else bif Nat.beq f 72 then some (pureSpec K72) else bif Nat.beq f 67 then some (pureSpec K67) else bif Nat.beq f 43 then some (pureSpec K43) else bif Nat.beq f 66 then some (pureSpec K66) else bif Nat.beq f 75 then some (pureSpec K75) else bif Nat.beq f 107 then some (pureSpec K107) else bif Nat.beq f 108 then some (pureSpec K108) else bif Nat.beq f 18 then some (pureSpec K18) else bif Nat.beq f 20 then some (pureSpec K20) else bif Nat.beq f 19 then some (pureSpec K19) else bif Nat.beq f 76 then some (pureSpec K76) else bif Nat.beq f 77 then some (pureSpec K77) else bif Nat.beq f 41 then some (pureSpec K41) else none
theorem Γv_ok : ∀ f s, Γv f = some s → SpecOk Tryz.prog f s := by
 intro f s h
 unfold Γv at h
 have key : ∀ (n : Nat) (K : List AV → Option (AV × List Bool)) (o : Option Spec), PureOk Tryz.prog n K → ((bif Nat.beq f n then some (pureSpec K) else o) = some s) → SpecOk Tryz.prog f s ∨ o = some s := by
   intro n K o hK h
   cases hb : Nat.beq f n with
   | true =>
     rw [hb] at h
     cases h
     rw [Nat.eq_of_beq_eq_true hb]
     exact .inl hK.spec
   | false => rw [hb] at h; exact .inr h
 rcases key _ _ _ (cmp_ok cmp_ext) h with h | h; exact h
 rcases key _ _ _ (add_ok add_ext) h with h | h; exact h
 rcases key _ _ _ f72_ok h with h | h; exact h
 rcases key _ _ _ f67_ok h with h | h; exact h
 rcases key _ _ _ f43_ok h with h | h; exact h
 rcases key _ _ _ f66_ok h with h | h; exact h
 rcases key _ _ _ f75_ok h with h | h; exact h
 rcases key _ _ _ f107_ok h with h | h; exact h
 rcases key _ _ _ f108_ok h with h | h; exact h
 rcases key _ _ _ f18_ok h with h | h; exact h
 rcases key _ _ _ f20_ok h with h | h; exact h
 rcases key _ _ _ f19_ok h with h | h; exact h
 rcases key _ _ _ f76_ok h with h | h; exact h
 rcases key _ _ _ f77_ok h with h | h; exact h
 rcases key _ _ _ f41_ok h with h | h; exact h
 cases h
end Go.Vse
