/-
  DERIVED. GIVEN WITH THE SEED: THE CARDS: each row of YtaidphfhmbpelaaGreatDoorRows.lean that lists a variable, with what it lists TIED to the program's text (the seventh form; the later family's looks); each row that meets fmt, with fmt's text TOLD by the authors' own Lean function (tested against real Go, not proved from fmt's source: count such statements apart). THE CARD IS WHAT COUNTS. Prove the row's statement (the work); the ties are given (YtaidphfhmbpelaaGreatDoorTie.lean); close each card by the builder's one call (the guide's Derived/Test/ToyasCard.lean, 'card_holds'). Laid BY PROGRAM, IN A SANDBOX (cutbox-door.mjs). By AI agents, Wed Nov 11 2026. No macro, syntax, notation, axiom, sorry.
-/
import Derived.Test.YtaidphfhmbpelaaGreatDoorRows
import GoSem.ClaimSeven
namespace Go.Proofs.YtaidphfhmbpelaaGreatDoor
namespace Rows

/-- THE TIED CARD OF 'viatorlaw17.MovingregionRules'. -/
def movingregionRulesCard : Claim7 := { stood := { row := movingregionRulesRow, standIns := [], harness := (true, "c82c2b27dec7ff104567b94418d52622a66a89e2a572a3503f1c538861228915"), looks := false }, kinds := [], alts := [], laidByText := true, laidKinds := [.data, .pinned], laidTests := true, laidLooks := .later }
def MovingregionRulesCardSaid : Prop := Claim7.holds Tryz.pinned (.plain (OpenSpec.ofChange movingregionRulesSpec)) movingregionRulesCard

/-- THE SECOND FORM's CARD OF 'viatorlaw17.MovingregionRules'. -/
def movingregionRulesUptoCard : Claim7 := { stood := { row := movingregionRulesUptoRow, standIns := [], harness := (true, "c82c2b27dec7ff104567b94418d52622a66a89e2a572a3503f1c538861228915"), looks := false }, kinds := [], alts := [], laidByText := true, laidKinds := [.data, .pinned], laidTests := true, laidLooks := .later }
def MovingregionRulesUptoCardSaid : Prop := Claim7.holds Tryz.pinned (.plain (OpenSpec.upto movingregionRulesSpec)) movingregionRulesUptoCard
end Rows
end Go.Proofs.YtaidphfhmbpelaaGreatDoor
