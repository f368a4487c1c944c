/-
  DERIVED. GIVEN WITH THE SEED: THE CARDS: each row of YtahaekeikoibmaaGreatDoorRows.lean that lists a variable, with what it lists TIED to the program's text (the seventh form; the later family's looks); each row that meets fmt, with fmt's text TOLD by the authors' own Lean function (tested against real Go, not proved from fmt's source: count such statements apart). THE CARD IS WHAT COUNTS. Prove the row's statement (the work); the ties are given (YtahaekeikoibmaaGreatDoorTie.lean); close each card by the builder's one call (the guide's Derived/Test/ToyasCard.lean, 'card_holds'). Laid BY PROGRAM, IN A SANDBOX (cutbox-door.mjs). By AI agents, Wed Nov 11 2026. No macro, syntax, notation, axiom, sorry.
-/
import Derived.Test.YtahaekeikoibmaaGreatDoorRows
import GoSem.ClaimSeven
namespace Go.Proofs.YtahaekeikoibmaaGreatDoor
namespace Rows

/-- THE TIED CARD OF 'viatorlaw17.MovingregionRigid'. -/
def movingregionRigidCard : Claim7 := { stood := { row := movingregionRigidRow, standIns := [], harness := (true, "75798544069686e2e3dbfcf197d26f80ebf3b690296d96372a6bf56e71067d41"), looks := false }, kinds := [], alts := [], laidByText := true, laidKinds := [.data, .pinned], laidTests := true, laidLooks := .later }
def MovingregionRigidCardSaid : Prop := Claim7.holds Tryz.pinned (.plain (OpenSpec.ofChange movingregionRigidSpec)) movingregionRigidCard

/-- THE SECOND FORM's CARD OF 'viatorlaw17.MovingregionRigid'. -/
def movingregionRigidUptoCard : Claim7 := { stood := { row := movingregionRigidUptoRow, standIns := [], harness := (true, "75798544069686e2e3dbfcf197d26f80ebf3b690296d96372a6bf56e71067d41"), looks := false }, kinds := [], alts := [], laidByText := true, laidKinds := [.data, .pinned], laidTests := true, laidLooks := .later }
def MovingregionRigidUptoCardSaid : Prop := Claim7.holds Tryz.pinned (.plain (OpenSpec.upto movingregionRigidSpec)) movingregionRigidUptoCard
end Rows
end Go.Proofs.YtahaekeikoibmaaGreatDoor
