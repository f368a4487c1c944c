/-
  DERIVED. GIVEN WITH THE SEED: THE CARDS: each row of YtclnfoepcemloaaGreatDoorRows.lean that lists a variable, with what it lists TIED to the program's text (the seventh form; the later family's looks); each row that meets fmt, with fmt's text TOLD by the authors' own Lean function (tested against real Go, not proved from fmt's source: count such statements apart). THE CARD IS WHAT COUNTS. Prove the row's statement (the work); the ties are given (YtclnfoepcemloaaGreatDoorTie.lean); close each card by the builder's one call (the guide's Derived/Test/ToyasCard.lean, 'card_holds'). Laid BY PROGRAM, IN A SANDBOX (cutbox-door.mjs). By AI agents, Wed Nov 11 2026. No macro, syntax, notation, axiom, sorry.
-/
import Derived.Test.YtclnfoepcemloaaGreatDoorRows
import GoSem.ClaimSeven
namespace Go.Proofs.YtclnfoepcemloaaGreatDoor
namespace Rows

/-- THE TIED CARD OF 'viatorlaw19.EnvelopeChecks'. -/
def envelopeChecksCard : Claim7 := { stood := { row := envelopeChecksRow, standIns := [], harness := (true, "a1f7bf1f3acd197dd179cee4d8ff4580216721963dc51ea485a581d850faa0f3"), looks := false }, kinds := [], alts := [], laidByText := true, laidKinds := [.data, .data, .pinned], laidTests := true, laidLooks := .later }
def EnvelopeChecksCardSaid : Prop := Claim7.holds Tryz.pinned (.plain (OpenSpec.ofChange envelopeChecksSpec)) envelopeChecksCard

/-- THE TIED CARD OF 'viatorlaw52.KineticDistances'. -/
def kineticDistancesCard : Claim7 := { stood := { row := kineticDistancesRow, standIns := [], harness := (true, "a1f7bf1f3acd197dd179cee4d8ff4580216721963dc51ea485a581d850faa0f3"), looks := false }, kinds := [], alts := [], laidByText := true, laidKinds := [.data, .pinned], laidTests := true, laidLooks := .later }
def KineticDistancesCardSaid : Prop := Claim7.holds Tryz.pinned (.plain (OpenSpec.ofChange kineticDistancesSpec)) kineticDistancesCard

/-- THE SECOND FORM's CARD OF 'viatorlaw19.EnvelopeChecks'. -/
def envelopeChecksUptoCard : Claim7 := { stood := { row := envelopeChecksUptoRow, standIns := [], harness := (true, "a1f7bf1f3acd197dd179cee4d8ff4580216721963dc51ea485a581d850faa0f3"), looks := false }, kinds := [], alts := [], laidByText := true, laidKinds := [.data, .data, .pinned], laidTests := true, laidLooks := .later }
def EnvelopeChecksUptoCardSaid : Prop := Claim7.holds Tryz.pinned (.plain (OpenSpec.upto envelopeChecksSpec)) envelopeChecksUptoCard

/-- THE SECOND FORM's CARD OF 'viatorlaw52.KineticDistances'. -/
def kineticDistancesUptoCard : Claim7 := { stood := { row := kineticDistancesUptoRow, standIns := [], harness := (true, "a1f7bf1f3acd197dd179cee4d8ff4580216721963dc51ea485a581d850faa0f3"), looks := false }, kinds := [], alts := [], laidByText := true, laidKinds := [.data, .pinned], laidTests := true, laidLooks := .later }
def KineticDistancesUptoCardSaid : Prop := Claim7.holds Tryz.pinned (.plain (OpenSpec.upto kineticDistancesSpec)) kineticDistancesUptoCard
end Rows
end Go.Proofs.YtclnfoepcemloaaGreatDoor
