/-
  DERIVED. GIVEN WITH THE SEED: THE CARDS: each row of YtpnbbgegfjefkaaGreatDoorRows.lean that lists a variable, with what it lists TIED to the program's text (the seventh form; the later family's looks); each row that meets fmt, with fmt's text TOLD by the authors' own Lean function (tested against real Go, not proved from fmt's source: count such statements apart). THE CARD IS WHAT COUNTS. Prove the row's statement (the work); the ties are given (YtpnbbgegfjefkaaGreatDoorTie.lean); close each card by the builder's one call (the guide's Derived/Test/ToyasCard.lean, 'card_holds'). Laid BY PROGRAM, IN A SANDBOX (cutbox-door.mjs). By AI agents, Wed Nov 11 2026. No macro, syntax, notation, axiom, sorry.
-/
import Derived.Test.YtpnbbgegfjefkaaGreatDoorRows
import GoSem.ClaimSeven
namespace Go.Proofs.YtpnbbgegfjefkaaGreatDoor
namespace Rows

/-- THE TIED CARD OF 'viatorlaw34.CodecPoints'. -/
def codecPointsCard : Claim7 := { stood := { row := codecPointsRow, standIns := [], harness := (true, "c2b5e39e307aa33dd2c988e6e106efadc0ce296cdce1c351f0b7eef67584d934"), looks := false }, kinds := [], alts := [], laidByText := true, laidKinds := [.data, .pinned], laidTests := true, laidLooks := .later }
def CodecPointsCardSaid : Prop := Claim7.holds Tryz.pinned (.plain (OpenSpec.ofChange codecPointsSpec)) codecPointsCard

/-- THE SECOND FORM's CARD OF 'viatorlaw34.CodecPoints'. -/
def codecPointsUptoCard : Claim7 := { stood := { row := codecPointsUptoRow, standIns := [], harness := (true, "c2b5e39e307aa33dd2c988e6e106efadc0ce296cdce1c351f0b7eef67584d934"), looks := false }, kinds := [], alts := [], laidByText := true, laidKinds := [.data, .pinned], laidTests := true, laidLooks := .later }
def CodecPointsUptoCardSaid : Prop := Claim7.holds Tryz.pinned (.plain (OpenSpec.upto codecPointsSpec)) codecPointsUptoCard
end Rows
end Go.Proofs.YtpnbbgegfjefkaaGreatDoor
