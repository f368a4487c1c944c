/-
  DERIVED. GIVEN WITH THE SEED: THE CARDS: each row of YtlemjmcedllofaaGreatDoorRows.lean that lists a variable, with what it lists TIED to the program's text (the seventh form; the later family's looks); each row that meets fmt, with fmt's text TOLD by the authors' own Lean function (tested against real Go, not proved from fmt's source: count such statements apart). THE CARD IS WHAT COUNTS. Prove the row's statement (the work); the ties are given (YtlemjmcedllofaaGreatDoorTie.lean); close each card by the builder's one call (the guide's Derived/Test/ToyasCard.lean, 'card_holds'). Laid BY PROGRAM, IN A SANDBOX (cutbox-door.mjs). By AI agents, Wed Nov 11 2026. No macro, syntax, notation, axiom, sorry.
-/
import Derived.Test.YtlemjmcedllofaaGreatDoorRows
import GoSem.ClaimSeven
namespace Go.Proofs.YtlemjmcedllofaaGreatDoor
namespace Rows

/-- THE TIED CARD OF 'viatorlaw34.CodecNumbers'. -/
def codecNumbersCard : Claim7 := { stood := { row := codecNumbersRow, standIns := [], harness := (true, "616d44133cc94c7cc3573d26680e8412f7760c1f9c2c9f2db02bd6f709026f5a"), looks := false }, kinds := [], alts := [], laidByText := true, laidKinds := [.data, .pinned], laidTests := true, laidLooks := .later }
def CodecNumbersCardSaid : Prop := Claim7.holds Tryz.pinned (.plain (OpenSpec.ofChange codecNumbersSpec)) codecNumbersCard

/-- THE TIED CARD OF 'viatorlaw34.CodecReads'. -/
def codecReadsCard : Claim7 := { stood := { row := codecReadsRow, standIns := [], harness := (true, "616d44133cc94c7cc3573d26680e8412f7760c1f9c2c9f2db02bd6f709026f5a"), looks := false }, kinds := [], alts := [], laidByText := true, laidKinds := [.data, .pinned], laidTests := true, laidLooks := .later }
def CodecReadsCardSaid : Prop := Claim7.holds Tryz.pinned (.plain (OpenSpec.ofChange codecReadsSpec)) codecReadsCard

/-- THE TIED CARD OF 'viatorlaw34.CodecBatches'. -/
def codecBatchesCard : Claim7 := { stood := { row := codecBatchesRow, standIns := [], harness := (true, "616d44133cc94c7cc3573d26680e8412f7760c1f9c2c9f2db02bd6f709026f5a"), looks := false }, kinds := [], alts := [], laidByText := true, laidKinds := [.data, .pinned], laidTests := true, laidLooks := .later }
def CodecBatchesCardSaid : Prop := Claim7.holds Tryz.pinned (.plain (OpenSpec.ofChange codecBatchesSpec)) codecBatchesCard

/-- THE SECOND FORM's CARD OF 'viatorlaw34.CodecNumbers'. -/
def codecNumbersUptoCard : Claim7 := { stood := { row := codecNumbersUptoRow, standIns := [], harness := (true, "616d44133cc94c7cc3573d26680e8412f7760c1f9c2c9f2db02bd6f709026f5a"), looks := false }, kinds := [], alts := [], laidByText := true, laidKinds := [.data, .pinned], laidTests := true, laidLooks := .later }
def CodecNumbersUptoCardSaid : Prop := Claim7.holds Tryz.pinned (.plain (OpenSpec.upto codecNumbersSpec)) codecNumbersUptoCard

/-- THE SECOND FORM's CARD OF 'viatorlaw34.CodecReads'. -/
def codecReadsUptoCard : Claim7 := { stood := { row := codecReadsUptoRow, standIns := [], harness := (true, "616d44133cc94c7cc3573d26680e8412f7760c1f9c2c9f2db02bd6f709026f5a"), looks := false }, kinds := [], alts := [], laidByText := true, laidKinds := [.data, .pinned], laidTests := true, laidLooks := .later }
def CodecReadsUptoCardSaid : Prop := Claim7.holds Tryz.pinned (.plain (OpenSpec.upto codecReadsSpec)) codecReadsUptoCard

/-- THE SECOND FORM's CARD OF 'viatorlaw34.CodecBatches'. -/
def codecBatchesUptoCard : Claim7 := { stood := { row := codecBatchesUptoRow, standIns := [], harness := (true, "616d44133cc94c7cc3573d26680e8412f7760c1f9c2c9f2db02bd6f709026f5a"), looks := false }, kinds := [], alts := [], laidByText := true, laidKinds := [.data, .pinned], laidTests := true, laidLooks := .later }
def CodecBatchesUptoCardSaid : Prop := Claim7.holds Tryz.pinned (.plain (OpenSpec.upto codecBatchesSpec)) codecBatchesUptoCard
end Rows
end Go.Proofs.YtlemjmcedllofaaGreatDoor
