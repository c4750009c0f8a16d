/-
  DERIVED. GIVEN WITH THE SEED: THE CARDS: each row of YtgnjjenalebiaaaGreatDoorRows.lean that lists a variable, with what it lists TIED to the program's text (the seventh form; the later family's looks); each row that meets fmt, with fmt's text TOLD by the authors' own Lean function (tested against real Go, not proved from fmt's source: count such statements apart). THE CARD IS WHAT COUNTS. Prove the row's statement (the work); the ties are given (YtgnjjenalebiaaaGreatDoorTie.lean); close each card by the builder's one call (the guide's Derived/Test/ToyasCard.lean, 'card_holds'). Laid BY PROGRAM, IN A SANDBOX (cutbox-door.mjs). By AI agents, Wed Nov 11 2026. No macro, syntax, notation, axiom, sorry.
-/
import Derived.Test.YtgnjjenalebiaaaGreatDoorRows
import GoSem.ClaimSeven
namespace Go.Proofs.YtgnjjenalebiaaaGreatDoor
namespace Rows

/-- THE TIED CARD OF 'bullalaw08.DerRows'. -/
def derRowsCard : Claim7 := { stood := { row := derRowsRow, standIns := [], harness := (true, "c93f8e8f5aaeda184b0c14c0e00d3a59be26fde99b42392fc79548524b5cd2eb"), looks := true }, kinds := [], alts := [], laidByText := true, laidKinds := [.sentinel, .sentinel, .sentinel, .sentinel, .sentinel, .sentinel, .sentinel, .sentinel, .sentinel, .sentinel, .sentinel, .sentinel, .sentinel, .sentinel, .sentinel, .sentinel, .sentinel, .sentinel, .sentinel, .sentinel, .sentinel, .sentinel, .sentinel, .sentinel, .sentinel, .sentinel, .sentinel, .sentinel], laidTests := true, laidLooks := .later }
def DerRowsCardSaid : Prop := Claim7.holds Tryz.pinned (.plain (OpenSpec.ofChange derRowsSpec)) derRowsCard

/-- THE TIED CARD OF 'bullalaw08.DerWrites'. -/
def derWritesCard : Claim7 := { stood := { row := derWritesRow, standIns := [], harness := (true, "c93f8e8f5aaeda184b0c14c0e00d3a59be26fde99b42392fc79548524b5cd2eb"), looks := true }, kinds := [], alts := [], laidByText := true, laidKinds := [.data, .sentinel, .sentinel, .sentinel, .sentinel, .sentinel, .sentinel, .sentinel, .sentinel, .sentinel, .sentinel, .sentinel, .sentinel, .sentinel, .sentinel, .sentinel, .sentinel, .sentinel, .sentinel, .sentinel, .sentinel, .sentinel, .sentinel, .sentinel, .sentinel, .sentinel, .sentinel, .sentinel, .sentinel, .pinned], laidTests := true, laidLooks := .later }
def DerWritesCardSaid : Prop := Claim7.holds Tryz.pinned (.plain (OpenSpec.ofChange derWritesSpec)) derWritesCard

/-- THE TIED CARD OF 'bullalaw08.DerReads'. -/
def derReadsCard : Claim7 := { stood := { row := derReadsRow, standIns := [], harness := (true, "c93f8e8f5aaeda184b0c14c0e00d3a59be26fde99b42392fc79548524b5cd2eb"), looks := true }, kinds := [], alts := [], laidByText := true, laidKinds := [.data, .sentinel, .sentinel, .sentinel, .sentinel, .sentinel, .sentinel, .sentinel, .sentinel, .sentinel, .sentinel, .sentinel, .sentinel, .sentinel, .sentinel, .sentinel, .sentinel, .sentinel, .sentinel, .sentinel, .sentinel, .sentinel, .sentinel, .sentinel, .sentinel, .sentinel, .sentinel, .sentinel, .sentinel, .pinned], laidTests := true, laidLooks := .later }
def DerReadsCardSaid : Prop := Claim7.holds Tryz.pinned (.plain (OpenSpec.ofChange derReadsSpec)) derReadsCard

/-- THE TIED CARD OF 'bullalaw08.DerFails'. -/
def derFailsCard : Claim7 := { stood := { row := derFailsRow, standIns := [], harness := (true, "c93f8e8f5aaeda184b0c14c0e00d3a59be26fde99b42392fc79548524b5cd2eb"), looks := true }, kinds := [], alts := [], laidByText := true, laidKinds := [.data, .sentinel, .sentinel, .sentinel, .sentinel, .sentinel, .sentinel, .sentinel, .sentinel, .sentinel, .sentinel, .sentinel, .sentinel, .sentinel, .sentinel, .sentinel, .sentinel, .sentinel, .sentinel, .sentinel, .sentinel, .sentinel, .sentinel, .sentinel, .sentinel, .sentinel, .sentinel, .sentinel, .sentinel, .pinned], laidTests := true, laidLooks := .later }
def DerFailsCardSaid : Prop := Claim7.holds Tryz.pinned (.plain (OpenSpec.ofChange derFailsSpec)) derFailsCard

/-- THE TIED CARD OF 'bullalaw08.DerBack'. -/
def derBackCard : Claim7 := { stood := { row := derBackRow, standIns := [], harness := (true, "c93f8e8f5aaeda184b0c14c0e00d3a59be26fde99b42392fc79548524b5cd2eb"), looks := true }, kinds := [], alts := [], laidByText := true, laidKinds := [.data, .sentinel, .sentinel, .sentinel, .sentinel, .sentinel, .sentinel, .sentinel, .sentinel, .sentinel, .pinned], laidTests := true, laidLooks := .later }
def DerBackCardSaid : Prop := Claim7.holds Tryz.pinned (.plain (OpenSpec.ofChange derBackSpec)) derBackCard

/-- THE SECOND FORM's CARD OF 'bullalaw08.DerRows'. -/
def derRowsUptoCard : Claim7 := { stood := { row := derRowsUptoRow, standIns := [], harness := (true, "c93f8e8f5aaeda184b0c14c0e00d3a59be26fde99b42392fc79548524b5cd2eb"), looks := true }, kinds := [], alts := [], laidByText := true, laidKinds := [.sentinel, .sentinel, .sentinel, .sentinel, .sentinel, .sentinel, .sentinel, .sentinel, .sentinel, .sentinel, .sentinel, .sentinel, .sentinel, .sentinel, .sentinel, .sentinel, .sentinel, .sentinel, .sentinel, .sentinel, .sentinel, .sentinel, .sentinel, .sentinel, .sentinel, .sentinel, .sentinel, .sentinel], laidTests := true, laidLooks := .later }
def DerRowsUptoCardSaid : Prop := Claim7.holds Tryz.pinned (.plain (OpenSpec.upto derRowsSpec)) derRowsUptoCard

/-- THE SECOND FORM's CARD OF 'bullalaw08.DerWrites'. -/
def derWritesUptoCard : Claim7 := { stood := { row := derWritesUptoRow, standIns := [], harness := (true, "c93f8e8f5aaeda184b0c14c0e00d3a59be26fde99b42392fc79548524b5cd2eb"), looks := true }, kinds := [], alts := [], laidByText := true, laidKinds := [.data, .sentinel, .sentinel, .sentinel, .sentinel, .sentinel, .sentinel, .sentinel, .sentinel, .sentinel, .sentinel, .sentinel, .sentinel, .sentinel, .sentinel, .sentinel, .sentinel, .sentinel, .sentinel, .sentinel, .sentinel, .sentinel, .sentinel, .sentinel, .sentinel, .sentinel, .sentinel, .sentinel, .sentinel, .pinned], laidTests := true, laidLooks := .later }
def DerWritesUptoCardSaid : Prop := Claim7.holds Tryz.pinned (.plain (OpenSpec.upto derWritesSpec)) derWritesUptoCard

/-- THE SECOND FORM's CARD OF 'bullalaw08.DerReads'. -/
def derReadsUptoCard : Claim7 := { stood := { row := derReadsUptoRow, standIns := [], harness := (true, "c93f8e8f5aaeda184b0c14c0e00d3a59be26fde99b42392fc79548524b5cd2eb"), looks := true }, kinds := [], alts := [], laidByText := true, laidKinds := [.data, .sentinel, .sentinel, .sentinel, .sentinel, .sentinel, .sentinel, .sentinel, .sentinel, .sentinel, .sentinel, .sentinel, .sentinel, .sentinel, .sentinel, .sentinel, .sentinel, .sentinel, .sentinel, .sentinel, .sentinel, .sentinel, .sentinel, .sentinel, .sentinel, .sentinel, .sentinel, .sentinel, .sentinel, .pinned], laidTests := true, laidLooks := .later }
def DerReadsUptoCardSaid : Prop := Claim7.holds Tryz.pinned (.plain (OpenSpec.upto derReadsSpec)) derReadsUptoCard

/-- THE SECOND FORM's CARD OF 'bullalaw08.DerFails'. -/
def derFailsUptoCard : Claim7 := { stood := { row := derFailsUptoRow, standIns := [], harness := (true, "c93f8e8f5aaeda184b0c14c0e00d3a59be26fde99b42392fc79548524b5cd2eb"), looks := true }, kinds := [], alts := [], laidByText := true, laidKinds := [.data, .sentinel, .sentinel, .sentinel, .sentinel, .sentinel, .sentinel, .sentinel, .sentinel, .sentinel, .sentinel, .sentinel, .sentinel, .sentinel, .sentinel, .sentinel, .sentinel, .sentinel, .sentinel, .sentinel, .sentinel, .sentinel, .sentinel, .sentinel, .sentinel, .sentinel, .sentinel, .sentinel, .sentinel, .pinned], laidTests := true, laidLooks := .later }
def DerFailsUptoCardSaid : Prop := Claim7.holds Tryz.pinned (.plain (OpenSpec.upto derFailsSpec)) derFailsUptoCard

/-- THE SECOND FORM's CARD OF 'bullalaw08.DerBack'. -/
def derBackUptoCard : Claim7 := { stood := { row := derBackUptoRow, standIns := [], harness := (true, "c93f8e8f5aaeda184b0c14c0e00d3a59be26fde99b42392fc79548524b5cd2eb"), looks := true }, kinds := [], alts := [], laidByText := true, laidKinds := [.data, .sentinel, .sentinel, .sentinel, .sentinel, .sentinel, .sentinel, .sentinel, .sentinel, .sentinel, .pinned], laidTests := true, laidLooks := .later }
def DerBackUptoCardSaid : Prop := Claim7.holds Tryz.pinned (.plain (OpenSpec.upto derBackSpec)) derBackUptoCard
end Rows
end Go.Proofs.YtgnjjenalebiaaaGreatDoor
