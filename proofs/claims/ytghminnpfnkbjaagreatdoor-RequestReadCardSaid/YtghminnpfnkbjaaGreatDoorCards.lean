/-
  DERIVED. GIVEN WITH THE SEED: THE CARDS: each row of YtghminnpfnkbjaaGreatDoorRows.lean that lists a variable, with what it lists TIED to the program's text (the seventh form; the later family's looks); each row that meets fmt, with fmt's text TOLD by the authors' own Lean function (tested against real Go, not proved from fmt's source: count such statements apart). THE CARD IS WHAT COUNTS. Prove the row's statement (the work); the ties are given (YtghminnpfnkbjaaGreatDoorTie.lean); close each card by the builder's one call (the guide's Derived/Test/ToyasCard.lean, 'card_holds'). Laid BY PROGRAM, IN A SANDBOX (cutbox-door.mjs). By AI agents, Wed Nov 11 2026. No macro, syntax, notation, axiom, sorry.
-/
import Derived.Test.YtghminnpfnkbjaaGreatDoorRows
import GoSem.ClaimSeven
namespace Go.Proofs.YtghminnpfnkbjaaGreatDoor
namespace Rows

/-- THE TIED CARD OF 'bullalaw12.RequestProof'. -/
def requestProofCard : Claim7 := { stood := { row := requestProofRow, standIns := [], harness := (true, "246a90c39c21998d37f23a7e5e4f29134794e9925b15aa7980d22d2b64f25900"), looks := true }, kinds := [], alts := [], laidByText := true, laidKinds := [.data, .sentinel, .sentinel, .sentinel, .sentinel, .sentinel, .sentinel, .sentinel, .sentinel, .sentinel, .sentinel, .sentinel, .sentinel, .sentinel, .sentinel, .sentinel, .sentinel, .sentinel, .sentinel, .sentinel, .sentinel, .sentinel, .sentinel, .sentinel, .sentinel, .sentinel, .sentinel, .sentinel, .sentinel, .data, .data, .pinned], laidTests := true, laidLooks := .later }
def RequestProofCardSaid : Prop := Claim7.holds Tryz.pinned (.plain (OpenSpec.ofChange requestProofSpec)) requestProofCard

/-- THE TIED CARD OF 'bullalaw12.RequestBody'. -/
def requestBodyCard : Claim7 := { stood := { row := requestBodyRow, standIns := [], harness := (true, "246a90c39c21998d37f23a7e5e4f29134794e9925b15aa7980d22d2b64f25900"), looks := true }, kinds := [], alts := [], laidByText := true, laidKinds := [.data, .sentinel, .sentinel, .sentinel, .sentinel, .sentinel, .sentinel, .sentinel, .sentinel, .sentinel, .sentinel, .sentinel, .sentinel, .sentinel, .sentinel, .sentinel, .sentinel, .sentinel, .sentinel, .sentinel, .sentinel, .sentinel, .sentinel, .sentinel, .sentinel, .sentinel, .sentinel, .sentinel, .sentinel, .data, .data, .pinned], laidTests := true, laidLooks := .later }
def RequestBodyCardSaid : Prop := Claim7.holds Tryz.pinned (.plain (OpenSpec.ofChange requestBodySpec)) requestBodyCard

/-- THE TIED CARD OF 'bullalaw12.RequestRead'. -/
def requestReadCard : Claim7 := { stood := { row := requestReadRow, standIns := [], harness := (true, "246a90c39c21998d37f23a7e5e4f29134794e9925b15aa7980d22d2b64f25900"), looks := true }, kinds := [], alts := [], laidByText := true, laidKinds := [.data, .sentinel, .sentinel, .sentinel, .sentinel, .sentinel, .sentinel, .sentinel, .sentinel, .sentinel, .sentinel, .sentinel, .sentinel, .sentinel, .sentinel, .sentinel, .sentinel, .sentinel, .sentinel, .sentinel, .sentinel, .sentinel, .sentinel, .sentinel, .sentinel, .sentinel, .sentinel, .sentinel, .sentinel, .data, .data, .pinned], laidTests := true, laidLooks := .later }
def RequestReadCardSaid : Prop := Claim7.holds Tryz.pinned (.plain (OpenSpec.ofChange requestReadSpec)) requestReadCard

/-- THE SECOND FORM's CARD OF 'bullalaw12.RequestProof'. -/
def requestProofUptoCard : Claim7 := { stood := { row := requestProofUptoRow, standIns := [], harness := (true, "246a90c39c21998d37f23a7e5e4f29134794e9925b15aa7980d22d2b64f25900"), looks := true }, kinds := [], alts := [], laidByText := true, laidKinds := [.data, .sentinel, .sentinel, .sentinel, .sentinel, .sentinel, .sentinel, .sentinel, .sentinel, .sentinel, .sentinel, .sentinel, .sentinel, .sentinel, .sentinel, .sentinel, .sentinel, .sentinel, .sentinel, .sentinel, .sentinel, .sentinel, .sentinel, .sentinel, .sentinel, .sentinel, .sentinel, .sentinel, .sentinel, .data, .data, .pinned], laidTests := true, laidLooks := .later }
def RequestProofUptoCardSaid : Prop := Claim7.holds Tryz.pinned (.plain (OpenSpec.upto requestProofSpec)) requestProofUptoCard

/-- THE SECOND FORM's CARD OF 'bullalaw12.RequestBody'. -/
def requestBodyUptoCard : Claim7 := { stood := { row := requestBodyUptoRow, standIns := [], harness := (true, "246a90c39c21998d37f23a7e5e4f29134794e9925b15aa7980d22d2b64f25900"), looks := true }, kinds := [], alts := [], laidByText := true, laidKinds := [.data, .sentinel, .sentinel, .sentinel, .sentinel, .sentinel, .sentinel, .sentinel, .sentinel, .sentinel, .sentinel, .sentinel, .sentinel, .sentinel, .sentinel, .sentinel, .sentinel, .sentinel, .sentinel, .sentinel, .sentinel, .sentinel, .sentinel, .sentinel, .sentinel, .sentinel, .sentinel, .sentinel, .sentinel, .data, .data, .pinned], laidTests := true, laidLooks := .later }
def RequestBodyUptoCardSaid : Prop := Claim7.holds Tryz.pinned (.plain (OpenSpec.upto requestBodySpec)) requestBodyUptoCard

/-- THE SECOND FORM's CARD OF 'bullalaw12.RequestRead'. -/
def requestReadUptoCard : Claim7 := { stood := { row := requestReadUptoRow, standIns := [], harness := (true, "246a90c39c21998d37f23a7e5e4f29134794e9925b15aa7980d22d2b64f25900"), looks := true }, kinds := [], alts := [], laidByText := true, laidKinds := [.data, .sentinel, .sentinel, .sentinel, .sentinel, .sentinel, .sentinel, .sentinel, .sentinel, .sentinel, .sentinel, .sentinel, .sentinel, .sentinel, .sentinel, .sentinel, .sentinel, .sentinel, .sentinel, .sentinel, .sentinel, .sentinel, .sentinel, .sentinel, .sentinel, .sentinel, .sentinel, .sentinel, .sentinel, .data, .data, .pinned], laidTests := true, laidLooks := .later }
def RequestReadUptoCardSaid : Prop := Claim7.holds Tryz.pinned (.plain (OpenSpec.upto requestReadSpec)) requestReadUptoCard
end Rows
end Go.Proofs.YtghminnpfnkbjaaGreatDoor
