/-
  DERIVED. GIVEN WITH THE SEED: THE CARDS: each row of YthlpfjnkieaeeaaGreatDoorRows.lean that lists a variable, with what it lists TIED to the program's text (the seventh form; the later family's looks); each row that meets fmt, with fmt's text TOLD by the authors' own Lean function (tested against real Go, not proved from fmt's source: count such statements apart). THE CARD IS WHAT COUNTS. Prove the row's statement (the work); the ties are given (YthlpfjnkieaeeaaGreatDoorTie.lean); close each card by the builder's one call (the guide's Derived/Test/ToyasCard.lean, 'card_holds'). Laid BY PROGRAM, IN A SANDBOX (cutbox-door.mjs). By AI agents, Wed Nov 11 2026. No macro, syntax, notation, axiom, sorry.
-/
import Derived.Test.YthlpfjnkieaeeaaGreatDoorRows
import GoSem.ClaimSeven
namespace Go.Proofs.YthlpfjnkieaeeaaGreatDoor
namespace Rows

/-- THE TIED CARD OF 'bullalaw11.CertJoin'. -/
def certJoinCard : Claim7 := { stood := { row := certJoinRow, standIns := [], harness := (true, "f2dc1ec8c6d5d8de7938437afae2f51a49fdc24b54a7765a8ca8ba9d02af349d"), looks := true }, kinds := [], alts := [], laidByText := true, laidKinds := [.data, .sentinel, .sentinel, .sentinel, .sentinel, .sentinel, .sentinel, .sentinel, .sentinel, .sentinel, .sentinel, .sentinel, .sentinel, .sentinel, .sentinel, .sentinel, .sentinel, .sentinel, .sentinel, .sentinel, .sentinel, .sentinel, .sentinel, .sentinel, .sentinel, .sentinel, .sentinel, .sentinel, .sentinel, .pinned], laidTests := true, laidLooks := .later }
def CertJoinCardSaid : Prop := Claim7.holds Tryz.pinned (.plain (OpenSpec.ofChange certJoinSpec)) certJoinCard

/-- THE TIED CARD OF 'bullalaw19.ObjectsCase'. -/
def objectsCaseCard : Claim7 := { stood := { row := objectsCaseRow, standIns := [], harness := (true, "f2dc1ec8c6d5d8de7938437afae2f51a49fdc24b54a7765a8ca8ba9d02af349d"), looks := true }, kinds := [], alts := [], laidByText := true, laidKinds := [.data, .sentinel, .sentinel, .sentinel, .sentinel, .sentinel, .sentinel, .sentinel, .sentinel, .sentinel, .sentinel, .sentinel, .sentinel, .sentinel, .sentinel, .sentinel, .sentinel, .sentinel, .sentinel, .sentinel, .sentinel, .sentinel, .sentinel, .sentinel, .sentinel, .sentinel, .sentinel, .sentinel, .sentinel, .pinned], laidTests := true, laidLooks := .later }
def ObjectsCaseCardSaid : Prop := Claim7.holds Tryz.pinned (.plain (OpenSpec.ofChange objectsCaseSpec)) objectsCaseCard

/-- THE TIED CARD OF 'bullalaw19.ObjectsAuthority'. -/
def objectsAuthorityCard : Claim7 := { stood := { row := objectsAuthorityRow, standIns := [], harness := (true, "f2dc1ec8c6d5d8de7938437afae2f51a49fdc24b54a7765a8ca8ba9d02af349d"), looks := true }, kinds := [], alts := [], laidByText := true, laidKinds := [.data, .sentinel, .sentinel, .sentinel, .sentinel, .sentinel, .sentinel, .sentinel, .sentinel, .sentinel, .sentinel, .sentinel, .sentinel, .sentinel, .sentinel, .sentinel, .sentinel, .sentinel, .sentinel, .sentinel, .sentinel, .sentinel, .sentinel, .sentinel, .sentinel, .sentinel, .sentinel, .sentinel, .sentinel, .pinned], laidTests := true, laidLooks := .later }
def ObjectsAuthorityCardSaid : Prop := Claim7.holds Tryz.pinned (.plain (OpenSpec.ofChange objectsAuthoritySpec)) objectsAuthorityCard

/-- THE TIED CARD OF 'bullalaw19.ObjectsRead'. -/
def objectsReadCard : Claim7 := { stood := { row := objectsReadRow, standIns := [], harness := (true, "f2dc1ec8c6d5d8de7938437afae2f51a49fdc24b54a7765a8ca8ba9d02af349d"), looks := true }, kinds := [], alts := [], laidByText := true, laidKinds := [.data, .sentinel, .sentinel, .sentinel, .sentinel, .sentinel, .sentinel, .sentinel, .sentinel, .sentinel, .sentinel, .sentinel, .sentinel, .sentinel, .sentinel, .sentinel, .sentinel, .sentinel, .sentinel, .sentinel, .sentinel, .sentinel, .sentinel, .sentinel, .sentinel, .sentinel, .sentinel, .sentinel, .sentinel, .pinned], laidTests := true, laidLooks := .later }
def ObjectsReadCardSaid : Prop := Claim7.holds Tryz.pinned (.plain (OpenSpec.ofChange objectsReadSpec)) objectsReadCard

/-- THE TIED CARD OF 'bullalaw19.ObjectsOthers'. -/
def objectsOthersCard : Claim7 := { stood := { row := objectsOthersRow, standIns := [], harness := (true, "f2dc1ec8c6d5d8de7938437afae2f51a49fdc24b54a7765a8ca8ba9d02af349d"), looks := true }, kinds := [], alts := [], laidByText := true, laidKinds := [.data, .sentinel, .sentinel, .sentinel, .sentinel, .sentinel, .sentinel, .sentinel, .sentinel, .sentinel, .sentinel, .sentinel, .sentinel, .sentinel, .sentinel, .sentinel, .sentinel, .sentinel, .sentinel, .sentinel, .sentinel, .sentinel, .sentinel, .sentinel, .sentinel, .sentinel, .sentinel, .sentinel, .sentinel, .pinned], laidTests := true, laidLooks := .later }
def ObjectsOthersCardSaid : Prop := Claim7.holds Tryz.pinned (.plain (OpenSpec.ofChange objectsOthersSpec)) objectsOthersCard

/-- THE TIED CARD OF 'bullalaw11.CertBody'. -/
def certBodyCard : Claim7 := { stood := { row := certBodyRow, standIns := [], harness := (true, "f2dc1ec8c6d5d8de7938437afae2f51a49fdc24b54a7765a8ca8ba9d02af349d"), looks := true }, kinds := [], alts := [], laidByText := true, laidKinds := [.data, .sentinel, .sentinel, .sentinel, .sentinel, .sentinel, .sentinel, .sentinel, .sentinel, .sentinel, .sentinel, .sentinel, .sentinel, .sentinel, .sentinel, .sentinel, .sentinel, .sentinel, .sentinel, .sentinel, .sentinel, .sentinel, .sentinel, .sentinel, .sentinel, .sentinel, .sentinel, .sentinel, .sentinel, .pinned], laidTests := true, laidLooks := .later }
def CertBodyCardSaid : Prop := Claim7.holds Tryz.pinned (.plain (OpenSpec.ofChange certBodySpec)) certBodyCard

/-- THE SECOND FORM's CARD OF 'bullalaw11.CertJoin'. -/
def certJoinUptoCard : Claim7 := { stood := { row := certJoinUptoRow, standIns := [], harness := (true, "f2dc1ec8c6d5d8de7938437afae2f51a49fdc24b54a7765a8ca8ba9d02af349d"), looks := true }, kinds := [], alts := [], laidByText := true, laidKinds := [.data, .sentinel, .sentinel, .sentinel, .sentinel, .sentinel, .sentinel, .sentinel, .sentinel, .sentinel, .sentinel, .sentinel, .sentinel, .sentinel, .sentinel, .sentinel, .sentinel, .sentinel, .sentinel, .sentinel, .sentinel, .sentinel, .sentinel, .sentinel, .sentinel, .sentinel, .sentinel, .sentinel, .sentinel, .pinned], laidTests := true, laidLooks := .later }
def CertJoinUptoCardSaid : Prop := Claim7.holds Tryz.pinned (.plain (OpenSpec.upto certJoinSpec)) certJoinUptoCard

/-- THE SECOND FORM's CARD OF 'bullalaw19.ObjectsCase'. -/
def objectsCaseUptoCard : Claim7 := { stood := { row := objectsCaseUptoRow, standIns := [], harness := (true, "f2dc1ec8c6d5d8de7938437afae2f51a49fdc24b54a7765a8ca8ba9d02af349d"), looks := true }, kinds := [], alts := [], laidByText := true, laidKinds := [.data, .sentinel, .sentinel, .sentinel, .sentinel, .sentinel, .sentinel, .sentinel, .sentinel, .sentinel, .sentinel, .sentinel, .sentinel, .sentinel, .sentinel, .sentinel, .sentinel, .sentinel, .sentinel, .sentinel, .sentinel, .sentinel, .sentinel, .sentinel, .sentinel, .sentinel, .sentinel, .sentinel, .sentinel, .pinned], laidTests := true, laidLooks := .later }
def ObjectsCaseUptoCardSaid : Prop := Claim7.holds Tryz.pinned (.plain (OpenSpec.upto objectsCaseSpec)) objectsCaseUptoCard

/-- THE SECOND FORM's CARD OF 'bullalaw19.ObjectsAuthority'. -/
def objectsAuthorityUptoCard : Claim7 := { stood := { row := objectsAuthorityUptoRow, standIns := [], harness := (true, "f2dc1ec8c6d5d8de7938437afae2f51a49fdc24b54a7765a8ca8ba9d02af349d"), looks := true }, kinds := [], alts := [], laidByText := true, laidKinds := [.data, .sentinel, .sentinel, .sentinel, .sentinel, .sentinel, .sentinel, .sentinel, .sentinel, .sentinel, .sentinel, .sentinel, .sentinel, .sentinel, .sentinel, .sentinel, .sentinel, .sentinel, .sentinel, .sentinel, .sentinel, .sentinel, .sentinel, .sentinel, .sentinel, .sentinel, .sentinel, .sentinel, .sentinel, .pinned], laidTests := true, laidLooks := .later }
def ObjectsAuthorityUptoCardSaid : Prop := Claim7.holds Tryz.pinned (.plain (OpenSpec.upto objectsAuthoritySpec)) objectsAuthorityUptoCard

/-- THE SECOND FORM's CARD OF 'bullalaw19.ObjectsRead'. -/
def objectsReadUptoCard : Claim7 := { stood := { row := objectsReadUptoRow, standIns := [], harness := (true, "f2dc1ec8c6d5d8de7938437afae2f51a49fdc24b54a7765a8ca8ba9d02af349d"), looks := true }, kinds := [], alts := [], laidByText := true, laidKinds := [.data, .sentinel, .sentinel, .sentinel, .sentinel, .sentinel, .sentinel, .sentinel, .sentinel, .sentinel, .sentinel, .sentinel, .sentinel, .sentinel, .sentinel, .sentinel, .sentinel, .sentinel, .sentinel, .sentinel, .sentinel, .sentinel, .sentinel, .sentinel, .sentinel, .sentinel, .sentinel, .sentinel, .sentinel, .pinned], laidTests := true, laidLooks := .later }
def ObjectsReadUptoCardSaid : Prop := Claim7.holds Tryz.pinned (.plain (OpenSpec.upto objectsReadSpec)) objectsReadUptoCard

/-- THE SECOND FORM's CARD OF 'bullalaw19.ObjectsOthers'. -/
def objectsOthersUptoCard : Claim7 := { stood := { row := objectsOthersUptoRow, standIns := [], harness := (true, "f2dc1ec8c6d5d8de7938437afae2f51a49fdc24b54a7765a8ca8ba9d02af349d"), looks := true }, kinds := [], alts := [], laidByText := true, laidKinds := [.data, .sentinel, .sentinel, .sentinel, .sentinel, .sentinel, .sentinel, .sentinel, .sentinel, .sentinel, .sentinel, .sentinel, .sentinel, .sentinel, .sentinel, .sentinel, .sentinel, .sentinel, .sentinel, .sentinel, .sentinel, .sentinel, .sentinel, .sentinel, .sentinel, .sentinel, .sentinel, .sentinel, .sentinel, .pinned], laidTests := true, laidLooks := .later }
def ObjectsOthersUptoCardSaid : Prop := Claim7.holds Tryz.pinned (.plain (OpenSpec.upto objectsOthersSpec)) objectsOthersUptoCard

/-- THE SECOND FORM's CARD OF 'bullalaw11.CertBody'. -/
def certBodyUptoCard : Claim7 := { stood := { row := certBodyUptoRow, standIns := [], harness := (true, "f2dc1ec8c6d5d8de7938437afae2f51a49fdc24b54a7765a8ca8ba9d02af349d"), looks := true }, kinds := [], alts := [], laidByText := true, laidKinds := [.data, .sentinel, .sentinel, .sentinel, .sentinel, .sentinel, .sentinel, .sentinel, .sentinel, .sentinel, .sentinel, .sentinel, .sentinel, .sentinel, .sentinel, .sentinel, .sentinel, .sentinel, .sentinel, .sentinel, .sentinel, .sentinel, .sentinel, .sentinel, .sentinel, .sentinel, .sentinel, .sentinel, .sentinel, .pinned], laidTests := true, laidLooks := .later }
def CertBodyUptoCardSaid : Prop := Claim7.holds Tryz.pinned (.plain (OpenSpec.upto certBodySpec)) certBodyUptoCard
end Rows
end Go.Proofs.YthlpfjnkieaeeaaGreatDoor
