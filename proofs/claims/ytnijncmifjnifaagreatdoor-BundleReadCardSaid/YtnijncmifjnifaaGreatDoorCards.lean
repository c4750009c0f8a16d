/-
  DERIVED. GIVEN WITH THE SEED: THE CARDS: each row of YtnijncmifjnifaaGreatDoorRows.lean that lists a variable, with what it lists TIED to the program's text (the seventh form; the later family's looks); each row that meets fmt, with fmt's text TOLD by the authors' own Lean function (tested against real Go, not proved from fmt's source: count such statements apart). THE CARD IS WHAT COUNTS. Prove the row's statement (the work); the ties are given (YtnijncmifjnifaaGreatDoorTie.lean); close each card by the builder's one call (the guide's Derived/Test/ToyasCard.lean, 'card_holds'). Laid BY PROGRAM, IN A SANDBOX (cutbox-door.mjs). By AI agents, Wed Nov 11 2026. No macro, syntax, notation, axiom, sorry.
-/
import Derived.Test.YtnijncmifjnifaaGreatDoorRows
import GoSem.ClaimSeven
namespace Go.Proofs.YtnijncmifjnifaaGreatDoor
namespace Rows

/-- THE TIED CARD OF 'bullalaw13.BundleSteps'. -/
def bundleStepsCard : Claim7 := { stood := { row := bundleStepsRow, standIns := [], harness := (true, "2a37f2a24b27b9ace82b364587b3207e92ba98ebfa103e5cb377955824324156"), looks := true }, kinds := [], alts := [], laidByText := true, laidKinds := [.data, .sentinel, .sentinel, .sentinel, .sentinel, .sentinel, .sentinel, .sentinel, .sentinel, .sentinel, .sentinel, .sentinel, .sentinel, .sentinel, .sentinel, .sentinel, .sentinel, .sentinel, .sentinel, .sentinel, .sentinel, .sentinel, .sentinel, .sentinel, .sentinel, .sentinel, .sentinel, .sentinel, .sentinel, .pinned], laidTests := true, laidLooks := .later }
def BundleStepsCardSaid : Prop := Claim7.holds Tryz.pinned (.plain (OpenSpec.ofChange bundleStepsSpec)) bundleStepsCard

/-- THE TIED CARD OF 'bullalaw13.BundleAny'. -/
def bundleAnyCard : Claim7 := { stood := { row := bundleAnyRow, standIns := [], harness := (true, "2a37f2a24b27b9ace82b364587b3207e92ba98ebfa103e5cb377955824324156"), looks := true }, kinds := [], alts := [], laidByText := true, laidKinds := [.data, .sentinel, .sentinel, .sentinel, .sentinel, .sentinel, .sentinel, .sentinel, .sentinel, .sentinel, .sentinel, .sentinel, .sentinel, .sentinel, .sentinel, .sentinel, .sentinel, .sentinel, .sentinel, .sentinel, .sentinel, .sentinel, .sentinel, .sentinel, .sentinel, .sentinel, .sentinel, .sentinel, .sentinel, .pinned], laidTests := true, laidLooks := .later }
def BundleAnyCardSaid : Prop := Claim7.holds Tryz.pinned (.plain (OpenSpec.ofChange bundleAnySpec)) bundleAnyCard

/-- THE TIED CARD OF 'bullalaw13.BundleRead'. -/
def bundleReadCard : Claim7 := { stood := { row := bundleReadRow, standIns := [], harness := (true, "2a37f2a24b27b9ace82b364587b3207e92ba98ebfa103e5cb377955824324156"), looks := true }, kinds := [], alts := [], laidByText := true, laidKinds := [.data, .sentinel, .sentinel, .sentinel, .sentinel, .sentinel, .sentinel, .sentinel, .sentinel, .sentinel, .sentinel, .sentinel, .sentinel, .sentinel, .sentinel, .sentinel, .sentinel, .sentinel, .sentinel, .sentinel, .sentinel, .sentinel, .sentinel, .sentinel, .sentinel, .sentinel, .sentinel, .sentinel, .sentinel, .pinned], laidTests := true, laidLooks := .later }
def BundleReadCardSaid : Prop := Claim7.holds Tryz.pinned (.plain (OpenSpec.ofChange bundleReadSpec)) bundleReadCard

/-- THE TIED CARD OF 'bullalaw13.BundleBytes'. -/
def bundleBytesCard : Claim7 := { stood := { row := bundleBytesRow, standIns := [], harness := (true, "2a37f2a24b27b9ace82b364587b3207e92ba98ebfa103e5cb377955824324156"), looks := true }, kinds := [], alts := [], laidByText := true, laidKinds := [.data, .sentinel, .sentinel, .sentinel, .sentinel, .sentinel, .sentinel, .sentinel, .sentinel, .sentinel, .sentinel, .sentinel, .sentinel, .sentinel, .sentinel, .sentinel, .sentinel, .sentinel, .sentinel, .sentinel, .sentinel, .sentinel, .sentinel, .sentinel, .sentinel, .sentinel, .sentinel, .sentinel, .sentinel, .pinned], laidTests := true, laidLooks := .later }
def BundleBytesCardSaid : Prop := Claim7.holds Tryz.pinned (.plain (OpenSpec.ofChange bundleBytesSpec)) bundleBytesCard

/-- THE SECOND FORM's CARD OF 'bullalaw13.BundleSteps'. -/
def bundleStepsUptoCard : Claim7 := { stood := { row := bundleStepsUptoRow, standIns := [], harness := (true, "2a37f2a24b27b9ace82b364587b3207e92ba98ebfa103e5cb377955824324156"), looks := true }, kinds := [], alts := [], laidByText := true, laidKinds := [.data, .sentinel, .sentinel, .sentinel, .sentinel, .sentinel, .sentinel, .sentinel, .sentinel, .sentinel, .sentinel, .sentinel, .sentinel, .sentinel, .sentinel, .sentinel, .sentinel, .sentinel, .sentinel, .sentinel, .sentinel, .sentinel, .sentinel, .sentinel, .sentinel, .sentinel, .sentinel, .sentinel, .sentinel, .pinned], laidTests := true, laidLooks := .later }
def BundleStepsUptoCardSaid : Prop := Claim7.holds Tryz.pinned (.plain (OpenSpec.upto bundleStepsSpec)) bundleStepsUptoCard

/-- THE SECOND FORM's CARD OF 'bullalaw13.BundleAny'. -/
def bundleAnyUptoCard : Claim7 := { stood := { row := bundleAnyUptoRow, standIns := [], harness := (true, "2a37f2a24b27b9ace82b364587b3207e92ba98ebfa103e5cb377955824324156"), looks := true }, kinds := [], alts := [], laidByText := true, laidKinds := [.data, .sentinel, .sentinel, .sentinel, .sentinel, .sentinel, .sentinel, .sentinel, .sentinel, .sentinel, .sentinel, .sentinel, .sentinel, .sentinel, .sentinel, .sentinel, .sentinel, .sentinel, .sentinel, .sentinel, .sentinel, .sentinel, .sentinel, .sentinel, .sentinel, .sentinel, .sentinel, .sentinel, .sentinel, .pinned], laidTests := true, laidLooks := .later }
def BundleAnyUptoCardSaid : Prop := Claim7.holds Tryz.pinned (.plain (OpenSpec.upto bundleAnySpec)) bundleAnyUptoCard

/-- THE SECOND FORM's CARD OF 'bullalaw13.BundleRead'. -/
def bundleReadUptoCard : Claim7 := { stood := { row := bundleReadUptoRow, standIns := [], harness := (true, "2a37f2a24b27b9ace82b364587b3207e92ba98ebfa103e5cb377955824324156"), looks := true }, kinds := [], alts := [], laidByText := true, laidKinds := [.data, .sentinel, .sentinel, .sentinel, .sentinel, .sentinel, .sentinel, .sentinel, .sentinel, .sentinel, .sentinel, .sentinel, .sentinel, .sentinel, .sentinel, .sentinel, .sentinel, .sentinel, .sentinel, .sentinel, .sentinel, .sentinel, .sentinel, .sentinel, .sentinel, .sentinel, .sentinel, .sentinel, .sentinel, .pinned], laidTests := true, laidLooks := .later }
def BundleReadUptoCardSaid : Prop := Claim7.holds Tryz.pinned (.plain (OpenSpec.upto bundleReadSpec)) bundleReadUptoCard

/-- THE SECOND FORM's CARD OF 'bullalaw13.BundleBytes'. -/
def bundleBytesUptoCard : Claim7 := { stood := { row := bundleBytesUptoRow, standIns := [], harness := (true, "2a37f2a24b27b9ace82b364587b3207e92ba98ebfa103e5cb377955824324156"), looks := true }, kinds := [], alts := [], laidByText := true, laidKinds := [.data, .sentinel, .sentinel, .sentinel, .sentinel, .sentinel, .sentinel, .sentinel, .sentinel, .sentinel, .sentinel, .sentinel, .sentinel, .sentinel, .sentinel, .sentinel, .sentinel, .sentinel, .sentinel, .sentinel, .sentinel, .sentinel, .sentinel, .sentinel, .sentinel, .sentinel, .sentinel, .sentinel, .sentinel, .pinned], laidTests := true, laidLooks := .later }
def BundleBytesUptoCardSaid : Prop := Claim7.holds Tryz.pinned (.plain (OpenSpec.upto bundleBytesSpec)) bundleBytesUptoCard
end Rows
end Go.Proofs.YtnijncmifjnifaaGreatDoor
