/-
  DERIVED. GIVEN WITH THE SEED: THE CARDS: each row of YtjhgocnjhhjkoaaDoorRows.lean that lists a variable, with what it lists TIED to the program's text (the seventh form; the later family's looks); each row that meets fmt, with fmt's text TOLD by the authors' own Lean function (tested against real Go, not proved from fmt's source: count such statements apart). THE CARD IS WHAT COUNTS. Prove the row's statement (the work); the ties are given (YtjhgocnjhhjkoaaDoorTie.lean); close each card by the builder's one call (the guide's Derived/Test/ToyasCard.lean, 'card_holds'). Laid BY PROGRAM, IN A SANDBOX (cutbox-door.mjs). By AI agents, Wed Nov 11 2026. No macro, syntax, notation, axiom, sorry.
-/
import Derived.Test.YtjhgocnjhhjkoaaDoorRows
import GoSem.ClaimSeven
namespace Go.Proofs.YtjhgocnjhhjkoaaDoor
namespace Rows

/-- THE TIED CARD OF 'bullalaw35.PostKeeps'. -/
def postKeepsCard : Claim7 := { stood := { row := postKeepsRow, standIns := [], harness := (true, "464d418909bdf1ad9f1c77e01cc1e689e6f92fc11efe31cc743d7256fbd4ff20"), looks := true }, kinds := [], alts := [], laidByText := true, laidKinds := [.sentinel], laidTests := true, laidLooks := .later }
def PostKeepsCardSaid : Prop := Claim7.holds Tryd.pinned (.plain (OpenSpec.ofChange postKeepsSpec)) postKeepsCard

/-- THE TIED CARD OF 'bullalaw04.WholeTruth'. -/
def wholeTruthCard : Claim7 := { stood := { row := wholeTruthRow, standIns := [], harness := (true, "464d418909bdf1ad9f1c77e01cc1e689e6f92fc11efe31cc743d7256fbd4ff20"), looks := true }, kinds := [], alts := [], laidByText := true, laidKinds := [.sentinel, .sentinel, .sentinel, .sentinel, .sentinel, .sentinel, .sentinel, .sentinel, .sentinel, .sentinel, .sentinel, .sentinel, .sentinel, .sentinel, .sentinel, .sentinel, .sentinel, .sentinel, .sentinel, .sentinel, .sentinel, .sentinel, .sentinel, .sentinel, .sentinel, .sentinel, .sentinel, .sentinel], laidTests := true, laidLooks := .later }
def WholeTruthCardSaid : Prop := Claim7.holds Tryd.pinned (.plain (OpenSpec.ofChange wholeTruthSpec)) wholeTruthCard

/-- THE TIED CARD OF 'bullalaw04.WholePut'. -/
def wholePutCard : Claim7 := { stood := { row := wholePutRow, standIns := [], harness := (true, "464d418909bdf1ad9f1c77e01cc1e689e6f92fc11efe31cc743d7256fbd4ff20"), looks := true }, kinds := [], alts := [], laidByText := true, laidKinds := [.sentinel, .sentinel, .sentinel, .sentinel, .sentinel, .sentinel, .sentinel, .sentinel, .sentinel, .sentinel, .sentinel, .sentinel, .sentinel, .sentinel, .sentinel, .sentinel, .sentinel, .sentinel, .sentinel, .sentinel, .sentinel, .sentinel, .sentinel, .sentinel, .sentinel, .sentinel, .sentinel, .sentinel], laidTests := true, laidLooks := .later }
def WholePutCardSaid : Prop := Claim7.holds Tryd.pinned (.plain (OpenSpec.ofChange wholePutSpec)) wholePutCard

/-- THE TIED CARD OF 'bullalaw04.WholeGet'. -/
def wholeGetCard : Claim7 := { stood := { row := wholeGetRow, standIns := [], harness := (true, "464d418909bdf1ad9f1c77e01cc1e689e6f92fc11efe31cc743d7256fbd4ff20"), looks := true }, kinds := [], alts := [], laidByText := true, laidKinds := [.sentinel, .sentinel, .sentinel, .sentinel, .sentinel, .sentinel, .sentinel, .sentinel, .sentinel, .sentinel, .sentinel, .sentinel, .sentinel, .sentinel, .sentinel, .sentinel, .sentinel, .sentinel, .sentinel, .sentinel, .sentinel, .sentinel, .sentinel, .sentinel, .sentinel, .sentinel, .sentinel, .sentinel], laidTests := true, laidLooks := .later }
def WholeGetCardSaid : Prop := Claim7.holds Tryd.pinned (.plain (OpenSpec.ofChange wholeGetSpec)) wholeGetCard

/-- THE TIED CARD OF 'bullalaw04.WholeFigures'. -/
def wholeFiguresCard : Claim7 := { stood := { row := wholeFiguresRow, standIns := [], harness := (true, "464d418909bdf1ad9f1c77e01cc1e689e6f92fc11efe31cc743d7256fbd4ff20"), looks := true }, kinds := [], alts := [], laidByText := true, laidKinds := [.sentinel, .sentinel, .sentinel, .sentinel, .sentinel, .sentinel, .sentinel, .sentinel, .sentinel, .sentinel, .sentinel, .sentinel, .sentinel, .sentinel, .sentinel, .sentinel, .sentinel, .sentinel, .sentinel, .sentinel, .sentinel, .sentinel, .sentinel, .sentinel, .sentinel, .sentinel, .sentinel, .sentinel], laidTests := true, laidLooks := .later }
def WholeFiguresCardSaid : Prop := Claim7.holds Tryd.pinned (.plain (OpenSpec.ofChange wholeFiguresSpec)) wholeFiguresCard

/-- THE TIED CARD OF 'bullalaw09.NamesOrder'. -/
def namesOrderCard : Claim7 := { stood := { row := namesOrderRow, standIns := [], harness := (true, "464d418909bdf1ad9f1c77e01cc1e689e6f92fc11efe31cc743d7256fbd4ff20"), looks := true }, kinds := [], alts := [], laidByText := true, laidKinds := [.sentinel], laidTests := true, laidLooks := .later }
def NamesOrderCardSaid : Prop := Claim7.holds Tryd.pinned (.plain (OpenSpec.ofChange namesOrderSpec)) namesOrderCard

/-- THE SECOND FORM's CARD OF 'bullalaw35.PostKeeps'. -/
def postKeepsUptoCard : Claim7 := { stood := { row := postKeepsUptoRow, standIns := [], harness := (true, "464d418909bdf1ad9f1c77e01cc1e689e6f92fc11efe31cc743d7256fbd4ff20"), looks := true }, kinds := [], alts := [], laidByText := true, laidKinds := [.sentinel], laidTests := true, laidLooks := .later }
def PostKeepsUptoCardSaid : Prop := Claim7.holds Tryd.pinned (.plain (OpenSpec.upto postKeepsSpec)) postKeepsUptoCard

/-- THE SECOND FORM's CARD OF 'bullalaw04.WholeTruth'. -/
def wholeTruthUptoCard : Claim7 := { stood := { row := wholeTruthUptoRow, standIns := [], harness := (true, "464d418909bdf1ad9f1c77e01cc1e689e6f92fc11efe31cc743d7256fbd4ff20"), looks := true }, kinds := [], alts := [], laidByText := true, laidKinds := [.sentinel, .sentinel, .sentinel, .sentinel, .sentinel, .sentinel, .sentinel, .sentinel, .sentinel, .sentinel, .sentinel, .sentinel, .sentinel, .sentinel, .sentinel, .sentinel, .sentinel, .sentinel, .sentinel, .sentinel, .sentinel, .sentinel, .sentinel, .sentinel, .sentinel, .sentinel, .sentinel, .sentinel], laidTests := true, laidLooks := .later }
def WholeTruthUptoCardSaid : Prop := Claim7.holds Tryd.pinned (.plain (OpenSpec.upto wholeTruthSpec)) wholeTruthUptoCard

/-- THE SECOND FORM's CARD OF 'bullalaw04.WholePut'. -/
def wholePutUptoCard : Claim7 := { stood := { row := wholePutUptoRow, standIns := [], harness := (true, "464d418909bdf1ad9f1c77e01cc1e689e6f92fc11efe31cc743d7256fbd4ff20"), looks := true }, kinds := [], alts := [], laidByText := true, laidKinds := [.sentinel, .sentinel, .sentinel, .sentinel, .sentinel, .sentinel, .sentinel, .sentinel, .sentinel, .sentinel, .sentinel, .sentinel, .sentinel, .sentinel, .sentinel, .sentinel, .sentinel, .sentinel, .sentinel, .sentinel, .sentinel, .sentinel, .sentinel, .sentinel, .sentinel, .sentinel, .sentinel, .sentinel], laidTests := true, laidLooks := .later }
def WholePutUptoCardSaid : Prop := Claim7.holds Tryd.pinned (.plain (OpenSpec.upto wholePutSpec)) wholePutUptoCard

/-- THE SECOND FORM's CARD OF 'bullalaw04.WholeGet'. -/
def wholeGetUptoCard : Claim7 := { stood := { row := wholeGetUptoRow, standIns := [], harness := (true, "464d418909bdf1ad9f1c77e01cc1e689e6f92fc11efe31cc743d7256fbd4ff20"), looks := true }, kinds := [], alts := [], laidByText := true, laidKinds := [.sentinel, .sentinel, .sentinel, .sentinel, .sentinel, .sentinel, .sentinel, .sentinel, .sentinel, .sentinel, .sentinel, .sentinel, .sentinel, .sentinel, .sentinel, .sentinel, .sentinel, .sentinel, .sentinel, .sentinel, .sentinel, .sentinel, .sentinel, .sentinel, .sentinel, .sentinel, .sentinel, .sentinel], laidTests := true, laidLooks := .later }
def WholeGetUptoCardSaid : Prop := Claim7.holds Tryd.pinned (.plain (OpenSpec.upto wholeGetSpec)) wholeGetUptoCard

/-- THE SECOND FORM's CARD OF 'bullalaw04.WholeFigures'. -/
def wholeFiguresUptoCard : Claim7 := { stood := { row := wholeFiguresUptoRow, standIns := [], harness := (true, "464d418909bdf1ad9f1c77e01cc1e689e6f92fc11efe31cc743d7256fbd4ff20"), looks := true }, kinds := [], alts := [], laidByText := true, laidKinds := [.sentinel, .sentinel, .sentinel, .sentinel, .sentinel, .sentinel, .sentinel, .sentinel, .sentinel, .sentinel, .sentinel, .sentinel, .sentinel, .sentinel, .sentinel, .sentinel, .sentinel, .sentinel, .sentinel, .sentinel, .sentinel, .sentinel, .sentinel, .sentinel, .sentinel, .sentinel, .sentinel, .sentinel], laidTests := true, laidLooks := .later }
def WholeFiguresUptoCardSaid : Prop := Claim7.holds Tryd.pinned (.plain (OpenSpec.upto wholeFiguresSpec)) wholeFiguresUptoCard

/-- THE SECOND FORM's CARD OF 'bullalaw09.NamesOrder'. -/
def namesOrderUptoCard : Claim7 := { stood := { row := namesOrderUptoRow, standIns := [], harness := (true, "464d418909bdf1ad9f1c77e01cc1e689e6f92fc11efe31cc743d7256fbd4ff20"), looks := true }, kinds := [], alts := [], laidByText := true, laidKinds := [.sentinel], laidTests := true, laidLooks := .later }
def NamesOrderUptoCardSaid : Prop := Claim7.holds Tryd.pinned (.plain (OpenSpec.upto namesOrderSpec)) namesOrderUptoCard
end Rows
end Go.Proofs.YtjhgocnjhhjkoaaDoor
