/-
  DERIVED. GIVEN WITH THE SEED: THE CARDS: each row of YtdfjiodkmhpfkaaDoorRows.lean that lists a variable, with what it lists TIED to the program's text (the seventh form; the later family's looks); each row that meets fmt, with fmt's text TOLD by the authors' own Lean function (tested against real Go, not proved from fmt's source: count such statements apart). THE CARD IS WHAT COUNTS. Prove the row's statement (the work); the ties are given (YtdfjiodkmhpfkaaDoorTie.lean); close each card by the builder's one call (the guide's Derived/Test/ToyasCard.lean, 'card_holds'). Laid BY PROGRAM, IN A SANDBOX (cutbox-door.mjs). By AI agents, Wed Nov 11 2026. No macro, syntax, notation, axiom, sorry.
-/
import Derived.Test.YtdfjiodkmhpfkaaDoorRows
import GoSem.ClaimSeven
namespace Go.Proofs.YtdfjiodkmhpfkaaDoor
namespace Rows

/-- THE TIED CARD OF 'bullalaw35.PostPlays'. -/
def postPlaysCard : Claim7 := { stood := { row := postPlaysRow, standIns := [], harness := (true, "0798e51e2025a201cb45bf8c4190346fb0a1f30b6ee829bcc3183b3247835691"), looks := true }, kinds := [], alts := [], laidByText := true, laidKinds := [.sentinel, .sentinel, .sentinel, .sentinel, .sentinel, .sentinel, .sentinel, .sentinel, .sentinel, .sentinel, .sentinel, .sentinel, .sentinel, .sentinel, .sentinel, .sentinel, .sentinel, .sentinel, .sentinel, .sentinel, .sentinel, .sentinel, .sentinel, .sentinel, .sentinel, .sentinel, .sentinel, .sentinel], laidTests := true, laidLooks := .later }
def PostPlaysCardSaid : Prop := Claim7.holds Tryd.pinned (.plain (OpenSpec.ofChange postPlaysSpec)) postPlaysCard

/-- THE TIED CARD OF 'bullalaw07.TextsSet'. -/
def textsSetCard : Claim7 := { stood := { row := textsSetRow, standIns := [], harness := (true, "0798e51e2025a201cb45bf8c4190346fb0a1f30b6ee829bcc3183b3247835691"), looks := true }, kinds := [], alts := [], laidByText := true, laidKinds := [.sentinel], laidTests := true, laidLooks := .later }
def TextsSetCardSaid : Prop := Claim7.holds Tryd.pinned (.plain (OpenSpec.ofChange textsSetSpec)) textsSetCard

/-- THE TIED CARD OF 'bullalaw38.LinesWords'. -/
def linesWordsCard : Claim7 := { stood := { row := linesWordsRow, standIns := [], harness := (true, "0798e51e2025a201cb45bf8c4190346fb0a1f30b6ee829bcc3183b3247835691"), looks := true }, kinds := [], alts := [], laidByText := true, laidKinds := [.data, .sentinel, .sentinel, .sentinel, .sentinel, .sentinel, .sentinel, .sentinel, .sentinel, .sentinel, .sentinel, .sentinel, .sentinel, .sentinel, .sentinel, .sentinel, .sentinel, .sentinel, .sentinel, .sentinel, .sentinel, .sentinel, .sentinel, .sentinel, .sentinel, .sentinel, .sentinel, .sentinel, .sentinel, .pinned], laidTests := true, laidLooks := .later }
def LinesWordsCardSaid : Prop := Claim7.holds Tryd.pinned (.plain (OpenSpec.ofChange linesWordsSpec)) linesWordsCard

/-- THE TIED CARD OF 'bullalaw38.LinesParse'. -/
def linesParseCard : Claim7 := { stood := { row := linesParseRow, standIns := [], harness := (true, "0798e51e2025a201cb45bf8c4190346fb0a1f30b6ee829bcc3183b3247835691"), looks := true }, kinds := [], alts := [], laidByText := true, laidKinds := [.data, .sentinel, .sentinel, .sentinel, .sentinel, .sentinel, .sentinel, .sentinel, .sentinel, .sentinel, .sentinel, .sentinel, .sentinel, .sentinel, .sentinel, .sentinel, .sentinel, .sentinel, .sentinel, .sentinel, .sentinel, .sentinel, .sentinel, .sentinel, .sentinel, .sentinel, .sentinel, .sentinel, .sentinel, .pinned], laidTests := true, laidLooks := .later }
def LinesParseCardSaid : Prop := Claim7.holds Tryd.pinned (.plain (OpenSpec.ofChange linesParseSpec)) linesParseCard

/-- THE TIED CARD OF 'bullalaw38.LinesText'. -/
def linesTextCard : Claim7 := { stood := { row := linesTextRow, standIns := [], harness := (true, "0798e51e2025a201cb45bf8c4190346fb0a1f30b6ee829bcc3183b3247835691"), looks := true }, kinds := [], alts := [], laidByText := true, laidKinds := [.data, .sentinel, .sentinel, .sentinel, .sentinel, .sentinel, .sentinel, .sentinel, .sentinel, .sentinel, .sentinel, .sentinel, .sentinel, .sentinel, .sentinel, .sentinel, .sentinel, .sentinel, .sentinel, .sentinel, .sentinel, .sentinel, .sentinel, .sentinel, .sentinel, .sentinel, .sentinel, .sentinel, .sentinel, .pinned], laidTests := true, laidLooks := .later }
def LinesTextCardSaid : Prop := Claim7.holds Tryd.pinned (.plain (OpenSpec.ofChange linesTextSpec)) linesTextCard

/-- THE SECOND FORM's CARD OF 'bullalaw35.PostPlays'. -/
def postPlaysUptoCard : Claim7 := { stood := { row := postPlaysUptoRow, standIns := [], harness := (true, "0798e51e2025a201cb45bf8c4190346fb0a1f30b6ee829bcc3183b3247835691"), looks := true }, kinds := [], alts := [], laidByText := true, laidKinds := [.sentinel, .sentinel, .sentinel, .sentinel, .sentinel, .sentinel, .sentinel, .sentinel, .sentinel, .sentinel, .sentinel, .sentinel, .sentinel, .sentinel, .sentinel, .sentinel, .sentinel, .sentinel, .sentinel, .sentinel, .sentinel, .sentinel, .sentinel, .sentinel, .sentinel, .sentinel, .sentinel, .sentinel], laidTests := true, laidLooks := .later }
def PostPlaysUptoCardSaid : Prop := Claim7.holds Tryd.pinned (.plain (OpenSpec.upto postPlaysSpec)) postPlaysUptoCard

/-- THE SECOND FORM's CARD OF 'bullalaw07.TextsSet'. -/
def textsSetUptoCard : Claim7 := { stood := { row := textsSetUptoRow, standIns := [], harness := (true, "0798e51e2025a201cb45bf8c4190346fb0a1f30b6ee829bcc3183b3247835691"), looks := true }, kinds := [], alts := [], laidByText := true, laidKinds := [.sentinel], laidTests := true, laidLooks := .later }
def TextsSetUptoCardSaid : Prop := Claim7.holds Tryd.pinned (.plain (OpenSpec.upto textsSetSpec)) textsSetUptoCard

/-- THE SECOND FORM's CARD OF 'bullalaw38.LinesWords'. -/
def linesWordsUptoCard : Claim7 := { stood := { row := linesWordsUptoRow, standIns := [], harness := (true, "0798e51e2025a201cb45bf8c4190346fb0a1f30b6ee829bcc3183b3247835691"), looks := true }, kinds := [], alts := [], laidByText := true, laidKinds := [.data, .sentinel, .sentinel, .sentinel, .sentinel, .sentinel, .sentinel, .sentinel, .sentinel, .sentinel, .sentinel, .sentinel, .sentinel, .sentinel, .sentinel, .sentinel, .sentinel, .sentinel, .sentinel, .sentinel, .sentinel, .sentinel, .sentinel, .sentinel, .sentinel, .sentinel, .sentinel, .sentinel, .sentinel, .pinned], laidTests := true, laidLooks := .later }
def LinesWordsUptoCardSaid : Prop := Claim7.holds Tryd.pinned (.plain (OpenSpec.upto linesWordsSpec)) linesWordsUptoCard

/-- THE SECOND FORM's CARD OF 'bullalaw38.LinesParse'. -/
def linesParseUptoCard : Claim7 := { stood := { row := linesParseUptoRow, standIns := [], harness := (true, "0798e51e2025a201cb45bf8c4190346fb0a1f30b6ee829bcc3183b3247835691"), looks := true }, kinds := [], alts := [], laidByText := true, laidKinds := [.data, .sentinel, .sentinel, .sentinel, .sentinel, .sentinel, .sentinel, .sentinel, .sentinel, .sentinel, .sentinel, .sentinel, .sentinel, .sentinel, .sentinel, .sentinel, .sentinel, .sentinel, .sentinel, .sentinel, .sentinel, .sentinel, .sentinel, .sentinel, .sentinel, .sentinel, .sentinel, .sentinel, .sentinel, .pinned], laidTests := true, laidLooks := .later }
def LinesParseUptoCardSaid : Prop := Claim7.holds Tryd.pinned (.plain (OpenSpec.upto linesParseSpec)) linesParseUptoCard

/-- THE SECOND FORM's CARD OF 'bullalaw38.LinesText'. -/
def linesTextUptoCard : Claim7 := { stood := { row := linesTextUptoRow, standIns := [], harness := (true, "0798e51e2025a201cb45bf8c4190346fb0a1f30b6ee829bcc3183b3247835691"), looks := true }, kinds := [], alts := [], laidByText := true, laidKinds := [.data, .sentinel, .sentinel, .sentinel, .sentinel, .sentinel, .sentinel, .sentinel, .sentinel, .sentinel, .sentinel, .sentinel, .sentinel, .sentinel, .sentinel, .sentinel, .sentinel, .sentinel, .sentinel, .sentinel, .sentinel, .sentinel, .sentinel, .sentinel, .sentinel, .sentinel, .sentinel, .sentinel, .sentinel, .pinned], laidTests := true, laidLooks := .later }
def LinesTextUptoCardSaid : Prop := Claim7.holds Tryd.pinned (.plain (OpenSpec.upto linesTextSpec)) linesTextUptoCard
end Rows
end Go.Proofs.YtdfjiodkmhpfkaaDoor
