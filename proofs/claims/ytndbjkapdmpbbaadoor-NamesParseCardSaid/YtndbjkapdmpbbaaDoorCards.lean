/-
  DERIVED. GIVEN WITH THE SEED: THE CARDS: each row of YtndbjkapdmpbbaaDoorRows.lean that lists a variable, with what it lists TIED to the program's text (the seventh form; the later family's looks); each row that meets fmt, with fmt's text TOLD by the authors' own Lean function (tested against real Go, not proved from fmt's source: count such statements apart). THE CARD IS WHAT COUNTS. Prove the row's statement (the work); the ties are given (YtndbjkapdmpbbaaDoorTie.lean); close each card by the builder's one call (the guide's Derived/Test/ToyasCard.lean, 'card_holds'). Laid BY PROGRAM, IN A SANDBOX (cutbox-door.mjs). By AI agents, Wed Nov 11 2026. No macro, syntax, notation, axiom, sorry.
-/
import Derived.Test.YtndbjkapdmpbbaaDoorRows
import GoSem.ClaimSeven
namespace Go.Proofs.YtndbjkapdmpbbaaDoor
namespace Rows

/-- THE TIED CARD OF 'bullalaw07.TextsFlags'. -/
def textsFlagsCard : Claim7 := { stood := { row := textsFlagsRow, standIns := [], harness := (true, "c1bc223f924343228b0aab596a8f825263d3a2eb9a25614743d253eaba73d1fd"), looks := true }, kinds := [], alts := [], laidByText := true, laidKinds := [.sentinel, .sentinel, .sentinel, .sentinel, .sentinel, .sentinel, .sentinel, .sentinel, .sentinel, .sentinel, .sentinel, .sentinel, .sentinel, .sentinel, .sentinel, .sentinel, .sentinel, .sentinel, .sentinel, .sentinel, .sentinel, .sentinel, .sentinel, .sentinel, .sentinel, .sentinel, .sentinel, .sentinel], laidTests := true, laidLooks := .later }
def TextsFlagsCardSaid : Prop := Claim7.holds Tryd.pinned (.plain (OpenSpec.ofChange textsFlagsSpec)) textsFlagsCard

/-- THE TIED CARD OF 'bullalaw07.TextsMask'. -/
def textsMaskCard : Claim7 := { stood := { row := textsMaskRow, standIns := [], harness := (true, "c1bc223f924343228b0aab596a8f825263d3a2eb9a25614743d253eaba73d1fd"), looks := true }, kinds := [], alts := [], laidByText := true, laidKinds := [.sentinel, .sentinel, .sentinel, .sentinel, .sentinel, .sentinel, .sentinel, .sentinel, .sentinel, .sentinel, .sentinel, .sentinel, .sentinel, .sentinel, .sentinel, .sentinel, .sentinel, .sentinel, .sentinel, .sentinel, .sentinel, .sentinel, .sentinel, .sentinel, .sentinel, .sentinel, .sentinel, .sentinel], laidTests := true, laidLooks := .later }
def TextsMaskCardSaid : Prop := Claim7.holds Tryd.pinned (.plain (OpenSpec.ofChange textsMaskSpec)) textsMaskCard

/-- THE TIED CARD OF 'bullalaw35.PostPlays'. -/
def postPlaysCard : Claim7 := { stood := { row := postPlaysRow, standIns := [], harness := (true, "c1bc223f924343228b0aab596a8f825263d3a2eb9a25614743d253eaba73d1fd"), looks := true }, kinds := [], alts := [], laidByText := true, laidKinds := [.sentinel, .sentinel, .sentinel, .sentinel, .sentinel, .sentinel, .sentinel, .sentinel, .sentinel, .sentinel, .sentinel, .sentinel, .sentinel, .sentinel, .sentinel, .sentinel, .sentinel, .sentinel, .sentinel, .sentinel, .sentinel, .sentinel, .sentinel, .sentinel, .sentinel, .sentinel, .sentinel, .sentinel], laidTests := true, laidLooks := .later }
def PostPlaysCardSaid : Prop := Claim7.holds Tryd.pinned (.plain (OpenSpec.ofChange postPlaysSpec)) postPlaysCard

/-- THE TIED CARD OF 'bullalaw07.TextsPut'. -/
def textsPutCard : Claim7 := { stood := { row := textsPutRow, standIns := [], harness := (true, "c1bc223f924343228b0aab596a8f825263d3a2eb9a25614743d253eaba73d1fd"), looks := true }, kinds := [], alts := [], laidByText := true, laidKinds := [.data, .sentinel, .sentinel, .sentinel, .sentinel, .sentinel, .sentinel, .sentinel, .sentinel, .sentinel, .sentinel, .sentinel, .sentinel, .sentinel, .sentinel, .sentinel, .sentinel, .sentinel, .sentinel, .sentinel, .sentinel, .sentinel, .sentinel, .sentinel, .sentinel, .sentinel, .sentinel, .sentinel, .sentinel, .pinned], laidTests := true, laidLooks := .later }
def TextsPutCardSaid : Prop := Claim7.holds Tryd.pinned (.plain (OpenSpec.ofChange textsPutSpec)) textsPutCard

/-- THE TIED CARD OF 'bullalaw23.AdmitDefault'. -/
def admitDefaultCard : Claim7 := { stood := { row := admitDefaultRow, standIns := [], harness := (true, "c1bc223f924343228b0aab596a8f825263d3a2eb9a25614743d253eaba73d1fd"), looks := true }, kinds := [], alts := [], laidByText := true, laidKinds := [.sentinel, .sentinel, .sentinel, .sentinel, .sentinel, .sentinel, .sentinel, .sentinel, .sentinel, .sentinel, .sentinel, .sentinel, .sentinel, .sentinel, .sentinel, .sentinel, .sentinel, .sentinel, .sentinel, .sentinel, .sentinel, .sentinel, .sentinel, .sentinel, .sentinel, .sentinel, .sentinel, .sentinel], laidTests := true, laidLooks := .later }
def AdmitDefaultCardSaid : Prop := Claim7.holds Tryd.pinned (.plain (OpenSpec.ofChange admitDefaultSpec)) admitDefaultCard

/-- THE TIED CARD OF 'bullalaw23.AdmitLives'. -/
def admitLivesCard : Claim7 := { stood := { row := admitLivesRow, standIns := [], harness := (true, "c1bc223f924343228b0aab596a8f825263d3a2eb9a25614743d253eaba73d1fd"), looks := true }, kinds := [], alts := [], laidByText := true, laidKinds := [.sentinel, .sentinel, .sentinel, .sentinel, .sentinel, .sentinel, .sentinel, .sentinel, .sentinel, .sentinel, .sentinel, .sentinel, .sentinel, .sentinel, .sentinel, .sentinel, .sentinel, .sentinel, .sentinel, .sentinel, .sentinel, .sentinel, .sentinel, .sentinel, .sentinel, .sentinel, .sentinel, .sentinel], laidTests := true, laidLooks := .later }
def AdmitLivesCardSaid : Prop := Claim7.holds Tryd.pinned (.plain (OpenSpec.ofChange admitLivesSpec)) admitLivesCard

/-- THE TIED CARD OF 'bullalaw09.NamesParse'. -/
def namesParseCard : Claim7 := { stood := { row := namesParseRow, standIns := [], harness := (true, "c1bc223f924343228b0aab596a8f825263d3a2eb9a25614743d253eaba73d1fd"), looks := true }, kinds := [], alts := [], laidByText := true, laidKinds := [.sentinel, .sentinel, .sentinel, .sentinel, .sentinel, .sentinel, .sentinel, .sentinel, .sentinel, .sentinel, .sentinel, .sentinel, .sentinel, .sentinel, .sentinel, .sentinel, .sentinel, .sentinel, .sentinel, .sentinel, .sentinel, .sentinel, .sentinel, .sentinel, .sentinel, .sentinel, .sentinel, .sentinel], laidTests := true, laidLooks := .later }
def NamesParseCardSaid : Prop := Claim7.holds Tryd.pinned (.plain (OpenSpec.ofChange namesParseSpec)) namesParseCard

/-- THE TIED CARD OF 'bullalaw03.TlvPut'. -/
def tlvPutCard : Claim7 := { stood := { row := tlvPutRow, standIns := [], harness := (true, "c1bc223f924343228b0aab596a8f825263d3a2eb9a25614743d253eaba73d1fd"), looks := true }, kinds := [], alts := [], laidByText := true, laidKinds := [.sentinel, .sentinel, .sentinel, .sentinel, .sentinel, .sentinel, .sentinel, .sentinel, .sentinel, .sentinel, .sentinel, .sentinel, .sentinel, .sentinel, .sentinel, .sentinel, .sentinel, .sentinel, .sentinel, .sentinel, .sentinel, .sentinel, .sentinel, .sentinel, .sentinel, .sentinel, .sentinel, .sentinel], laidTests := true, laidLooks := .later }
def TlvPutCardSaid : Prop := Claim7.holds Tryd.pinned (.plain (OpenSpec.ofChange tlvPutSpec)) tlvPutCard

/-- THE TIED CARD OF 'bullalaw05.OidsOrder'. -/
def oidsOrderCard : Claim7 := { stood := { row := oidsOrderRow, standIns := [], harness := (true, "c1bc223f924343228b0aab596a8f825263d3a2eb9a25614743d253eaba73d1fd"), looks := true }, kinds := [], alts := [], laidByText := true, laidKinds := [.data, .sentinel, .sentinel, .pinned], laidTests := true, laidLooks := .later }
def OidsOrderCardSaid : Prop := Claim7.holds Tryd.pinned (.plain (OpenSpec.ofChange oidsOrderSpec)) oidsOrderCard

/-- THE TIED CARD OF 'bullalaw05.OidsText'. -/
def oidsTextCard : Claim7 := { stood := { row := oidsTextRow, standIns := [], harness := (true, "c1bc223f924343228b0aab596a8f825263d3a2eb9a25614743d253eaba73d1fd"), looks := true }, kinds := [], alts := [], laidByText := true, laidKinds := [.data, .sentinel, .sentinel, .sentinel, .sentinel, .sentinel, .sentinel, .sentinel, .sentinel, .sentinel, .sentinel, .sentinel, .sentinel, .sentinel, .sentinel, .sentinel, .sentinel, .sentinel, .sentinel, .sentinel, .sentinel, .sentinel, .sentinel, .sentinel, .sentinel, .sentinel, .sentinel, .sentinel, .sentinel, .pinned], laidTests := true, laidLooks := .later }
def OidsTextCardSaid : Prop := Claim7.holds Tryd.pinned (.plain (OpenSpec.ofChange oidsTextSpec)) oidsTextCard

/-- THE SECOND FORM's CARD OF 'bullalaw07.TextsFlags'. -/
def textsFlagsUptoCard : Claim7 := { stood := { row := textsFlagsUptoRow, standIns := [], harness := (true, "c1bc223f924343228b0aab596a8f825263d3a2eb9a25614743d253eaba73d1fd"), looks := true }, kinds := [], alts := [], laidByText := true, laidKinds := [.sentinel, .sentinel, .sentinel, .sentinel, .sentinel, .sentinel, .sentinel, .sentinel, .sentinel, .sentinel, .sentinel, .sentinel, .sentinel, .sentinel, .sentinel, .sentinel, .sentinel, .sentinel, .sentinel, .sentinel, .sentinel, .sentinel, .sentinel, .sentinel, .sentinel, .sentinel, .sentinel, .sentinel], laidTests := true, laidLooks := .later }
def TextsFlagsUptoCardSaid : Prop := Claim7.holds Tryd.pinned (.plain (OpenSpec.upto textsFlagsSpec)) textsFlagsUptoCard

/-- THE SECOND FORM's CARD OF 'bullalaw07.TextsMask'. -/
def textsMaskUptoCard : Claim7 := { stood := { row := textsMaskUptoRow, standIns := [], harness := (true, "c1bc223f924343228b0aab596a8f825263d3a2eb9a25614743d253eaba73d1fd"), looks := true }, kinds := [], alts := [], laidByText := true, laidKinds := [.sentinel, .sentinel, .sentinel, .sentinel, .sentinel, .sentinel, .sentinel, .sentinel, .sentinel, .sentinel, .sentinel, .sentinel, .sentinel, .sentinel, .sentinel, .sentinel, .sentinel, .sentinel, .sentinel, .sentinel, .sentinel, .sentinel, .sentinel, .sentinel, .sentinel, .sentinel, .sentinel, .sentinel], laidTests := true, laidLooks := .later }
def TextsMaskUptoCardSaid : Prop := Claim7.holds Tryd.pinned (.plain (OpenSpec.upto textsMaskSpec)) textsMaskUptoCard

/-- THE SECOND FORM's CARD OF 'bullalaw35.PostPlays'. -/
def postPlaysUptoCard : Claim7 := { stood := { row := postPlaysUptoRow, standIns := [], harness := (true, "c1bc223f924343228b0aab596a8f825263d3a2eb9a25614743d253eaba73d1fd"), looks := true }, kinds := [], alts := [], laidByText := true, laidKinds := [.sentinel, .sentinel, .sentinel, .sentinel, .sentinel, .sentinel, .sentinel, .sentinel, .sentinel, .sentinel, .sentinel, .sentinel, .sentinel, .sentinel, .sentinel, .sentinel, .sentinel, .sentinel, .sentinel, .sentinel, .sentinel, .sentinel, .sentinel, .sentinel, .sentinel, .sentinel, .sentinel, .sentinel], laidTests := true, laidLooks := .later }
def PostPlaysUptoCardSaid : Prop := Claim7.holds Tryd.pinned (.plain (OpenSpec.upto postPlaysSpec)) postPlaysUptoCard

/-- THE SECOND FORM's CARD OF 'bullalaw07.TextsPut'. -/
def textsPutUptoCard : Claim7 := { stood := { row := textsPutUptoRow, standIns := [], harness := (true, "c1bc223f924343228b0aab596a8f825263d3a2eb9a25614743d253eaba73d1fd"), looks := true }, kinds := [], alts := [], laidByText := true, laidKinds := [.data, .sentinel, .sentinel, .sentinel, .sentinel, .sentinel, .sentinel, .sentinel, .sentinel, .sentinel, .sentinel, .sentinel, .sentinel, .sentinel, .sentinel, .sentinel, .sentinel, .sentinel, .sentinel, .sentinel, .sentinel, .sentinel, .sentinel, .sentinel, .sentinel, .sentinel, .sentinel, .sentinel, .sentinel, .pinned], laidTests := true, laidLooks := .later }
def TextsPutUptoCardSaid : Prop := Claim7.holds Tryd.pinned (.plain (OpenSpec.upto textsPutSpec)) textsPutUptoCard

/-- THE SECOND FORM's CARD OF 'bullalaw23.AdmitDefault'. -/
def admitDefaultUptoCard : Claim7 := { stood := { row := admitDefaultUptoRow, standIns := [], harness := (true, "c1bc223f924343228b0aab596a8f825263d3a2eb9a25614743d253eaba73d1fd"), looks := true }, kinds := [], alts := [], laidByText := true, laidKinds := [.sentinel, .sentinel, .sentinel, .sentinel, .sentinel, .sentinel, .sentinel, .sentinel, .sentinel, .sentinel, .sentinel, .sentinel, .sentinel, .sentinel, .sentinel, .sentinel, .sentinel, .sentinel, .sentinel, .sentinel, .sentinel, .sentinel, .sentinel, .sentinel, .sentinel, .sentinel, .sentinel, .sentinel], laidTests := true, laidLooks := .later }
def AdmitDefaultUptoCardSaid : Prop := Claim7.holds Tryd.pinned (.plain (OpenSpec.upto admitDefaultSpec)) admitDefaultUptoCard

/-- THE SECOND FORM's CARD OF 'bullalaw23.AdmitLives'. -/
def admitLivesUptoCard : Claim7 := { stood := { row := admitLivesUptoRow, standIns := [], harness := (true, "c1bc223f924343228b0aab596a8f825263d3a2eb9a25614743d253eaba73d1fd"), looks := true }, kinds := [], alts := [], laidByText := true, laidKinds := [.sentinel, .sentinel, .sentinel, .sentinel, .sentinel, .sentinel, .sentinel, .sentinel, .sentinel, .sentinel, .sentinel, .sentinel, .sentinel, .sentinel, .sentinel, .sentinel, .sentinel, .sentinel, .sentinel, .sentinel, .sentinel, .sentinel, .sentinel, .sentinel, .sentinel, .sentinel, .sentinel, .sentinel], laidTests := true, laidLooks := .later }
def AdmitLivesUptoCardSaid : Prop := Claim7.holds Tryd.pinned (.plain (OpenSpec.upto admitLivesSpec)) admitLivesUptoCard

/-- THE SECOND FORM's CARD OF 'bullalaw09.NamesParse'. -/
def namesParseUptoCard : Claim7 := { stood := { row := namesParseUptoRow, standIns := [], harness := (true, "c1bc223f924343228b0aab596a8f825263d3a2eb9a25614743d253eaba73d1fd"), looks := true }, kinds := [], alts := [], laidByText := true, laidKinds := [.sentinel, .sentinel, .sentinel, .sentinel, .sentinel, .sentinel, .sentinel, .sentinel, .sentinel, .sentinel, .sentinel, .sentinel, .sentinel, .sentinel, .sentinel, .sentinel, .sentinel, .sentinel, .sentinel, .sentinel, .sentinel, .sentinel, .sentinel, .sentinel, .sentinel, .sentinel, .sentinel, .sentinel], laidTests := true, laidLooks := .later }
def NamesParseUptoCardSaid : Prop := Claim7.holds Tryd.pinned (.plain (OpenSpec.upto namesParseSpec)) namesParseUptoCard

/-- THE SECOND FORM's CARD OF 'bullalaw03.TlvPut'. -/
def tlvPutUptoCard : Claim7 := { stood := { row := tlvPutUptoRow, standIns := [], harness := (true, "c1bc223f924343228b0aab596a8f825263d3a2eb9a25614743d253eaba73d1fd"), looks := true }, kinds := [], alts := [], laidByText := true, laidKinds := [.sentinel, .sentinel, .sentinel, .sentinel, .sentinel, .sentinel, .sentinel, .sentinel, .sentinel, .sentinel, .sentinel, .sentinel, .sentinel, .sentinel, .sentinel, .sentinel, .sentinel, .sentinel, .sentinel, .sentinel, .sentinel, .sentinel, .sentinel, .sentinel, .sentinel, .sentinel, .sentinel, .sentinel], laidTests := true, laidLooks := .later }
def TlvPutUptoCardSaid : Prop := Claim7.holds Tryd.pinned (.plain (OpenSpec.upto tlvPutSpec)) tlvPutUptoCard

/-- THE SECOND FORM's CARD OF 'bullalaw05.OidsOrder'. -/
def oidsOrderUptoCard : Claim7 := { stood := { row := oidsOrderUptoRow, standIns := [], harness := (true, "c1bc223f924343228b0aab596a8f825263d3a2eb9a25614743d253eaba73d1fd"), looks := true }, kinds := [], alts := [], laidByText := true, laidKinds := [.data, .sentinel, .sentinel, .pinned], laidTests := true, laidLooks := .later }
def OidsOrderUptoCardSaid : Prop := Claim7.holds Tryd.pinned (.plain (OpenSpec.upto oidsOrderSpec)) oidsOrderUptoCard

/-- THE SECOND FORM's CARD OF 'bullalaw05.OidsText'. -/
def oidsTextUptoCard : Claim7 := { stood := { row := oidsTextUptoRow, standIns := [], harness := (true, "c1bc223f924343228b0aab596a8f825263d3a2eb9a25614743d253eaba73d1fd"), looks := true }, kinds := [], alts := [], laidByText := true, laidKinds := [.data, .sentinel, .sentinel, .sentinel, .sentinel, .sentinel, .sentinel, .sentinel, .sentinel, .sentinel, .sentinel, .sentinel, .sentinel, .sentinel, .sentinel, .sentinel, .sentinel, .sentinel, .sentinel, .sentinel, .sentinel, .sentinel, .sentinel, .sentinel, .sentinel, .sentinel, .sentinel, .sentinel, .sentinel, .pinned], laidTests := true, laidLooks := .later }
def OidsTextUptoCardSaid : Prop := Claim7.holds Tryd.pinned (.plain (OpenSpec.upto oidsTextSpec)) oidsTextUptoCard
end Rows
end Go.Proofs.YtndbjkapdmpbbaaDoor
