/-
  DERIVED. GIVEN WITH THE SEED: THE CARDS: each row of YtmlnipbeancnpaaDoorRows.lean that lists a variable, with what it lists TIED to the program's text (the seventh form; the later family's looks); each row that meets fmt, with fmt's text TOLD by the authors' own Lean function (tested against real Go, not proved from fmt's source: count such statements apart). THE CARD IS WHAT COUNTS. Prove the row's statement (the work); the ties are given (YtmlnipbeancnpaaDoorTie.lean); close each card by the builder's one call (the guide's Derived/Test/ToyasCard.lean, 'card_holds'). Laid BY PROGRAM, IN A SANDBOX (cutbox-door.mjs). By AI agents, Wed Nov 11 2026. No macro, syntax, notation, axiom, sorry.
-/
import Derived.Test.YtmlnipbeancnpaaDoorRows
import GoSem.ClaimSeven
namespace Go.Proofs.YtmlnipbeancnpaaDoor
namespace Rows

/-- THE TIED CARD OF 'bullalaw06.MomentsAdd'. -/
def momentsAddCard : Claim7 := { stood := { row := momentsAddRow, standIns := [], harness := (true, "0afa2a72364075d7ea65363a96217de536ca25d318949930c5586b39a38e645d"), looks := true }, kinds := [], alts := [], laidByText := true, laidKinds := [.sentinel, .sentinel, .sentinel, .sentinel, .sentinel, .sentinel, .sentinel, .sentinel, .sentinel, .sentinel, .sentinel, .sentinel, .sentinel, .sentinel, .sentinel, .sentinel, .sentinel, .sentinel, .sentinel, .sentinel, .sentinel, .sentinel, .sentinel, .sentinel, .sentinel, .sentinel, .sentinel, .sentinel], laidTests := true, laidLooks := .later }
def MomentsAddCardSaid : Prop := Claim7.holds Tryd.pinned (.plain (OpenSpec.ofChange momentsAddSpec)) momentsAddCard

/-- THE TIED CARD OF 'bullalaw06.MomentsSeconds'. -/
def momentsSecondsCard : Claim7 := { stood := { row := momentsSecondsRow, standIns := [], harness := (true, "0afa2a72364075d7ea65363a96217de536ca25d318949930c5586b39a38e645d"), looks := true }, kinds := [], alts := [], laidByText := true, laidKinds := [.sentinel, .sentinel, .sentinel, .sentinel, .sentinel, .sentinel, .sentinel, .sentinel, .sentinel, .sentinel, .sentinel, .sentinel, .sentinel, .sentinel, .sentinel, .sentinel, .sentinel, .sentinel, .sentinel, .sentinel, .sentinel, .sentinel, .sentinel, .sentinel, .sentinel, .sentinel, .sentinel, .sentinel], laidTests := true, laidLooks := .later }
def MomentsSecondsCardSaid : Prop := Claim7.holds Tryd.pinned (.plain (OpenSpec.ofChange momentsSecondsSpec)) momentsSecondsCard

/-- THE TIED CARD OF 'bullalaw07.TextsFlags'. -/
def textsFlagsCard : Claim7 := { stood := { row := textsFlagsRow, standIns := [], harness := (true, "0afa2a72364075d7ea65363a96217de536ca25d318949930c5586b39a38e645d"), looks := true }, kinds := [], alts := [], laidByText := true, laidKinds := [.sentinel, .sentinel, .sentinel, .sentinel, .sentinel, .sentinel, .sentinel, .sentinel, .sentinel, .sentinel, .sentinel, .sentinel, .sentinel, .sentinel, .sentinel, .sentinel, .sentinel, .sentinel, .sentinel, .sentinel, .sentinel, .sentinel, .sentinel, .sentinel, .sentinel, .sentinel, .sentinel, .sentinel], laidTests := true, laidLooks := .later }
def TextsFlagsCardSaid : Prop := Claim7.holds Tryd.pinned (.plain (OpenSpec.ofChange textsFlagsSpec)) textsFlagsCard

/-- THE TIED CARD OF 'bullalaw07.TextsMask'. -/
def textsMaskCard : Claim7 := { stood := { row := textsMaskRow, standIns := [], harness := (true, "0afa2a72364075d7ea65363a96217de536ca25d318949930c5586b39a38e645d"), looks := true }, kinds := [], alts := [], laidByText := true, laidKinds := [.sentinel, .sentinel, .sentinel, .sentinel, .sentinel, .sentinel, .sentinel, .sentinel, .sentinel, .sentinel, .sentinel, .sentinel, .sentinel, .sentinel, .sentinel, .sentinel, .sentinel, .sentinel, .sentinel, .sentinel, .sentinel, .sentinel, .sentinel, .sentinel, .sentinel, .sentinel, .sentinel, .sentinel], laidTests := true, laidLooks := .later }
def TextsMaskCardSaid : Prop := Claim7.holds Tryd.pinned (.plain (OpenSpec.ofChange textsMaskSpec)) textsMaskCard

/-- THE TIED CARD OF 'bullalaw35.PostPlays'. -/
def postPlaysCard : Claim7 := { stood := { row := postPlaysRow, standIns := [], harness := (true, "0afa2a72364075d7ea65363a96217de536ca25d318949930c5586b39a38e645d"), looks := true }, kinds := [], alts := [], laidByText := true, laidKinds := [.sentinel, .sentinel, .sentinel, .sentinel, .sentinel, .sentinel, .sentinel, .sentinel, .sentinel, .sentinel, .sentinel, .sentinel, .sentinel, .sentinel, .sentinel, .sentinel, .sentinel, .sentinel, .sentinel, .sentinel, .sentinel, .sentinel, .sentinel, .sentinel, .sentinel, .sentinel, .sentinel, .sentinel], laidTests := true, laidLooks := .later }
def PostPlaysCardSaid : Prop := Claim7.holds Tryd.pinned (.plain (OpenSpec.ofChange postPlaysSpec)) postPlaysCard

/-- THE TIED CARD OF 'bullalaw06.MomentsOf'. -/
def momentsOfCard : Claim7 := { stood := { row := momentsOfRow, standIns := [], harness := (true, "0afa2a72364075d7ea65363a96217de536ca25d318949930c5586b39a38e645d"), looks := true }, kinds := [], alts := [], laidByText := true, laidKinds := [.sentinel, .sentinel, .sentinel, .sentinel, .sentinel, .sentinel, .sentinel, .sentinel, .sentinel, .sentinel, .sentinel, .sentinel, .sentinel, .sentinel, .sentinel, .sentinel, .sentinel, .sentinel, .sentinel, .sentinel, .sentinel, .sentinel, .sentinel, .sentinel, .sentinel, .sentinel, .sentinel, .sentinel], laidTests := true, laidLooks := .later }
def MomentsOfCardSaid : Prop := Claim7.holds Tryd.pinned (.plain (OpenSpec.ofChange momentsOfSpec)) momentsOfCard

/-- THE TIED CARD OF 'bullalaw06.MomentsGet'. -/
def momentsGetCard : Claim7 := { stood := { row := momentsGetRow, standIns := [], harness := (true, "0afa2a72364075d7ea65363a96217de536ca25d318949930c5586b39a38e645d"), looks := true }, kinds := [], alts := [], laidByText := true, laidKinds := [.sentinel, .sentinel, .sentinel, .sentinel, .sentinel, .sentinel, .sentinel, .sentinel, .sentinel, .sentinel, .sentinel, .sentinel, .sentinel, .sentinel, .sentinel, .sentinel, .sentinel, .sentinel, .sentinel, .sentinel, .sentinel, .sentinel, .sentinel, .sentinel, .sentinel, .sentinel, .sentinel, .sentinel], laidTests := true, laidLooks := .later }
def MomentsGetCardSaid : Prop := Claim7.holds Tryd.pinned (.plain (OpenSpec.ofChange momentsGetSpec)) momentsGetCard

/-- THE TIED CARD OF 'bullalaw03.TlvNests'. -/
def tlvNestsCard : Claim7 := { stood := { row := tlvNestsRow, standIns := [], harness := (true, "0afa2a72364075d7ea65363a96217de536ca25d318949930c5586b39a38e645d"), looks := true }, kinds := [], alts := [], laidByText := true, laidKinds := [.sentinel, .sentinel, .sentinel, .sentinel, .sentinel, .sentinel, .sentinel, .sentinel, .sentinel, .sentinel, .sentinel, .sentinel, .sentinel, .sentinel, .sentinel, .sentinel, .sentinel, .sentinel, .sentinel, .sentinel, .sentinel, .sentinel, .sentinel, .sentinel, .sentinel, .sentinel, .sentinel, .sentinel], laidTests := true, laidLooks := .later }
def TlvNestsCardSaid : Prop := Claim7.holds Tryd.pinned (.plain (OpenSpec.ofChange tlvNestsSpec)) tlvNestsCard

/-- THE TIED CARD OF 'bullalaw07.TextsPut'. -/
def textsPutCard : Claim7 := { stood := { row := textsPutRow, standIns := [], harness := (true, "0afa2a72364075d7ea65363a96217de536ca25d318949930c5586b39a38e645d"), looks := true }, kinds := [], alts := [], laidByText := true, laidKinds := [.data, .sentinel, .sentinel, .sentinel, .sentinel, .sentinel, .sentinel, .sentinel, .sentinel, .sentinel, .sentinel, .sentinel, .sentinel, .sentinel, .sentinel, .sentinel, .sentinel, .sentinel, .sentinel, .sentinel, .sentinel, .sentinel, .sentinel, .sentinel, .sentinel, .sentinel, .sentinel, .sentinel, .sentinel, .pinned], laidTests := true, laidLooks := .later }
def TextsPutCardSaid : Prop := Claim7.holds Tryd.pinned (.plain (OpenSpec.ofChange textsPutSpec)) textsPutCard

/-- THE TIED CARD OF 'bullalaw03.TlvTags'. -/
def tlvTagsCard : Claim7 := { stood := { row := tlvTagsRow, standIns := [], harness := (true, "0afa2a72364075d7ea65363a96217de536ca25d318949930c5586b39a38e645d"), looks := true }, kinds := [], alts := [], laidByText := true, laidKinds := [.sentinel, .sentinel, .sentinel, .sentinel, .sentinel, .sentinel, .sentinel, .sentinel, .sentinel, .sentinel, .sentinel, .sentinel, .sentinel, .sentinel, .sentinel, .sentinel, .sentinel, .sentinel, .sentinel, .sentinel, .sentinel, .sentinel, .sentinel, .sentinel, .sentinel, .sentinel, .sentinel, .sentinel], laidTests := true, laidLooks := .later }
def TlvTagsCardSaid : Prop := Claim7.holds Tryd.pinned (.plain (OpenSpec.ofChange tlvTagsSpec)) tlvTagsCard

/-- THE SECOND FORM's CARD OF 'bullalaw06.MomentsAdd'. -/
def momentsAddUptoCard : Claim7 := { stood := { row := momentsAddUptoRow, standIns := [], harness := (true, "0afa2a72364075d7ea65363a96217de536ca25d318949930c5586b39a38e645d"), looks := true }, kinds := [], alts := [], laidByText := true, laidKinds := [.sentinel, .sentinel, .sentinel, .sentinel, .sentinel, .sentinel, .sentinel, .sentinel, .sentinel, .sentinel, .sentinel, .sentinel, .sentinel, .sentinel, .sentinel, .sentinel, .sentinel, .sentinel, .sentinel, .sentinel, .sentinel, .sentinel, .sentinel, .sentinel, .sentinel, .sentinel, .sentinel, .sentinel], laidTests := true, laidLooks := .later }
def MomentsAddUptoCardSaid : Prop := Claim7.holds Tryd.pinned (.plain (OpenSpec.upto momentsAddSpec)) momentsAddUptoCard

/-- THE SECOND FORM's CARD OF 'bullalaw06.MomentsSeconds'. -/
def momentsSecondsUptoCard : Claim7 := { stood := { row := momentsSecondsUptoRow, standIns := [], harness := (true, "0afa2a72364075d7ea65363a96217de536ca25d318949930c5586b39a38e645d"), looks := true }, kinds := [], alts := [], laidByText := true, laidKinds := [.sentinel, .sentinel, .sentinel, .sentinel, .sentinel, .sentinel, .sentinel, .sentinel, .sentinel, .sentinel, .sentinel, .sentinel, .sentinel, .sentinel, .sentinel, .sentinel, .sentinel, .sentinel, .sentinel, .sentinel, .sentinel, .sentinel, .sentinel, .sentinel, .sentinel, .sentinel, .sentinel, .sentinel], laidTests := true, laidLooks := .later }
def MomentsSecondsUptoCardSaid : Prop := Claim7.holds Tryd.pinned (.plain (OpenSpec.upto momentsSecondsSpec)) momentsSecondsUptoCard

/-- THE SECOND FORM's CARD OF 'bullalaw07.TextsFlags'. -/
def textsFlagsUptoCard : Claim7 := { stood := { row := textsFlagsUptoRow, standIns := [], harness := (true, "0afa2a72364075d7ea65363a96217de536ca25d318949930c5586b39a38e645d"), looks := true }, kinds := [], alts := [], laidByText := true, laidKinds := [.sentinel, .sentinel, .sentinel, .sentinel, .sentinel, .sentinel, .sentinel, .sentinel, .sentinel, .sentinel, .sentinel, .sentinel, .sentinel, .sentinel, .sentinel, .sentinel, .sentinel, .sentinel, .sentinel, .sentinel, .sentinel, .sentinel, .sentinel, .sentinel, .sentinel, .sentinel, .sentinel, .sentinel], laidTests := true, laidLooks := .later }
def TextsFlagsUptoCardSaid : Prop := Claim7.holds Tryd.pinned (.plain (OpenSpec.upto textsFlagsSpec)) textsFlagsUptoCard

/-- THE SECOND FORM's CARD OF 'bullalaw07.TextsMask'. -/
def textsMaskUptoCard : Claim7 := { stood := { row := textsMaskUptoRow, standIns := [], harness := (true, "0afa2a72364075d7ea65363a96217de536ca25d318949930c5586b39a38e645d"), looks := true }, kinds := [], alts := [], laidByText := true, laidKinds := [.sentinel, .sentinel, .sentinel, .sentinel, .sentinel, .sentinel, .sentinel, .sentinel, .sentinel, .sentinel, .sentinel, .sentinel, .sentinel, .sentinel, .sentinel, .sentinel, .sentinel, .sentinel, .sentinel, .sentinel, .sentinel, .sentinel, .sentinel, .sentinel, .sentinel, .sentinel, .sentinel, .sentinel], laidTests := true, laidLooks := .later }
def TextsMaskUptoCardSaid : Prop := Claim7.holds Tryd.pinned (.plain (OpenSpec.upto textsMaskSpec)) textsMaskUptoCard

/-- THE SECOND FORM's CARD OF 'bullalaw35.PostPlays'. -/
def postPlaysUptoCard : Claim7 := { stood := { row := postPlaysUptoRow, standIns := [], harness := (true, "0afa2a72364075d7ea65363a96217de536ca25d318949930c5586b39a38e645d"), looks := true }, kinds := [], alts := [], laidByText := true, laidKinds := [.sentinel, .sentinel, .sentinel, .sentinel, .sentinel, .sentinel, .sentinel, .sentinel, .sentinel, .sentinel, .sentinel, .sentinel, .sentinel, .sentinel, .sentinel, .sentinel, .sentinel, .sentinel, .sentinel, .sentinel, .sentinel, .sentinel, .sentinel, .sentinel, .sentinel, .sentinel, .sentinel, .sentinel], laidTests := true, laidLooks := .later }
def PostPlaysUptoCardSaid : Prop := Claim7.holds Tryd.pinned (.plain (OpenSpec.upto postPlaysSpec)) postPlaysUptoCard

/-- THE SECOND FORM's CARD OF 'bullalaw06.MomentsOf'. -/
def momentsOfUptoCard : Claim7 := { stood := { row := momentsOfUptoRow, standIns := [], harness := (true, "0afa2a72364075d7ea65363a96217de536ca25d318949930c5586b39a38e645d"), looks := true }, kinds := [], alts := [], laidByText := true, laidKinds := [.sentinel, .sentinel, .sentinel, .sentinel, .sentinel, .sentinel, .sentinel, .sentinel, .sentinel, .sentinel, .sentinel, .sentinel, .sentinel, .sentinel, .sentinel, .sentinel, .sentinel, .sentinel, .sentinel, .sentinel, .sentinel, .sentinel, .sentinel, .sentinel, .sentinel, .sentinel, .sentinel, .sentinel], laidTests := true, laidLooks := .later }
def MomentsOfUptoCardSaid : Prop := Claim7.holds Tryd.pinned (.plain (OpenSpec.upto momentsOfSpec)) momentsOfUptoCard

/-- THE SECOND FORM's CARD OF 'bullalaw06.MomentsGet'. -/
def momentsGetUptoCard : Claim7 := { stood := { row := momentsGetUptoRow, standIns := [], harness := (true, "0afa2a72364075d7ea65363a96217de536ca25d318949930c5586b39a38e645d"), looks := true }, kinds := [], alts := [], laidByText := true, laidKinds := [.sentinel, .sentinel, .sentinel, .sentinel, .sentinel, .sentinel, .sentinel, .sentinel, .sentinel, .sentinel, .sentinel, .sentinel, .sentinel, .sentinel, .sentinel, .sentinel, .sentinel, .sentinel, .sentinel, .sentinel, .sentinel, .sentinel, .sentinel, .sentinel, .sentinel, .sentinel, .sentinel, .sentinel], laidTests := true, laidLooks := .later }
def MomentsGetUptoCardSaid : Prop := Claim7.holds Tryd.pinned (.plain (OpenSpec.upto momentsGetSpec)) momentsGetUptoCard

/-- THE SECOND FORM's CARD OF 'bullalaw03.TlvNests'. -/
def tlvNestsUptoCard : Claim7 := { stood := { row := tlvNestsUptoRow, standIns := [], harness := (true, "0afa2a72364075d7ea65363a96217de536ca25d318949930c5586b39a38e645d"), looks := true }, kinds := [], alts := [], laidByText := true, laidKinds := [.sentinel, .sentinel, .sentinel, .sentinel, .sentinel, .sentinel, .sentinel, .sentinel, .sentinel, .sentinel, .sentinel, .sentinel, .sentinel, .sentinel, .sentinel, .sentinel, .sentinel, .sentinel, .sentinel, .sentinel, .sentinel, .sentinel, .sentinel, .sentinel, .sentinel, .sentinel, .sentinel, .sentinel], laidTests := true, laidLooks := .later }
def TlvNestsUptoCardSaid : Prop := Claim7.holds Tryd.pinned (.plain (OpenSpec.upto tlvNestsSpec)) tlvNestsUptoCard

/-- THE SECOND FORM's CARD OF 'bullalaw07.TextsPut'. -/
def textsPutUptoCard : Claim7 := { stood := { row := textsPutUptoRow, standIns := [], harness := (true, "0afa2a72364075d7ea65363a96217de536ca25d318949930c5586b39a38e645d"), looks := true }, kinds := [], alts := [], laidByText := true, laidKinds := [.data, .sentinel, .sentinel, .sentinel, .sentinel, .sentinel, .sentinel, .sentinel, .sentinel, .sentinel, .sentinel, .sentinel, .sentinel, .sentinel, .sentinel, .sentinel, .sentinel, .sentinel, .sentinel, .sentinel, .sentinel, .sentinel, .sentinel, .sentinel, .sentinel, .sentinel, .sentinel, .sentinel, .sentinel, .pinned], laidTests := true, laidLooks := .later }
def TextsPutUptoCardSaid : Prop := Claim7.holds Tryd.pinned (.plain (OpenSpec.upto textsPutSpec)) textsPutUptoCard

/-- THE SECOND FORM's CARD OF 'bullalaw03.TlvTags'. -/
def tlvTagsUptoCard : Claim7 := { stood := { row := tlvTagsUptoRow, standIns := [], harness := (true, "0afa2a72364075d7ea65363a96217de536ca25d318949930c5586b39a38e645d"), looks := true }, kinds := [], alts := [], laidByText := true, laidKinds := [.sentinel, .sentinel, .sentinel, .sentinel, .sentinel, .sentinel, .sentinel, .sentinel, .sentinel, .sentinel, .sentinel, .sentinel, .sentinel, .sentinel, .sentinel, .sentinel, .sentinel, .sentinel, .sentinel, .sentinel, .sentinel, .sentinel, .sentinel, .sentinel, .sentinel, .sentinel, .sentinel, .sentinel], laidTests := true, laidLooks := .later }
def TlvTagsUptoCardSaid : Prop := Claim7.holds Tryd.pinned (.plain (OpenSpec.upto tlvTagsSpec)) tlvTagsUptoCard
end Rows
end Go.Proofs.YtmlnipbeancnpaaDoor
