/-
  DERIVED. GIVEN WITH THE SEED: THE CARDS: each row of YtgpghjmoapffcaaDoorRows.lean that lists a variable, with what it lists TIED to the program's text (the seventh form; the later family's looks); each row that meets fmt, with fmt's text TOLD by the authors' own Lean function (tested against real Go, not proved from fmt's source: count such statements apart). THE CARD IS WHAT COUNTS. Prove the row's statement (the work); the ties are given (YtgpghjmoapffcaaDoorTie.lean); close each card by the builder's one call (the guide's Derived/Test/ToyasCard.lean, 'card_holds'). Laid BY PROGRAM, IN A SANDBOX (cutbox-door.mjs). By AI agents, Wed Nov 11 2026. No macro, syntax, notation, axiom, sorry.
-/
import Derived.Test.YtgpghjmoapffcaaDoorRows
import GoSem.ClaimSeven
namespace Go.Proofs.YtgpghjmoapffcaaDoor
namespace Rows

/-- THE TIED CARD OF 'warderlaw03.TextsRight'. -/
def textsRightCard : Claim7 := { stood := { row := textsRightRow, standIns := [], harness := (true, "c005b2ce5a3c8438c814ea3c4a7a39abf09332d8287d8311a07fe4cf952b75b7"), looks := false }, kinds := [], alts := [], laidByText := true, laidKinds := [.data, .pinned], laidTests := true, laidLooks := .later }
def TextsRightCardSaid : Prop := Claim7.holds Tryd.pinned (.plain (OpenSpec.ofChange textsRightSpec)) textsRightCard

/-- THE TIED CARD OF 'warderlaw03.TextsPreps'. -/
def textsPrepsCard : Claim7 := { stood := { row := textsPrepsRow, standIns := [], harness := (true, "c005b2ce5a3c8438c814ea3c4a7a39abf09332d8287d8311a07fe4cf952b75b7"), looks := false }, kinds := [], alts := [], laidByText := true, laidKinds := [.data, .pinned], laidTests := true, laidLooks := .later }
def TextsPrepsCardSaid : Prop := Claim7.holds Tryd.pinned (.plain (OpenSpec.ofChange textsPrepsSpec)) textsPrepsCard

/-- THE TIED CARD OF 'warderlaw03.TextsAlike'. -/
def textsAlikeCard : Claim7 := { stood := { row := textsAlikeRow, standIns := [], harness := (true, "c005b2ce5a3c8438c814ea3c4a7a39abf09332d8287d8311a07fe4cf952b75b7"), looks := false }, kinds := [], alts := [], laidByText := true, laidKinds := [.data, .pinned], laidTests := true, laidLooks := .later }
def TextsAlikeCardSaid : Prop := Claim7.holds Tryd.pinned (.plain (OpenSpec.ofChange textsAlikeSpec)) textsAlikeCard

/-- THE TIED CARD OF 'warderlaw03.TextsDays'. -/
def textsDaysCard : Claim7 := { stood := { row := textsDaysRow, standIns := [], harness := (true, "c005b2ce5a3c8438c814ea3c4a7a39abf09332d8287d8311a07fe4cf952b75b7"), looks := false }, kinds := [], alts := [], laidByText := true, laidKinds := [.data, .pinned], laidTests := true, laidLooks := .later }
def TextsDaysCardSaid : Prop := Claim7.holds Tryd.pinned (.plain (OpenSpec.ofChange textsDaysSpec)) textsDaysCard

/-- THE TIED CARD OF 'warderlaw03.TextsKinds'. -/
def textsKindsCard : Claim7 := { stood := { row := textsKindsRow, standIns := [], harness := (true, "c005b2ce5a3c8438c814ea3c4a7a39abf09332d8287d8311a07fe4cf952b75b7"), looks := false }, kinds := [], alts := [], laidByText := true, laidKinds := [.data, .pinned], laidTests := true, laidLooks := .later }
def TextsKindsCardSaid : Prop := Claim7.holds Tryd.pinned (.plain (OpenSpec.ofChange textsKindsSpec)) textsKindsCard

/-- THE TIED CARD OF 'warderlaw03.TextsJoined'. -/
def textsJoinedCard : Claim7 := { stood := { row := textsJoinedRow, standIns := [], harness := (true, "c005b2ce5a3c8438c814ea3c4a7a39abf09332d8287d8311a07fe4cf952b75b7"), looks := false }, kinds := [], alts := [], laidByText := true, laidKinds := [.data, .pinned], laidTests := true, laidLooks := .later }
def TextsJoinedCardSaid : Prop := Claim7.holds Tryd.pinned (.plain (OpenSpec.ofChange textsJoinedSpec)) textsJoinedCard

/-- THE TIED CARD OF 'warderlaw03.TextsYears'. -/
def textsYearsCard : Claim7 := { stood := { row := textsYearsRow, standIns := [], harness := (true, "c005b2ce5a3c8438c814ea3c4a7a39abf09332d8287d8311a07fe4cf952b75b7"), looks := false }, kinds := [], alts := [], laidByText := true, laidKinds := [.data, .pinned], laidTests := true, laidLooks := .later }
def TextsYearsCardSaid : Prop := Claim7.holds Tryd.pinned (.plain (OpenSpec.ofChange textsYearsSpec)) textsYearsCard

/-- THE TIED CARD OF 'warderlaw03.TextsTimes'. -/
def textsTimesCard : Claim7 := { stood := { row := textsTimesRow, standIns := [], harness := (true, "c005b2ce5a3c8438c814ea3c4a7a39abf09332d8287d8311a07fe4cf952b75b7"), looks := false }, kinds := [], alts := [], laidByText := true, laidKinds := [.data, .pinned], laidTests := true, laidLooks := .later }
def TextsTimesCardSaid : Prop := Claim7.holds Tryd.pinned (.plain (OpenSpec.ofChange textsTimesSpec)) textsTimesCard

/-- THE TIED CARD OF 'warderlaw03.TextsBack'. -/
def textsBackCard : Claim7 := { stood := { row := textsBackRow, standIns := [], harness := (true, "c005b2ce5a3c8438c814ea3c4a7a39abf09332d8287d8311a07fe4cf952b75b7"), looks := false }, kinds := [], alts := [], laidByText := true, laidKinds := [.data, .pinned], laidTests := true, laidLooks := .later }
def TextsBackCardSaid : Prop := Claim7.holds Tryd.pinned (.plain (OpenSpec.ofChange textsBackSpec)) textsBackCard

/-- THE SECOND FORM's CARD OF 'warderlaw03.TextsRight'. -/
def textsRightUptoCard : Claim7 := { stood := { row := textsRightUptoRow, standIns := [], harness := (true, "c005b2ce5a3c8438c814ea3c4a7a39abf09332d8287d8311a07fe4cf952b75b7"), looks := false }, kinds := [], alts := [], laidByText := true, laidKinds := [.data, .pinned], laidTests := true, laidLooks := .later }
def TextsRightUptoCardSaid : Prop := Claim7.holds Tryd.pinned (.plain (OpenSpec.upto textsRightSpec)) textsRightUptoCard

/-- THE SECOND FORM's CARD OF 'warderlaw03.TextsPreps'. -/
def textsPrepsUptoCard : Claim7 := { stood := { row := textsPrepsUptoRow, standIns := [], harness := (true, "c005b2ce5a3c8438c814ea3c4a7a39abf09332d8287d8311a07fe4cf952b75b7"), looks := false }, kinds := [], alts := [], laidByText := true, laidKinds := [.data, .pinned], laidTests := true, laidLooks := .later }
def TextsPrepsUptoCardSaid : Prop := Claim7.holds Tryd.pinned (.plain (OpenSpec.upto textsPrepsSpec)) textsPrepsUptoCard

/-- THE SECOND FORM's CARD OF 'warderlaw03.TextsAlike'. -/
def textsAlikeUptoCard : Claim7 := { stood := { row := textsAlikeUptoRow, standIns := [], harness := (true, "c005b2ce5a3c8438c814ea3c4a7a39abf09332d8287d8311a07fe4cf952b75b7"), looks := false }, kinds := [], alts := [], laidByText := true, laidKinds := [.data, .pinned], laidTests := true, laidLooks := .later }
def TextsAlikeUptoCardSaid : Prop := Claim7.holds Tryd.pinned (.plain (OpenSpec.upto textsAlikeSpec)) textsAlikeUptoCard

/-- THE SECOND FORM's CARD OF 'warderlaw03.TextsDays'. -/
def textsDaysUptoCard : Claim7 := { stood := { row := textsDaysUptoRow, standIns := [], harness := (true, "c005b2ce5a3c8438c814ea3c4a7a39abf09332d8287d8311a07fe4cf952b75b7"), looks := false }, kinds := [], alts := [], laidByText := true, laidKinds := [.data, .pinned], laidTests := true, laidLooks := .later }
def TextsDaysUptoCardSaid : Prop := Claim7.holds Tryd.pinned (.plain (OpenSpec.upto textsDaysSpec)) textsDaysUptoCard

/-- THE SECOND FORM's CARD OF 'warderlaw03.TextsKinds'. -/
def textsKindsUptoCard : Claim7 := { stood := { row := textsKindsUptoRow, standIns := [], harness := (true, "c005b2ce5a3c8438c814ea3c4a7a39abf09332d8287d8311a07fe4cf952b75b7"), looks := false }, kinds := [], alts := [], laidByText := true, laidKinds := [.data, .pinned], laidTests := true, laidLooks := .later }
def TextsKindsUptoCardSaid : Prop := Claim7.holds Tryd.pinned (.plain (OpenSpec.upto textsKindsSpec)) textsKindsUptoCard

/-- THE SECOND FORM's CARD OF 'warderlaw03.TextsJoined'. -/
def textsJoinedUptoCard : Claim7 := { stood := { row := textsJoinedUptoRow, standIns := [], harness := (true, "c005b2ce5a3c8438c814ea3c4a7a39abf09332d8287d8311a07fe4cf952b75b7"), looks := false }, kinds := [], alts := [], laidByText := true, laidKinds := [.data, .pinned], laidTests := true, laidLooks := .later }
def TextsJoinedUptoCardSaid : Prop := Claim7.holds Tryd.pinned (.plain (OpenSpec.upto textsJoinedSpec)) textsJoinedUptoCard

/-- THE SECOND FORM's CARD OF 'warderlaw03.TextsYears'. -/
def textsYearsUptoCard : Claim7 := { stood := { row := textsYearsUptoRow, standIns := [], harness := (true, "c005b2ce5a3c8438c814ea3c4a7a39abf09332d8287d8311a07fe4cf952b75b7"), looks := false }, kinds := [], alts := [], laidByText := true, laidKinds := [.data, .pinned], laidTests := true, laidLooks := .later }
def TextsYearsUptoCardSaid : Prop := Claim7.holds Tryd.pinned (.plain (OpenSpec.upto textsYearsSpec)) textsYearsUptoCard

/-- THE SECOND FORM's CARD OF 'warderlaw03.TextsTimes'. -/
def textsTimesUptoCard : Claim7 := { stood := { row := textsTimesUptoRow, standIns := [], harness := (true, "c005b2ce5a3c8438c814ea3c4a7a39abf09332d8287d8311a07fe4cf952b75b7"), looks := false }, kinds := [], alts := [], laidByText := true, laidKinds := [.data, .pinned], laidTests := true, laidLooks := .later }
def TextsTimesUptoCardSaid : Prop := Claim7.holds Tryd.pinned (.plain (OpenSpec.upto textsTimesSpec)) textsTimesUptoCard

/-- THE SECOND FORM's CARD OF 'warderlaw03.TextsBack'. -/
def textsBackUptoCard : Claim7 := { stood := { row := textsBackUptoRow, standIns := [], harness := (true, "c005b2ce5a3c8438c814ea3c4a7a39abf09332d8287d8311a07fe4cf952b75b7"), looks := false }, kinds := [], alts := [], laidByText := true, laidKinds := [.data, .pinned], laidTests := true, laidLooks := .later }
def TextsBackUptoCardSaid : Prop := Claim7.holds Tryd.pinned (.plain (OpenSpec.upto textsBackSpec)) textsBackUptoCard
end Rows
end Go.Proofs.YtgpghjmoapffcaaDoor
