/-
  DERIVED. GIVEN WITH THE SEED: THE CARDS: each row of YtpbbcjkbeodeiaaDoorRows.lean that lists a variable, with what it lists TIED to the program's text (the seventh form; the later family's looks); each row that meets fmt, with fmt's text TOLD by the authors' own Lean function (tested against real Go, not proved from fmt's source: count such statements apart). THE CARD IS WHAT COUNTS. Prove the row's statement (the work); the ties are given (YtpbbcjkbeodeiaaDoorTie.lean); close each card by the builder's one call (the guide's Derived/Test/ToyasCard.lean, 'card_holds'). Laid BY PROGRAM, IN A SANDBOX (cutbox-door.mjs). By AI agents, Wed Nov 11 2026. No macro, syntax, notation, axiom, sorry.
-/
import Derived.Test.YtpbbcjkbeodeiaaDoorRows
import GoSem.ClaimSeven
namespace Go.Proofs.YtpbbcjkbeodeiaaDoor
namespace Rows

/-- THE TIED CARD OF 'warderlaw09.NamesPut'. -/
def namesPutCard : Claim7 := { stood := { row := namesPutRow, standIns := [], harness := (true, "78510987f3fb9e7106e870e439b367fba21b7484cdf97934600052ae8c59672e"), looks := true }, kinds := [], alts := [], laidByText := true, laidKinds := [.data, .pinned], laidTests := true, laidLooks := .later }
def NamesPutCardSaid : Prop := Claim7.holds Tryd.pinned (.plain (OpenSpec.ofChange namesPutSpec)) namesPutCard

/-- THE TIED CARD OF 'warderlaw09.NamesSame'. -/
def namesSameCard : Claim7 := { stood := { row := namesSameRow, standIns := [], harness := (true, "78510987f3fb9e7106e870e439b367fba21b7484cdf97934600052ae8c59672e"), looks := true }, kinds := [], alts := [], laidByText := true, laidKinds := [.data, .pinned], laidTests := true, laidLooks := .later }
def NamesSameCardSaid : Prop := Claim7.holds Tryd.pinned (.plain (OpenSpec.ofChange namesSameSpec)) namesSameCard

/-- THE TIED CARD OF 'warderlaw09.NamesUnder'. -/
def namesUnderCard : Claim7 := { stood := { row := namesUnderRow, standIns := [], harness := (true, "78510987f3fb9e7106e870e439b367fba21b7484cdf97934600052ae8c59672e"), looks := true }, kinds := [], alts := [], laidByText := true, laidKinds := [.data, .pinned], laidTests := true, laidLooks := .later }
def NamesUnderCardSaid : Prop := Claim7.holds Tryd.pinned (.plain (OpenSpec.ofChange namesUnderSpec)) namesUnderCard

/-- THE TIED CARD OF 'warderlaw09.NamesFolded'. -/
def namesFoldedCard : Claim7 := { stood := { row := namesFoldedRow, standIns := [], harness := (true, "78510987f3fb9e7106e870e439b367fba21b7484cdf97934600052ae8c59672e"), looks := true }, kinds := [], alts := [], laidByText := true, laidKinds := [.data, .pinned], laidTests := true, laidLooks := .later }
def NamesFoldedCardSaid : Prop := Claim7.holds Tryd.pinned (.plain (OpenSpec.ofChange namesFoldedSpec)) namesFoldedCard

/-- THE TIED CARD OF 'warderlaw17.KrbTexts'. -/
def krbTextsCard : Claim7 := { stood := { row := krbTextsRow, standIns := [], harness := (true, "78510987f3fb9e7106e870e439b367fba21b7484cdf97934600052ae8c59672e"), looks := true }, kinds := [], alts := [], laidByText := true, laidKinds := [.data, .pinned], laidTests := true, laidLooks := .later }
def KrbTextsCardSaid : Prop := Claim7.holds Tryd.pinned (.plain (OpenSpec.ofChange krbTextsSpec)) krbTextsCard

/-- THE TIED CARD OF 'warderlaw17.KrbSigns'. -/
def krbSignsCard : Claim7 := { stood := { row := krbSignsRow, standIns := [], harness := (true, "78510987f3fb9e7106e870e439b367fba21b7484cdf97934600052ae8c59672e"), looks := true }, kinds := [], alts := [], laidByText := true, laidKinds := [.data, .pinned], laidTests := true, laidLooks := .later }
def KrbSignsCardSaid : Prop := Claim7.holds Tryd.pinned (.plain (OpenSpec.ofChange krbSignsSpec)) krbSignsCard

/-- THE TIED CARD OF 'warderlaw17.KrbUnlike'. -/
def krbUnlikeCard : Claim7 := { stood := { row := krbUnlikeRow, standIns := [], harness := (true, "78510987f3fb9e7106e870e439b367fba21b7484cdf97934600052ae8c59672e"), looks := true }, kinds := [], alts := [], laidByText := true, laidKinds := [.data, .pinned], laidTests := true, laidLooks := .later }
def KrbUnlikeCardSaid : Prop := Claim7.holds Tryd.pinned (.plain (OpenSpec.ofChange krbUnlikeSpec)) krbUnlikeCard

/-- THE SECOND FORM's CARD OF 'warderlaw09.NamesPut'. -/
def namesPutUptoCard : Claim7 := { stood := { row := namesPutUptoRow, standIns := [], harness := (true, "78510987f3fb9e7106e870e439b367fba21b7484cdf97934600052ae8c59672e"), looks := true }, kinds := [], alts := [], laidByText := true, laidKinds := [.data, .pinned], laidTests := true, laidLooks := .later }
def NamesPutUptoCardSaid : Prop := Claim7.holds Tryd.pinned (.plain (OpenSpec.upto namesPutSpec)) namesPutUptoCard

/-- THE SECOND FORM's CARD OF 'warderlaw09.NamesSame'. -/
def namesSameUptoCard : Claim7 := { stood := { row := namesSameUptoRow, standIns := [], harness := (true, "78510987f3fb9e7106e870e439b367fba21b7484cdf97934600052ae8c59672e"), looks := true }, kinds := [], alts := [], laidByText := true, laidKinds := [.data, .pinned], laidTests := true, laidLooks := .later }
def NamesSameUptoCardSaid : Prop := Claim7.holds Tryd.pinned (.plain (OpenSpec.upto namesSameSpec)) namesSameUptoCard

/-- THE SECOND FORM's CARD OF 'warderlaw09.NamesUnder'. -/
def namesUnderUptoCard : Claim7 := { stood := { row := namesUnderUptoRow, standIns := [], harness := (true, "78510987f3fb9e7106e870e439b367fba21b7484cdf97934600052ae8c59672e"), looks := true }, kinds := [], alts := [], laidByText := true, laidKinds := [.data, .pinned], laidTests := true, laidLooks := .later }
def NamesUnderUptoCardSaid : Prop := Claim7.holds Tryd.pinned (.plain (OpenSpec.upto namesUnderSpec)) namesUnderUptoCard

/-- THE SECOND FORM's CARD OF 'warderlaw09.NamesFolded'. -/
def namesFoldedUptoCard : Claim7 := { stood := { row := namesFoldedUptoRow, standIns := [], harness := (true, "78510987f3fb9e7106e870e439b367fba21b7484cdf97934600052ae8c59672e"), looks := true }, kinds := [], alts := [], laidByText := true, laidKinds := [.data, .pinned], laidTests := true, laidLooks := .later }
def NamesFoldedUptoCardSaid : Prop := Claim7.holds Tryd.pinned (.plain (OpenSpec.upto namesFoldedSpec)) namesFoldedUptoCard

/-- THE SECOND FORM's CARD OF 'warderlaw17.KrbTexts'. -/
def krbTextsUptoCard : Claim7 := { stood := { row := krbTextsUptoRow, standIns := [], harness := (true, "78510987f3fb9e7106e870e439b367fba21b7484cdf97934600052ae8c59672e"), looks := true }, kinds := [], alts := [], laidByText := true, laidKinds := [.data, .pinned], laidTests := true, laidLooks := .later }
def KrbTextsUptoCardSaid : Prop := Claim7.holds Tryd.pinned (.plain (OpenSpec.upto krbTextsSpec)) krbTextsUptoCard

/-- THE SECOND FORM's CARD OF 'warderlaw17.KrbSigns'. -/
def krbSignsUptoCard : Claim7 := { stood := { row := krbSignsUptoRow, standIns := [], harness := (true, "78510987f3fb9e7106e870e439b367fba21b7484cdf97934600052ae8c59672e"), looks := true }, kinds := [], alts := [], laidByText := true, laidKinds := [.data, .pinned], laidTests := true, laidLooks := .later }
def KrbSignsUptoCardSaid : Prop := Claim7.holds Tryd.pinned (.plain (OpenSpec.upto krbSignsSpec)) krbSignsUptoCard

/-- THE SECOND FORM's CARD OF 'warderlaw17.KrbUnlike'. -/
def krbUnlikeUptoCard : Claim7 := { stood := { row := krbUnlikeUptoRow, standIns := [], harness := (true, "78510987f3fb9e7106e870e439b367fba21b7484cdf97934600052ae8c59672e"), looks := true }, kinds := [], alts := [], laidByText := true, laidKinds := [.data, .pinned], laidTests := true, laidLooks := .later }
def KrbUnlikeUptoCardSaid : Prop := Claim7.holds Tryd.pinned (.plain (OpenSpec.upto krbUnlikeSpec)) krbUnlikeUptoCard
end Rows
end Go.Proofs.YtpbbcjkbeodeiaaDoor
