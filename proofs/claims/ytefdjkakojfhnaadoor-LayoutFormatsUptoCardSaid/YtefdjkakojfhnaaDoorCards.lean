/-
  DERIVED. GIVEN WITH THE SEED: THE CARDS: each row of YtefdjkakojfhnaaDoorRows.lean that lists a variable, with what it lists TIED to the program's text (the seventh form; the later family's looks); each row that meets fmt, with fmt's text TOLD by the authors' own Lean function (tested against real Go, not proved from fmt's source: count such statements apart). THE CARD IS WHAT COUNTS. Prove the row's statement (the work); the ties are given (YtefdjkakojfhnaaDoorTie.lean); close each card by the builder's one call (the guide's Derived/Test/ToyasCard.lean, 'card_holds'). Laid BY PROGRAM, IN A SANDBOX (cutbox-door.mjs). By AI agents, Wed Nov 11 2026. No macro, syntax, notation, axiom, sorry.
-/
import Derived.Test.YtefdjkakojfhnaaDoorRows
import GoSem.ClaimSeven
namespace Go.Proofs.YtefdjkakojfhnaaDoor
namespace Rows

/-- THE TIED CARD OF 'blockwaylaw01.FieldsLines'. -/
def fieldsLinesCard : Claim7 := { stood := { row := fieldsLinesRow, standIns := [], harness := (true, "cf6bad4a57a79486d368a2d1dd74515cbcdde4db7420c37c933e5b680e16f576"), looks := false }, kinds := [], alts := [], laidByText := true, laidKinds := [.data, .pinned], laidTests := true, laidLooks := .later }
def FieldsLinesCardSaid : Prop := Claim7.holds Tryd.pinned (.plain (OpenSpec.ofChange fieldsLinesSpec)) fieldsLinesCard

/-- THE TIED CARD OF 'blockwaylaw01.FieldsWords'. -/
def fieldsWordsCard : Claim7 := { stood := { row := fieldsWordsRow, standIns := [], harness := (true, "cf6bad4a57a79486d368a2d1dd74515cbcdde4db7420c37c933e5b680e16f576"), looks := false }, kinds := [], alts := [], laidByText := true, laidKinds := [.data, .pinned], laidTests := true, laidLooks := .later }
def FieldsWordsCardSaid : Prop := Claim7.holds Tryd.pinned (.plain (OpenSpec.ofChange fieldsWordsSpec)) fieldsWordsCard

/-- THE TIED CARD OF 'blockwaylaw01.FieldsFirst'. -/
def fieldsFirstCard : Claim7 := { stood := { row := fieldsFirstRow, standIns := [], harness := (true, "cf6bad4a57a79486d368a2d1dd74515cbcdde4db7420c37c933e5b680e16f576"), looks := false }, kinds := [], alts := [], laidByText := true, laidKinds := [.data, .pinned], laidTests := true, laidLooks := .later }
def FieldsFirstCardSaid : Prop := Claim7.holds Tryd.pinned (.plain (OpenSpec.ofChange fieldsFirstSpec)) fieldsFirstCard

/-- THE TIED CARD OF 'blockwaylaw01.FieldsNumbers'. -/
def fieldsNumbersCard : Claim7 := { stood := { row := fieldsNumbersRow, standIns := [], harness := (true, "cf6bad4a57a79486d368a2d1dd74515cbcdde4db7420c37c933e5b680e16f576"), looks := false }, kinds := [], alts := [], laidByText := true, laidKinds := [.data, .pinned], laidTests := true, laidLooks := .later }
def FieldsNumbersCardSaid : Prop := Claim7.holds Tryd.pinned (.plain (OpenSpec.ofChange fieldsNumbersSpec)) fieldsNumbersCard

/-- THE TIED CARD OF 'blockwaylaw02.LayoutFormats'. -/
def layoutFormatsCard : Claim7 := { stood := { row := layoutFormatsRow, standIns := [], harness := (true, "cf6bad4a57a79486d368a2d1dd74515cbcdde4db7420c37c933e5b680e16f576"), looks := false }, kinds := [], alts := [], laidByText := true, laidKinds := [.data, .data, .data], laidTests := true, laidLooks := .later }
def LayoutFormatsCardSaid : Prop := Claim7.holds Tryd.pinned (.plain (OpenSpec.ofChange layoutFormatsSpec)) layoutFormatsCard

/-- THE TIED CARD OF 'blockwaylaw02.LayoutBack'. -/
def layoutBackCard : Claim7 := { stood := { row := layoutBackRow, standIns := [], harness := (true, "cf6bad4a57a79486d368a2d1dd74515cbcdde4db7420c37c933e5b680e16f576"), looks := false }, kinds := [], alts := [], laidByText := true, laidKinds := [.data, .data, .data], laidTests := true, laidLooks := .later }
def LayoutBackCardSaid : Prop := Claim7.holds Tryd.pinned (.plain (OpenSpec.ofChange layoutBackSpec)) layoutBackCard

/-- THE TIED CARD OF 'blockwaylaw01.FieldsJoins'. -/
def fieldsJoinsCard : Claim7 := { stood := { row := fieldsJoinsRow, standIns := [], harness := (true, "cf6bad4a57a79486d368a2d1dd74515cbcdde4db7420c37c933e5b680e16f576"), looks := false }, kinds := [], alts := [], laidByText := true, laidKinds := [.data, .pinned], laidTests := true, laidLooks := .later }
def FieldsJoinsCardSaid : Prop := Claim7.holds Tryd.pinned (.plain (OpenSpec.ofChange fieldsJoinsSpec)) fieldsJoinsCard

/-- THE TIED CARD OF 'blockwaylaw01.FieldsBack'. -/
def fieldsBackCard : Claim7 := { stood := { row := fieldsBackRow, standIns := [], harness := (true, "cf6bad4a57a79486d368a2d1dd74515cbcdde4db7420c37c933e5b680e16f576"), looks := false }, kinds := [], alts := [], laidByText := true, laidKinds := [.data, .pinned], laidTests := true, laidLooks := .later }
def FieldsBackCardSaid : Prop := Claim7.holds Tryd.pinned (.plain (OpenSpec.ofChange fieldsBackSpec)) fieldsBackCard

/-- THE SECOND FORM's CARD OF 'blockwaylaw01.FieldsLines'. -/
def fieldsLinesUptoCard : Claim7 := { stood := { row := fieldsLinesUptoRow, standIns := [], harness := (true, "cf6bad4a57a79486d368a2d1dd74515cbcdde4db7420c37c933e5b680e16f576"), looks := false }, kinds := [], alts := [], laidByText := true, laidKinds := [.data, .pinned], laidTests := true, laidLooks := .later }
def FieldsLinesUptoCardSaid : Prop := Claim7.holds Tryd.pinned (.plain (OpenSpec.upto fieldsLinesSpec)) fieldsLinesUptoCard

/-- THE SECOND FORM's CARD OF 'blockwaylaw01.FieldsWords'. -/
def fieldsWordsUptoCard : Claim7 := { stood := { row := fieldsWordsUptoRow, standIns := [], harness := (true, "cf6bad4a57a79486d368a2d1dd74515cbcdde4db7420c37c933e5b680e16f576"), looks := false }, kinds := [], alts := [], laidByText := true, laidKinds := [.data, .pinned], laidTests := true, laidLooks := .later }
def FieldsWordsUptoCardSaid : Prop := Claim7.holds Tryd.pinned (.plain (OpenSpec.upto fieldsWordsSpec)) fieldsWordsUptoCard

/-- THE SECOND FORM's CARD OF 'blockwaylaw01.FieldsFirst'. -/
def fieldsFirstUptoCard : Claim7 := { stood := { row := fieldsFirstUptoRow, standIns := [], harness := (true, "cf6bad4a57a79486d368a2d1dd74515cbcdde4db7420c37c933e5b680e16f576"), looks := false }, kinds := [], alts := [], laidByText := true, laidKinds := [.data, .pinned], laidTests := true, laidLooks := .later }
def FieldsFirstUptoCardSaid : Prop := Claim7.holds Tryd.pinned (.plain (OpenSpec.upto fieldsFirstSpec)) fieldsFirstUptoCard

/-- THE SECOND FORM's CARD OF 'blockwaylaw01.FieldsNumbers'. -/
def fieldsNumbersUptoCard : Claim7 := { stood := { row := fieldsNumbersUptoRow, standIns := [], harness := (true, "cf6bad4a57a79486d368a2d1dd74515cbcdde4db7420c37c933e5b680e16f576"), looks := false }, kinds := [], alts := [], laidByText := true, laidKinds := [.data, .pinned], laidTests := true, laidLooks := .later }
def FieldsNumbersUptoCardSaid : Prop := Claim7.holds Tryd.pinned (.plain (OpenSpec.upto fieldsNumbersSpec)) fieldsNumbersUptoCard

/-- THE SECOND FORM's CARD OF 'blockwaylaw02.LayoutFormats'. -/
def layoutFormatsUptoCard : Claim7 := { stood := { row := layoutFormatsUptoRow, standIns := [], harness := (true, "cf6bad4a57a79486d368a2d1dd74515cbcdde4db7420c37c933e5b680e16f576"), looks := false }, kinds := [], alts := [], laidByText := true, laidKinds := [.data, .data, .data], laidTests := true, laidLooks := .later }
def LayoutFormatsUptoCardSaid : Prop := Claim7.holds Tryd.pinned (.plain (OpenSpec.upto layoutFormatsSpec)) layoutFormatsUptoCard

/-- THE SECOND FORM's CARD OF 'blockwaylaw02.LayoutBack'. -/
def layoutBackUptoCard : Claim7 := { stood := { row := layoutBackUptoRow, standIns := [], harness := (true, "cf6bad4a57a79486d368a2d1dd74515cbcdde4db7420c37c933e5b680e16f576"), looks := false }, kinds := [], alts := [], laidByText := true, laidKinds := [.data, .data, .data], laidTests := true, laidLooks := .later }
def LayoutBackUptoCardSaid : Prop := Claim7.holds Tryd.pinned (.plain (OpenSpec.upto layoutBackSpec)) layoutBackUptoCard

/-- THE SECOND FORM's CARD OF 'blockwaylaw01.FieldsJoins'. -/
def fieldsJoinsUptoCard : Claim7 := { stood := { row := fieldsJoinsUptoRow, standIns := [], harness := (true, "cf6bad4a57a79486d368a2d1dd74515cbcdde4db7420c37c933e5b680e16f576"), looks := false }, kinds := [], alts := [], laidByText := true, laidKinds := [.data, .pinned], laidTests := true, laidLooks := .later }
def FieldsJoinsUptoCardSaid : Prop := Claim7.holds Tryd.pinned (.plain (OpenSpec.upto fieldsJoinsSpec)) fieldsJoinsUptoCard

/-- THE SECOND FORM's CARD OF 'blockwaylaw01.FieldsBack'. -/
def fieldsBackUptoCard : Claim7 := { stood := { row := fieldsBackUptoRow, standIns := [], harness := (true, "cf6bad4a57a79486d368a2d1dd74515cbcdde4db7420c37c933e5b680e16f576"), looks := false }, kinds := [], alts := [], laidByText := true, laidKinds := [.data, .pinned], laidTests := true, laidLooks := .later }
def FieldsBackUptoCardSaid : Prop := Claim7.holds Tryd.pinned (.plain (OpenSpec.upto fieldsBackSpec)) fieldsBackUptoCard
end Rows
end Go.Proofs.YtefdjkakojfhnaaDoor
