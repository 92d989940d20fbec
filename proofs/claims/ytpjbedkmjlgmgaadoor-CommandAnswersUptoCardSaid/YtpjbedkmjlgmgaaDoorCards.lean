/-
  DERIVED. GIVEN WITH THE SEED: THE CARDS: each row of YtpjbedkmjlgmgaaDoorRows.lean that lists a variable, with what it lists TIED to the program's text (the seventh form; the later family's looks); each row that meets fmt, with fmt's text TOLD by the authors' own Lean function (tested against real Go, not proved from fmt's source: count such statements apart). THE CARD IS WHAT COUNTS. Prove the row's statement (the work); the ties are given (YtpjbedkmjlgmgaaDoorTie.lean); close each card by the builder's one call (the guide's Derived/Test/ToyasCard.lean, 'card_holds'). Laid BY PROGRAM, IN A SANDBOX (cutbox-door.mjs). By AI agents, Wed Nov 11 2026. No macro, syntax, notation, axiom, sorry.
-/
import Derived.Test.YtpjbedkmjlgmgaaDoorRows
import GoSem.ClaimSeven
namespace Go.Proofs.YtpjbedkmjlgmgaaDoor
namespace Rows

/-- THE TIED CARD OF 'blockwaylaw25.CommandParses'. -/
def commandParsesCard : Claim7 := { stood := { row := commandParsesRow, standIns := [], harness := (true, "fc63b735e76a0bccf6ef923e3fbf759062b9e5594af72ccd1412af9fd4c7abe6"), looks := false }, kinds := [], alts := [], laidByText := true, laidKinds := [.data, .data, .data, .data, .pinned], laidTests := true, laidLooks := .later }
def CommandParsesCardSaid : Prop := Claim7.holds Tryd.pinned (.plain (OpenSpec.ofChange commandParsesSpec)) commandParsesCard

/-- THE TIED CARD OF 'blockwaylaw25.CommandAnswers'. -/
def commandAnswersCard : Claim7 := { stood := { row := commandAnswersRow, standIns := [], harness := (true, "fc63b735e76a0bccf6ef923e3fbf759062b9e5594af72ccd1412af9fd4c7abe6"), looks := false }, kinds := [], alts := [], laidByText := true, laidKinds := [.data, .data, .data, .data, .pinned], laidTests := true, laidLooks := .later }
def CommandAnswersCardSaid : Prop := Claim7.holds Tryd.pinned (.plain (OpenSpec.ofChange commandAnswersSpec)) commandAnswersCard

/-- THE TIED CARD OF 'blockwaylaw25.CommandFormats'. -/
def commandFormatsCard : Claim7 := { stood := { row := commandFormatsRow, standIns := [], harness := (true, "fc63b735e76a0bccf6ef923e3fbf759062b9e5594af72ccd1412af9fd4c7abe6"), looks := false }, kinds := [], alts := [], laidByText := true, laidKinds := [.data, .data, .data, .data, .pinned], laidTests := true, laidLooks := .later }
def CommandFormatsCardSaid : Prop := Claim7.holds Tryd.pinned (.plain (OpenSpec.ofChange commandFormatsSpec)) commandFormatsCard

/-- THE TIED CARD OF 'blockwaylaw25.CommandBack'. -/
def commandBackCard : Claim7 := { stood := { row := commandBackRow, standIns := [], harness := (true, "fc63b735e76a0bccf6ef923e3fbf759062b9e5594af72ccd1412af9fd4c7abe6"), looks := false }, kinds := [], alts := [], laidByText := true, laidKinds := [.data, .data, .data, .data, .pinned], laidTests := true, laidLooks := .later }
def CommandBackCardSaid : Prop := Claim7.holds Tryd.pinned (.plain (OpenSpec.ofChange commandBackSpec)) commandBackCard

/-- THE SECOND FORM's CARD OF 'blockwaylaw25.CommandParses'. -/
def commandParsesUptoCard : Claim7 := { stood := { row := commandParsesUptoRow, standIns := [], harness := (true, "fc63b735e76a0bccf6ef923e3fbf759062b9e5594af72ccd1412af9fd4c7abe6"), looks := false }, kinds := [], alts := [], laidByText := true, laidKinds := [.data, .data, .data, .data, .pinned], laidTests := true, laidLooks := .later }
def CommandParsesUptoCardSaid : Prop := Claim7.holds Tryd.pinned (.plain (OpenSpec.upto commandParsesSpec)) commandParsesUptoCard

/-- THE SECOND FORM's CARD OF 'blockwaylaw25.CommandAnswers'. -/
def commandAnswersUptoCard : Claim7 := { stood := { row := commandAnswersUptoRow, standIns := [], harness := (true, "fc63b735e76a0bccf6ef923e3fbf759062b9e5594af72ccd1412af9fd4c7abe6"), looks := false }, kinds := [], alts := [], laidByText := true, laidKinds := [.data, .data, .data, .data, .pinned], laidTests := true, laidLooks := .later }
def CommandAnswersUptoCardSaid : Prop := Claim7.holds Tryd.pinned (.plain (OpenSpec.upto commandAnswersSpec)) commandAnswersUptoCard

/-- THE SECOND FORM's CARD OF 'blockwaylaw25.CommandFormats'. -/
def commandFormatsUptoCard : Claim7 := { stood := { row := commandFormatsUptoRow, standIns := [], harness := (true, "fc63b735e76a0bccf6ef923e3fbf759062b9e5594af72ccd1412af9fd4c7abe6"), looks := false }, kinds := [], alts := [], laidByText := true, laidKinds := [.data, .data, .data, .data, .pinned], laidTests := true, laidLooks := .later }
def CommandFormatsUptoCardSaid : Prop := Claim7.holds Tryd.pinned (.plain (OpenSpec.upto commandFormatsSpec)) commandFormatsUptoCard

/-- THE SECOND FORM's CARD OF 'blockwaylaw25.CommandBack'. -/
def commandBackUptoCard : Claim7 := { stood := { row := commandBackUptoRow, standIns := [], harness := (true, "fc63b735e76a0bccf6ef923e3fbf759062b9e5594af72ccd1412af9fd4c7abe6"), looks := false }, kinds := [], alts := [], laidByText := true, laidKinds := [.data, .data, .data, .data, .pinned], laidTests := true, laidLooks := .later }
def CommandBackUptoCardSaid : Prop := Claim7.holds Tryd.pinned (.plain (OpenSpec.upto commandBackSpec)) commandBackUptoCard
end Rows
end Go.Proofs.YtpjbedkmjlgmgaaDoor
