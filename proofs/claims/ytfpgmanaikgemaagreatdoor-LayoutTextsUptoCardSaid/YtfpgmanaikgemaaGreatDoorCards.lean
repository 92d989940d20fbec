/-
  DERIVED. GIVEN WITH THE SEED: THE CARDS: each row of YtfpgmanaikgemaaGreatDoorRows.lean that lists a variable, with what it lists TIED to the program's text (the seventh form; the later family's looks); each row that meets fmt, with fmt's text TOLD by the authors' own Lean function (tested against real Go, not proved from fmt's source: count such statements apart). THE CARD IS WHAT COUNTS. Prove the row's statement (the work); the ties are given (YtfpgmanaikgemaaGreatDoorTie.lean); close each card by the builder's one call (the guide's Derived/Test/ToyasCard.lean, 'card_holds'). Laid BY PROGRAM, IN A SANDBOX (cutbox-door.mjs). By AI agents, Wed Nov 11 2026. No macro, syntax, notation, axiom, sorry.
-/
import Derived.Test.YtfpgmanaikgemaaGreatDoorRows
import GoSem.ClaimSeven
namespace Go.Proofs.YtfpgmanaikgemaaGreatDoor
namespace Rows

/-- THE TIED CARD OF 'blockwaylaw02.LayoutTexts'. -/
def layoutTextsCard : Claim7 := { stood := { row := layoutTextsRow, standIns := [], harness := (true, "4859b1214049cb13f6f1ccec13c4cdd89ffeaffd36192d67e49d516ae2e73925"), looks := false }, kinds := [], alts := [], laidByText := true, laidKinds := [.data, .data, .data, .data, .pinned], laidTests := true, laidLooks := .later }
def LayoutTextsCardSaid : Prop := Claim7.holds Tryz.pinned (.plain (OpenSpec.ofChange layoutTextsSpec)) layoutTextsCard

/-- THE TIED CARD OF 'blockwaylaw11.LoaderLoads'. -/
def loaderLoadsCard : Claim7 := { stood := { row := loaderLoadsRow, standIns := [], harness := (true, "4859b1214049cb13f6f1ccec13c4cdd89ffeaffd36192d67e49d516ae2e73925"), looks := false }, kinds := [], alts := [], laidByText := true, laidKinds := [.data, .pinned], laidTests := true, laidLooks := .later }
def LoaderLoadsCardSaid : Prop := Claim7.holds Tryz.pinned (.plain (OpenSpec.ofChange loaderLoadsSpec)) loaderLoadsCard

/-- THE TIED CARD OF 'blockwaylaw11.LoaderExactly'. -/
def loaderExactlyCard : Claim7 := { stood := { row := loaderExactlyRow, standIns := [], harness := (true, "4859b1214049cb13f6f1ccec13c4cdd89ffeaffd36192d67e49d516ae2e73925"), looks := false }, kinds := [], alts := [], laidByText := true, laidKinds := [.data, .pinned], laidTests := true, laidLooks := .later }
def LoaderExactlyCardSaid : Prop := Claim7.holds Tryz.pinned (.plain (OpenSpec.ofChange loaderExactlySpec)) loaderExactlyCard

/-- THE SECOND FORM's CARD OF 'blockwaylaw02.LayoutTexts'. -/
def layoutTextsUptoCard : Claim7 := { stood := { row := layoutTextsUptoRow, standIns := [], harness := (true, "4859b1214049cb13f6f1ccec13c4cdd89ffeaffd36192d67e49d516ae2e73925"), looks := false }, kinds := [], alts := [], laidByText := true, laidKinds := [.data, .data, .data, .data, .pinned], laidTests := true, laidLooks := .later }
def LayoutTextsUptoCardSaid : Prop := Claim7.holds Tryz.pinned (.plain (OpenSpec.upto layoutTextsSpec)) layoutTextsUptoCard

/-- THE SECOND FORM's CARD OF 'blockwaylaw11.LoaderLoads'. -/
def loaderLoadsUptoCard : Claim7 := { stood := { row := loaderLoadsUptoRow, standIns := [], harness := (true, "4859b1214049cb13f6f1ccec13c4cdd89ffeaffd36192d67e49d516ae2e73925"), looks := false }, kinds := [], alts := [], laidByText := true, laidKinds := [.data, .pinned], laidTests := true, laidLooks := .later }
def LoaderLoadsUptoCardSaid : Prop := Claim7.holds Tryz.pinned (.plain (OpenSpec.upto loaderLoadsSpec)) loaderLoadsUptoCard

/-- THE SECOND FORM's CARD OF 'blockwaylaw11.LoaderExactly'. -/
def loaderExactlyUptoCard : Claim7 := { stood := { row := loaderExactlyUptoRow, standIns := [], harness := (true, "4859b1214049cb13f6f1ccec13c4cdd89ffeaffd36192d67e49d516ae2e73925"), looks := false }, kinds := [], alts := [], laidByText := true, laidKinds := [.data, .pinned], laidTests := true, laidLooks := .later }
def LoaderExactlyUptoCardSaid : Prop := Claim7.holds Tryz.pinned (.plain (OpenSpec.upto loaderExactlySpec)) loaderExactlyUptoCard
end Rows
end Go.Proofs.YtfpgmanaikgemaaGreatDoor
