/-
  DERIVED. GIVEN WITH THE SEED: THE CARDS: each row of YtjbklifaekjilaaGreatDoorRows.lean that lists a variable, with what it lists TIED to the program's text (the seventh form; the later family's looks); each row that meets fmt, with fmt's text TOLD by the authors' own Lean function (tested against real Go, not proved from fmt's source: count such statements apart). THE CARD IS WHAT COUNTS. Prove the row's statement (the work); the ties are given (YtjbklifaekjilaaGreatDoorTie.lean); close each card by the builder's one call (the guide's Derived/Test/ToyasCard.lean, 'card_holds'). Laid BY PROGRAM, IN A SANDBOX (cutbox-door.mjs). By AI agents, Wed Nov 11 2026. No macro, syntax, notation, axiom, sorry.
-/
import Derived.Test.YtjbklifaekjilaaGreatDoorRows
import GoSem.ClaimSeven
namespace Go.Proofs.YtjbklifaekjilaaGreatDoor
namespace Rows

/-- THE TIED CARD OF 'blockwaylaw11.LoaderLoads'. -/
def loaderLoadsCard : Claim7 := { stood := { row := loaderLoadsRow, standIns := [], harness := (true, "84e3436c4023a9a2012e5c7ebf48ca4d2ace501687281c6e017cb2b3ed9904e0"), looks := false }, kinds := [], alts := [], laidByText := true, laidKinds := [.data, .pinned], laidTests := true, laidLooks := .later }
def LoaderLoadsCardSaid : Prop := Claim7.holds Tryz.pinned (.plain (OpenSpec.ofChange loaderLoadsSpec)) loaderLoadsCard

/-- THE TIED CARD OF 'blockwaylaw11.LoaderExactly'. -/
def loaderExactlyCard : Claim7 := { stood := { row := loaderExactlyRow, standIns := [], harness := (true, "84e3436c4023a9a2012e5c7ebf48ca4d2ace501687281c6e017cb2b3ed9904e0"), looks := false }, kinds := [], alts := [], laidByText := true, laidKinds := [.data, .pinned], laidTests := true, laidLooks := .later }
def LoaderExactlyCardSaid : Prop := Claim7.holds Tryz.pinned (.plain (OpenSpec.ofChange loaderExactlySpec)) loaderExactlyCard

/-- THE TIED CARD OF 'blockwaylaw11.LoaderSaves'. -/
def loaderSavesCard : Claim7 := { stood := { row := loaderSavesRow, standIns := [], harness := (true, "84e3436c4023a9a2012e5c7ebf48ca4d2ace501687281c6e017cb2b3ed9904e0"), looks := false }, kinds := [], alts := [], laidByText := true, laidKinds := [.data, .data, .data, .data, .pinned], laidTests := true, laidLooks := .later }
def LoaderSavesCardSaid : Prop := Claim7.holds Tryz.pinned (.plain (OpenSpec.ofChange loaderSavesSpec)) loaderSavesCard

/-- THE TIED CARD OF 'blockwaylaw11.LoaderCap'. -/
def loaderCapCard : Claim7 := { stood := { row := loaderCapRow, standIns := [], harness := (true, "84e3436c4023a9a2012e5c7ebf48ca4d2ace501687281c6e017cb2b3ed9904e0"), looks := false }, kinds := [], alts := [], laidByText := true, laidKinds := [.data, .data, .data, .data, .pinned], laidTests := true, laidLooks := .later }
def LoaderCapCardSaid : Prop := Claim7.holds Tryz.pinned (.plain (OpenSpec.ofChange loaderCapSpec)) loaderCapCard

/-- THE TIED CARD OF 'blockwaylaw11.LoaderBack'. -/
def loaderBackCard : Claim7 := { stood := { row := loaderBackRow, standIns := [], harness := (true, "84e3436c4023a9a2012e5c7ebf48ca4d2ace501687281c6e017cb2b3ed9904e0"), looks := false }, kinds := [], alts := [], laidByText := true, laidKinds := [.data, .data, .data, .data, .pinned], laidTests := true, laidLooks := .later }
def LoaderBackCardSaid : Prop := Claim7.holds Tryz.pinned (.plain (OpenSpec.ofChange loaderBackSpec)) loaderBackCard

/-- THE SECOND FORM's CARD OF 'blockwaylaw11.LoaderLoads'. -/
def loaderLoadsUptoCard : Claim7 := { stood := { row := loaderLoadsUptoRow, standIns := [], harness := (true, "84e3436c4023a9a2012e5c7ebf48ca4d2ace501687281c6e017cb2b3ed9904e0"), looks := false }, kinds := [], alts := [], laidByText := true, laidKinds := [.data, .pinned], laidTests := true, laidLooks := .later }
def LoaderLoadsUptoCardSaid : Prop := Claim7.holds Tryz.pinned (.plain (OpenSpec.upto loaderLoadsSpec)) loaderLoadsUptoCard

/-- THE SECOND FORM's CARD OF 'blockwaylaw11.LoaderExactly'. -/
def loaderExactlyUptoCard : Claim7 := { stood := { row := loaderExactlyUptoRow, standIns := [], harness := (true, "84e3436c4023a9a2012e5c7ebf48ca4d2ace501687281c6e017cb2b3ed9904e0"), looks := false }, kinds := [], alts := [], laidByText := true, laidKinds := [.data, .pinned], laidTests := true, laidLooks := .later }
def LoaderExactlyUptoCardSaid : Prop := Claim7.holds Tryz.pinned (.plain (OpenSpec.upto loaderExactlySpec)) loaderExactlyUptoCard

/-- THE SECOND FORM's CARD OF 'blockwaylaw11.LoaderSaves'. -/
def loaderSavesUptoCard : Claim7 := { stood := { row := loaderSavesUptoRow, standIns := [], harness := (true, "84e3436c4023a9a2012e5c7ebf48ca4d2ace501687281c6e017cb2b3ed9904e0"), looks := false }, kinds := [], alts := [], laidByText := true, laidKinds := [.data, .data, .data, .data, .pinned], laidTests := true, laidLooks := .later }
def LoaderSavesUptoCardSaid : Prop := Claim7.holds Tryz.pinned (.plain (OpenSpec.upto loaderSavesSpec)) loaderSavesUptoCard

/-- THE SECOND FORM's CARD OF 'blockwaylaw11.LoaderCap'. -/
def loaderCapUptoCard : Claim7 := { stood := { row := loaderCapUptoRow, standIns := [], harness := (true, "84e3436c4023a9a2012e5c7ebf48ca4d2ace501687281c6e017cb2b3ed9904e0"), looks := false }, kinds := [], alts := [], laidByText := true, laidKinds := [.data, .data, .data, .data, .pinned], laidTests := true, laidLooks := .later }
def LoaderCapUptoCardSaid : Prop := Claim7.holds Tryz.pinned (.plain (OpenSpec.upto loaderCapSpec)) loaderCapUptoCard

/-- THE SECOND FORM's CARD OF 'blockwaylaw11.LoaderBack'. -/
def loaderBackUptoCard : Claim7 := { stood := { row := loaderBackUptoRow, standIns := [], harness := (true, "84e3436c4023a9a2012e5c7ebf48ca4d2ace501687281c6e017cb2b3ed9904e0"), looks := false }, kinds := [], alts := [], laidByText := true, laidKinds := [.data, .data, .data, .data, .pinned], laidTests := true, laidLooks := .later }
def LoaderBackUptoCardSaid : Prop := Claim7.holds Tryz.pinned (.plain (OpenSpec.upto loaderBackSpec)) loaderBackUptoCard
end Rows
end Go.Proofs.YtjbklifaekjilaaGreatDoor
