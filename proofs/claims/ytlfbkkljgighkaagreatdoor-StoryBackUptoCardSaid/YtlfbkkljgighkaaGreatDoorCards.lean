/-
  DERIVED. GIVEN WITH THE SEED: THE CARDS: each row of YtlfbkkljgighkaaGreatDoorRows.lean that lists a variable, with what it lists TIED to the program's text (the seventh form; the later family's looks); each row that meets fmt, with fmt's text TOLD by the authors' own Lean function (tested against real Go, not proved from fmt's source: count such statements apart). THE CARD IS WHAT COUNTS. Prove the row's statement (the work); the ties are given (YtlfbkkljgighkaaGreatDoorTie.lean); close each card by the builder's one call (the guide's Derived/Test/ToyasCard.lean, 'card_holds'). Laid BY PROGRAM, IN A SANDBOX (cutbox-door.mjs). By AI agents, Wed Nov 11 2026. No macro, syntax, notation, axiom, sorry.
-/
import Derived.Test.YtlfbkkljgighkaaGreatDoorRows
import GoSem.ClaimSeven
namespace Go.Proofs.YtlfbkkljgighkaaGreatDoor
namespace Rows

/-- THE TIED CARD OF 'blockwaylaw31.StoryParses'. -/
def storyParsesCard : Claim7 := { stood := { row := storyParsesRow, standIns := [], harness := (true, "5cbd0afa3481780aeafca3853ec848ab7a42dff44d70d8ed8864b77dba9d231d"), looks := true }, kinds := [], alts := [], laidByText := true, laidKinds := [.data, .data, .data, .data, .pinned], laidTests := true, laidLooks := .later }
def StoryParsesCardSaid : Prop := Claim7.holds Tryz.pinned (.plain (OpenSpec.ofChange storyParsesSpec)) storyParsesCard

/-- THE TIED CARD OF 'blockwaylaw31.StoryBack'. -/
def storyBackCard : Claim7 := { stood := { row := storyBackRow, standIns := [], harness := (true, "5cbd0afa3481780aeafca3853ec848ab7a42dff44d70d8ed8864b77dba9d231d"), looks := true }, kinds := [], alts := [], laidByText := true, laidKinds := [.data, .data, .data, .data, .pinned], laidTests := true, laidLooks := .later }
def StoryBackCardSaid : Prop := Claim7.holds Tryz.pinned (.plain (OpenSpec.ofChange storyBackSpec)) storyBackCard

/-- THE SECOND FORM's CARD OF 'blockwaylaw31.StoryParses'. -/
def storyParsesUptoCard : Claim7 := { stood := { row := storyParsesUptoRow, standIns := [], harness := (true, "5cbd0afa3481780aeafca3853ec848ab7a42dff44d70d8ed8864b77dba9d231d"), looks := true }, kinds := [], alts := [], laidByText := true, laidKinds := [.data, .data, .data, .data, .pinned], laidTests := true, laidLooks := .later }
def StoryParsesUptoCardSaid : Prop := Claim7.holds Tryz.pinned (.plain (OpenSpec.upto storyParsesSpec)) storyParsesUptoCard

/-- THE SECOND FORM's CARD OF 'blockwaylaw31.StoryBack'. -/
def storyBackUptoCard : Claim7 := { stood := { row := storyBackUptoRow, standIns := [], harness := (true, "5cbd0afa3481780aeafca3853ec848ab7a42dff44d70d8ed8864b77dba9d231d"), looks := true }, kinds := [], alts := [], laidByText := true, laidKinds := [.data, .data, .data, .data, .pinned], laidTests := true, laidLooks := .later }
def StoryBackUptoCardSaid : Prop := Claim7.holds Tryz.pinned (.plain (OpenSpec.upto storyBackSpec)) storyBackUptoCard
end Rows
end Go.Proofs.YtlfbkkljgighkaaGreatDoor
