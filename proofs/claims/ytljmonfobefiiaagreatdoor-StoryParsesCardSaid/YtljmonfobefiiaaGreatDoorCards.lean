/-
  DERIVED. GIVEN WITH THE SEED: THE CARDS: each row of YtljmonfobefiiaaGreatDoorRows.lean that lists a variable, with what it lists TIED to the program's text (the seventh form; the later family's looks); each row that meets fmt, with fmt's text TOLD by the authors' own Lean function (tested against real Go, not proved from fmt's source: count such statements apart). THE CARD IS WHAT COUNTS. Prove the row's statement (the work); the ties are given (YtljmonfobefiiaaGreatDoorTie.lean); close each card by the builder's one call (the guide's Derived/Test/ToyasCard.lean, 'card_holds'). Laid BY PROGRAM, IN A SANDBOX (cutbox-door.mjs). By AI agents, Wed Nov 11 2026. No macro, syntax, notation, axiom, sorry.
-/
import Derived.Test.YtljmonfobefiiaaGreatDoorRows
import GoSem.ClaimSeven
namespace Go.Proofs.YtljmonfobefiiaaGreatDoor
namespace Rows

/-- THE TIED CARD OF 'simprooflaw29.StoryParses'. -/
def storyParsesCard : Claim7 := { stood := { row := storyParsesRow, standIns := [], harness := (true, "84935187763560c8662b554c00bf6cf77583d271a44393028cef1520d0ac1b3d"), looks := true }, kinds := [], alts := [], laidByText := true, laidKinds := [.data, .data, .data, .data, .sentinel, .sentinel, .pinned], laidTests := true, laidLooks := .later }
def StoryParsesCardSaid : Prop := Claim7.holds Tryz.pinned (.plain (OpenSpec.ofChange storyParsesSpec)) storyParsesCard

/-- THE TIED CARD OF 'simprooflaw29.StoryForms'. -/
def storyFormsCard : Claim7 := { stood := { row := storyFormsRow, standIns := [], harness := (true, "84935187763560c8662b554c00bf6cf77583d271a44393028cef1520d0ac1b3d"), looks := true }, kinds := [], alts := [], laidByText := true, laidKinds := [.data, .data, .data, .data, .sentinel, .sentinel, .pinned], laidTests := true, laidLooks := .later }
def StoryFormsCardSaid : Prop := Claim7.holds Tryz.pinned (.plain (OpenSpec.ofChange storyFormsSpec)) storyFormsCard

/-- THE SECOND FORM's CARD OF 'simprooflaw29.StoryParses'. -/
def storyParsesUptoCard : Claim7 := { stood := { row := storyParsesUptoRow, standIns := [], harness := (true, "84935187763560c8662b554c00bf6cf77583d271a44393028cef1520d0ac1b3d"), looks := true }, kinds := [], alts := [], laidByText := true, laidKinds := [.data, .data, .data, .data, .sentinel, .sentinel, .pinned], laidTests := true, laidLooks := .later }
def StoryParsesUptoCardSaid : Prop := Claim7.holds Tryz.pinned (.plain (OpenSpec.upto storyParsesSpec)) storyParsesUptoCard

/-- THE SECOND FORM's CARD OF 'simprooflaw29.StoryForms'. -/
def storyFormsUptoCard : Claim7 := { stood := { row := storyFormsUptoRow, standIns := [], harness := (true, "84935187763560c8662b554c00bf6cf77583d271a44393028cef1520d0ac1b3d"), looks := true }, kinds := [], alts := [], laidByText := true, laidKinds := [.data, .data, .data, .data, .sentinel, .sentinel, .pinned], laidTests := true, laidLooks := .later }
def StoryFormsUptoCardSaid : Prop := Claim7.holds Tryz.pinned (.plain (OpenSpec.upto storyFormsSpec)) storyFormsUptoCard
end Rows
end Go.Proofs.YtljmonfobefiiaaGreatDoor
