/-
  DERIVED. GIVEN WITH THE SEED: THE CARDS: each row of YtkanpepkdcmpmaaGreatDoorRows.lean that lists a variable, with what it lists TIED to the program's text (the seventh form; the later family's looks); each row that meets fmt, with fmt's text TOLD by the authors' own Lean function (tested against real Go, not proved from fmt's source: count such statements apart). THE CARD IS WHAT COUNTS. Prove the row's statement (the work); the ties are given (YtkanpepkdcmpmaaGreatDoorTie.lean); close each card by the builder's one call (the guide's Derived/Test/ToyasCard.lean, 'card_holds'). Laid BY PROGRAM, IN A SANDBOX (cutbox-door.mjs). By AI agents, Wed Nov 11 2026. No macro, syntax, notation, axiom, sorry.
-/
import Derived.Test.YtkanpepkdcmpmaaGreatDoorRows
import GoSem.ClaimSeven
namespace Go.Proofs.YtkanpepkdcmpmaaGreatDoor
namespace Rows

/-- THE TIED CARD OF 'simprooflaw29.StoryPrints'. -/
def storyPrintsCard : Claim7 := { stood := { row := storyPrintsRow, standIns := [], harness := (true, "88d78bb3b2d93f13657459ac48920b8bb0307b7c6a905cd56d26088ceb0a7ff2"), looks := true }, kinds := [], alts := [], laidByText := true, laidKinds := [.data, .data, .data, .data, .sentinel, .sentinel, .pinned], laidTests := true, laidLooks := .later }
def StoryPrintsCardSaid : Prop := Claim7.holds Tryz.pinned (.plain (OpenSpec.ofChange storyPrintsSpec)) storyPrintsCard

/-- THE TIED CARD OF 'simprooflaw29.StoryWhy'. -/
def storyWhyCard : Claim7 := { stood := { row := storyWhyRow, standIns := [], harness := (true, "88d78bb3b2d93f13657459ac48920b8bb0307b7c6a905cd56d26088ceb0a7ff2"), looks := true }, kinds := [], alts := [], laidByText := true, laidKinds := [.data, .data, .data, .data, .sentinel, .sentinel, .pinned], laidTests := true, laidLooks := .later }
def StoryWhyCardSaid : Prop := Claim7.holds Tryz.pinned (.plain (OpenSpec.ofChange storyWhySpec)) storyWhyCard

/-- THE TIED CARD OF 'simprooflaw29.StoryLines'. -/
def storyLinesCard : Claim7 := { stood := { row := storyLinesRow, standIns := [], harness := (true, "88d78bb3b2d93f13657459ac48920b8bb0307b7c6a905cd56d26088ceb0a7ff2"), looks := true }, kinds := [], alts := [], laidByText := true, laidKinds := [.data, .data, .data, .data, .sentinel, .sentinel, .pinned], laidTests := true, laidLooks := .later }
def StoryLinesCardSaid : Prop := Claim7.holds Tryz.pinned (.plain (OpenSpec.ofChange storyLinesSpec)) storyLinesCard

/-- THE TIED CARD OF 'simprooflaw29.StoryClasses'. -/
def storyClassesCard : Claim7 := { stood := { row := storyClassesRow, standIns := [], harness := (true, "88d78bb3b2d93f13657459ac48920b8bb0307b7c6a905cd56d26088ceb0a7ff2"), looks := true }, kinds := [], alts := [], laidByText := true, laidKinds := [.data, .data, .data, .data, .sentinel, .sentinel, .pinned], laidTests := true, laidLooks := .later }
def StoryClassesCardSaid : Prop := Claim7.holds Tryz.pinned (.plain (OpenSpec.ofChange storyClassesSpec)) storyClassesCard

/-- THE SECOND FORM's CARD OF 'simprooflaw29.StoryPrints'. -/
def storyPrintsUptoCard : Claim7 := { stood := { row := storyPrintsUptoRow, standIns := [], harness := (true, "88d78bb3b2d93f13657459ac48920b8bb0307b7c6a905cd56d26088ceb0a7ff2"), looks := true }, kinds := [], alts := [], laidByText := true, laidKinds := [.data, .data, .data, .data, .sentinel, .sentinel, .pinned], laidTests := true, laidLooks := .later }
def StoryPrintsUptoCardSaid : Prop := Claim7.holds Tryz.pinned (.plain (OpenSpec.upto storyPrintsSpec)) storyPrintsUptoCard

/-- THE SECOND FORM's CARD OF 'simprooflaw29.StoryWhy'. -/
def storyWhyUptoCard : Claim7 := { stood := { row := storyWhyUptoRow, standIns := [], harness := (true, "88d78bb3b2d93f13657459ac48920b8bb0307b7c6a905cd56d26088ceb0a7ff2"), looks := true }, kinds := [], alts := [], laidByText := true, laidKinds := [.data, .data, .data, .data, .sentinel, .sentinel, .pinned], laidTests := true, laidLooks := .later }
def StoryWhyUptoCardSaid : Prop := Claim7.holds Tryz.pinned (.plain (OpenSpec.upto storyWhySpec)) storyWhyUptoCard

/-- THE SECOND FORM's CARD OF 'simprooflaw29.StoryLines'. -/
def storyLinesUptoCard : Claim7 := { stood := { row := storyLinesUptoRow, standIns := [], harness := (true, "88d78bb3b2d93f13657459ac48920b8bb0307b7c6a905cd56d26088ceb0a7ff2"), looks := true }, kinds := [], alts := [], laidByText := true, laidKinds := [.data, .data, .data, .data, .sentinel, .sentinel, .pinned], laidTests := true, laidLooks := .later }
def StoryLinesUptoCardSaid : Prop := Claim7.holds Tryz.pinned (.plain (OpenSpec.upto storyLinesSpec)) storyLinesUptoCard

/-- THE SECOND FORM's CARD OF 'simprooflaw29.StoryClasses'. -/
def storyClassesUptoCard : Claim7 := { stood := { row := storyClassesUptoRow, standIns := [], harness := (true, "88d78bb3b2d93f13657459ac48920b8bb0307b7c6a905cd56d26088ceb0a7ff2"), looks := true }, kinds := [], alts := [], laidByText := true, laidKinds := [.data, .data, .data, .data, .sentinel, .sentinel, .pinned], laidTests := true, laidLooks := .later }
def StoryClassesUptoCardSaid : Prop := Claim7.holds Tryz.pinned (.plain (OpenSpec.upto storyClassesSpec)) storyClassesUptoCard
end Rows
end Go.Proofs.YtkanpepkdcmpmaaGreatDoor
