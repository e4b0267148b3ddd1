/-
  DERIVED. GIVEN WITH THE SEED: THE CARDS: each row of YtngblilamkkikaaGreatDoorRows.lean that lists a variable, with what it lists TIED to the program's text (the seventh form; the later family's looks); each row that meets fmt, with fmt's text TOLD by the authors' own Lean function (tested against real Go, not proved from fmt's source: count such statements apart). THE CARD IS WHAT COUNTS. Prove the row's statement (the work); the ties are given (YtngblilamkkikaaGreatDoorTie.lean); close each card by the builder's one call (the guide's Derived/Test/ToyasCard.lean, 'card_holds'). Laid BY PROGRAM, IN A SANDBOX (cutbox-door.mjs). By AI agents, Wed Nov 11 2026. No macro, syntax, notation, axiom, sorry.
-/
import Derived.Test.YtngblilamkkikaaGreatDoorRows
import GoSem.ClaimSeven
namespace Go.Proofs.YtngblilamkkikaaGreatDoor
namespace Rows

/-- THE TIED CARD OF 'simprooflaw29.StoryRound'. -/
def storyRoundCard : Claim7 := { stood := { row := storyRoundRow, standIns := [], harness := (true, "89bca26921e10c84f96327ff1e23afdcaee6addc339c66cee76af05d412d6059"), looks := true }, kinds := [], alts := [], laidByText := true, laidKinds := [.data, .data, .data, .data, .sentinel, .sentinel, .pinned], laidTests := true, laidLooks := .later }
def StoryRoundCardSaid : Prop := Claim7.holds Tryz.pinned (.plain (OpenSpec.ofChange storyRoundSpec)) storyRoundCard

/-- THE SECOND FORM's CARD OF 'simprooflaw29.StoryRound'. -/
def storyRoundUptoCard : Claim7 := { stood := { row := storyRoundUptoRow, standIns := [], harness := (true, "89bca26921e10c84f96327ff1e23afdcaee6addc339c66cee76af05d412d6059"), looks := true }, kinds := [], alts := [], laidByText := true, laidKinds := [.data, .data, .data, .data, .sentinel, .sentinel, .pinned], laidTests := true, laidLooks := .later }
def StoryRoundUptoCardSaid : Prop := Claim7.holds Tryz.pinned (.plain (OpenSpec.upto storyRoundSpec)) storyRoundUptoCard
end Rows
end Go.Proofs.YtngblilamkkikaaGreatDoor
