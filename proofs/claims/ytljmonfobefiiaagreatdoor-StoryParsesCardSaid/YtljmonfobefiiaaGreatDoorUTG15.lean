import Derived.Test.YtljmonfobefiiaaGreatDoorUTF4
import Derived.Test.YtljmonfobefiiaaGreatDoorUTG11
/- lives: the example of the section. -/
namespace Go.Proofs.YtljmonfobefiiaaGreatDoor
open Go.RowKit Go.Maps

def q0 : Qn := ⟨0, 0, 0, 1, 0⟩
end Go.Proofs.YtljmonfobefiiaaGreatDoor
