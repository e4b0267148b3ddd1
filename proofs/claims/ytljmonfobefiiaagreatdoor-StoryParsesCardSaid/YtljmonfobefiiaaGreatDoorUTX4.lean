import Derived.Test.YtljmonfobefiiaaGreatDoorUTG6
/- PLAIN LAW of leaving parts out. -/
namespace Go.Proofs.YtljmonfobefiiaaGreatDoor

/-- The list without the members at the places i, i + 1, .. that p names. -/
def dropP {α : Type} (p : Nat → Bool) : Nat → List α → List α
  | _, [] => []
  | i, a :: l => if p i then dropP p (i + 1) l else a :: dropP p (i + 1) l
end Go.Proofs.YtljmonfobefiiaaGreatDoor
