import Derived.Test.YtljmonfobefiiaaGreatDoorUBase
import Derived.Test.YtljmonfobefiiaaGreatDoorUTX1
/- slices.Index, slices.Contains (ints). -/
namespace Go.Proofs.YtljmonfobefiiaaGreatDoor
open Go.RowKit

end Go.Proofs.YtljmonfobefiiaaGreatDoor

/- tape.Without. (Printed by mkX6.py, then gen.py.) -/
namespace Go.Proofs.YtljmonfobefiiaaGreatDoor
open Go.RowKit

end Go.Proofs.YtljmonfobefiiaaGreatDoor
