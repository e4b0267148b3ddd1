import Derived.Test.YtngblilamkkikaaGreatDoorW21
namespace Go.Proofs.YtngblilamkkikaaGreatDoor
namespace Ab
open Go Go.RowKit jc
theorem auK:iM ((xP jO eS 1000 60).1 128 [.c (sA (sources.getD 4 []))]) (il 4)=true:=ah
theorem auL:iL Tryz.prog (known 128 [.c (sA (sources.getD 4 []))] (il 4) eS):=xg (jM kg jZ 1000 60 (jN auK)) jZ
theorem auM:iM ((xP jO (Nh ((known 128 [.c (sA (sources.getD 4 []))] (il 4) eS))) 1000 60).1 41 [.c (sA (sources.getD 4 []))]) (.cg [.agg (cz ((build (sources.getD 4 [])).getD ⟨[],[],0,0⟩)),.c (iA 0)])=true:=ah
theorem auN:iM ((xP jO eS 1000 60).1 128 [.c (sA (sources.getD 5 []))]) (il 5)=true:=ah
theorem auO:iL Tryz.prog (known 128 [.c (sA (sources.getD 5 []))] (il 5) eS):=xg (jM kg jZ 1000 60 (jN auN)) jZ
theorem auP:iM ((xP jO (Nh ((known 128 [.c (sA (sources.getD 5 []))] (il 5) eS))) 1000 60).1 41 [.c (sA (sources.getD 5 []))]) (.cg [.agg (cz ((build (sources.getD 5 [])).getD ⟨[],[],0,0⟩)),.c (iA 0)])=true:=ah
end Ab
end Go.Proofs.YtngblilamkkikaaGreatDoor
