import Derived.Test.YtngblilamkkikaaGreatDoorW5
namespace Go.Proofs.YtngblilamkkikaaGreatDoor
namespace Ab
open Go Go.RowKit jc
theorem auT:iM ((xP jO eS 1000 60).1 128 [.c (sA (sources.getD 7 []))]) (il 7)=true:=ah
theorem auU:iL Tryz.prog (known 128 [.c (sA (sources.getD 7 []))] (il 7) eS):=xg (jM kg jZ 1000 60 (jN auT)) jZ
theorem auV:iM ((xP jO ((known 128 [.c (sA (sources.getD 7 []))] (il 7) eS)) 1000 60).1 41 [.c (sA (sources.getD 7 []))]) (.cg [.agg (cz ((build (sources.getD 7 [])).getD ⟨[],[],0,0⟩)),.c (iA 0)])=true:=ah
theorem auW:iM ((xP jO eS 1000 60).1 128 [.c (sA (sources.getD 8 []))]) (il 8)=true:=ah
theorem auX:iL Tryz.prog (known 128 [.c (sA (sources.getD 8 []))] (il 8) eS):=xg (jM kg jZ 1000 60 (jN auW)) jZ
theorem auY:iM ((xP jO ((known 128 [.c (sA (sources.getD 8 []))] (il 8) eS)) 1000 60).1 41 [.c (sA (sources.getD 8 []))]) (.cg [.agg (cz ((build (sources.getD 8 [])).getD ⟨[],[],0,0⟩)),.c (iA 0)])=true:=ah
end Ab
end Go.Proofs.YtngblilamkkikaaGreatDoor
