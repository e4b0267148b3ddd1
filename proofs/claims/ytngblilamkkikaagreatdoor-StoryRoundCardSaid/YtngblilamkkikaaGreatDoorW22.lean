import Derived.Test.YtngblilamkkikaaGreatDoorW5
namespace Go.Proofs.YtngblilamkkikaaGreatDoor
namespace Ab
open Go Go.RowKit jc
theorem auH:iM ((xP jO eS 1000 60).1 128 [.c (sA (sources.getD 3 []))]) (il 3)=true:=ah
theorem auI:iL Tryz.prog (known 128 [.c (sA (sources.getD 3 []))] (il 3) eS):=xg (jM kg jZ 1000 60 (jN auH)) jZ
theorem auJ:iM ((xP jO ((known 128 [.c (sA (sources.getD 3 []))] (il 3) eS)) 1000 60).1 41 [.c (sA (sources.getD 3 []))]) (.cg [.agg (cz ((build (sources.getD 3 [])).getD ⟨[],[],0,0⟩)),.c (iA 0)])=true:=ah
theorem auQ:iM ((xP jO eS 1000 60).1 128 [.c (sA (sources.getD 6 []))]) (il 6)=true:=ah
theorem auR:iL Tryz.prog (known 128 [.c (sA (sources.getD 6 []))] (il 6) eS):=xg (jM kg jZ 1000 60 (jN auQ)) jZ
theorem auS:iM ((xP jO ((known 128 [.c (sA (sources.getD 6 []))] (il 6) eS)) 1000 60).1 41 [.c (sA (sources.getD 6 []))]) (.cg [.agg (cz ((build (sources.getD 6 [])).getD ⟨[],[],0,0⟩)),.c (iA 0)])=true:=ah
end Ab
end Go.Proofs.YtngblilamkkikaaGreatDoor
