import Derived.Test.YtngblilamkkikaaGreatDoorW5
namespace Go.Proofs.YtngblilamkkikaaGreatDoor
namespace Ab
open Go Go.RowKit jc
theorem auq:iM ((xP jO eS 1000 60).1 128 [.c (sA (sources.getD 0 []))]) (il 0)=true:=ah
theorem aur:iL Tryz.prog (known 128 [.c (sA (sources.getD 0 []))] (il 0) eS):=xg (jM kg jZ 1000 60 (jN auq)) jZ
theorem aus:iM ((xP jO ((known 128 [.c (sA (sources.getD 0 []))] (il 0) eS)) 1000 60).1 41 [.c (sA (sources.getD 0 []))]) (.cg [.agg (cz ((build (sources.getD 0 [])).getD ⟨[],[],0,0⟩)),.c (iA 0)])=true:=ah
theorem aut:iM ((xP jO eS 1000 60).1 128 [.c (sA (sources.getD 1 []))]) (il 1)=true:=ah
theorem auu:iL Tryz.prog (known 128 [.c (sA (sources.getD 1 []))] (il 1) eS):=xg (jM kg jZ 1000 60 (jN aut)) jZ
theorem auv:iM ((xP jO ((known 128 [.c (sA (sources.getD 1 []))] (il 1) eS)) 1000 60).1 41 [.c (sA (sources.getD 1 []))]) (.cg [.agg (cz ((build (sources.getD 1 [])).getD ⟨[],[],0,0⟩)),.c (iA 0)])=true:=ah
end Ab
end Go.Proofs.YtngblilamkkikaaGreatDoor
