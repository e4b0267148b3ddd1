import Derived.Test.YtngblilamkkikaaGreatDoorW5
namespace Go.Proofs.YtngblilamkkikaaGreatDoor
namespace Ab
open Go Go.RowKit jc
theorem auZ:iM ((xP jO eS 1000 60).1 128 [.c (sA (sources.getD 9 []))]) (il 9)=true:=ah
theorem ava:iL Tryz.prog (known 128 [.c (sA (sources.getD 9 []))] (il 9) eS):=xg (jM kg jZ 1000 60 (jN auZ)) jZ
theorem avb:iM ((xP jO ((known 128 [.c (sA (sources.getD 9 []))] (il 9) eS)) 1000 60).1 41 [.c (sA (sources.getD 9 []))]) (.cg [.agg (cz ((build (sources.getD 9 [])).getD ⟨[],[],0,0⟩)),.c (iA 0)])=true:=ah
theorem avc:iM ((xP jO eS 1000 60).1 41 [.c (sA (sources.getD 10 []))]) (.cg [.agg (cz ((build (sources.getD 10 [])).getD ⟨[],[],0,0⟩)),.c (iA 0)])=true:=ah
end Ab
end Go.Proofs.YtngblilamkkikaaGreatDoor
