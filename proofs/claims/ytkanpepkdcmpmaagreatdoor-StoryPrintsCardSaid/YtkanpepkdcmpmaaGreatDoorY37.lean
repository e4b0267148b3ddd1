import Derived.Test.YtkanpepkdcmpmaaGreatDoorY16
namespace Go.Proofs.YtkanpepkdcmpmaaGreatDoor
namespace Ab
open Go Go.RowKit mG
theorem aBT:iY ((xP kG fA 1000 60).1 164 [.c (sA (sources.getD 7 []))]) (jf 7)=true:=ah
theorem aBU:iD Tryz.prog (known 164 [.c (sA (sources.getD 7 []))] (jf 7) fA):=xI (jS kW kV 1000 60 (jT aBT)) kV
theorem aBV:iY ((xP kG ((known 164 [.c (sA (sources.getD 7 []))] (jf 7) fA)) 1000 60).1 65 [.c (sA (sources.getD 7 []))]) (.bD [.agg (cI ((build (sources.getD 7 [])).getD ⟨[],[],0,0⟩)),.c (iA 0)])=true:=ah
theorem aBW:iY ((xP kG fA 1000 60).1 164 [.c (sA (sources.getD 8 []))]) (jf 8)=true:=ah
theorem aBX:iD Tryz.prog (known 164 [.c (sA (sources.getD 8 []))] (jf 8) fA):=xI (jS kW kV 1000 60 (jT aBW)) kV
theorem aBY:iY ((xP kG ((known 164 [.c (sA (sources.getD 8 []))] (jf 8) fA)) 1000 60).1 65 [.c (sA (sources.getD 8 []))]) (.bD [.agg (cI ((build (sources.getD 8 [])).getD ⟨[],[],0,0⟩)),.c (iA 0)])=true:=ah
end Ab
end Go.Proofs.YtkanpepkdcmpmaaGreatDoor
