import Derived.Test.YtkanpepkdcmpmaaGreatDoorY16
namespace Go.Proofs.YtkanpepkdcmpmaaGreatDoor
namespace Ab
open Go Go.RowKit mG
theorem aBH:iY ((xP kG fA 1000 60).1 164 [.c (sA (sources.getD 3 []))]) (jf 3)=true:=ah
theorem aBI:iD Tryz.prog (known 164 [.c (sA (sources.getD 3 []))] (jf 3) fA):=xI (jS kW kV 1000 60 (jT aBH)) kV
theorem aBJ:iY ((xP kG ((known 164 [.c (sA (sources.getD 3 []))] (jf 3) fA)) 1000 60).1 65 [.c (sA (sources.getD 3 []))]) (.bD [.agg (cI ((build (sources.getD 3 [])).getD ⟨[],[],0,0⟩)),.c (iA 0)])=true:=ah
theorem aBK:iY ((xP kG fA 1000 60).1 164 [.c (sA (sources.getD 6 []))]) (jf 6)=true:=ah
theorem aBL:iD Tryz.prog (known 164 [.c (sA (sources.getD 6 []))] (jf 6) fA):=xI (jS kW kV 1000 60 (jT aBK)) kV
theorem aBM:iY ((xP kG ((known 164 [.c (sA (sources.getD 6 []))] (jf 6) fA)) 1000 60).1 65 [.c (sA (sources.getD 6 []))]) (.bD [.agg (cI ((build (sources.getD 6 [])).getD ⟨[],[],0,0⟩)),.c (iA 0)])=true:=ah
end Ab
end Go.Proofs.YtkanpepkdcmpmaaGreatDoor
