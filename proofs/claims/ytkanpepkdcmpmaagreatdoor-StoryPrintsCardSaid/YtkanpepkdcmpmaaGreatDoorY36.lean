import Derived.Test.YtkanpepkdcmpmaaGreatDoorY18
namespace Go.Proofs.YtkanpepkdcmpmaaGreatDoor
namespace Ab
open Go Go.RowKit mG
theorem aBN:iY ((xP kG fA 1000 60).1 164 [.c (sA (sources.getD 4 []))]) (jf 4)=true:=ah
theorem aBO:iD Tryz.prog (known 164 [.c (sA (sources.getD 4 []))] (jf 4) fA):=xI (jS kW kV 1000 60 (jT aBN)) kV
theorem aBP:iY ((xP kG (Pb ((known 164 [.c (sA (sources.getD 4 []))] (jf 4) fA))) 1000 60).1 65 [.c (sA (sources.getD 4 []))]) (.bD [.agg (cI ((build (sources.getD 4 [])).getD ⟨[],[],0,0⟩)),.c (iA 0)])=true:=ah
theorem aBQ:iY ((xP kG fA 1000 60).1 164 [.c (sA (sources.getD 5 []))]) (jf 5)=true:=ah
theorem aBR:iD Tryz.prog (known 164 [.c (sA (sources.getD 5 []))] (jf 5) fA):=xI (jS kW kV 1000 60 (jT aBQ)) kV
theorem aBS:iY ((xP kG (Pb ((known 164 [.c (sA (sources.getD 5 []))] (jf 5) fA))) 1000 60).1 65 [.c (sA (sources.getD 5 []))]) (.bD [.agg (cI ((build (sources.getD 5 [])).getD ⟨[],[],0,0⟩)),.c (iA 0)])=true:=ah
end Ab
end Go.Proofs.YtkanpepkdcmpmaaGreatDoor
