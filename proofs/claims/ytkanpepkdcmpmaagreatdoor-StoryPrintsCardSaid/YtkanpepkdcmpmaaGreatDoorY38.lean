import Derived.Test.YtkanpepkdcmpmaaGreatDoorY16
namespace Go.Proofs.YtkanpepkdcmpmaaGreatDoor
namespace Ab
open Go Go.RowKit mG
theorem aBZ:iY ((xP kG fA 1000 60).1 164 [.c (sA (sources.getD 9 []))]) (jf 9)=true:=ah
theorem aCa:iD Tryz.prog (known 164 [.c (sA (sources.getD 9 []))] (jf 9) fA):=xI (jS kW kV 1000 60 (jT aBZ)) kV
theorem aCb:iY ((xP kG ((known 164 [.c (sA (sources.getD 9 []))] (jf 9) fA)) 1000 60).1 65 [.c (sA (sources.getD 9 []))]) (.bD [.agg (cI ((build (sources.getD 9 [])).getD ⟨[],[],0,0⟩)),.c (iA 0)])=true:=ah
theorem aCc:iY ((xP kG fA 1000 60).1 65 [.c (sA (sources.getD 10 []))]) (.bD [.agg (cI ((build (sources.getD 10 [])).getD ⟨[],[],0,0⟩)),.c (iA 0)])=true:=ah
end Ab
end Go.Proofs.YtkanpepkdcmpmaaGreatDoor
