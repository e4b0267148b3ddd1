import Derived.Test.YtkanpepkdcmpmaaGreatDoorY16
namespace Go.Proofs.YtkanpepkdcmpmaaGreatDoor
namespace Ab
open Go Go.RowKit mG
theorem aBB:iY ((xP kG fA 1000 60).1 164 [.c (sA (sources.getD 0 []))]) (jf 0)=true:=ah
theorem aBC:iD Tryz.prog (known 164 [.c (sA (sources.getD 0 []))] (jf 0) fA):=xI (jS kW kV 1000 60 (jT aBB)) kV
theorem aBD:iY ((xP kG ((known 164 [.c (sA (sources.getD 0 []))] (jf 0) fA)) 1000 60).1 65 [.c (sA (sources.getD 0 []))]) (.bD [.agg (cI ((build (sources.getD 0 [])).getD ⟨[],[],0,0⟩)),.c (iA 0)])=true:=ah
theorem aBE:iY ((xP kG fA 1000 60).1 164 [.c (sA (sources.getD 1 []))]) (jf 1)=true:=ah
theorem aBF:iD Tryz.prog (known 164 [.c (sA (sources.getD 1 []))] (jf 1) fA):=xI (jS kW kV 1000 60 (jT aBE)) kV
theorem aBG:iY ((xP kG ((known 164 [.c (sA (sources.getD 1 []))] (jf 1) fA)) 1000 60).1 65 [.c (sA (sources.getD 1 []))]) (.bD [.agg (cI ((build (sources.getD 1 [])).getD ⟨[],[],0,0⟩)),.c (iA 0)])=true:=ah
end Ab
end Go.Proofs.YtkanpepkdcmpmaaGreatDoor
