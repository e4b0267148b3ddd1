import Derived.Test.YtkanpepkdcmpmaaGreatDoorW23
namespace Go.Proofs.YtkanpepkdcmpmaaGreatDoor
namespace Ab
open Go Go.RowKit mQ
theorem aBT:jh ((xP kN fL 1000 60).1 164 [.c (sA (sources.getD 4 []))]) (jq 4)=true:=ah
theorem aBU:iM Tryz.prog (known 164 [.c (sA (sources.getD 4 []))] (jq 4) fL):=xz (kh lq lp 1000 60 (ki aBT)) lp
theorem aBV:jh ((xP kN (Pp ((known 164 [.c (sA (sources.getD 4 []))] (jq 4) fL))) 1000 60).1 65 [.c (sA (sources.getD 4 []))]) (.bP [.agg (cM ((build (sources.getD 4 [])).getD ⟨[],[],0,0⟩)),.c (iA 0)])=true:=ah
theorem aBW:jh ((xP kN fL 1000 60).1 164 [.c (sA (sources.getD 5 []))]) (jq 5)=true:=ah
theorem aBX:iM Tryz.prog (known 164 [.c (sA (sources.getD 5 []))] (jq 5) fL):=xz (kh lq lp 1000 60 (ki aBW)) lp
theorem aBY:jh ((xP kN (Pp ((known 164 [.c (sA (sources.getD 5 []))] (jq 5) fL))) 1000 60).1 65 [.c (sA (sources.getD 5 []))]) (.bP [.agg (cM ((build (sources.getD 5 [])).getD ⟨[],[],0,0⟩)),.c (iA 0)])=true:=ah
end Ab
end Go.Proofs.YtkanpepkdcmpmaaGreatDoor
