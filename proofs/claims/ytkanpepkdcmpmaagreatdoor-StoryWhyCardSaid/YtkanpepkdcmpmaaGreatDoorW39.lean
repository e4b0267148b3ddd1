import Derived.Test.YtkanpepkdcmpmaaGreatDoorW21
namespace Go.Proofs.YtkanpepkdcmpmaaGreatDoor
namespace Ab
open Go Go.RowKit mQ
theorem aBH:jh ((xP kN fL 1000 60).1 164 [.c (sA (sources.getD 0 []))]) (jq 0)=true:=ah
theorem aBI:iM Tryz.prog (known 164 [.c (sA (sources.getD 0 []))] (jq 0) fL):=xz (kh lq lp 1000 60 (ki aBH)) lp
theorem aBJ:jh ((xP kN ((known 164 [.c (sA (sources.getD 0 []))] (jq 0) fL)) 1000 60).1 65 [.c (sA (sources.getD 0 []))]) (.bP [.agg (cM ((build (sources.getD 0 [])).getD ⟨[],[],0,0⟩)),.c (iA 0)])=true:=ah
theorem aBK:jh ((xP kN fL 1000 60).1 164 [.c (sA (sources.getD 1 []))]) (jq 1)=true:=ah
theorem aBL:iM Tryz.prog (known 164 [.c (sA (sources.getD 1 []))] (jq 1) fL):=xz (kh lq lp 1000 60 (ki aBK)) lp
theorem aBM:jh ((xP kN ((known 164 [.c (sA (sources.getD 1 []))] (jq 1) fL)) 1000 60).1 65 [.c (sA (sources.getD 1 []))]) (.bP [.agg (cM ((build (sources.getD 1 [])).getD ⟨[],[],0,0⟩)),.c (iA 0)])=true:=ah
end Ab
end Go.Proofs.YtkanpepkdcmpmaaGreatDoor
