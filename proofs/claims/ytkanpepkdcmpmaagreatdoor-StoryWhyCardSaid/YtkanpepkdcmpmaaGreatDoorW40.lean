import Derived.Test.YtkanpepkdcmpmaaGreatDoorW21
namespace Go.Proofs.YtkanpepkdcmpmaaGreatDoor
namespace Ab
open Go Go.RowKit mQ
theorem aBN:jh ((xP kN fL 1000 60).1 164 [.c (sA (sources.getD 3 []))]) (jq 3)=true:=ah
theorem aBO:iM Tryz.prog (known 164 [.c (sA (sources.getD 3 []))] (jq 3) fL):=xz (kh lq lp 1000 60 (ki aBN)) lp
theorem aBP:jh ((xP kN ((known 164 [.c (sA (sources.getD 3 []))] (jq 3) fL)) 1000 60).1 65 [.c (sA (sources.getD 3 []))]) (.bP [.agg (cM ((build (sources.getD 3 [])).getD ⟨[],[],0,0⟩)),.c (iA 0)])=true:=ah
theorem aBQ:jh ((xP kN fL 1000 60).1 164 [.c (sA (sources.getD 6 []))]) (jq 6)=true:=ah
theorem aBR:iM Tryz.prog (known 164 [.c (sA (sources.getD 6 []))] (jq 6) fL):=xz (kh lq lp 1000 60 (ki aBQ)) lp
theorem aBS:jh ((xP kN ((known 164 [.c (sA (sources.getD 6 []))] (jq 6) fL)) 1000 60).1 65 [.c (sA (sources.getD 6 []))]) (.bP [.agg (cM ((build (sources.getD 6 [])).getD ⟨[],[],0,0⟩)),.c (iA 0)])=true:=ah
end Ab
end Go.Proofs.YtkanpepkdcmpmaaGreatDoor
