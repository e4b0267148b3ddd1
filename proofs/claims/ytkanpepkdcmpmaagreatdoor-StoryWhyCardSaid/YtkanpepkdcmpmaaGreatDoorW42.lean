import Derived.Test.YtkanpepkdcmpmaaGreatDoorW21
namespace Go.Proofs.YtkanpepkdcmpmaaGreatDoor
namespace Ab
open Go Go.RowKit mQ
theorem aBZ:jh ((xP kN fL 1000 60).1 164 [.c (sA (sources.getD 7 []))]) (jq 7)=true:=ah
theorem aCa:iM Tryz.prog (known 164 [.c (sA (sources.getD 7 []))] (jq 7) fL):=xz (kh lq lp 1000 60 (ki aBZ)) lp
theorem aCb:jh ((xP kN ((known 164 [.c (sA (sources.getD 7 []))] (jq 7) fL)) 1000 60).1 65 [.c (sA (sources.getD 7 []))]) (.bP [.agg (cM ((build (sources.getD 7 [])).getD ⟨[],[],0,0⟩)),.c (iA 0)])=true:=ah
theorem aCc:jh ((xP kN fL 1000 60).1 164 [.c (sA (sources.getD 8 []))]) (jq 8)=true:=ah
theorem aCd:iM Tryz.prog (known 164 [.c (sA (sources.getD 8 []))] (jq 8) fL):=xz (kh lq lp 1000 60 (ki aCc)) lp
theorem aCe:jh ((xP kN ((known 164 [.c (sA (sources.getD 8 []))] (jq 8) fL)) 1000 60).1 65 [.c (sA (sources.getD 8 []))]) (.bP [.agg (cM ((build (sources.getD 8 [])).getD ⟨[],[],0,0⟩)),.c (iA 0)])=true:=ah
end Ab
end Go.Proofs.YtkanpepkdcmpmaaGreatDoor
