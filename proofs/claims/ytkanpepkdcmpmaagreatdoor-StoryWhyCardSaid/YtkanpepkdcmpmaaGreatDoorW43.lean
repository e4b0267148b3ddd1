import Derived.Test.YtkanpepkdcmpmaaGreatDoorW21
namespace Go.Proofs.YtkanpepkdcmpmaaGreatDoor
namespace Ab
open Go Go.RowKit mQ
theorem aCf:jh ((xP kN fL 1000 60).1 164 [.c (sA (sources.getD 9 []))]) (jq 9)=true:=ah
theorem aCg:iM Tryz.prog (known 164 [.c (sA (sources.getD 9 []))] (jq 9) fL):=xz (kh lq lp 1000 60 (ki aCf)) lp
theorem aCh:jh ((xP kN ((known 164 [.c (sA (sources.getD 9 []))] (jq 9) fL)) 1000 60).1 65 [.c (sA (sources.getD 9 []))]) (.bP [.agg (cM ((build (sources.getD 9 [])).getD ⟨[],[],0,0⟩)),.c (iA 0)])=true:=ah
theorem aCi:jh ((xP kN fL 1000 60).1 65 [.c (sA (sources.getD 10 []))]) (.bP [.agg (cM ((build (sources.getD 10 [])).getD ⟨[],[],0,0⟩)),.c (iA 0)])=true:=ah
end Ab
end Go.Proofs.YtkanpepkdcmpmaaGreatDoor
