import Derived.Test.YtlnghiefahcnpaaGreatQ6
set_option maxHeartbeats 40000000
set_option maxRecDepth 100000
set_option linter.all false
namespace Go.Proofs.YtlnghiefahcnpaaGreat
namespace Ab
open Go Go.RowKit dL
theorem aur:gP ((xP ib dU 1000 60).1 48 [.c (sA (sources.getD 3 []))]) (fW 3)=true:=ah
theorem aus:gO Tryz.prog (known 48 [.c (sA (sources.getD 3 []))] (fW 3) dU):=sV (iD iG iF 1000 60 (iE aur)) iF
theorem aut:gP ((xP ib ((known 48 [.c (sA (sources.getD 3 []))] (fW 3) dU)) 1000 60).1 11 [.c (sA (sources.getD 3 []))]) (.bQ [.agg (bW ((build (sources.getD 3 [])).getD ⟨[],[],0,0⟩)),.c (iA 0)])=true:=ah
end Ab
end Go.Proofs.YtlnghiefahcnpaaGreat
