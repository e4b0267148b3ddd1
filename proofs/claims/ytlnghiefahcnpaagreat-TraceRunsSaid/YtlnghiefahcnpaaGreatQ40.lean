import Derived.Test.YtlnghiefahcnpaaGreatQ6
set_option maxHeartbeats 40000000
set_option maxRecDepth 100000
set_option linter.all false
namespace Go.Proofs.YtlnghiefahcnpaaGreat
namespace Ab
open Go Go.RowKit dL
theorem auK:gP ((xP ib dU 1000 60).1 48 [.c (sA (sources.getD 9 []))]) (fW 9)=true:=ah
theorem auL:gO Tryz.prog (known 48 [.c (sA (sources.getD 9 []))] (fW 9) dU):=sV (iD iG iF 1000 60 (iE auK)) iF
theorem auM:gP ((xP ib ((known 48 [.c (sA (sources.getD 9 []))] (fW 9) dU)) 1000 60).1 11 [.c (sA (sources.getD 9 []))]) (.bQ [.agg (bW ((build (sources.getD 9 [])).getD ⟨[],[],0,0⟩)),.c (iA 0)])=true:=ah
end Ab
end Go.Proofs.YtlnghiefahcnpaaGreat
