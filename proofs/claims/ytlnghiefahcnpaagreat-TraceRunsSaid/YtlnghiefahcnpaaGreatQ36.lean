import Derived.Test.YtlnghiefahcnpaaGreatQ33
set_option maxHeartbeats 40000000
set_option maxRecDepth 100000
set_option linter.all false
namespace Go.Proofs.YtlnghiefahcnpaaGreat
namespace Ab
open Go Go.RowKit dL
theorem auy:gP ((xP ib dU 1000 60).1 48 [.c (sA (sources.getD 5 []))]) (fW 5)=true:=ah
theorem auz:gO Tryz.prog (known 48 [.c (sA (sources.getD 5 []))] (fW 5) dU):=sV (iD iG iF 1000 60 (iE auy)) iF
theorem auA:gP ((xP ib (Gx ((known 48 [.c (sA (sources.getD 5 []))] (fW 5) dU))) 1000 60).1 11 [.c (sA (sources.getD 5 []))]) (.bQ [.agg (bW ((build (sources.getD 5 [])).getD ⟨[],[],0,0⟩)),.c (iA 0)])=true:=ah
end Ab
end Go.Proofs.YtlnghiefahcnpaaGreat
