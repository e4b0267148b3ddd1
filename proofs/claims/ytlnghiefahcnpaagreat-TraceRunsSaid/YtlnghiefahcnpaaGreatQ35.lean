import Derived.Test.YtlnghiefahcnpaaGreatQ33
set_option maxHeartbeats 40000000
set_option maxRecDepth 100000
set_option linter.all false
namespace Go.Proofs.YtlnghiefahcnpaaGreat
namespace Ab
open Go Go.RowKit dL
theorem auu:gP ((xP ib dU 1000 60).1 48 [.c (sA (sources.getD 4 []))]) (fW 4)=true:=ah
theorem auv:gO Tryz.prog (known 48 [.c (sA (sources.getD 4 []))] (fW 4) dU):=sV (iD iG iF 1000 60 (iE auu)) iF
theorem auw:gP ((xP ib (Gx ((known 48 [.c (sA (sources.getD 4 []))] (fW 4) dU))) 1000 60).1 11 [.c (sA (sources.getD 4 []))]) (.bQ [.agg (bW ((build (sources.getD 4 [])).getD ⟨[],[],0,0⟩)),.c (iA 0)])=true:=ah
end Ab
end Go.Proofs.YtlnghiefahcnpaaGreat
