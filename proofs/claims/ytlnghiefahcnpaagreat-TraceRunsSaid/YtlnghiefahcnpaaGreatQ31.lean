import Derived.Test.YtlnghiefahcnpaaGreatQ6
set_option maxHeartbeats 40000000
set_option maxRecDepth 100000
set_option linter.all false
namespace Go.Proofs.YtlnghiefahcnpaaGreat
namespace Ab
open Go Go.RowKit dL
theorem auf:gP ((xP ib dU 1000 60).1 48 [.c (sA (sources.getD 1 []))]) (fW 1)=true:=ah
theorem aug:gO Tryz.prog (known 48 [.c (sA (sources.getD 1 []))] (fW 1) dU):=sV (iD iG iF 1000 60 (iE auf)) iF
theorem auh:gP ((xP ib ((known 48 [.c (sA (sources.getD 1 []))] (fW 1) dU)) 1000 60).1 11 [.c (sA (sources.getD 1 []))]) (.bQ [.agg (bW ((build (sources.getD 1 [])).getD ⟨[],[],0,0⟩)),.c (iA 0)])=true:=ah
end Ab
end Go.Proofs.YtlnghiefahcnpaaGreat
