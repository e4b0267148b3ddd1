import Derived.Test.YtlnghiefahcnpaaGreatQ6
set_option maxHeartbeats 40000000
set_option maxRecDepth 100000
set_option linter.all false
namespace Go.Proofs.YtlnghiefahcnpaaGreat
namespace Ab
open Go Go.RowKit dL
theorem auc:gP ((xP ib dU 1000 60).1 48 [.c (sA (sources.getD 0 []))]) (fW 0)=true:=ah
theorem aud:gO Tryz.prog (known 48 [.c (sA (sources.getD 0 []))] (fW 0) dU):=sV (iD iG iF 1000 60 (iE auc)) iF
theorem aue:gP ((xP ib ((known 48 [.c (sA (sources.getD 0 []))] (fW 0) dU)) 1000 60).1 11 [.c (sA (sources.getD 0 []))]) (.bQ [.agg (bW ((build (sources.getD 0 [])).getD ⟨[],[],0,0⟩)),.c (iA 0)])=true:=ah
end Ab
end Go.Proofs.YtlnghiefahcnpaaGreat
