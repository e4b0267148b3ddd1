import Derived.Test.YtlnghiefahcnpaaGreatQ3
set_option maxHeartbeats 40000000
set_option maxRecDepth 100000
set_option linter.all false
namespace Go.Proofs.YtlnghiefahcnpaaGreat
namespace Ab
open Go Go.RowKit
def abo:aF:=⟨0,[18,13],[(152,[300])],[],aR,[(21,[1,5])],[(2,[(11,1,300,235,5),(11,5,301,3,1)])]⟩
def abp:aI:=[(21,9,(.take 0 (.take 1 (.take 2 (.take 3 (.take 4 (.take 5 (.take 6 (.take 7 (.take 8 .nil))))))))),[]),(23,11,(.take 0 (.take 1 (.take 2 (.take 3 (.take 4 (.take 5 (.take 6 (.take 7 (.take 8 (.take 9 (.move 10 .nil))))))))))),[]),(38,16,(.take 0 (.take 1 (.take 2 (.take 3 (.take 4 (.take 5 (.take 6 (.take 7 (.take 8 (.take 9 (.take 10 (.take 11 (.take 12 (.take 13 (.take 14 (.move 15 .nil)))))))))))))))),[]),(53,17,(.take 0 (.take 1 (.take 2 (.take 3 (.take 4 (.take 5 (.take 6 (.take 7 (.take 8 (.take 9 (.take 10 (.take 11 (.take 12 (.take 13 (.take 14 (.take 15 (.move 16 .nil))))))))))))))))),[]),(62,14,(.take 0 (.take 1 (.take 2 (.take 3 (.take 4 (.take 5 (.take 6 (.take 7 (.take 8 (.take 9 (.take 10 (.take 11 (.take 12 (.move 13 .nil)))))))))))))),[]),(65,9,(.take 0 (.take 1 (.take 2 (.take 3 (.take 4 (.take 5 (.take 6 (.take 7 (.move 8 .nil))))))))),[])]
noncomputable def aom:aA:=aT Tryz.prog abo 330 abp (Tryz.f135.body.getD .skip)
theorem abq:aD Tryz.prog abo 330 abp (Tryz.f135.body.getD .skip)=some aom:=aV rfl ah
def abr:aF:=⟨400,[],[],[],aR,[],[]⟩
def abt:aI:=[]
noncomputable def aon:aA:=aT Tryz.prog abr 20 abt (Tryz.f152.body.getD .skip)
theorem abu:aD Tryz.prog abr 20 abt (Tryz.f152.body.getD .skip)=some aon:=aV rfl ah
end Ab
end Go.Proofs.YtlnghiefahcnpaaGreat
