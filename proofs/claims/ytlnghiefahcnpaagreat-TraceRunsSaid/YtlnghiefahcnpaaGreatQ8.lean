import Derived.Test.YtlnghiefahcnpaaGreatQ3
set_option maxHeartbeats 40000000
set_option maxRecDepth 100000
set_option linter.all false
namespace Go.Proofs.YtlnghiefahcnpaaGreat
namespace Ab
open Go Go.RowKit
def Zx:aF:=⟨0,[5],[],[(1000024,[5])],aR,[],[]⟩
def Zy:aI:=[(2,18,(.take 0 (.take 1 (.take 2 (.take 3 (.take 4 (.take 5 (.take 6 (.take 7 (.take 8 (.take 10 (.take 11 (.take 12 (.take 13 (.take 14 (.move 9 (.move 15 (.move 16 (.move 17 .nil)))))))))))))))))),[5])]
noncomputable def anC:aA:=aT Tryz.prog Zx 26 Zy (Tryz.f68.body.getD .skip)
theorem Zz:aD Tryz.prog Zx 26 Zy (Tryz.f68.body.getD .skip)=some anC:=aV rfl ah
def ZA:aF:=⟨0,[12,14],[(68,[601,602,603,604])],[(10,[12]),(1000086,[14])],aR,[],[]⟩
def ZB:aI:=[(5,12,(.take 0 (.take 1 (.take 2 (.take 3 (.take 4 (.take 5 (.take 6 (.move 7 (.take 8 (.take 9 (.take 10 (.take 11 .nil)))))))))))),[]),(9,13,(.take 0 (.take 1 (.take 2 (.take 4 (.take 5 (.take 6 (.take 7 (.take 8 (.take 9 (.take 10 (.take 11 (.fork 3 12 (.move 12 .nil) (.move 3 .nil))))))))))))),[12,14]),(14,20,(.take 0 (.take 1 (.take 2 (.take 3 (.take 4 (.take 5 (.take 6 (.take 7 (.take 8 (.take 10 (.take 11 (.take 12 (.take 13 (.take 14 (.take 15 (.take 16 (.take 17 (.fork 9 18 (.move 18 (.move 19 .nil)) (.move 9 (.move 19 .nil)))))))))))))))))))),[12,14]),(18,11,(.take 0 (.take 1 (.take 2 (.take 3 (.take 4 (.take 5 (.take 6 (.take 7 (.take 8 (.take 9 (.take 10 .nil))))))))))),[])]
noncomputable def anD:aA:=aT Tryz.prog ZA 110 ZB (Tryz.f62.body.getD .skip)
theorem ZC:aD Tryz.prog ZA 110 ZB (Tryz.f62.body.getD .skip)=some anD:=aV rfl ah
def ZD:aF:=⟨0,[],[(62,[601,602,603,604])],[],aR,[],[]⟩
def ZE:aI:=[(2,20,(.take 0 (.take 1 (.take 2 (.take 3 (.take 4 (.take 5 (.take 6 (.take 7 (.take 8 (.take 9 (.take 10 (.take 11 (.take 12 (.take 13 (.take 14 (.take 15 (.take 16 (.take 17 (.fork 18 19 (.move 19 .nil) (.move 18 .nil)))))))))))))))))))),[]),(3,8,(.take 0 (.take 1 (.take 2 (.take 3 (.take 4 (.take 6 (.move 5 (.move 7 .nil)))))))),[601,602,603,604,10])]
noncomputable def anE:aA:=aT Tryz.prog ZD 45 ZE (Tryz.f63.body.getD .skip)
theorem ZF:aD Tryz.prog ZD 45 ZE (Tryz.f63.body.getD .skip)=some anE:=aV rfl ah
def ZG:aF:=⟨598,[3,4,5,6],[],[],aR,[],[]⟩
def ZH:aI:=[]
noncomputable def anF:aA:=aT Tryz.prog ZG 28 ZH (Tryz.f37.body.getD .skip)
theorem ZI:aD Tryz.prog ZG 28 ZH (Tryz.f37.body.getD .skip)=some anF:=aV rfl ah
def ZJ:aF:=⟨0,[],[],[],aR,[(6,[8,10,12,13])],[(2,[(3,8,611,92,52),(3,10,612,3,1),(3,12,613,202,1),(3,13,614,210,1)])]⟩
def ZK:aI:=[(5,4,(.take 0 (.take 1 (.move 2 (.move 3 .nil)))),[]),(6,6,(.take 0 (.take 1 (.take 2 (.take 3 (.move 4 (.move 5 .nil)))))),[])]
noncomputable def anG:aA:=aT Tryz.prog ZJ 39 ZK (Tryz.f13.body.getD .skip)
theorem ZL:aD Tryz.prog ZJ 39 ZK (Tryz.f13.body.getD .skip)=some anG:=aV rfl ah
def ZM:aF:=⟨700,[3],[],[],aR,[],[]⟩
def ZN:aI:=[(5,15,(.take 0 (.take 1 (.take 2 (.take 3 (.take 4 (.take 5 (.take 6 (.take 7 (.take 8 (.take 9 (.take 10 (.take 11 (.take 12 (.take 13 (.move 14 .nil))))))))))))))),[])]
noncomputable def anH:aA:=aT Tryz.prog ZM 29 ZN (Tryz.f18.body.getD .skip)
theorem ZO:aD Tryz.prog ZM 29 ZN (Tryz.f18.body.getD .skip)=some anH:=aV rfl ah
def ZP:aF:=⟨0,[],[],[],aR,[],[]⟩
def ZQ:aI:=[]
noncomputable def anI:aA:=aT Tryz.prog ZP 167 ZQ (Tryz.f15.body.getD .skip)
theorem ZR:aD Tryz.prog ZP 167 ZQ (Tryz.f15.body.getD .skip)=some anI:=aV rfl ah
def ZT:aF:=⟨0,[],[],[],aR,[],[]⟩
def ZU:aI:=[(5,5,(.take 0 (.take 1 (.take 2 (.take 3 (.take 4 .nil))))),[])]
noncomputable def anJ:aA:=aT Tryz.prog ZT 21 ZU (Tryz.f35.body.getD .skip)
theorem ZV:aD Tryz.prog ZT 21 ZU (Tryz.f35.body.getD .skip)=some anJ:=aV rfl ah
end Ab
end Go.Proofs.YtlnghiefahcnpaaGreat
