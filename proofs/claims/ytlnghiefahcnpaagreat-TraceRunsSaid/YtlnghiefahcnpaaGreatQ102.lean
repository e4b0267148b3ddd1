import Derived.Test.YtlnghiefahcnpaaGreatQ3
set_option maxHeartbeats 40000000
set_option maxRecDepth 100000
set_option linter.all false
namespace Go.Proofs.YtlnghiefahcnpaaGreat
namespace Ab
open Go Go.RowKit
def adX:aF:=⟨0,[3],[],[],aR,[],[]⟩
def adY:aI:=[(5,15,(.take 0 (.take 1 (.take 2 (.take 3 (.take 4 (.take 5 (.take 6 (.take 7 (.take 8 (.take 9 (.take 10 (.take 11 (.take 12 (.take 13 (.move 14 .nil))))))))))))))),[])]
noncomputable def aqB:aA:=aT Tryz.prog adX 29 adY (Tryz.f18.body.getD .skip)
theorem adZ:aD Tryz.prog adX 29 adY (Tryz.f18.body.getD .skip)=some aqB:=aV rfl ah
def aea:aF:=⟨0,[12,15],[(62,[601,602,603,604]),(63,[601,602,603,604]),(68,[601,602,603,604])],[(11,[12]),(32,[15])],aR,[],[]⟩
def aeb:aI:=[(5,24,(.take 0 (.take 1 (.take 2 (.take 3 (.take 4 (.take 5 (.take 6 (.take 7 (.take 8 (.take 9 (.take 10 (.take 11 (.take 12 (.take 13 (.take 14 (.take 15 (.take 16 (.take 17 (.take 18 (.take 19 (.take 20 (.take 21 (.fork 22 23 (.move 23 .nil) (.move 22 .nil)))))))))))))))))))))))),[]),(10,15,(.take 0 (.take 1 (.take 2 (.take 4 (.take 5 (.take 6 (.take 7 (.take 8 (.take 9 (.take 10 (.take 11 (.take 12 (.take 13 (.fork 3 14 (.move 14 .nil) (.move 3 .nil))))))))))))))),[12,15]),(40,18,(.take 0 (.take 1 (.take 2 (.take 3 (.take 4 (.take 5 (.take 6 (.take 7 (.take 8 (.take 9 (.fork 10 15 (.take 11 (.take 12 (.take 13 (.take 14 (.move 15 (.take 16 (.move 17 .nil))))))) (.move 10 (.take 11 (.take 12 (.take 13 (.take 14 (.take 16 (.move 17 .nil)))))))))))))))))),[12,15,18]),(6,6,(.take 0 (.take 1 (.take 2 (.take 4 (.move 3 (.move 5 .nil)))))),[12,15,601,602,603,604,6]),(12,9,(.take 0 (.take 1 (.take 2 (.take 3 (.take 4 (.take 5 (.take 6 (.take 7 (.move 8 .nil))))))))),[]),(30,11,(.take 0 (.take 1 (.take 2 (.take 3 (.take 4 (.take 5 (.take 6 (.take 7 (.take 8 (.take 9 (.take 10 .nil))))))))))),[]),(36,10,(.take 0 (.take 1 (.take 2 (.take 3 (.take 4 (.take 5 (.take 6 (.take 7 (.take 8 (.take 9 .nil)))))))))),[]),(39,10,(.take 0 (.take 1 (.take 2 (.take 3 (.take 4 (.take 5 (.take 6 (.take 7 (.take 8 (.take 9 .nil)))))))))),[]),(45,5,(.take 0 (.take 1 (.take 3 (.move 2 (.move 4 .nil))))),[12,15,601,602,603,604,6])]
noncomputable def aqC:aA:=aT Tryz.prog aea 280 aeb (Tryz.f36.body.getD .skip)
theorem oV:aD Tryz.prog aea 280 aeb (Tryz.f36.body.getD .skip)=some aqC:=aV rfl ah
def aec:aF:=⟨0,[],[(37,[601,602,603,604]),(36,[601,602,603,604])],[],aR,[(48,[10])],[(9,[(12,10,610,61,5)])]⟩
def aed:aI:=[(6,11,(.take 0 (.take 2 (.take 3 (.qH 1 8 9 (.qH 4 8 9 (.take 5 (.take 6 (.take 7 (.fork 8 9 (.move 9 (.move 10 .nil)) (.move 8 (.move 10 .nil)))))) (.fork 4 9 (.take 5 (.take 6 (.take 7 (.move 9 (.move 10 .nil))))) (.move 4 (.take 5 (.take 6 (.take 7 (.move 10 .nil)))))) (.fork 4 8 (.take 5 (.take 6 (.take 7 (.move 8 (.move 10 .nil))))) (.move 4 (.take 5 (.take 6 (.take 7 (.move 10 .nil))))))) (.fork 1 9 (.fork 4 9 (.take 5 (.take 6 (.take 7 (.move 9 (.move 10 .nil))))) (.move 4 (.take 5 (.take 6 (.take 7 (.move 10 .nil)))))) (.move 1 (.move 4 (.take 5 (.take 6 (.take 7 (.move 10 .nil))))))) (.fork 1 8 (.fork 4 8 (.take 5 (.take 6 (.take 7 (.move 8 (.move 10 .nil))))) (.move 4 (.take 5 (.take 6 (.take 7 (.move 10 .nil)))))) (.move 1 (.move 4 (.take 5 (.take 6 (.take 7 (.move 10 .nil))))))))))),[10,601,602,603,604,610]),(12,9,(.take 0 (.take 1 (.take 2 (.take 3 (.take 4 (.take 5 (.take 6 (.take 7 (.move 8 .nil))))))))),[]),(13,3,(.take 0 (.take 1 (.move 2 .nil))),[610,601,602,603,604,6])]
noncomputable def aqD:aA:=aT Tryz.prog aec 69 aed (Tryz.f17.body.getD .skip)
theorem aee:aD Tryz.prog aec 69 aed (Tryz.f17.body.getD .skip)=some aqD:=aV rfl ah
def aef:aF:=⟨0,[8],[(18,[703])],[(12,[703])],aR,[],[]⟩
def aeg:aI:=[(7,16,(.take 0 (.take 1 (.take 2 (.take 3 (.take 4 (.take 5 (.take 6 (.take 7 (.take 8 (.take 9 (.take 10 (.take 11 (.take 12 (.take 13 (.take 14 (.take 15 .nil)))))))))))))))),[])]
noncomputable def aqE:aA:=aT Tryz.prog aef 78 aeg (Tryz.f16.body.getD .skip)
theorem aeh:aD Tryz.prog aef 78 aeg (Tryz.f16.body.getD .skip)=some aqE:=aV rfl ah
def aei:aF:=⟨0,[7],[],[],aR,[],[]⟩
def aej:aI:=[(11,14,(.take 0 (.take 1 (.take 2 (.take 3 (.qH 4 10 11 (.qH 5 10 11 (.take 6 (.take 7 (.take 8 (.take 9 (.fork 10 11 (.move 11 (.move 12 (.move 13 .nil))) (.move 10 (.move 12 (.move 13 .nil)))))))) (.fork 5 11 (.take 6 (.take 7 (.take 8 (.take 9 (.move 11 (.move 12 (.move 13 .nil))))))) (.move 5 (.take 6 (.take 7 (.take 8 (.take 9 (.move 12 (.move 13 .nil)))))))) (.fork 5 10 (.take 6 (.take 7 (.take 8 (.take 9 (.move 10 (.move 12 (.move 13 .nil))))))) (.move 5 (.take 6 (.take 7 (.take 8 (.take 9 (.move 12 (.move 13 .nil))))))))) (.fork 4 11 (.fork 5 11 (.take 6 (.take 7 (.take 8 (.take 9 (.move 11 (.move 12 (.move 13 .nil))))))) (.move 5 (.take 6 (.take 7 (.take 8 (.take 9 (.move 12 (.move 13 .nil)))))))) (.move 4 (.move 5 (.take 6 (.take 7 (.take 8 (.take 9 (.move 12 (.move 13 .nil))))))))) (.fork 4 10 (.fork 5 10 (.take 6 (.take 7 (.take 8 (.take 9 (.move 10 (.move 12 (.move 13 .nil))))))) (.move 5 (.take 6 (.take 7 (.take 8 (.take 9 (.move 12 (.move 13 .nil)))))))) (.move 4 (.move 5 (.take 6 (.take 7 (.take 8 (.take 9 (.move 12 (.move 13 .nil)))))))))))))),[7,13,14]),(9,8,(.take 0 (.take 1 (.take 2 (.take 3 (.take 4 (.take 5 (.take 6 (.take 7 .nil)))))))),[]),(14,3,(.take 0 (.take 1 (.take 2 .nil))),[])]
noncomputable def aqF:aA:=aT Tryz.prog aei 72 aej (Tryz.f5.body.getD .skip)
theorem aek:aD Tryz.prog aei 72 aej (Tryz.f5.body.getD .skip)=some aqF:=aV rfl ah
def ael:aF:=⟨0,[],[],[],aR,[],[]⟩
def aem:aI:=[]
noncomputable def aqG:aA:=aT Tryz.prog ael 45 aem (Tryz.f61.body.getD .skip)
theorem aen:aD Tryz.prog ael 45 aem (Tryz.f61.body.getD .skip)=some aqG:=aV rfl ah
def aeo:aF:=⟨0,[8],[],[(10,[8,403])],aR,[(18,[52])],[(2,[(7,52,403,100,7)])]⟩
def aep:aI:=[]
noncomputable def aqH:aA:=aT Tryz.prog aeo 80 aep (Tryz.f67.body.getD .skip)
theorem aeq:aD Tryz.prog aeo 80 aep (Tryz.f67.body.getD .skip)=some aqH:=aV rfl ah
end Ab
end Go.Proofs.YtlnghiefahcnpaaGreat
