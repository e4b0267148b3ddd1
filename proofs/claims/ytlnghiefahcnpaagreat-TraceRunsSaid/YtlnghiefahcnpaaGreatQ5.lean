import Derived.Test.YtlnghiefahcnpaaGreatQ4
set_option maxHeartbeats 40000000
set_option maxRecDepth 100000
set_option linter.all false
namespace Go.Proofs.YtlnghiefahcnpaaGreat
namespace Ab
open Go Go.RowKit
def AK (k:Nat):Nat->List (Nat×Nat×List AC)->Option (List (List AC))
 |_,[]=>some []
 |pos,(off,size,cs)::r=>match Nat.beq off pos && (Nat.beq size k && Nat.beq cs.length k) with
  |true=>match AK k (pos+k) r with
   |some q=>some (cs::q)
   |none=>none
  |false=>none
theorem aeT {k pos off size:Nat}{cs:List AC}{r:List (Nat×Nat×List AC)}{rows:List (List AC)}(h:AK k pos ((off,size,cs)::r)=some rows):off=pos/\size=k/\cs.length=k/\∃q,AK k (pos+k) r=some q/\rows=cs::q:=by
 unfold AK at h;split at h
 ·rename_i hb;simp only[bN] at hb;split at h
  ·rename_i q hq;cases h;exact⟨ew hb.1,ew hb.2.1,ew hb.2.2,q,hq,rfl⟩
  ·cases h
 ·cases h
theorem aeU {k:Nat}:∀{pr:List (Nat×Nat×List AC)} {pos:Nat} {rows:List (List AC)},AK k pos pr=some rows->∀row∈rows,row.length=k
 |[],pos,rows,h=>by cases h;simp
 |(off,size,cs)::r,pos,rows,h=>by
  obtain⟨_,_,h3,q,hq,rfl⟩:=aeT h;intro row hr
  rcases eM.1 hr with rfl|hr
  ·exact h3
  ·exact aeU hq row hr
theorem aeV {k:Nat}:∀{pr:List (Nat×Nat×List AC)} {pos:Nat} {rows:List (List AC)} {D Z:List AC},AK k pos pr=some rows->D.length=pos->Z.length=rows.length*k->jQ (D++Z) pr=some (D++rows.flatten)
 |[],pos,rows,D,Z,h,hD,hZ=>by
  cases h;have:Z=[]:=tf (by simpa using hZ);subst this;rfl
 |(off,size,cs)::r,pos,rows,D,Z,h,hD,hZ=>by
  obtain⟨rfl,rfl,h3,q,hq,rfl⟩:=aeT h
  have hZ':Z.length=q.length*size+size:=by rw[hZ,List.length_cons,tu,Nat.one_mul]
  unfold jQ;rw[if_pos ⟨h3,by rw[List.length_append];omega⟩]
  have e1:(D++Z).take off=D:=by rw[<-hD];exact List.take_left
  have e2:(D++Z).drop (off+size)=Z.drop size:=by
   rw[<-hD,<-List.drop_drop,Bp]
  rw[e1,e2];have:=aeV (D:=D++cs) (Z:=Z.drop size) hq (by rw[List.length_append,hD,h3]) (by rw[lj,hZ'];omega);rw[this,List.flatten_cons,List.append_assoc]
theorem aeW {k:Nat}:∀{rows:List (List AC)},(∀row∈rows,row.length=k)->∀i,i<rows.length->some ((rows.flatten.drop (i*k)).take k)=rows[i]?
 |[],_,i,hi=>by simp at hi
 |row::rows,h,0,_=>by
  have:=h row (xz ..);rw[Nat.zero_mul,List.drop_zero,List.flatten_cons,iH aa,List.take_of_length_le aa];rfl
 |row::rows,h,i+1,hi=>by
  have hk:=h row (xz ..)
  have e:(i+1)*k=row.length+i*k:=by rw[hk,tu,Nat.one_mul,zx]
  rw[e,List.flatten_cons,<-List.drop_drop,Bp];rw[aeW (fun r hr=>h r (zm _ hr)) i (by simpa using hi)];rfl
theorem aru {k:Nat}{rows:List (List AC)}(h:∀row∈rows,row.length=k):rowsOf k rows.length rows.flatten=rows:=by
 apply rH;intro i;unfold rowsOf;rw[ek];by_cases hi:i<rows.length
 ·rw[zo hi,DV,aeW h i hi]
 ·rw[List.getElem?_eq_none (by simpa using hi),List.getElem?_eq_none (by simpa using hi)];rfl
def Dm (k n:Nat)(st:St)(qs:List (Nat×Nat×aw)):Option (List (List AC)):=match mB st qs with
 |some pr=>match AK k 0 pr with
  |some rows=>match Nat.beq rows.length n && rows.all (fun r=>r.all inl) with
   |true=>some rows
   |false=>none
  |none=>none
 |none=>none
theorem aeX {k n:Nat}{st:St}{qs:List (Nat×Nat×aw)}{rows:List (List AC)}(za:List AC)(h:Dm k n st qs=some rows):∃pr,mB st qs=some pr/\jQ (cp k n za) pr=some rows.flatten/\rows.flatten.all inl=true/\rowsOf k n rows.flatten=rows:=by
 unfold Dm at h;split at h
 case h_2=>cases h
 rename_i pr hp;split at h
 case h_2=>cases h
 rename_i axC hl;split at h
 case h_2=>cases h
 rename_i hb;cases h;rw[bN] at hb;have hn:=ew hb.1;subst hn;refine⟨pr,hp,?_,?_,aru (aeU hl)⟩
 ·exact aeV (D:=[]) (Z:=cp k rows.length za) hl rfl (by simp[cp])
 ·rw[dY];intro x hx;obtain⟨row,hr,PS⟩:=List.mem_flatten.1 hx;exact dY.1 (dY.1 hb.2 row hr) x PS
theorem arv {U:Option (List Nat)}{k n:Nat}{za:List AC}{st:St}{qs:List (Nat×Nat×aw)}{rows:List (List AC)}(h:Dm k n st qs=some rows):cS U st (.pT k n za qs)=some (.w (.c (.sl rows)),st):=by
 obtain⟨pr,h1,h2,h3,h4⟩:=aeX za h;unfold cS;dsimp only;rw[h1];dsimp only;rw[h2];dsimp only;rw[if_pos h3,h4]
theorem arw {U:Option (List Nat)}{s e k n:Nat}{za:List AC}{st:St}{qs:List (Nat×Nat×aw)}{rows:List (List AC)}(h:Dm k n st qs=some rows)(hs:(aB st.S s).isSome=true):cS U st (.tX s e k n za qs)=some (.w (.c (.own s ((st.slot s).gen+1))),st.bM s (.row e k ((st.slot s).gen+1) rows)):=by
 obtain⟨pr,h1,h2,h3,h4⟩:=aeX za h;unfold cS;dsimp only;rw[h1];dsimp only;rw[h2];dsimp only;rw[if_pos ⟨h3,hs⟩,h4]
structure FD where
 b:aA
 nt:Nat
 rv:List RV
 vs:List Nat
 ss:List Nat
def bY (P:Program)(f:FuncId)(d:FD):Prop:=∃(owns:aF) (ts:aI) (fn:Func) (c:Code),(∀p∈owns.eqs,nI P p.1 p.2)/\P.funcs[f]? =some fn/\fn.body=some c/\aD P owns fn.ntmps ts c=some d.b/\tY P fn.results.toList=some d.rv/\fn.ntmps=d.nt
def Gk:List (FuncId×FD)->FuncId->Option FD
 |[],_=>none
 |(i,d)::l,f=>match Nat.beq i f with
  |true=>some d
  |false=>Gk l f
theorem Qf:∀{l:List (FuncId×FD)} {f:FuncId} {d:FD},Gk l f=some d->(f,d)∈l
 |[],f,d,h=>by cases h
 |(i,e)::l,f,d,h=>by
  unfold Gk at h
  cases hb:Nat.beq i f with
  |true=>rw[hb] at h;cases h;rw[ew hb];exact xz ..
  |false=>rw[hb] at h;exact zm _ (Qf h)
end Ab
namespace Ab
open Go Go.RowKit
def nZ:List (Nat×List Nat):=[(49,[29,901]),(50,[29,901]),(51,[29,901]),(52,[29,901]),(53,[29,901]),(86,[29,901]),(87,[29,901]),(88,[29,901]),(90,[29,901]),(91,[29,901]),(92,[29,901]),(129,[29,901]),(145,[29,901]),(146,[29,901]),(147,[29,901]),(159,[29,901])]
def Qg:aF:=⟨0,[],[],[],aR,[],[]⟩
def Qh:aI:=[]
noncomputable def afb:aA:=aT Tryz.prog Qg 9 Qh (Tryz.f124.body.getD .skip)
theorem ary:aD Tryz.prog Qg 9 Qh (Tryz.f124.body.getD .skip)=some afb:=aV rfl ah
noncomputable def afc:FD:=⟨afb,9,[(.t 2)],[2],[]⟩
theorem arz:bY Tryz.prog 124 afc:=⟨Qg,Qh,Tryz.f124,_,aG,Tryz.func124,rfl,ary,ah,rfl⟩
def Qi:aF:=⟨0,[],[],[],aR,[],[]⟩
def Qj:aI:=[]
noncomputable def afd:aA:=aT Tryz.prog Qi 9 Qj (Tryz.f125.body.getD .skip)
theorem arA:aD Tryz.prog Qi 9 Qj (Tryz.f125.body.getD .skip)=some afd:=aV rfl ah
noncomputable def afe:FD:=⟨afd,9,[(.t 2)],[2],[]⟩
theorem arB:bY Tryz.prog 125 afe:=⟨Qi,Qj,Tryz.f125,_,aG,Tryz.func125,rfl,arA,ah,rfl⟩
def Qk:aF:=⟨0,[],[],[],aR,[],[]⟩
def Ql:aI:=[]
noncomputable def aff:aA:=aT Tryz.prog Qk 22 Ql (Tryz.f126.body.getD .skip)
theorem arC:aD Tryz.prog Qk 22 Ql (Tryz.f126.body.getD .skip)=some aff:=aV rfl ah
noncomputable def afg:FD:=⟨aff,22,[(.t 2)],[2,3,4],[]⟩
theorem arD:bY Tryz.prog 126 afg:=⟨Qk,Ql,Tryz.f126,_,aG,Tryz.func126,rfl,arC,ah,rfl⟩
def Qm:aF:=⟨0,[],[],[],aR,[],[]⟩
def Qo:aI:=[]
noncomputable def afh:aA:=aT Tryz.prog Qm 18 Qo (Tryz.f127.body.getD .skip)
theorem Qp:aD Tryz.prog Qm 18 Qo (Tryz.f127.body.getD .skip)=some afh:=aV rfl ah
noncomputable def afi:FD:=⟨afh,18,[(.t 4)],[4,5],[]⟩
theorem arE:bY Tryz.prog 127 afi:=⟨Qm,Qo,Tryz.f127,_,aG,Tryz.func127,rfl,Qp,ah,rfl⟩
def Qq:aF:=⟨0,[],[],[],aR,[],[]⟩
def Qr:aI:=[]
noncomputable def afj:aA:=aT Tryz.prog Qq 41 Qr (Tryz.f84.body.getD .skip)
theorem arF:aD Tryz.prog Qq 41 Qr (Tryz.f84.body.getD .skip)=some afj:=aV rfl ah
noncomputable def afk:FD:=⟨afj,41,[(.t 4)],[4,5],[]⟩
theorem arG:bY Tryz.prog 84 afk:=⟨Qq,Qr,Tryz.f84,_,aG,Tryz.func84,rfl,arF,ah,rfl⟩
def Qs:aF:=⟨0,[],[],[],aR,[],[]⟩
def Qt:aI:=[]
noncomputable def afl:aA:=aT Tryz.prog Qs 101 Qt (Tryz.f85.body.getD .skip)
theorem arH:aD Tryz.prog Qs 101 Qt (Tryz.f85.body.getD .skip)=some afl:=aV rfl ah
noncomputable def afm:FD:=⟨afl,101,[(.cell 4 4),(.t 5)],[4,5,6,7,8,9],[4]⟩
theorem arI:bY Tryz.prog 85 afm:=⟨Qs,Qt,Tryz.f85,_,aG,Tryz.func85,rfl,arH,ah,rfl⟩
def Qu:aF:=⟨0,[5],[],[],aR,[],[]⟩
def Qv:aI:=[]
noncomputable def afn:aA:=aT Tryz.prog Qu 42 Qv (Tryz.f48.body.getD .skip)
theorem arJ:aD Tryz.prog Qu 42 Qv (Tryz.f48.body.getD .skip)=some afn:=aV rfl ah
noncomputable def afo:FD:=⟨afn,42,[(.t 2),(.t 3),(.t 4)],[2,3,4,5,6,7,8],[7,5]⟩
theorem arK:bY Tryz.prog 48 afo:=⟨Qu,Qv,Tryz.f48,_,aG,Tryz.func48,rfl,arJ,ah,rfl⟩
def Qw:aF:=⟨0,[],[],[],aR,[],[]⟩
def Qx:aI:=[]
noncomputable def afp:aA:=aT Tryz.prog Qw 2 Qx (Tryz.f144.body.getD .skip)
theorem arL:aD Tryz.prog Qw 2 Qx (Tryz.f144.body.getD .skip)=some afp:=aV rfl ah
noncomputable def afq:FD:=⟨afp,2,[(.t 0)],[0],[]⟩
theorem arM:bY Tryz.prog 144 afq:=⟨Qw,Qx,Tryz.f144,_,aG,Tryz.func144,rfl,arL,ah,rfl⟩
def Qy:aF:=⟨0,[],[],[],aR,[],[]⟩
def Qz:aI:=[]
noncomputable def afr:aA:=aT Tryz.prog Qy 18 Qz (Tryz.f89.body.getD .skip)
theorem QA:aD Tryz.prog Qy 18 Qz (Tryz.f89.body.getD .skip)=some afr:=aV rfl ah
noncomputable def afs:FD:=⟨afr,18,[(.t 4)],[4,5],[]⟩
theorem arN:bY Tryz.prog 89 afs:=⟨Qy,Qz,Tryz.f89,_,aG,Tryz.func89,rfl,QA,ah,rfl⟩
def QB:aF:=⟨0,[],[],[],aR,[],[]⟩
def QC:aI:=[]
noncomputable def aft:aA:=aT Tryz.prog QB 11 QC (Tryz.f128.body.getD .skip)
theorem arO:aD Tryz.prog QB 11 QC (Tryz.f128.body.getD .skip)=some aft:=aV rfl ah
noncomputable def afu:FD:=⟨aft,11,[(.t 2)],[2],[]⟩
theorem arP:bY Tryz.prog 128 afu:=⟨QB,QC,Tryz.f128,_,aG,Tryz.func128,rfl,arO,ah,rfl⟩
def QD:aF:=⟨1000,[],[],[],aR,[],[]⟩
def QE:aI:=[(1,8,(.take 0 (.take 1 (.take 2 (.take 3 (.take 4 (.take 5 (.take 6 (.take 7 .nil)))))))),[])]
noncomputable def afv:aA:=aT Tryz.prog QD 14 QE (Tryz.f49.body.getD .skip)
theorem arQ:aD Tryz.prog QD 14 QE (Tryz.f49.body.getD .skip)=some afv:=aV rfl ah
noncomputable def afw:FD:=⟨afv,14,[(.t 2)],[2],[]⟩
theorem arR:bY Tryz.prog 49 afw:=⟨QD,QE,Tryz.f49,_,aG,Tryz.func49,rfl,arQ,ah,rfl⟩
def QF:aF:=⟨1000,[],nZ,[],aR,[],[]⟩
def QG:aI:=[]
noncomputable def afx:aA:=aT Tryz.prog QF 28 QG (Tryz.f51.body.getD .skip)
theorem arS:aD Tryz.prog QF 28 QG (Tryz.f51.body.getD .skip)=some afx:=aV rfl ah
noncomputable def afy:FD:=⟨afx,28,[],[],[]⟩
theorem arT:bY Tryz.prog 51 afy:=⟨QF,QG,Tryz.f51,_,aG,Tryz.func51,rfl,arS,ah,rfl⟩
def QH:aF:=⟨1000,[],nZ,[],aR,[],[]⟩
def QI:aI:=[]
noncomputable def afz:aA:=aT Tryz.prog QH 56 QI (Tryz.f52.body.getD .skip)
theorem arU:aD Tryz.prog QH 56 QI (Tryz.f52.body.getD .skip)=some afz:=aV rfl ah
noncomputable def afA:FD:=⟨afz,56,[(.t 4)],[4,5,6,7,8],[]⟩
theorem arV:bY Tryz.prog 52 afA:=⟨QH,QI,Tryz.f52,_,aG,Tryz.func52,rfl,arU,ah,rfl⟩
def QJ:aF:=⟨1000,[],nZ,[],aR,[(6,[3])],[(2,[(1005,3,1900,136,4)])]⟩
def QK:aI:=[(4,6,(.take 0 (.take 1 (.take 2 (.take 3 (.move 4 (.move 5 .nil)))))),[29,901])]
noncomputable def afB:aA:=aT Tryz.prog QJ 31 QK (Tryz.f53.body.getD .skip)
theorem arW:aD Tryz.prog QJ 31 QK (Tryz.f53.body.getD .skip)=some afB:=aV rfl ah
noncomputable def afC:FD:=⟨afB,31,[(.cell 4 4)],[4,5],[1004,1005,1900]⟩
theorem arX:bY Tryz.prog 53 afC:=⟨QJ,QK,Tryz.f53,_,aG,Tryz.func53,rfl,arW,ah,rfl⟩
def QL:aF:=⟨0,[5],[],[],aR,[],[]⟩
def QN:aI:=[(3,12,(.take 0 (.take 1 (.take 2 (.take 3 (.take 4 (.take 5 (.take 6 (.take 7 (.take 8 (.take 9 (.take 10 (.take 11 .nil)))))))))))),[])]
noncomputable def afD:aA:=aT Tryz.prog QL 39 QN (Tryz.f54.body.getD .skip)
theorem arY:aD Tryz.prog QL 39 QN (Tryz.f54.body.getD .skip)=some afD:=aV rfl ah
noncomputable def afE:FD:=⟨afD,39,[(.t 4)],[3,4,5,6],[3,5]⟩
theorem arZ:bY Tryz.prog 54 afE:=⟨QL,QN,Tryz.f54,_,aG,Tryz.func54,rfl,arY,ah,rfl⟩
def QO:aF:=⟨1000,[3],[(49,[29,901]),(50,[29,901]),(51,[29,901]),(52,[29,901]),(53,[29,901]),(86,[29,901]),(87,[29,901]),(88,[29,901]),(90,[29,901]),(91,[29,901]),(92,[29,901]),(129,[29,901]),(145,[29,901]),(146,[29,901]),(147,[29,901]),(159,[29,901]),(89,[901])],[],aR,[],[]⟩
def QP:aI:=[(6,6,(.take 0 (.take 1 (.take 2 (.take 4 (.fork 3 5 (.move 5 .nil) (.move 3 .nil)))))),[29,901]),(12,9,(.take 0 (.take 1 (.take 2 (.take 3 (.take 5 (.fork 4 6 (.move 6 (.move 7 (.move 8 .nil))) (.fork 4 7 (.move 7 (.move 8 .nil)) (.move 4 (.move 8 .nil))))))))),[29,901,1003])]
noncomputable def afF:aA:=aT Tryz.prog QO 76 QP (Tryz.f50.body.getD .skip)
theorem asa:aD Tryz.prog QO 76 QP (Tryz.f50.body.getD .skip)=some afF:=aV rfl ah
noncomputable def afG:FD:=⟨afF,76,[(.t 2)],[2,3],[1003]⟩
theorem asb:bY Tryz.prog 50 afG:=⟨QO,QP,Tryz.f50,_,aG,Tryz.func50,rfl,asa,ah,rfl⟩
def QQ:aF:=⟨1000,[],nZ,[],aR,[],[]⟩
def QR:aI:=[(0,10,(.take 0 (.take 1 (.take 2 (.take 3 (.take 4 (.take 5 (.take 6 (.take 7 (.take 8 (.take 9 .nil)))))))))),[])]
noncomputable def afH:aA:=aT Tryz.prog QQ 20 QR (Tryz.f86.body.getD .skip)
theorem ase:aD Tryz.prog QQ 20 QR (Tryz.f86.body.getD .skip)=some afH:=aV rfl ah
noncomputable def afI:FD:=⟨afH,20,[],[],[]⟩
theorem asf:bY Tryz.prog 86 afI:=⟨QQ,QR,Tryz.f86,_,aG,Tryz.func86,rfl,ase,ah,rfl⟩
def QS:aF:=⟨1000,[],nZ,[],aR,[],[]⟩
def QT:aI:=[(1,21,(.take 0 (.take 1 (.take 2 (.take 3 (.take 4 (.take 5 (.take 6 (.take 7 (.take 8 (.take 9 (.take 10 (.take 11 (.take 12 (.take 13 (.take 14 (.take 15 (.take 16 (.take 17 (.take 18 (.take 19 (.take 20 .nil))))))))))))))))))))),[])]
noncomputable def afJ:aA:=aT Tryz.prog QS 30 QT (Tryz.f87.body.getD .skip)
theorem asg:aD Tryz.prog QS 30 QT (Tryz.f87.body.getD .skip)=some afJ:=aV rfl ah
noncomputable def afK:FD:=⟨afJ,30,[(.t 2)],[2],[]⟩
theorem ash:bY Tryz.prog 87 afK:=⟨QS,QT,Tryz.f87,_,aG,Tryz.func87,rfl,asg,ah,rfl⟩
def QU:aF:=⟨1000,[],nZ,[],aR,[],[]⟩
def QV:aI:=[]
noncomputable def afL:aA:=aT Tryz.prog QU 26 QV (Tryz.f88.body.getD .skip)
theorem asi:aD Tryz.prog QU 26 QV (Tryz.f88.body.getD .skip)=some afL:=aV rfl ah
noncomputable def afM:FD:=⟨afL,26,[],[],[]⟩
theorem asj:bY Tryz.prog 88 afM:=⟨QU,QV,Tryz.f88,_,aG,Tryz.func88,rfl,asi,ah,rfl⟩
def QW:aF:=⟨1000,[],nZ,[],aR,[],[]⟩
def QX:aI:=[(1,11,(.take 0 (.take 1 (.take 2 (.take 3 (.take 4 (.take 5 (.take 6 (.take 7 (.take 8 (.take 9 (.move 10 .nil))))))))))),[])]
noncomputable def afN:aA:=aT Tryz.prog QW 44 QX (Tryz.f90.body.getD .skip)
theorem asl:aD Tryz.prog QW 44 QX (Tryz.f90.body.getD .skip)=some afN:=aV rfl ah
noncomputable def afO:FD:=⟨afN,44,[(.t 4)],[4,5],[1005]⟩
theorem asm:bY Tryz.prog 90 afO:=⟨QW,QX,Tryz.f90,_,aG,Tryz.func90,rfl,asl,ah,rfl⟩
def QY:aF:=⟨1000,[],nZ,[],aR,[],[]⟩
def QZ:aI:=[]
noncomputable def afP:aA:=aT Tryz.prog QY 30 QZ (Tryz.f91.body.getD .skip)
theorem asn:aD Tryz.prog QY 30 QZ (Tryz.f91.body.getD .skip)=some afP:=aV rfl ah
noncomputable def afQ:FD:=⟨afP,30,[],[],[]⟩
theorem aso:bY Tryz.prog 91 afQ:=⟨QY,QZ,Tryz.f91,_,aG,Tryz.func91,rfl,asn,ah,rfl⟩
def Ra:aF:=⟨1000,[58],nZ,[],aR,[],[]⟩
def Rb:aI:=[(18,5,(.take 0 (.take 1 (.take 2 (.take 3 (.move 4 .nil))))),[29,901]),(33,7,(.take 0 (.take 1 (.take 2 (.take 3 (.take 4 (.move 5 (.move 6 .nil))))))),[29,901]),(41,4,(.take 0 (.take 1 (.take 2 (.move 3 .nil)))),[29,901])]
noncomputable def afR:aA:=aT Tryz.prog Ra 145 Rb (Tryz.f92.body.getD .skip)
theorem asp:aD Tryz.prog Ra 145 Rb (Tryz.f92.body.getD .skip)=some afR:=aV rfl ah
noncomputable def afS:FD:=⟨afR,145,[(.cell 4 4)],[4,5,6,7,8,9,10,11,12,13,45,58],[1004,1006,1007,1009,1010,1012,1013,1058]⟩
theorem asq:bY Tryz.prog 92 afS:=⟨Ra,Rb,Tryz.f92,_,aG,Tryz.func92,rfl,asp,ah,rfl⟩
def Rc:aF:=⟨1000,[],nZ,[],aR,[],[]⟩
def Re:aI:=[]
noncomputable def afT:aA:=aT Tryz.prog Rc 50 Re (Tryz.f129.body.getD .skip)
theorem asr:aD Tryz.prog Rc 50 Re (Tryz.f129.body.getD .skip)=some afT:=aV rfl ah
noncomputable def afU:FD:=⟨afT,50,[(.cell 6 4)],[6,7],[1006]⟩
theorem ass:bY Tryz.prog 129 afU:=⟨Rc,Re,Tryz.f129,_,aG,Tryz.func129,rfl,asr,ah,rfl⟩
def Rf:aF:=⟨1000,[],nZ,[],aR,[],[]⟩
def Rg:aI:=[]
noncomputable def afV:aA:=aT Tryz.prog Rf 24 Rg (Tryz.f145.body.getD .skip)
theorem ast:aD Tryz.prog Rf 24 Rg (Tryz.f145.body.getD .skip)=some afV:=aV rfl ah
noncomputable def afW:FD:=⟨afV,24,[(.cell 8 4)],[8,9],[1008,1009]⟩
theorem asu:bY Tryz.prog 145 afW:=⟨Rf,Rg,Tryz.f145,_,aG,Tryz.func145,rfl,ast,ah,rfl⟩
def Rh:aF:=⟨1000,[],nZ,[],aR,[],[]⟩
def Ri:aI:=[(3,12,(.take 0 (.take 1 (.take 2 (.move 3 (.take 4 (.take 5 (.take 6 (.take 7 (.take 8 (.take 10 (.fork 9 11 (.move 11 .nil) (.move 9 .nil)))))))))))),[29,901])]
noncomputable def afX:aA:=aT Tryz.prog Rh 53 Ri (Tryz.f146.body.getD .skip)
theorem asv:aD Tryz.prog Rh 53 Ri (Tryz.f146.body.getD .skip)=some afX:=aV rfl ah
noncomputable def afY:FD:=⟨afX,53,[(.cell 6 4)],[6,7,8,9,10],[1006,1008,1010]⟩
theorem asw:bY Tryz.prog 146 afY:=⟨Rh,Ri,Tryz.f146,_,aG,Tryz.func146,rfl,asv,ah,rfl⟩
def Rj:aF:=⟨1000,[],nZ,[],aR,[],[]⟩
def Rk:aI:=[(1,11,(.take 0 (.take 1 (.take 2 (.take 3 (.take 4 (.take 5 (.take 6 (.take 7 (.take 8 (.take 9 (.move 10 .nil))))))))))),[]),(15,3,(.take 1 (.take 2 (.move 0 .nil))),[])]
noncomputable def afZ:aA:=aT Tryz.prog Rj 72 Rk (Tryz.f147.body.getD .skip)
theorem asx:aD Tryz.prog Rj 72 Rk (Tryz.f147.body.getD .skip)=some afZ:=aV rfl ah
noncomputable def aga:FD:=⟨afZ,72,[(.cell 4 4)],[4,5,6,7],[1004,1005,1006,1007]⟩
theorem asy:bY Tryz.prog 147 aga:=⟨Rj,Rk,Tryz.f147,_,aG,Tryz.func147,rfl,asx,ah,rfl⟩
def Rl:aF:=⟨1000,[],nZ,[],aR,[],[]⟩
def Rm:aI:=[]
noncomputable def agb:aA:=aT Tryz.prog Rl 17 Rm (Tryz.f159.body.getD .skip)
theorem asz:aD Tryz.prog Rl 17 Rm (Tryz.f159.body.getD .skip)=some agb:=aV rfl ah
noncomputable def agc:FD:=⟨agb,17,[(.cell 4 4)],[4,5],[1004,1005]⟩
theorem asA:bY Tryz.prog 159 agc:=⟨Rl,Rm,Tryz.f159,_,aG,Tryz.func159,rfl,asz,ah,rfl⟩
def Rn:aF:=⟨0,[],nZ,[],aR,[(28,[4]),(9,[0,1])],[(8,[(29,4,901,9,1),(9,0,902,9,1),(9,1,903,9,1)])]⟩
def Ro:aI:=[(10,4,(.take 0 (.take 1 (.take 2 (.move 3 .nil)))),[29,901]),(11,4,(.take 0 (.take 1 (.take 2 (.move 3 .nil)))),[29,901]),(12,14,(.take 0 (.take 1 (.take 2 (.take 3 (.take 4 (.take 5 (.take 6 (.take 7 (.take 8 (.take 9 (.take 10 (.take 11 (.take 12 (.take 13 .nil)))))))))))))),[]),(19,11,(.take 0 (.take 1 (.take 2 (.take 3 (.take 4 (.take 5 (.take 6 (.take 7 (.take 8 (.move 9 (.take 10 .nil))))))))))),[901,902,903])]
noncomputable def agd:aA:=aT Tryz.prog Rn 114 Ro (Tryz.f27.body.getD .skip)
theorem asB:aD Tryz.prog Rn 114 Ro (Tryz.f27.body.getD .skip)=some agd:=aV rfl ah
noncomputable def age:FD:=⟨agd,114,[(.cell 2 3),(.t 3),(.t 4)],[2,3,4,5,6,7,8,9,10,11,29],[2,29,9,11,901,902,903]⟩
theorem asC:bY Tryz.prog 27 age:=⟨Rn,Ro,Tryz.f27,_,aG,Tryz.func27,rfl,asB,ah,rfl⟩
def Rp:aF:=⟨0,[],[],[],aR,[],[]⟩
def Rq:aI:=[]
noncomputable def agf:aA:=aT Tryz.prog Rp 18 Rq (Tryz.f94.body.getD .skip)
theorem Rs:aD Tryz.prog Rp 18 Rq (Tryz.f94.body.getD .skip)=some agf:=aV rfl ah
noncomputable def agh:FD:=⟨agf,18,[(.t 4)],[4,5],[]⟩
theorem asD:bY Tryz.prog 94 agh:=⟨Rp,Rq,Tryz.f94,_,aG,Tryz.func94,rfl,Rs,ah,rfl⟩
def Rt:aF:=⟨0,[],[],[],aR,[],[]⟩
def Ru:aI:=[]
noncomputable def agi:aA:=aT Tryz.prog Rt 6 Ru (Tryz.f130.body.getD .skip)
theorem asE:aD Tryz.prog Rt 6 Ru (Tryz.f130.body.getD .skip)=some agi:=aV rfl ah
noncomputable def agj:FD:=⟨agi,6,[(.t 2)],[2],[]⟩
theorem asF:bY Tryz.prog 130 agj:=⟨Rt,Ru,Tryz.f130,_,aG,Tryz.func130,rfl,asE,ah,rfl⟩
def Rv:aF:=⟨0,[],[],[],aR,[],[]⟩
def Rw:aI:=[]
noncomputable def agk:aA:=aT Tryz.prog Rv 80 Rw (Tryz.f93.body.getD .skip)
theorem asG:aD Tryz.prog Rv 80 Rw (Tryz.f93.body.getD .skip)=some agk:=aV rfl ah
noncomputable def agl:FD:=⟨agk,80,[(.t 2)],[1,2,3,4,5,6],[1]⟩
theorem asH:bY Tryz.prog 93 agl:=⟨Rv,Rw,Tryz.f93,_,aG,Tryz.func93,rfl,asG,ah,rfl⟩
def Rx:aF:=⟨0,[],[],[],aR,[],[]⟩
def Ry:aI:=[]
noncomputable def agm:aA:=aT Tryz.prog Rx 73 Ry (Tryz.f55.body.getD .skip)
theorem asI:aD Tryz.prog Rx 73 Ry (Tryz.f55.body.getD .skip)=some agm:=aV rfl ah
noncomputable def agn:FD:=⟨agm,73,[(.t 2)],[1,2,3,4,5,6,7,8,9],[1]⟩
theorem asJ:bY Tryz.prog 55 agn:=⟨Rx,Ry,Tryz.f55,_,aG,Tryz.func55,rfl,asI,ah,rfl⟩
def Rz:aF:=⟨0,[5],[],[(8,[5])],aR,[],[]⟩
def RA:aI:=[]
noncomputable def ago:aA:=aT Tryz.prog Rz 45 RA (Tryz.f56.body.getD .skip)
theorem asK:aD Tryz.prog Rz 45 RA (Tryz.f56.body.getD .skip)=some ago:=aV rfl ah
noncomputable def agp:FD:=⟨ago,45,[(.t 4)],[2,4,5,6],[2,5]⟩
theorem asL:bY Tryz.prog 56 agp:=⟨Rz,RA,Tryz.f56,_,aG,Tryz.func56,rfl,asK,ah,rfl⟩
def RB:aF:=⟨0,[],[],[],aR,[],[]⟩
def RD:aI:=[]
noncomputable def agq:aA:=aT Tryz.prog RB 41 RD (Tryz.f57.body.getD .skip)
theorem asM:aD Tryz.prog RB 41 RD (Tryz.f57.body.getD .skip)=some agq:=aV rfl ah
noncomputable def agr:FD:=⟨agq,41,[(.t 4)],[2,4,5,6],[2]⟩
theorem asN:bY Tryz.prog 57 agr:=⟨RB,RD,Tryz.f57,_,aG,Tryz.func57,rfl,asM,ah,rfl⟩
def RE:aF:=⟨0,[],[],[],aR,[],[]⟩
def RF:aI:=[(11,5,(.take 0 (.take 1 (.take 2 (.take 3 (.take 4 .nil))))),[])]
noncomputable def ags:aA:=aT Tryz.prog RE 43 RF (Tryz.f28.body.getD .skip)
theorem asO:aD Tryz.prog RE 43 RF (Tryz.f28.body.getD .skip)=some ags:=aV rfl ah
noncomputable def agt:FD:=⟨ags,43,[(.t 2)],[1,2,3,4,5,6],[1]⟩
theorem asP:bY Tryz.prog 28 agt:=⟨RE,RF,Tryz.f28,_,aG,Tryz.func28,rfl,asO,ah,rfl⟩
def RG:aF:=⟨0,[],[],[],aR,[],[]⟩
def RH:aI:=[]
noncomputable def agu:aA:=aT Tryz.prog RG 19 RH (Tryz.f95.body.getD .skip)
theorem asQ:aD Tryz.prog RG 19 RH (Tryz.f95.body.getD .skip)=some agu:=aV rfl ah
noncomputable def agv:FD:=⟨agu,19,[(.t 4)],[4,5],[]⟩
theorem asR:bY Tryz.prog 95 agv:=⟨RG,RH,Tryz.f95,_,aG,Tryz.func95,rfl,asQ,ah,rfl⟩
def RI:aF:=⟨0,[],[],[],aR,[],[]⟩
def RJ:aI:=[]
noncomputable def agw:aA:=aT Tryz.prog RI 2 RJ (Tryz.f96.body.getD .skip)
theorem asS:aD Tryz.prog RI 2 RJ (Tryz.f96.body.getD .skip)=some agw:=aV rfl ah
noncomputable def agx:FD:=⟨agw,2,[(.t 0)],[0],[]⟩
theorem asT:bY Tryz.prog 96 agx:=⟨RI,RJ,Tryz.f96,_,aG,Tryz.func96,rfl,asS,ah,rfl⟩
def RL:aF:=⟨0,[],[],[],aR,[],[]⟩
def RN:aI:=[]
noncomputable def agy:aA:=aT Tryz.prog RL 45 RN (Tryz.f99.body.getD .skip)
theorem asU:aD Tryz.prog RL 45 RN (Tryz.f99.body.getD .skip)=some agy:=aV rfl ah
noncomputable def agz:FD:=⟨agy,45,[(.t 2)],[2,3],[]⟩
theorem asV:bY Tryz.prog 99 agz:=⟨RL,RN,Tryz.f99,_,aG,Tryz.func99,rfl,asU,ah,rfl⟩
def RO:aF:=⟨4000,[],[],[],aR,[],[]⟩
def RP:aI:=[(2,5,(.take 0 (.take 1 (.take 2 (.take 3 (.take 4 .nil))))),[])]
noncomputable def agA:aA:=aT Tryz.prog RO 21 RP (Tryz.f131.body.getD .skip)
theorem asW:aD Tryz.prog RO 21 RP (Tryz.f131.body.getD .skip)=some agA:=aV rfl ah
noncomputable def agB:FD:=⟨agA,21,[(.t 8)],[4,8],[4004]⟩
theorem asX:bY Tryz.prog 131 agB:=⟨RO,RP,Tryz.f131,_,aG,Tryz.func131,rfl,asW,ah,rfl⟩
def RQ:aF:=⟨3000,[7],[],[],aR,[],[]⟩
def RR:aI:=[(5,11,(.take 0 (.take 1 (.take 2 (.take 3 (.take 4 (.take 5 (.take 6 (.take 7 (.take 8 (.take 9 (.move 10 .nil))))))))))),[])]
noncomputable def agC:aA:=aT Tryz.prog RQ 28 RR (Tryz.f98.body.getD .skip)
theorem asY:aD Tryz.prog RQ 28 RR (Tryz.f98.body.getD .skip)=some agC:=aV rfl ah
noncomputable def agD:FD:=⟨agC,28,[(.t 6)],[3,6,7,8],[3003,3007,3007,2019,2027,2035,2056,2062,2066,2070,2101,2109,2165,2174,2178,2188,2196,2202,2208]⟩
theorem asZ:bY Tryz.prog 98 agD:=⟨RQ,RR,Tryz.f98,_,aG,Tryz.func98,rfl,asY,ah,rfl⟩
def RS:aF:=⟨5000,[],[(1000020,[3007,2019,2027,2035,2056,2062,2066,2070,2101,2109,2165,2174,2178,2188,2196,2202,2208])],[],aR,[],[]⟩
def RT:aI:=[]
noncomputable def agE:aA:=aT Tryz.prog RS 63 RT (Tryz.f97.body.getD .skip)
theorem ata:aD Tryz.prog RS 63 RT (Tryz.f97.body.getD .skip)=some agE:=aV rfl ah
noncomputable def agF:FD:=⟨agE,63,[(.t 12)],[6,7,12,13,14,15,16],[5006,5007,3007,2019,2027,2035,2056,2062,2066,2070,2101,2109,2165,2174,2178,2188,2196,2202,2208]⟩
theorem atb:bY Tryz.prog 97 agF:=⟨RS,RT,Tryz.f97,_,aG,Tryz.func97,rfl,ata,ah,rfl⟩
def RU:aF:=⟨2000,[19,27,35,56,62,66,70,101,109,165,174,178,188,196,202,208],[(1000050,[3007,2019,2027,2035,2056,2062,2066,2070,2101,2109,2165,2174,2178,2188,2196,2202,2208]),(1000128,[3007,2019,2027,2035,2056,2062,2066,2070,2101,2109,2165,2174,2178,2188,2196,2202,2208]),(1000146,[3007,2019,2027,2035,2056,2062,2066,2070,2101,2109,2165,2174,2178,2188,2196,2202,2208]),(1000079,[3007,2019,2027,2035,2056,2062,2066,2070,2101,2109,2165,2174,2178,2188,2196,2202,2208]),(1000151,[3007,2019,2027,2035,2056,2062,2066,2070,2101,2109,2165,2174,2178,2188,2196,2202,2208])],[],aR,[],[]⟩
def RW:aI:=[(8,3,(.take 1 (.take 2 (.move 0 .nil))),[]),(10,12,(.take 0 (.take 1 (.take 2 (.take 3 (.take 4 (.take 5 (.take 6 (.take 7 (.take 8 (.take 9 (.take 10 (.take 11 .nil)))))))))))),[]),(20,6,(.take 0 (.take 1 (.take 2 (.take 3 (.take 4 (.take 5 .nil)))))),[]),(21,10,(.take 0 (.take 1 (.take 2 (.take 3 (.take 4 (.take 5 (.take 6 (.take 7 (.take 8 (.take 9 .nil)))))))))),[]),(26,9,(.take 0 (.take 1 (.take 2 (.take 3 (.take 4 (.take 5 (.take 6 (.take 7 (.take 8 .nil))))))))),[]),(28,9,(.take 0 (.take 1 (.take 2 (.take 3 (.take 4 (.take 5 (.take 6 (.take 7 (.take 8 .nil))))))))),[])]
noncomputable def agG:aA:=aT Tryz.prog RU 211 RW (Tryz.f58.body.getD .skip)
theorem atc:aD Tryz.prog RU 211 RW (Tryz.f58.body.getD .skip)=some agG:=aV rfl ah
noncomputable def agH:FD:=⟨agG,211,[(.t 6)],[3,4,6,7,8,9,10,12,19,27,35,56,62,66,70,101,109,153,165,174,178,188,196,202,208],[2003,2004,2019,2027,2035,2056,2062,2066,2070,2101,2109,2165,2174,2178,2188,2196,2202,2208,3007]⟩
theorem atd:bY Tryz.prog 58 agH:=⟨RU,RW,Tryz.f58,_,aG,Tryz.func58,rfl,atc,ah,rfl⟩
def RX:aF:=⟨0,[],[],[],aR,[],[]⟩
def RY:aI:=[]
noncomputable def agI:aA:=aT Tryz.prog RX 31 RY (Tryz.f101.body.getD .skip)
theorem ate:aD Tryz.prog RX 31 RY (Tryz.f101.body.getD .skip)=some agI:=aV rfl ah
noncomputable def agJ:FD:=⟨agI,31,[(.t 2)],[2,3],[]⟩
theorem atf:bY Tryz.prog 101 agJ:=⟨RX,RY,Tryz.f101,_,aG,Tryz.func101,rfl,ate,ah,rfl⟩
def RZ:aF:=⟨0,[],[],[],aR,[],[]⟩
def Sa:aI:=[]
noncomputable def agK:aA:=aT Tryz.prog RZ 18 Sa (Tryz.f102.body.getD .skip)
theorem atg:aD Tryz.prog RZ 18 Sa (Tryz.f102.body.getD .skip)=some agK:=aV rfl ah
noncomputable def agL:FD:=⟨agK,18,[(.t 2)],[2,3],[]⟩
theorem ath:bY Tryz.prog 102 agL:=⟨RZ,Sa,Tryz.f102,_,aG,Tryz.func102,rfl,atg,ah,rfl⟩
def Sb:aF:=⟨0,[],[],[],aR,[],[]⟩
def Sc:aI:=[]
noncomputable def agM:aA:=aT Tryz.prog Sb 36 Sc (Tryz.f132.body.getD .skip)
theorem ati:aD Tryz.prog Sb 36 Sc (Tryz.f132.body.getD .skip)=some agM:=aV rfl ah
noncomputable def agN:FD:=⟨agM,36,[(.t 4)],[2,4,10],[2]⟩
theorem atj:bY Tryz.prog 132 agN:=⟨Sb,Sc,Tryz.f132,_,aG,Tryz.func132,rfl,ati,ah,rfl⟩
def Sd:aF:=⟨0,[17],[],[],aR,[],[]⟩
def Sg:aI:=[(17,11,(.take 0 (.take 1 (.take 2 (.take 3 (.take 4 (.take 5 (.take 6 (.take 7 (.take 8 (.take 9 (.move 10 .nil))))))))))),[])]
noncomputable def agO:aA:=aT Tryz.prog Sd 123 Sg (Tryz.f100.body.getD .skip)
theorem Sh:aD Tryz.prog Sd 123 Sg (Tryz.f100.body.getD .skip)=some agO:=aV rfl ah
noncomputable def agP:FD:=⟨agO,123,[(.t 4),(.t 5)],[2,4,5,6,7,8,9,10,11,12,13,17],[2,17]⟩
theorem atk:bY Tryz.prog 100 agP:=⟨Sd,Sg,Tryz.f100,_,aG,Tryz.func100,rfl,Sh,ah,rfl⟩
def Si:aF:=⟨0,[],[],[],aR,[],[]⟩
def Sj:aI:=[(1,10,(.take 0 (.take 1 (.take 2 (.take 3 (.take 4 (.move 5 (.take 6 (.fork 7 8 (.take 9 (.move 8 .nil)) (.move 7 (.take 9 .nil)))))))))),[]),(8,15,(.take 0 (.take 1 (.take 2 (.take 3 (.take 4 (.take 5 (.take 6 (.take 7 (.take 8 (.take 9 (.take 12 (.move 10 (.take 11 (.move 13 (.take 14 .nil))))))))))))))),[])]
noncomputable def agQ:aA:=aT Tryz.prog Si 53 Sj (Tryz.f59.body.getD .skip)
theorem Sk:aD Tryz.prog Si 53 Sj (Tryz.f59.body.getD .skip)=some agQ:=aV rfl ah
noncomputable def agR:FD:=⟨agQ,53,[(.t 4)],[2,4,5,7,8,9],[2]⟩
theorem atl:bY Tryz.prog 59 agR:=⟨Si,Sj,Tryz.f59,_,aG,Tryz.func59,rfl,Sk,ah,rfl⟩
def Sl:aF:=⟨0,[],[],[(18,[904])],aR,[(15,[0])],[(2,[(4,0,904,146,2)])]⟩
def Sm:aI:=[(11,13,(.take 0 (.take 1 (.take 2 (.take 3 (.take 4 (.take 5 (.take 6 (.take 7 (.take 8 (.take 9 (.take 10 (.take 11 (.move 12 .nil))))))))))))),[])]
noncomputable def agS:aA:=aT Tryz.prog Sl 79 Sm (Tryz.f29.body.getD .skip)
theorem atm:aD Tryz.prog Sl 79 Sm (Tryz.f29.body.getD .skip)=some agS:=aV rfl ah
noncomputable def agT:FD:=⟨agS,79,[(.cell 2 43),(.t 3)],[1,2,3,4,5,6,7,8],[1,2,4,904]⟩
theorem atn:bY Tryz.prog 29 agT:=⟨Sl,Sm,Tryz.f29,_,aG,Tryz.func29,rfl,atm,ah,rfl⟩
def Sn:aF:=⟨0,[],[],[],aR,[],[]⟩
def So:aI:=[]
noncomputable def agU:aA:=aT Tryz.prog Sn 2 So (Tryz.f30.body.getD .skip)
theorem ato:aD Tryz.prog Sn 2 So (Tryz.f30.body.getD .skip)=some agU:=aV rfl ah
noncomputable def agV:FD:=⟨agU,2,[(.t 0)],[0],[]⟩
theorem atp:bY Tryz.prog 30 agV:=⟨Sn,So,Tryz.f30,_,aG,Tryz.func30,rfl,ato,ah,rfl⟩
def Sp:aF:=⟨0,[],[],[],aR,[],[]⟩
def Sq:aI:=[]
noncomputable def agW:aA:=aT Tryz.prog Sp 12 Sq (Tryz.f12.body.getD .skip)
theorem Sr:aD Tryz.prog Sp 12 Sq (Tryz.f12.body.getD .skip)=some agW:=aV rfl ah
noncomputable def agX:FD:=⟨agW,12,[(.t 2)],[2,3],[]⟩
theorem atq:bY Tryz.prog 12 agX:=⟨Sp,Sq,Tryz.f12,_,aG,Tryz.func12,rfl,Sr,ah,rfl⟩
def Ss:aF:=⟨0,[],[],[],aR,[],[]⟩
def Su:aI:=[]
noncomputable def agY:aA:=aT Tryz.prog Ss 32 Su (Tryz.f11.body.getD .skip)
theorem atr:aD Tryz.prog Ss 32 Su (Tryz.f11.body.getD .skip)=some agY:=aV rfl ah
noncomputable def agZ:FD:=⟨agY,32,[(.cell 2 43),(.t 3)],[2,3,4,6,7,8],[2,4,7]⟩
theorem att:bY Tryz.prog 11 agZ:=⟨Ss,Su,Tryz.f11,_,aG,Tryz.func11,rfl,atr,ah,rfl⟩
noncomputable def Sv:List (FuncId×FD):=[(124,afc),(125,afe),(126,afg),(127,afi),(84,afk),(85,afm),(48,afo),(144,afq),(89,afs),(128,afu),(49,afw),(51,afy),(52,afA),(53,afC),(54,afE),(50,afG),(86,afI),(87,afK),(88,afM),(90,afO),(91,afQ),(92,afS),(129,afU),(145,afW),(146,afY),(147,aga),(159,agc),(27,age),(94,agh),(130,agj),(93,agl),(55,agn),(56,agp),(57,agr),(28,agt),(95,agv),(96,agx),(99,agz),(131,agB),(98,agD),(97,agF),(58,agH),(101,agJ),(102,agL),(132,agN),(100,agP),(59,agR),(29,agT),(30,agV),(12,agX),(11,agZ)]
theorem atu:∀q∈Sv,bY Tryz.prog q.1 q.2:=by
 intro q hq;simp only[Sv,eM,qz,qD] at hq
 rcases hq with rfl|rfl|rfl|rfl|rfl|rfl|rfl|rfl|rfl|rfl|rfl|rfl|rfl|rfl|rfl|rfl|rfl|rfl|rfl|rfl|rfl|rfl|rfl|rfl|rfl|rfl|rfl|rfl|rfl|rfl|rfl|rfl|rfl|rfl|rfl|rfl|rfl|rfl|rfl|rfl|rfl|rfl|rfl|rfl|rfl|rfl|rfl|rfl|rfl|rfl|rfl
 ·exact arz
 ·exact arB
 ·exact arD
 ·exact arE
 ·exact arG
 ·exact arI
 ·exact arK
 ·exact arM
 ·exact arN
 ·exact arP
 ·exact arR
 ·exact arT
 ·exact arV
 ·exact arX
 ·exact arZ
 ·exact asb
 ·exact asf
 ·exact ash
 ·exact asj
 ·exact asm
 ·exact aso
 ·exact asq
 ·exact ass
 ·exact asu
 ·exact asw
 ·exact asy
 ·exact asA
 ·exact asC
 ·exact asD
 ·exact asF
 ·exact asH
 ·exact asJ
 ·exact asL
 ·exact asN
 ·exact asP
 ·exact asR
 ·exact asT
 ·exact asV
 ·exact asX
 ·exact asZ
 ·exact atb
 ·exact atd
 ·exact atf
 ·exact ath
 ·exact atj
 ·exact atk
 ·exact atl
 ·exact atn
 ·exact atp
 ·exact atq
 ·exact att
end Ab
namespace Ab
open Go Go.RowKit
section
variable {R:Type}
noncomputable def fN (n:Nat)(k:Nat->R):R:=Nat.rec (motive:=fun _=>R) (k 0) (fun m _=>k (Nat.succ m)) n
noncomputable def fI (i:Int)(k:Int->R):R:=Int.rec (motive:=fun _=>R) (fun n=>fN n fun n=>k (.ofNat n)) (fun n=>fN n fun n=>k (.negSucc n)) i
noncomputable def Fy (b:Bool)(k:Bool->R):R:=Bool.rec (motive:=fun _=>R) (k false) (k true) b
noncomputable def Dn {α:Type}(l:List α):(List α->R)->R:=List.rec (motive:=fun _=>(List α->R)->R) (fun k=>k []) (fun a _ ih k=>ih fun r=>k (a::r)) l
noncomputable def yZ (v:Value)(k:Value->R):R:=match v with
 | .int kd n=>fI n fun n=>k (.int kd n)
 | .bool b=>Fy b fun b=>k (.bool b)
 | .string ⟨⟨l⟩⟩=>Dn l fun l=>k (.string ⟨⟨l⟩⟩)
 |v=>k v
noncomputable def Kr (x:AC):(AC->R)->R:=AC.rec (motive_1:=fun _=>(AC->R)->R) (motive_2:=fun _=>(List (List AC)->R)->R) (motive_3:=fun _=>(List AC->R)->R)
 (fun v k=>yZ v fun v=>k (.v v)) (fun _ ih k=>ih fun es=>k (.sl es)) (fun s g k=>fN s fun s=>fN g fun g=>k (.own s g)) (fun s g k=>k (.ct s g)) (fun s g i k=>k (.part s g i)) (fun f _ ih k=>ih fun bK=>k (.dX f bK)) (fun f bK k=>k (.cls f bK))
 (fun k=>k []) (fun _ _ fT fU k=>fT fun r=>fU fun l=>k (r::l)) (fun k=>k []) (fun _ _ fT fU k=>fT fun r=>fU fun l=>k (r::l)) x
noncomputable def Dp (x:List AC):(List AC->R)->R:=List.rec (motive:=fun _=>(List AC->R)->R) (fun k=>k []) (fun a _ ih k=>Kr a fun a=>ih fun r=>k (a::r)) x
noncomputable def Sx (x:List (List AC)):(List (List AC)->R)->R:=List.rec (motive:=fun _=>(List (List AC)->R)->R) (fun k=>k []) (fun a _ ih k=>Dp a fun a=>ih fun r=>k (a::r)) x
noncomputable def Sy (x:AW)(k:AW->R):R:=match x with
 | .c x=>Kr x fun x=>k (.c x)
 | .agg cs=>Dp cs fun cs=>k (.agg cs)
noncomputable def Sz (x:List AW):(List AW->R)->R:=List.rec (motive:=fun _=>(List AW->R)->R) (fun k=>k []) (fun a _ ih k=>Sy a fun a=>ih fun r=>k (a::r)) x
noncomputable def Dq (x:AV)(k:AV->R):R:=match x with
 | .w x=>Sy x fun x=>k (.w x)
 | .bQ l=>Sz l fun l=>k (.bQ l)
 | .pb s g o=>fN s fun s=>fN g fun g=>fN o fun o=>k (.pb s g o)
 | .pr s g i o=>fN s fun s=>fN g fun g=>fN i fun i=>fN o fun o=>k (.pr s g i o)
 | .pi cs o=>Dp cs fun cs=>fN o fun o=>k (.pi cs o)
 | .u=>k .u
noncomputable def Ks (x:Slot)(k:Slot->R):R:=match x with
 | .dead g=>fN g fun g=>k (.dead g)
 | .box g cs=>fN g fun g=>Dp cs fun cs=>k (.box g cs)
 | .row e kk g es=>fN g fun g=>Sx es fun es=>k (.row e kk g es)
 | .obj g K=>k (.obj g K)
noncomputable def Gl (x:List (Nat×Slot)):(List (Nat×Slot)->R)->R:=List.rec (motive:=fun _=>(List (Nat×Slot)->R)->R) (fun k=>k []) (fun a _ ih k=>fN a.1 fun i=>Ks a.2 fun y=>ih fun r=>k ((i,y)::r)) x
noncomputable def Dr (x:List (Nat×AV)):(List (Nat×AV)->R)->R:=List.rec (motive:=fun _=>(List (Nat×AV)->R)->R) (fun k=>k []) (fun a _ ih k=>fN a.1 fun i=>ih fun r=>k ((i,a.2)::r)) x
noncomputable def Gm (x:List (Nat×AV)):(List (Nat×AV)->R)->R:=List.rec (motive:=fun _=>(List (Nat×AV)->R)->R) (fun k=>k []) (fun a _ ih k=>fN a.1 fun i=>Dq a.2 fun y=>ih fun r=>k ((i,y)::r)) x
theorem lU (n:Nat)(k:Nat->R):fN n k=k n:=by cases n<;>rfl
theorem atv (n:Int)(k:Int->R):fI n k=k n:=by
 cases n with
 |ofNat n=>exact lU n fun n=>k (.ofNat n)
 |negSucc n=>exact lU n fun n=>k (.negSucc n)
theorem atw (n:Bool)(k:Bool->R):Fy n k=k n:=by cases n<;>rfl
theorem Ds {α:Type}:∀(l:List α) (k:List α->R),Dn l k=k l
 |[],_=>rfl
 |a::l,k=>Ds l fun r=>k (a::r)
theorem aha (v:Value)(k:Value->R):yZ v k=k v:=by
 unfold yZ;split
 ·rename_i kd n;exact atv n fun n=>k (.int kd n)
 ·rename_i b;exact atw b fun b=>k (.bool b)
 ·rename_i l;exact Ds l fun l=>k (.string ⟨⟨l⟩⟩)
 ·rfl
theorem ahb (x:AC):∀k:AC->R,Kr x k=k x:=by
 refine AC.rec (motive_1:=fun x=>∀k:AC->R,Kr x k=k x)
  (motive_2:=fun l=>∀k:List (List AC)->R,(AC.rec_1 (motive_1:=fun _=>(AC->R)->R) (motive_2:=fun _=>(List (List AC)->R)->R) (motive_3:=fun _=>(List AC->R)->R)
   (fun v k=>yZ v fun v=>k (.v v)) (fun _ ih k=>ih fun es=>k (.sl es)) (fun s g k=>fN s fun s=>fN g fun g=>k (.own s g)) (fun s g k=>k (.ct s g)) (fun s g i k=>k (.part s g i)) (fun f _ ih k=>ih fun bK=>k (.dX f bK)) (fun f bK k=>k (.cls f bK))
   (fun k=>k []) (fun _ _ fT fU k=>fT fun r=>fU fun l=>k (r::l)) (fun k=>k []) (fun _ _ fT fU k=>fT fun r=>fU fun l=>k (r::l)) l:(List (List AC)->R)->R) k=k l)
  (motive_3:=fun l=>∀k:List AC->R,(AC.rec_2 (motive_1:=fun _=>(AC->R)->R) (motive_2:=fun _=>(List (List AC)->R)->R) (motive_3:=fun _=>(List AC->R)->R)
   (fun v k=>yZ v fun v=>k (.v v)) (fun _ ih k=>ih fun es=>k (.sl es)) (fun s g k=>fN s fun s=>fN g fun g=>k (.own s g)) (fun s g k=>k (.ct s g)) (fun s g i k=>k (.part s g i)) (fun f _ ih k=>ih fun bK=>k (.dX f bK)) (fun f bK k=>k (.cls f bK))
   (fun k=>k []) (fun _ _ fT fU k=>fT fun r=>fU fun l=>k (r::l)) (fun k=>k []) (fun _ _ fT fU k=>fT fun r=>fU fun l=>k (r::l)) l:(List AC->R)->R) k=k l)
  ?_ ?_ ?_ ?_ ?_ ?_ ?_ ?_ ?_ ?_ ?_ x
 ·intro v k;exact aha v fun v=>k (.v v)
 ·intro es ih k;exact ih fun es=>k (.sl es)
 ·intro s g k;exact(lU s fun s=>fN g fun g=>k (.own s g)).trans (lU g fun g=>k (.own s g))
 ·intro s g k;rfl
 ·intro s g i k;rfl
 ·intro f es ih k;exact ih fun es=>k (.dX f es)
 ·intro f es k;rfl
 ·intro k;rfl
 ·intro a l h1 h2 k;exact(h1 fun r=>_).trans (h2 fun l=>k (a::l))
 ·intro k;rfl
 ·intro a l h1 h2 k;exact(h1 fun r=>_).trans (h2 fun l=>k (a::l))
theorem Gn:∀(l:List AC) (k:List AC->R),Dp l k=k l
 |[],_=>rfl
 |a::l,k=>(ahb a fun a=>Dp l fun r=>k (a::r)).trans (Gn l fun r=>k (a::r))
theorem ahc:∀(l:List (List AC)) (k:List (List AC)->R),Sx l k=k l
 |[],_=>rfl
 |a::l,k=>(Gn a fun a=>Sx l fun r=>k (a::r)).trans (ahc l fun r=>k (a::r))
theorem ahd (x:AW)(k:AW->R):Sy x k=k x:=by
 cases x with
 |c x=>exact ahb x fun x=>k (.c x)
 |agg cs=>exact Gn cs fun cs=>k (.agg cs)
theorem ahe:∀(l:List AW) (k:List AW->R),Sz l k=k l
 |[],_=>rfl
 |a::l,k=>(ahd a fun a=>Sz l fun r=>k (a::r)).trans (ahe l fun r=>k (a::r))
theorem atx (x:AV)(k:AV->R):Dq x k=k x:=by
 cases x with
 |w x=>exact ahd x fun x=>k (.w x)
 |bQ l=>exact ahe l fun l=>k (.bQ l)
 |pb s g o=>simp only[Dq,lU]
 |pr s g i o=>simp only[Dq,lU]
 |pi cs o=>simp only[Dq,lU,Gn]
 |u=>rfl
theorem aty (x:Slot)(k:Slot->R):Ks x k=k x:=by
 cases x<;>simp only[Ks,lU,Gn,ahc]
theorem ahf:∀(l:List (Nat×Slot)) (k:List (Nat×Slot)->R),Gl l k=k l
 |[],_=>rfl
 |(i,a)::l,k=>(lU i fun i=>Ks a fun y=>Gl l fun r=>k ((i,y)::r)).trans ((aty a fun y=>Gl l fun r=>k ((i,y)::r)).trans (ahf l fun r=>k ((i,a)::r)))
theorem Kt:∀(l:List (Nat×AV)) (k:List (Nat×AV)->R),Dr l k=k l
 |[],_=>rfl
 |(i,a)::l,k=>(lU i fun i=>Dr l fun r=>k ((i,a)::r)).trans (Kt l fun r=>k ((i,a)::r))
theorem ahg:∀(l:List (Nat×AV)) (k:List (Nat×AV)->R),Gm l k=k l
 |[],_=>rfl
 |(i,a)::l,k=>(lU i fun i=>Dq a fun y=>Gm l fun r=>k ((i,y)::r)).trans ((atx a fun y=>Gm l fun r=>k ((i,y)::r)).trans (ahg l fun r=>k ((i,a)::r)))
end
section
variable {R:Type}
noncomputable def Ku (x:List (List AC)):(List (List AC)->R)->R:=List.rec (motive:=fun _=>(List (List AC)->R)->R) (fun k=>k []) (fun a _ ih k=>Dn a fun a=>ih fun r=>k (a::r)) x
noncomputable def SA (x:AC)(k:AC->R):R:=match x with
 | .v v=>yZ v fun v=>k (.v v)
 | .sl es=>Ku es fun es=>k (.sl es)
 | .own s g=>fN s fun s=>fN g fun g=>k (.own s g)
 | .ct s g=>k (.ct s g)
 | .part s g i=>k (.part s g i)
 | .dX f cs=>k (.dX f cs)
 | .cls f cs=>k (.cls f cs)
noncomputable def SB (x:AW)(k:AW->R):R:=match x with
 | .c x=>SA x fun x=>k (.c x)
 | .agg cs=>Dn cs fun cs=>k (.agg cs)
noncomputable def SC (x:List AW):(List AW->R)->R:=List.rec (motive:=fun _=>(List AW->R)->R) (fun k=>k []) (fun a _ ih k=>SB a fun a=>ih fun r=>k (a::r)) x
noncomputable def fV (x:AV)(k:AV->R):R:=match x with
 | .w x=>SB x fun x=>k (.w x)
 | .bQ l=>SC l fun l=>k (.bQ l)
 | .pb s g o=>fN s fun s=>fN g fun g=>fN o fun o=>k (.pb s g o)
 | .pr s g i o=>fN s fun s=>fN g fun g=>fN i fun i=>fN o fun o=>k (.pr s g i o)
 | .pi cs o=>Dn cs fun cs=>fN o fun o=>k (.pi cs o)
 | .u=>k .u
noncomputable def Kv (x:Slot)(k:Slot->R):R:=match x with
 | .dead g=>fN g fun g=>k (.dead g)
 | .box g cs=>fN g fun g=>Dn cs fun cs=>k (.box g cs)
 | .row e kk g es=>fN g fun g=>Ku es fun es=>k (.row e kk g es)
 | .obj g K=>k (.obj g K)
noncomputable def uD (x:List (Nat×Slot)):(List (Nat×Slot)->R)->R:=List.rec (motive:=fun _=>(List (Nat×Slot)->R)->R) (fun k=>k []) (fun a _ ih k=>fN a.1 fun i=>Kv a.2 fun y=>ih fun r=>k ((i,y)::r)) x
theorem SD:∀(l:List (List AC)) (k:List (List AC)->R),Ku l k=k l
 |[],_=>rfl
 |a::l,k=>(Ds a fun a=>Ku l fun r=>k (a::r)).trans (SD l fun r=>k (a::r))
theorem atz (x:AC)(k:AC->R):SA x k=k x:=by
 cases x with
 |v v=>exact aha v fun v=>k (.v v)
 |sl es=>exact SD es fun es=>k (.sl es)
 |own s g=>simp only[SA,lU]
 |ct s g=>rfl
 |part s g i=>rfl
 |dX f cs=>rfl
 |cls f cs=>rfl
theorem ahh (x:AW)(k:AW->R):SB x k=k x:=by
 cases x with
 |c x=>exact atz x fun x=>k (.c x)
 |agg cs=>exact Ds cs fun cs=>k (.agg cs)
theorem ahi:∀(l:List AW) (k:List AW->R),SC l k=k l
 |[],_=>rfl
 |a::l,k=>(ahh a fun a=>SC l fun r=>k (a::r)).trans (ahi l fun r=>k (a::r))
theorem Dt (x:AV)(k:AV->R):fV x k=k x:=by
 cases x with
 |w x=>exact ahh x fun x=>k (.w x)
 |bQ l=>exact ahi l fun l=>k (.bQ l)
 |pb s g o=>simp only[fV,lU]
 |pr s g i o=>simp only[fV,lU]
 |pi cs o=>simp only[fV,lU,Ds]
 |u=>rfl
theorem atA (x:Slot)(k:Slot->R):Kv x k=k x:=by
 cases x<;>simp only[Kv,lU,Ds,SD]
theorem Du:∀(l:List (Nat×Slot)) (k:List (Nat×Slot)->R),uD l k=k l
 |[],_=>rfl
 |(i,a)::l,k=>(lU i fun i=>Kv a fun y=>uD l fun r=>k ((i,y)::r)).trans ((atA a fun y=>uD l fun r=>k ((i,y)::r)).trans (Du l fun r=>k ((i,a)::r)))
end
def ahj:dz->Bool
 | .mv _=>true
 | .sB _=>true
 | .pick _ _ _=>true
 | .ext _ _=>true
 |_=>false
def AL:List UInt8->List UInt8->Bool
 |[],[]=>true
 |a::l,b::m=>match Nat.beq a.toNat b.toNat with
  |true=>AL l m
  |false=>false
 |_,_=>false
theorem Gp:∀l m:List UInt8,AL l m=(l==m)
 |[],[]=>rfl
 |[],_::_=>rfl
 |_::_,[]=>rfl
 |a::l,b::m=>by
  show(match Nat.beq a.toNat b.toNat with |true=>AL l m|false=>false)=(a==b && l==m)
  have:Nat.beq a.toNat b.toNat=(a==b):=by
   rw[zu];simp[UInt8.toNat_inj]
  rw[this,Gp l m];cases(a==b)<;>rfl
def Dv:Int->Bool
 | .ofNat n=>Nat.ble n 9223372036854775807
 | .negSucc n=>Nat.ble n 9223372036854775807
theorem atB {n:Int}(h:Dv n=true):IntKind.i64.wrap n=n:=by
 cases n with
 |ofNat n=>exact wrap64 (by have:=vO h;show _<=((n:Nat):Int);omega) (by have:=vO h;show((n:Nat):Int)<=_;omega)
 |negSucc n=>exact wrap64 (by have:=vO h;omega) (by have:=vO h;omega)
def sT (op:BinOp)(x y:Value):Option Value:=match x,y with
 | .string ⟨⟨a⟩⟩,.string ⟨⟨b⟩⟩=>match op with
  | .eql=>some (.bool (AL a b))
  | .neq=>some (.bool (!AL a b))
  |_=>none
 | .int .i64 a,.int .i64 b=>match op with
  | .add=>match Dv (Int.add a b) with |true=>some (.int .i64 (Int.add a b))|false=>none
  | .sub=>match Dv (Int.sub a b) with |true=>some (.int .i64 (Int.sub a b))|false=>none
  | .mul=>match Dv (Int.mul a b) with |true=>some (.int .i64 (Int.mul a b))|false=>none
  |op=>aY op (.int .i64 a) (.int .i64 b)
 |x,y=>aY op x y
theorem atC (bs:ByteArray):∀(k i:Nat) (r:List UInt8),bs.size-i=k->ByteArray.toList.loop bs i r=r.reverse++bs.data.toList.drop i:=by
 intro k
 induction k with
 |zero=>
  intro i r hk;unfold ByteArray.toList.loop;have h:¬i<bs.size:=aa;rw[if_neg h];have:bs.data.toList.drop i=[]:=oZ (by simpa using(by omega:bs.size<=i));rw[this];simp
 |succ k ih=>
  intro i r hk;unfold ByteArray.toList.loop;have h:i<bs.size:=aa;rw[if_pos h,ih (i+1) _ aa]
  have h':i<bs.data.toList.length:=by simpa using h
  rw[List.drop_eq_getElem_cons h']
  have:bs.get! i=bs.data.toList[i]:=by
   obtain⟨⟨l⟩⟩:=bs
   show(Array.mk l)[i]! =_
   simp at h';simp[h']
  rw[this];simp
theorem uE (l:List UInt8):(ByteArray.mk ⟨l⟩).toList=l:=by
 unfold ByteArray.toList;rw[atC _ _ 0 [] rfl];rfl
theorem atD {op:BinOp}{x y r:Value}(h:sT op x y=some r):aY op x y=some r:=by
 have key:∀(n:Int) (x:Option Value),(match Dv n with |true=>some (Value.int .i64 n)|false=>none)=some r->x=(if IntKind.i64=IntKind.i64 then(if IntKind.i64.wrap n=n then some (Value.int .i64 n) else none) else none)->x=some r:=by
  intro n x h hx
  cases hh:Dv n with
  |true=>rw[hh] at h;rw[hx,if_pos rfl,if_pos (atB hh)];exact h
  |false=>rw[hh] at h;cases h
 unfold sT at h;split at h
 ·split at h
  ·rw[Gp] at h;rw[anx,uE,uE];exact h
  ·rw[Gp] at h;rw[anz,uE,uE];exact h
  ·cases h
 ·split at h
  ·exact key _ _ h rfl
  ·exact key _ _ h rfl
  ·exact key _ _ h rfl
  ·exact h
 ·exact h
def AM (U:List Nat)(st:St)(op:dz):Option AV:=match op with
 | .bin o x y=>match st.sc x,st.sc y with
  |some u,some v=>match sT o u v with
   |some r=>some (.w (.c (.v r)))
   |none=>none
  |_,_=>none
 |op=>match bV op with
  |some (_,ev)=>ev st U
  |none=>none
theorem ahk {U:List Nat}{st:St}{op:dz}{x:AV}(h:AM U st op=some x):∃m ev,bV op=some (m,ev)/\ev st U=some x:=by
 unfold AM at h;split at h
 ·rename_i o a b;refine⟨_,_,rfl,?_⟩;split at h
  ·rename_i u v h1 h2;split at h
   ·rename_i r hr
    show(match st.sc a,st.sc b with |some u,some v=>(aY o u v).map fun r=>AV.w (.c (.v r))|_,_=>none)=_
    rw[h1,h2];dsimp only;rw[atD hr];exact h
   ·cases h
  ·cases h
 ·split at h
  ·rename_i m ev he;exact⟨m,ev,he,h⟩
  ·cases h
noncomputable def Kw {R:Type}(l:List (Nat×AV))(d:Nat)(x:AV):(List (Nat×AV)->R)->R:=List.rec (motive:=fun _=>(List (Nat×AV)->R)->R) (fun k=>k []) (fun p t ih k=>match p with
 |(i,y)=>match Nat.beq i d with
  |true=>ih fun t'=>k ((i,x)::t')
  |false=>ih fun t'=>k ((i,y)::t')) l
theorem SE {R:Type}:∀(l:List (Nat×AV)) (d:Nat) (x:AV) (k:List (Nat×AV)->R),Kw l d x k=k (mu l d x)
 |[],_,_,_=>rfl
 |(i,y)::l,d,x,k=>by
  show(match Nat.beq i d with
  |true=>Kw l d x fun t'=>k ((i,x)::t')
  |false=>Kw l d x fun t'=>k ((i,y)::t'))=_
  unfold mu
  cases h:Nat.beq i d with
  |true=>rw[if_pos (ew h)];exact SE l d x _
  |false=>rw[if_neg (Ho h)];exact SE l d x _
def Ky:List (Nat×AV)->Nat->Bool
 |[],_=>false
 |(i,_)::l,d=>match Nat.beq i d with
  |true=>true
  |false=>Ky l d
theorem ahl:∀(l:List (Nat×AV)) (d:Nat),Ky l d=(aB l d).isSome
 |[],_=>rfl
 |(i,y)::l,d=>by
  unfold Ky aB
  cases h:Nat.beq i d with
  |true=>rw[if_pos (ew h)];rfl
  |false=>rw[if_neg (Ho h)];exact ahl l d
noncomputable def cM (V L:List (Nat×AV))(S:List (Nat×Slot))(d:Option Nat)(x:AV):Option St:=match d with
 |none=>some ⟨V,L,S⟩
 |some d=>match Ky V d with
  |true=>Kw V d x fun V'=>some ⟨V',L,S⟩
  |false=>some ⟨V,(d,x)::L,S⟩
theorem zb (V L:List (Nat×AV))(S:List (Nat×Slot))(d:Option Nat)(x:AV):cM V L S d x=some ((St.mk V L S).dR d x):=by
 cases d with
 |none=>rfl
 |some d=>
  unfold cM St.dR St.put;dsimp only;rw[ahl]
  cases h:(aB V d).isSome with
  |true=>rw[SE];rfl
  |false=>rfl
def Gq:dz->Bool
 | .Ad _ _ _=>false
 | .box _ _=>false
 | .alloc _ _=>false
 | .pT _ _ _ _=>false
 | .tX _ _ _ _ _ _=>false
 | .app _ _ _ _=>false
 | .store _ _ _=>false
 | .mG _ _ _ _=>false
 | .yC _ _ _=>false
 | .Ah _ _ _ _ _=>false
 | .nE _ _ none _=>false
 | .call _ _=>false
 | .kR _ _ _=>false
 |_=>true
theorem ahm {U:Option (List Nat)}{st:St}{op:dz}(h:Gq op=true):cS U st op=match bV op with
  |some (_,ev)=>(ev st []).map fun x=>(x,st)
  |none=>none:=by
 cases op<;>first|rfl|(cases h;done)|skip
 rename_i k x lo hi
 cases lo with
 |none=>cases h
 |some lo=>rfl
theorem atF {U:Option (List Nat)}{st st':St}{op:dz}{x:AV}(h:cS U st op=some (x,st')):st'.V=st.V/\st'.L=st.L:=by
 have rd:∀(ev:St->List Nat->Option AV),((ev st []).map fun x=>(x,st))=some (x,st')->st'.V=st.V/\st'.L=st.L:=fun ev h=>by
  rw[bz] at h;obtain⟨y,hy,he⟩:=h;cases he;exact⟨rfl,rfl⟩
 by_cases hr:Gq op=true
 ·rw[ahm hr] at h;split at h
  ·exact rd _ h
  ·cases h
 cases op with
 |Ad s e k=>simp only[cS] at h;split at h<;>cases h;exact⟨rfl,rfl⟩
 |box s y=>simp only[cS] at h;(repeat' split at h)<;>cases h;exact⟨rfl,rfl⟩
 |alloc s za=>simp only[cS] at h;split at h<;>cases h;exact⟨rfl,rfl⟩
 |yC k za y=>simp only[cS] at h;(repeat' split at h)<;>cases h;exact⟨rfl,rfl⟩
 |Ah s e k za y=>simp only[cS] at h;(repeat' split at h)<;>cases h;exact⟨rfl,rfl⟩
 |pT k n za qs=>simp only[cS] at h;(repeat' split at h)<;>cases h;exact⟨rfl,rfl⟩
 |tX s e k n za qs=>simp only[cS] at h;(repeat' split at h)<;>cases h;exact⟨rfl,rfl⟩
 |app e k y z=>simp only[cS] at h;(repeat' split at h)<;>cases h;exact⟨rfl,rfl⟩
 |store n p y=>
  simp only[cS] at h;split at h
  ·rename_i xw hy;split at h
   ·rename_i dP hst;split at h
    ·cases h;unfold St.store at hst
     (repeat' split at hst)<;>cases hst<;>exact⟨rfl,rfl⟩
    ·cases h
   ·cases h
  ·cases h
 |nE k y lo hi=>
  cases lo with
  |none=>
   simp only[cS] at h;split at h
   ·(repeat' split at h)<;>cases h;exact⟨rfl,rfl⟩
   ·exact rd ((bV (.nE k y none hi)).get rfl).2 h
  |some lo=>exact absurd rfl hr
 |call f ys=>simp[cS] at h
 |kR f ys D=>simp[cS] at h
 |mG D n p y=>simp[cS] at h
 |mv y=>exact absurd rfl hr
 |bin EZ y z=>exact absurd rfl hr
 |un Fa y=>exact absurd rfl hr
 |pick c y z=>exact absurd rfl hr
 |len y=>exact absurd rfl hr
 |mm mx y z=>exact absurd rfl hr
 |sB p=>exact absurd rfl hr
 |yr n p=>exact absurd rfl hr
 |tT p off=>exact absurd rfl hr
 |idx k y i=>exact absurd rfl hr
 |yt n k p i=>exact absurd rfl hr
 |ext y i=>exact absurd rfl hr
 |yu y i=>exact absurd rfl hr
 |wP y=>exact absurd rfl hr
 |Ae y lo hi=>exact absurd rfl hr
 |Af kk y=>exact absurd rfl hr
 |wQ y=>exact absurd rfl hr
 |Ag y z t=>exact absurd rfl hr
 |yv za qs=>exact absurd rfl hr
 |eqs neg n y z=>exact absurd rfl hr
def xW (U:Option (List Nat))(st:St)(op:dz):Option (AV×St):=match op with
 | .pT k n za qs=>match Dm k n st qs with
  |some rows=>some (.w (.c (.sl rows)),st)
  |none=>cS U st (.pT k n za qs)
 | .tX s e k n za qs=>match Dm k n st qs with
  |some rows=>match(aB st.S s).isSome with
   |true=>some (.w (.c (.own s ((st.slot s).gen+1))),st.bM s (.row e k ((st.slot s).gen+1) rows))
   |false=>none
  |none=>cS U st (.tX s e k n za qs)
 |op=>cS U st op
theorem atG {U:Option (List Nat)}{st:St}{op:dz}{r:AV×St}(h:xW U st op=some r):cS U st op=some r:=by
 unfold xW at h;split at h
 ·split at h
  ·rename_i rows hr;rw[arv hr];exact h
  ·exact h
 ·split at h
  ·rename_i rows hr;split at h
   ·rename_i hs;rw[arw hr hs];exact h
   ·cases h
  ·exact h
 ·exact h
def Kz:dz->Bool
 | .pT _ _ _ _=>false
 | .yC _ _ _=>false
 |_=>true
theorem atH {U:Option (List Nat)}{st st':St}{op:dz}{x:AV}(hs:Kz op=false)(h:cS U st op=some (x,st')):st'=st:=by
 cases op<;>first|(cases hs;done)|skip
 ·simp only[cS] at h;(repeat' split at h)<;>cases h;rfl
 ·simp only[cS] at h;(repeat' split at h)<;>cases h;rfl
noncomputable def SF (U:Option (List Nat))(V L:List (Nat×AV))(S:List (Nat×Slot))(d:Option Nat)(op:dz):Option St:=match Gq op with
 |true=>match AM [] ⟨V,L,S⟩ op with
  |some x=>match ahj op with
   |true=>cM V L S d x
   |false=>fV x fun x=>cM V L S d x
  |none=>none
 |false=>match xW U ⟨V,L,S⟩ op with
  |some (x,st')=>match Kz op with
   |true=>fV x fun x=>uD st'.S fun S'=>cM V L S' d x
   |false=>fV x fun x=>cM V L S d x
  |none=>none
theorem atJ {U:Option (List Nat)}{V L:List (Nat×AV)}{S:List (Nat×Slot)}{d:Option Nat}{op:dz}{st':St}(h:SF U V L S d op=some st'):((cS U ⟨V,L,S⟩ op).map fun p=>p.2.dR d p.1)=some st':=by
 unfold SF at h
 cases hr:Gq op with
 |true=>
  rw[hr] at h;dsimp only at h;split at h
  ·rename_i x hx
   have h:cM V L S d x=some st':=by
    split at h
    ·exact h
    ·rw[Dt] at h;exact h
   rw[zb] at h;obtain⟨m,ev,he,hv⟩:=ahk hx;rw[ahm hr,he];dsimp only;rw[hv];exact h
  ·cases h
 |false=>
  rw[hr] at h;dsimp only at h;split at h
  ·rename_i x dP hx;have hx:=atG hx
   cases hs:Kz op with
   |true=>
    rw[hs] at h;dsimp only at h;rw[Dt,Du,zb] at h;obtain⟨h1,h2⟩:=atF hx;rw[hx];obtain⟨V2,L2,S2⟩:=dP;dsimp only at h1 h2 h⊢;subst h1;subst h2;exact h
   |false=>
    rw[hs] at h;dsimp only at h;rw[Dt,zb] at h;rw[hx,atH hs hx];exact h
  ·cases h
end Ab
namespace Ab
open Go Go.RowKit
structure Dw (α:Type) where
 f:α
noncomputable def KA {α:Type}(j:Nat)(l:List (Nat×α)):Option α:=List.rec (motive:=fun _=>Option α) none (fun p _ ih=>Prod.rec (motive:=fun _=>Option α) (fun i x=>Bool.rec (motive:=fun _=>Option α) ih (some x) (Nat.beq i j)) p) l
theorem SG {α:Type}(j:Nat):∀l:List (Nat×α),KA j l=aB l j
 |[]=>rfl
 |(i,x)::l=>by
  show Bool.rec (motive:=fun _=>Option α) (KA j l) (some x) (Nat.beq i j)=_
  unfold aB
  cases h:Nat.beq i j with
  |true=>rw[if_pos (ew h)]
  |false=>rw[if_neg (Ho h)];exact SG j l
noncomputable def AP (V L:List (Nat×AV))(i:Nat):Option AV:=Option.rec (motive:=fun _=>Option AV) (KA i L) (fun v=>some v) (KA i V)
theorem SH (V L:List (Nat×AV))(S:List (Nat×Slot))(i:Nat):AP V L i=St.get ⟨V,L,S⟩ i:=by
 unfold AP St.get;dsimp only;rw[SG,SG];cases aB V i<;>rfl
noncomputable def kg (y:aw):Dw (List (Nat×AV)->List (Nat×AV)->Option AV):=match y with
 | .t i=>⟨fun V L=>AP V L i⟩
 | .k x=>⟨fun _ _=>some (.w x)⟩
theorem zc (y:aw)(V L:List (Nat×AV))(S:List (Nat×Slot)):(kg y).f V L=St.arg ⟨V,L,S⟩ y:=by
 cases y with
 |t i=>exact SH V L S i
 |k x=>rfl
noncomputable def sU (y:aw):Dw (List (Nat×AV)->List (Nat×AV)->Option Value):=match y with
 | .t i=>⟨fun V L=>zN (AP V L i)⟩
 | .k x=>⟨fun _ _=>zN (some (.w x))⟩
theorem Gr (y:aw)(V L:List (Nat×AV))(S:List (Nat×Slot)):(sU y).f V L=St.sc ⟨V,L,S⟩ y:=by
 cases y with
 |t i=>show zN (AP V L i)=_;rw[SH V L S];rfl
 |k x=>rfl
def SI (o:BinOp):Dw (Value->Value->Option Value):=match o with
 | .lss=>⟨fun x y=>sT .lss x y⟩
 | .eql=>⟨fun x y=>sT .eql x y⟩
 | .neq=>⟨fun x y=>sT .neq x y⟩
 | .add=>⟨fun x y=>sT .add x y⟩
 |o=>⟨fun x y=>sT o x y⟩
theorem atK (o:BinOp)(x y:Value):(SI o).f x y=sT o x y:=by cases o<;>rfl
abbrev Fz:=Option (List Nat)->List (Nat×AV)->List (Nat×AV)->List (Nat×Slot)->Option Nat->Option St
noncomputable def SJ (op:dz):Dw Fz:=match op with
 | .mv x=>match kg x with
  |⟨a⟩=>⟨fun _ V L S d=>match a V L with
   |some y=>cM V L S d y
   |none=>none⟩
 | .bin o x y=>match sU x,sU y,SI o with
  |⟨a⟩,⟨b⟩,⟨f⟩=>⟨fun _ V L S d=>match a V L,b V L with
   |some u,some v=>match f u v with
    |some r=>yZ r fun r=>cM V L S d (.w (.c (.v r)))
    |none=>none
   |_,_=>none⟩
 | .len x=>match kg x with
  |⟨a⟩=>⟨fun _ V L S d=>match St.rows ⟨V,L,S⟩ [] (a V L) with
   |some es=>fI (Int.ofNat es.length) fun n=>cM V L S d (.w (.c (.v (.int .i64 n))))
   |none=>none⟩
 | .sB p=>match kg p with
  |⟨a⟩=>⟨fun _ V L S d=>match St.cells ⟨V,L,S⟩ [] 1 (a V L) with
   |some (c::_)=>cM V L S d (.w (.c c))
   |_=>none⟩
 | .tT p off=>match kg p with
  |⟨a⟩=>⟨fun _ V L S d=>match St.cells ⟨V,L,S⟩ [] 0 (a V L),a V L with
   |some _,some q=>fV (q.shift off) fun x=>cM V L S d x
   |_,_=>none⟩
 | .wQ p=>match kg p with
  |⟨a⟩=>⟨fun _ V L S d=>match St.cells ⟨V,L,S⟩ [] 0 (a V L),a V L with
   |some _,some q=>fV q fun x=>cM V L S d x
   |_,_=>none⟩
 | .idx k x i=>match kg x,sU i with
  |⟨a⟩,⟨b⟩=>⟨fun _ V L S d=>match Cm k (St.rows ⟨V,L,S⟩ [] (a V L)) (a V L) (b V L) with
   |some x=>fV x fun x=>cM V L S d x
   |none=>none⟩
 | .pick c x y=>match sU c,kg x,kg y with
  |⟨a⟩,⟨b⟩,⟨e⟩=>⟨fun _ V L S d=>match a V L with
   |some (.bool true)=>(match b V L with
    |some x=>cM V L S d x
    |none=>none)
   |some (.bool false)=>(match e V L with
    |some x=>cM V L S d x
    |none=>none)
   |_=>none⟩
 | .wP x=>match sU x with
  |⟨a⟩=>⟨fun _ V L S d=>match a V L with
   |some (.string s)=>fI (Int.ofNat s.size) fun n=>cM V L S d (.w (.c (.v (.int .i64 n))))
   |_=>none⟩
 |op=>match Gq op,Kz op with
  |true,_=>⟨fun _ V L S d=>match AM [] ⟨V,L,S⟩ op with
   |some x=>match ahj op with
    |true=>cM V L S d x
    |false=>fV x fun x=>cM V L S d x
   |none=>none⟩
  |false,true=>⟨fun U V L S d=>match xW U ⟨V,L,S⟩ op with
   |some (x,st')=>fV x fun x=>uD st'.S fun S'=>cM V L S' d x
   |none=>none⟩
  |false,false=>⟨fun U V L S d=>match xW U ⟨V,L,S⟩ op with
   |some (x,_)=>fV x fun x=>cM V L S d x
   |none=>none⟩
theorem atL (op:dz)(U:Option (List Nat))(V L:List (Nat×AV))(S:List (Nat×Slot))(d:Option Nat):(SJ op).f U V L S d=SF U V L S d op:=by
 cases op with
 |mv x=>
  show(match(kg x).f V L with |some y=>cM V L S d y|none=>none)=(match St.arg ⟨V,L,S⟩ x with |some y=>cM V L S d y|none=>none)
  rw[zc x V L S]
 |bin o x y=>
  show(match(sU x).f V L,(sU y).f V L with |some u,some v=>(match(SI o).f u v with |some r=>yZ r fun r=>cM V L S d (.w (.c (.v r)))|none=>none)|_,_=>none)=_
  rw[Gr x V L S,Gr y V L S];simp only[atK]
  show _=(match(match St.sc ⟨V,L,S⟩ x,St.sc ⟨V,L,S⟩ y with |some u,some v=>(match sT o u v with |some r=>some (AV.w (.c (.v r)))|none=>none)|_,_=>none) with |some x=>fV x fun x=>cM V L S d x|none=>none)
  cases St.sc ⟨V,L,S⟩ x with
  |none=>rfl
  |some u=>cases St.sc ⟨V,L,S⟩ y with
   |none=>rfl
   |some v=>dsimp only;cases sT o u v<;>rfl
 |len x=>
  show(match St.rows ⟨V,L,S⟩ [] ((kg x).f V L) with |some es=>fI (Int.ofNat es.length) fun n=>cM V L S d (.w (.c (.v (.int .i64 n))))|none=>none)=(match(match St.rows ⟨V,L,S⟩ [] (St.arg ⟨V,L,S⟩ x) with |some es=>some (AV.w (.c (.v (.int .i64 es.length))))|none=>none) with |some x=>fV x fun x=>cM V L S d x|none=>none)
  rw[zc x V L S];cases St.rows ⟨V,L,S⟩ [] (St.arg ⟨V,L,S⟩ x)<;>rfl
 |sB p=>
  show(match St.cells ⟨V,L,S⟩ [] 1 ((kg p).f V L) with |some (c::_)=>cM V L S d (.w (.c c))|_=>none)=(match(match St.cells ⟨V,L,S⟩ [] 1 (St.arg ⟨V,L,S⟩ p) with |some (c::_)=>some (AV.w (.c c))|_=>none) with |some x=>cM V L S d x|none=>none)
  rw[zc p V L S]
  cases St.cells ⟨V,L,S⟩ [] 1 (St.arg ⟨V,L,S⟩ p) with
  |none=>rfl
  |some l=>cases l<;>rfl
 |tT p off=>
  show(match St.cells ⟨V,L,S⟩ [] 0 ((kg p).f V L),(kg p).f V L with |some _,some q=>fV (q.shift off) fun x=>cM V L S d x|_,_=>none)=(match(match St.cells ⟨V,L,S⟩ [] 0 (St.arg ⟨V,L,S⟩ p),St.arg ⟨V,L,S⟩ p with |some _,some q=>some (q.shift off)|_,_=>none) with |some x=>fV x fun x=>cM V L S d x|none=>none)
  rw[zc p V L S];cases St.cells ⟨V,L,S⟩ [] 0 (St.arg ⟨V,L,S⟩ p)<;>cases St.arg ⟨V,L,S⟩ p<;>rfl
 |wQ p=>
  show(match St.cells ⟨V,L,S⟩ [] 0 ((kg p).f V L),(kg p).f V L with |some _,some q=>fV q fun x=>cM V L S d x|_,_=>none)=(match(match St.cells ⟨V,L,S⟩ [] 0 (St.arg ⟨V,L,S⟩ p),St.arg ⟨V,L,S⟩ p with |some _,some q=>some q|_,_=>none) with |some x=>fV x fun x=>cM V L S d x|none=>none)
  rw[zc p V L S];cases St.cells ⟨V,L,S⟩ [] 0 (St.arg ⟨V,L,S⟩ p)<;>cases St.arg ⟨V,L,S⟩ p<;>rfl
 |idx k x i=>
  show(match Cm k (St.rows ⟨V,L,S⟩ [] ((kg x).f V L)) ((kg x).f V L) ((sU i).f V L) with |some x=>fV x fun x=>cM V L S d x|none=>none)=_
  rw[zc x V L S,Gr i V L S];rfl
 |pick c x y=>
  show(match(sU c).f V L with |some (.bool true)=>(match(kg x).f V L with |some x=>cM V L S d x|none=>none)|some (.bool false)=>(match(kg y).f V L with |some x=>cM V L S d x|none=>none)|_=>none)=(match(match St.sc ⟨V,L,S⟩ c with |some (.bool true)=>St.arg ⟨V,L,S⟩ x|some (.bool false)=>St.arg ⟨V,L,S⟩ y|_=>none) with |some x=>cM V L S d x|none=>none)
  rw[Gr c V L S,zc x V L S,zc y V L S]
  cases St.sc ⟨V,L,S⟩ c with
  |none=>rfl
  |some v=>
   cases v with
   |bool b=>cases b<;>rfl
   |_=>rfl
 |wP x=>
  show(match(sU x).f V L with |some (.string s)=>fI (Int.ofNat s.size) fun n=>cM V L S d (.w (.c (.v (.int .i64 n))))|_=>none)=(match(match St.sc ⟨V,L,S⟩ x with |some (.string s)=>some (AV.w (.c (.v (.int .i64 s.size))))|_=>none) with |some x=>fV x fun x=>cM V L S d x|none=>none)
  rw[Gr x V L S]
  cases St.sc ⟨V,L,S⟩ x with
  |none=>rfl
  |some v=>cases v<;>rfl
 |nE k x lo hi=>cases lo<;>rfl
 |pT k n za qs=>
  show(match xW U ⟨V,L,S⟩ (.pT k n za qs) with |some (x,_)=>fV x fun x=>cM V L S d x|none=>none)=_
  rfl
 |_=>rfl
end Ab
namespace Ab
open Go Go.RowKit
abbrev C1:=FuncId->List AW->Option AV
abbrev C2:=FuncId->List AV->List (Nat×Slot)->Option (AV×List (Nat×Slot))
def gO (P:Program)(c:C1):Prop:=∀f args x,c f args=some x->bt P f args (fun y=>y=x)
def zd (P:Program)(c:C2):Prop:=∀f args T x Y,c f args T=some (x,Y)->Y.map (·.1)=T.map (·.1)/\fQ P f args T (fun y S'=>y=x/\∀p∈Y,S' p.1=p.2)
def KB:List Nat->List Nat->Bool
 |[],[]=>true
 |a::l,b::m=>match Nat.beq a b with
  |true=>KB l m
  |false=>false
 |_,_=>false
theorem ahn:∀{l m:List Nat},KB l m=true->l=m
 |[],[],_=>rfl
 |[],_::_,h=>by cases h
 |_::_,[],h=>by cases h
 |a::l,b::m,h=>by
  unfold KB at h
  cases hb:Nat.beq a b with
  |true=>rw[hb] at h;rw[ew hb,ahn h]
  |false=>rw[hb] at h;cases h
noncomputable def KC (c1:C1)(c2:C2)(op:dz):Dw Fz:=match op with
 | .call f ys=>⟨fun _ V L S d=>match kP ⟨V,L,S⟩ ys with
  |some ws=>match c1 f ws with
   |some x=>fV x fun x=>cM V L S d x
   |none=>none
  |none=>none⟩
 | .kR f ys D=>⟨fun U V L S d=>match kA ⟨V,L,S⟩ ys with
  |some ws=>match ws.all (gI D) && (D.all fun s=>(aB S s).isSome && eE D (St.slot ⟨V,L,S⟩ s) && oL U s) with
   |true=>match c2 f ws (eW ⟨V,L,S⟩ D) with
    |some (x,Y)=>match KB (Y.map (·.1)) D && (gI D x && Y.all fun p=>eE D p.2) with
     |true=>fV x fun x=>uD (jR Y ⟨V,L,S⟩).S fun S'=>cM V L S' d x
     |false=>none
    |none=>none
   |false=>none
  |none=>none⟩
 |op=>SJ op
noncomputable def cO (c1:C1)(c2:C2)(U:Option (List Nat))(b:BO):Dw (List (Nat×AV)->List (Nat×AV)->List (Nat×Slot)->Option St):=match b with
 |⟨d,g,op⟩=>match KC c1 c2 op with
  |⟨f⟩=>match g with
   |none=>⟨fun V L S=>f U V L S d⟩
   |some (t,want)=>⟨fun V L S=>match jd (AP V L t) want with
    |some true=>f U V L S d
    |some false=>cM V L S d (.bQ [])
    |none=>none⟩
noncomputable def xO (c1:C1)(c2:C2)(U:Option (List Nat))(st:St)(b:BO):Option St:=match cO c1 c2 U b,st with
 |⟨f⟩,⟨V,L,S⟩=>f V L S
section
variable {P:Program} {c1:C1} {c2:C2}
theorem atM (l:List (Nat×Slot))(st:St):(jR l st).V=st.V/\(jR l st).L=st.L:=by rw[Fi];exact⟨rfl,rfl⟩
theorem aho (h1:gO P c1)(h2:zd P c2){U:Option (List Nat)}{V L:List (Nat×AV)}{S:List (Nat×Slot)}{d:Option Nat}{op:dz}{st':St}(h:(KC c1 c2 op).f U V L S d=some st'){K:St->Prop}(hK:K st'):
  oK P U op ⟨V,L,S⟩ fun x dP=>K (dP.dR d x):=by
 have gen:(SJ op).f U V L S d=some st'->oK P U op ⟨V,L,S⟩ fun x dP=>K (dP.dR d x):=fun h=>by
  rw[atL] at h;have:=atJ h;rw[bz] at this;obtain⟨⟨x,dP⟩,g1,g2⟩:=this;refine Nx g1 ?_;dsimp only at g2;rw[g2];exact hK
 unfold KC at h;split at h
 ·rename_i f ys;dsimp only at h;split at h
  ·rename_i ws SK;split at h
   ·rename_i x hx;rw[Dt,zb] at h;cases h;exact⟨ws,_,SK,h1 f ws x hx,fun y hy=>by rw[hy];exact hK⟩
   ·cases h
  ·cases h
 ·rename_i f ys D;dsimp only at h;split at h
  ·rename_i ws SK;split at h
   ·rename_i hc;rw[bN] at hc;obtain⟨iI,ma⟩:=hc;split at h
    ·rename_i x Y hx;split at h
     ·rename_i hl;rw[bN,bN] at hl;obtain⟨cn,pE,Vc⟩:=hl;have hY:=ahn cn;rw[Dt,Du,zb] at h;cases h
      have hD:∀s∈D,(aB S s).isSome=true/\eE D (St.slot ⟨V,L,S⟩ s)=true/\oL U s=true:=fun s hs=>by
       have:=dY.1 ma s hs;simp only[bN] at this;exact⟨this.1.1,this.1.2,this.2⟩
      refine⟨ws,_,SK,iI,fun s hs=>⟨(hD s hs).1,(hD s hs).2.1⟩,fun s hs=>Jq (hD s hs).2.2,(h2 f ws _ x Y hx).2,?_⟩;rintro r S' ⟨rfl,hS⟩;refine⟨⟨pE,fun s hs=> ?_⟩,?_⟩
      ·rw[<-hY] at hs;obtain⟨p,hp,rfl⟩:=fZ.1 hs;rw[hS p hp];exact dY.1 Vc p hp
      ·have e1:jD D S' ⟨V,L,S⟩=jR Y ⟨V,L,S⟩:=by
        rw[Fi];unfold jD;rw[NK Y S D S' hS (fun s=>by rw[hY])]
       rw[e1];obtain⟨g1,g2⟩:=atM Y ⟨V,L,S⟩
       have e2:jR Y ⟨V,L,S⟩=⟨V,L,(jR Y ⟨V,L,S⟩).S⟩:=by
        generalize jR Y ⟨V,L,S⟩=q at g1 g2⊢;obtain⟨a,b,c⟩:=q;dsimp only at g1 g2;rw[g1,g2]
       rw[e2];exact hK
     ·cases h
    ·cases h
   ·cases h
  ·cases h
 ·exact gen h
theorem KD (h1:gO P c1)(h2:zd P c2){U:Option (List Nat)}{st st':St}{b:BO}(h:xO c1 c2 U st b=some st'){K:St->Prop}(hK:K st'):nG U (b.ao P) K st:=by
 obtain⟨V,L,S⟩:=st;obtain⟨d,g,op⟩:=b
 cases g with
 |none=>exact aho h1 h2 (op:=op) (U:=U) (d:=d) h hK
 |some p=>
  obtain⟨t,want⟩:=p
  change (match jd (AP V L t) want with
   |some true=>(KC c1 c2 op).f U V L S d
   |some false=>cM V L S d (.bQ [])
   |none=>none)=some st' at h
  rw[SH V L S] at h
  show(match jd (St.arg ⟨V,L,S⟩ (.t t)) want with
   |some true=>_
   |some false=>_
   |none=>False)
  split at h
  ·rename_i hw;have hw:jd (St.arg ⟨V,L,S⟩ (.t t)) want=some true:=hw;rw[hw];exact aho h1 h2 (op:=op) (U:=U) (d:=d) h hK
  ·rename_i hw;have hw:jd (St.arg ⟨V,L,S⟩ (.t t)) want=some false:=hw;rw[hw];dsimp only;rw[Jr];rw[zb] at h;cases h;exact hK
  ·cases h
end
noncomputable def xL (c1:C1)(c2:C2)(U:Option (List Nat))(l:List BO):St->Option St:=List.rec (motive:=fun _=>St->Option St) (fun st=>some st) (fun b _ ih st=>match xO c1 c2 U st b with
 |some st'=>ih st'
 |none=>none) l
theorem SL {P:Program}{c1:C1}{c2:C2}(h1:gO P c1)(h2:zd P c2){U:Option (List Nat)}:∀{l:List BO} {st st':St},xL c1 c2 U l st=some st'->∀{K:St->Prop},K st'->bo U (l.map (BO.ao P)) K st
 |[],st,st',h,K,hK=>by cases h;exact hK
 |b::l,st,st',h,K,hK=>by
  change (match xO c1 c2 U st b with
   |some st'=>xL c1 c2 U l st'
   |none=>none)=some st' at h
  split at h
  ·rename_i dP hb;exact KD h1 h2 hb (SL h1 h2 h hK)
  ·cases h
noncomputable def xT (U:List Nat)(st:St)(b:BO)(bh:Bool):Option St:=match st,b with
 |⟨V,L,S⟩,⟨d,g,op⟩=>match bV op with
  |none=>none
  |some (mem,_)=>match mem && bh with
   |true=>none
   |false=>match g with
    |none=>match AM U ⟨V,L,S⟩ op with
     |some x=>fV x fun x=>cM V L S d x
     |none=>none
    |some (t,want)=>match jd (St.arg ⟨V,L,S⟩ (.t t)) want with
     |some true=>match AM U ⟨V,L,S⟩ op with
      |some x=>fV x fun x=>cM V L S d x
      |none=>none
     |some false=>cM V L S d (.bQ [])
     |none=>none
theorem atN {U:List Nat}{st st':St}{b:BO}{bh:Bool}(h:xT U st b bh=some st'):Ak U st b bh=some st':=by
 obtain⟨V,L,S⟩:=st;obtain⟨d,g,op⟩:=b;unfold xT at h;unfold Ak;dsimp only at h⊢;split at h
 ·cases h
 rename_i mem ev lH;rw[lH];dsimp only;split at h
 ·cases h
 rename_i hm
 have Lp:¬(mem=true/\bh=true):=fun⟨e1,e2⟩=>by rw[e1,e2] at hm;cases hm
 rw[if_neg Lp]
 have key:(match AM U ⟨V,L,S⟩ op with
     |some x=>fV x fun x=>cM V L S d x
     |none=>none)=some st'->((ev ⟨V,L,S⟩ U).map fun x=>(St.mk V L S).dR d x)=some st':=fun h=>by
  split at h
  ·rename_i x hx;rw[Dt,zb] at h;obtain⟨m,Mr,he,hv⟩:=ahk hx;rw[lH] at he;cases he;rw[hv];exact h
  ·cases h
 cases g with
 |none=>exact key h
 |some p=>
  obtain⟨t,want⟩:=p;dsimp only at h⊢;split at h
  ·rename_i hv;rw[hv];exact key h
  ·rename_i hv;rw[hv];rw[zb] at h;exact h
  ·cases h
def Gs:Value->Value->Bool
 | .int k a,.int k' b=>decide (k=k') && decide (a=b)
 | .bool a,.bool b=>decide (a=b)
 | .string ⟨⟨a⟩⟩,.string ⟨⟨b⟩⟩=>AL a b
 | .slice none 0 0,.slice none 0 0=>true
 |_,_=>false
theorem atO {x y:Value}(h:Gs x y=true):x=y:=by
 unfold Gs at h;split at h
 ·simp only[bN,dv] at h;rw[h.1,h.2]
 ·simp only[dv] at h;rw[h]
 ·rw[Gp,xE] at h;rw[h]
 ·rfl
 ·cases h
noncomputable def AQ (x:AC):AC->Bool:=AC.rec (motive_1:=fun _=>AC->Bool) (motive_2:=fun _=>List (List AC)->Bool) (motive_3:=fun _=>List AC->Bool)
 (fun v y=>match y with | .v u=>Gs v u|_=>false) (fun _ ih y=>match y with | .sl fs=>ih fs|_=>false) (fun s g y=>match y with | .own s' g'=>Nat.beq s s' && Nat.beq g g'|_=>false) (fun _ _ _=>false) (fun _ _ _ _=>false) (fun _ _ _ _=>false) (fun _ _ _=>false)
 (fun l=>match l with |[]=>true|_=>false) (fun _ _ fT fU l=>match l with |b::m=>fT b && fU m|[]=>false) (fun l=>match l with |[]=>true|_=>false) (fun _ _ fT fU l=>match l with |b::m=>fT b && fU m|[]=>false) x
theorem Gt (x:AC):∀y,AQ x y=true->x=y:=by
 refine AC.rec (motive_1:=fun x=>∀y,AQ x y=true->x=y)
  (motive_2:=fun l=>∀m,(AC.rec_1 (motive_1:=fun _=>AC->Bool) (motive_2:=fun _=>List (List AC)->Bool) (motive_3:=fun _=>List AC->Bool)
   (fun v y=>match y with | .v u=>Gs v u|_=>false) (fun _ ih y=>match y with | .sl fs=>ih fs|_=>false) (fun s g y=>match y with | .own s' g'=>Nat.beq s s' && Nat.beq g g'|_=>false) (fun _ _ _=>false) (fun _ _ _ _=>false) (fun _ _ _ _=>false) (fun _ _ _=>false)
   (fun l=>match l with |[]=>true|_=>false) (fun _ _ fT fU l=>match l with |b::m=>fT b && fU m|[]=>false) (fun l=>match l with |[]=>true|_=>false) (fun _ _ fT fU l=>match l with |b::m=>fT b && fU m|[]=>false) l:List (List AC)->Bool) m=true->l=m)
  (motive_3:=fun l=>∀m,(AC.rec_2 (motive_1:=fun _=>AC->Bool) (motive_2:=fun _=>List (List AC)->Bool) (motive_3:=fun _=>List AC->Bool)
   (fun v y=>match y with | .v u=>Gs v u|_=>false) (fun _ ih y=>match y with | .sl fs=>ih fs|_=>false) (fun s g y=>match y with | .own s' g'=>Nat.beq s s' && Nat.beq g g'|_=>false) (fun _ _ _=>false) (fun _ _ _ _=>false) (fun _ _ _ _=>false) (fun _ _ _=>false)
   (fun l=>match l with |[]=>true|_=>false) (fun _ _ fT fU l=>match l with |b::m=>fT b && fU m|[]=>false) (fun l=>match l with |[]=>true|_=>false) (fun _ _ fT fU l=>match l with |b::m=>fT b && fU m|[]=>false) l:List AC->Bool) m=true->l=m)
  ?_ ?_ ?_ (fun _ _ _ h=>by cases h) (fun _ _ _ _ h=>by cases h) (fun _ _ _ _ h=>by cases h) (fun _ _ _ h=>by cases h) ?_ ?_ ?_ ?_ x
 ·intro v y h
  cases y with
  |v u=>exact kp _ (atO h)
  |sl es=>cases h
  |own s g=>cases h
  |_=>cases h
 ·intro es ih y h
  cases y with
  |v u=>cases h
  |sl fs=>exact kp _ (ih fs h)
  |own s g=>cases h
  |_=>cases h
 ·intro s g y h
  cases y with
  |v u=>cases h
  |sl fs=>cases h
  |own s' g'=>
   change (Nat.beq s s' && Nat.beq g g')=true at h;rw[bN] at h;rw[ew h.1,ew h.2]
  |_=>cases h
 ·intro m h
  cases m with
  |nil=>rfl
  |cons b m=>cases h
 ·intro a l h1 h2 m h
  cases m with
  |nil=>cases h
  |cons b m=>
   have:=zn.1 h;rw[h1 b this.1,h2 m this.2]
 ·intro m h
  cases m with
  |nil=>rfl
  |cons b m=>cases h
 ·intro a l h1 h2 m h
  cases m with
  |nil=>cases h
  |cons b m=>
   have:=zn.1 h;rw[h1 b this.1,h2 m this.2]
def cP {α:Type}(f:α->α->Bool):List α->List α->Bool
 |[],[]=>true
 |a::l,b::m=>f a b && cP f l m
 |_,_=>false
theorem uF {α:Type}{f:α->α->Bool}(hf:∀a b,f a b=true->a=b):∀{l m:List α},cP f l m=true->l=m
 |[],[],_=>rfl
 |[],_::_,h=>by cases h
 |_::_,[],h=>by cases h
 |a::l,b::m,h=>by
  have:=zn.1 h;rw[hf a b this.1,uF hf this.2]
noncomputable def Gu:AW->AW->Bool
 | .c x,.c y=>AQ x y
 | .agg x,.agg y=>cP (fun a b=>AQ a b) x y
 |_,_=>false
theorem SM {x y:AW}(h:Gu x y=true):x=y:=by
 unfold Gu at h;split at h
 ·rw[Gt _ _ h]
 ·rw[uF (fun a b=>Gt a b) h]
 ·cases h
noncomputable def Dx:AV->AV->Bool
 | .w x,.w y=>Gu x y
 | .bQ x,.bQ y=>cP (fun a b=>Gu a b) x y
 | .pb s g o,.pb s' g' o'=>Nat.beq s s' && (Nat.beq g g' && Nat.beq o o')
 | .pr s g i o,.pr s' g' i' o'=>Nat.beq s s' && (Nat.beq g g' && (Nat.beq i i' && Nat.beq o o'))
 | .pi x o,.pi y o'=>cP (fun a b=>AQ a b) x y && Nat.beq o o'
 | .u,.u=>true
 |_,_=>false
theorem KE {x y:AV}(h:Dx x y=true):x=y:=by
 unfold Dx at h;split at h
 ·rw[SM h]
 ·rw[uF (fun a b=>SM) h]
 ·simp only[bN] at h;rw[ew h.1,ew h.2.1,ew h.2.2]
 ·simp only[bN] at h;rw[ew h.1,ew h.2.1,ew h.2.2.1,ew h.2.2.2]
 ·simp only[bN] at h;rw[uF (fun a b=>Gt a b) h.1,ew h.2]
 ·rfl
 ·cases h
noncomputable def SN:Slot->Slot->Bool
 | .dead g,.dead g'=>Nat.beq g g'
 | .box g x,.box g' y=>Nat.beq g g' && cP (fun a b=>AQ a b) x y
 | .row e k g x,.row e' k' g' y=>Nat.beq e e' && (Nat.beq k k' && (Nat.beq g g' && cP (fun a b=>cP (fun a b=>AQ a b) a b) x y))
 |_,_=>false
theorem atP {x y:Slot}(h:SN x y=true):x=y:=by
 unfold SN at h;split at h
 ·rw[ew h]
 ·simp only[bN] at h;rw[ew h.1,uF (fun a b=>Gt a b) h.2]
 ·simp only[bN] at h;rw[ew h.1,ew h.2.1,ew h.2.2.1,uF (fun a b=>uF (fun a b=>Gt a b)) h.2.2.2]
 ·cases h
noncomputable def SP (V V':List (Nat×AV))(S S':List (Nat×Slot)):Bool:=cP (fun p q=>Nat.beq p.1 q.1 && Dx p.2 q.2) V V' && cP (fun p q=>Nat.beq p.1 q.1 && SN p.2 q.2) S S'
theorem atQ {V V':List (Nat×AV)}{S S':List (Nat×Slot)}(h:SP V V' S S'=true):V=V'/\S=S':=by
 have:=zn.1 h;refine⟨uF (fun p q hh=> ?_) this.1,uF (fun p q hh=> ?_) this.2⟩
 ·have h2:=zn.1 hh;exact Prod.ext (ew h2.1) (KE h2.2)
 ·have h2:=zn.1 hh;exact Prod.ext (ew h2.1) (atP h2.2)
noncomputable def ze (L1 L2:List (Nat×AV)):List (Nat×AV)->List (Nat×AV)
 |[]=>[]
 |(i,x)::L=>match aB L1 i,aB L2 i with
  |some a,some b=>match Dx x a && Dx x b with
   |true=>(i,x)::ze L1 L2 L
   |false=>ze L1 L2 L
  |_,_=>ze L1 L2 L
noncomputable def AR (c1:C1)(c2:C2)(U:List Nat)(l tl:List BO)(t:OT):Bool->St->Option St:=OT.rec (motive:=fun _=>Bool->St->Option St)
 (fun _ st=>xL c1 c2 none tl st)
 (fun i _ ih m st=>match l[i]? with
  |some b=>match xT U st b m with
   |some st'=>ih m st'
   |none=>none
  |none=>none)
 (fun i _ ih _ st=>match l[i]? with
  |some b=>match xO c1 c2 (some U) st b with
   |some st'=>ih true st'
   |none=>none
  |none=>none)
 (fun i j _ _ ihi ihj _ st=>match l[i]?,l[j]? with
  |some b,some b'=>match xO c1 c2 (some U) st b,xO c1 c2 (some U) st b' with
   |some s1,some s2=>match ihi true s1,ihj true s2 with
    |some ⟨V,L,S⟩,some ⟨V',L',S'⟩=>match SP V V' S S' with
     |true=>Dr (ze L L' L) fun L=>some ⟨V,L,S⟩
     |false=>none
    |_,_=>none
   |_,_=>none
  |_,_=>none)
 (fun _ _ _ _ _ _ _ _ _ _ _=>none) t
def Ext (L' L:List (Nat×AV)):Prop:=∀i x,aB L' i=some x->aB L i=some x
theorem Ext.refl (L:List (Nat×AV)):Ext L L:=fun _ _ h=>h
theorem Ext.nil (L:List (Nat×AV)):Ext [] L:=fun _ _ h=>by simp[aB] at h
theorem Gv (L1 L2:List (Nat×AV)):∀(L:List (Nat×AV)) (i:Nat) (x:AV),aB (ze L1 L2 L) i=some x->aB L1 i=some x/\aB L2 i=some x
 |[],i,x,h=>by simp[ze,aB] at h
 |(j,y)::L,i,x,h=>by
  unfold ze at h;split at h
  ·rename_i a b ha hb;split at h
   ·rename_i hc;have hc:=zn.1 hc;unfold aB at h;split at h
    ·rename_i xY;cases h;subst xY;exact⟨by rw[ha,<-KE hc.1],by rw[hb,<-KE hc.2]⟩
    ·exact Gv L1 L2 L i x h
   ·exact Gv L1 L2 L i x h
  ·exact Gv L1 L2 L i x h
theorem Gw {P:Program}{c1:C1}{c2:C2}(h1:gO P c1)(h2:zd P c2){U:List Nat}{l tl:List BO}{K:St->Prop}:∀{t:OT} {m:Bool} {st st':St},AR c1 c2 U l tl t m st=some st'->(∀L,Ext st'.L L->K ⟨st'.V,L,st'.S⟩)->aU U (l.map (BO.ao P)) (tl.map (BO.ao P)) K t m st
 | .nil,m,st,st',h,hK=>pV (SL h1 h2 h (hK st'.L (Ext.refl _)))
 | .take i t,m,st,st',h,hK=>by
  change (match l[i]? with
  |some b=>match xT U st b m with
   |some st'=>AR c1 c2 U l tl t m st'
   |none=>none
  |none=>none)=some st' at h
  split at h
  ·rename_i b hb;split at h
   ·rename_i dP hx;exact nK hb (atN hx) (Gw h1 h2 h hK)
   ·cases h
  ·cases h
 | .move i t,m,st,st',h,hK=>by
  change (match l[i]? with
  |some b=>match xO c1 c2 (some U) st b with
   |some st'=>AR c1 c2 U l tl t true st'
   |none=>none
  |none=>none)=some st' at h
  split at h
  ·rename_i b hb;split at h
   ·rename_i dP hx;unfold aU;rw[ek,hb];exact KD h1 h2 hx (Gw h1 h2 h hK)
   ·cases h
  ·cases h
 | .qH i j k ti tj tk,m,st,st',h,hK=>by
  change none=some st' at h;cases h
 | .fork i j ti tj,m,st,st',h,hK=>by
  change (match l[i]?,l[j]? with
  |some b,some b'=>match xO c1 c2 (some U) st b,xO c1 c2 (some U) st b' with
   |some s1,some s2=>match AR c1 c2 U l tl ti true s1,AR c1 c2 U l tl tj true s2 with
    |some ⟨V,L,S⟩,some ⟨V',L',S'⟩=>match SP V V' S S' with
     |true=>Dr (ze L L' L) fun L=>some ⟨V,L,S⟩
     |false=>none
    |_,_=>none
   |_,_=>none
  |_,_=>none)=some st' at h
  split at h
  case h_2=>cases h
  rename_i b b' hb EK;split at h
  case h_2=>cases h
  rename_i s1 s2 hx mZ;split at h
  case h_2=>cases h
  rename_i V L S V' L' S' hy hy';split at h
  case h_2=>cases h
  rename_i he;rw[Kt] at h;cases h;obtain⟨e1,e2⟩:=atQ he;refine sK ?_ ?_
  ·unfold aU;rw[ek,hb];exact KD h1 h2 hx (Gw h1 h2 hy (fun L3 h3=>hK L3 (fun i x hi=>h3 i x (Gv L L' L i x hi).1)))
  ·unfold aU;rw[ek,EK];refine KD h1 h2 mZ (Gw h1 h2 hy' ?_);rw[<-e1,<-e2]
   exact fun L3 h3=>hK L3 (fun i x hi=>h3 i x (Gv L L' L i x hi).2)
noncomputable def SQ (f:St->Option (dQ×St))(n:Nat):St->Option (dQ×St):=Nat.rec (motive:=fun _=>St->Option (dQ×St)) (fun _=>none) (fun _ ih st=>match f st with
 |some (e,st')=>match e with
  | .normal=>ih st'
  |e=>some (e,st')
 |none=>none) n
noncomputable def xB (c1:C1)(c2:C2)(n:Nat)(c:aA):St->Option (dQ×St):=aA.rec (motive:=fun _=>St->Option (dQ×St))
 (fun st=>some (.normal,st)) (fun st=>some (.ret,st)) (fun id st=>some (.exit id,st))
 (fun _ _ fT fU st=>match fT st with
  |some (e,st')=>match e with
   | .normal=>fU st'
   |e=>some (e,st')
  |none=>none)
 (fun t _ _ fT fU st=>match st.sc t with
  |some (.bool b)=>match b with
   |true=>fT st
   |false=>fU st
  |_=>none)
 (fun id _ ih st=>match ih st with
  |some (e,st')=>match e with
   | .exit lN=>match Nat.beq lN id with
    |true=>some (.normal,st')
    |false=>some (.exit lN,st')
   |e=>some (e,st')
  |none=>none)
 (fun _ ih st=>SQ ih n st)
 (fun l st=>match st with
  |⟨V,_,S⟩=>match xL c1 c2 none l ⟨V,[],S⟩ with
   |some st'=>some (.normal,st')
   |none=>none)
 (fun l k t U st=>match st with
  |⟨V,_,S⟩=>match AR c1 c2 U l (l.drop k) t false ⟨V,[],S⟩ with
   |some st'=>some (.normal,st')
   |none=>none)
 (fun s _ ih st=>match st with
  |⟨V,_,S⟩=>match St.freeze ⟨V,[],S⟩ s with
   |⟨V,_,S⟩=>Gm V fun V=>Gl S fun S=>ih ⟨V,[],S⟩)
 (fun b off s e k _ ih st=>match st with
  |⟨V,_,S⟩=>match St.iz ⟨V,[],S⟩ b off s e k with
   |⟨_,_,S⟩=>uD S fun S=>ih ⟨V,[],S⟩) c
theorem KF {V L' L:List (Nat×AV)}{S:List (Nat×Slot)}(hE:Ext L' L){i:Nat}{x:AV}(h:St.get ⟨V,L',S⟩ i=some x):St.get ⟨V,L,S⟩ i=some x:=by
 unfold St.get at h⊢;dsimp only at h⊢;split at h
 ·exact h
 ·exact hE i x h
theorem atS {V L' L:List (Nat×AV)}{S:List (Nat×Slot)}(hE:Ext L' L){y:aw}{x:AV}(h:St.arg ⟨V,L',S⟩ y=some x):St.arg ⟨V,L,S⟩ y=some x:=by
 cases y with
 |t i=>exact KF hE h
 |k w=>exact h
theorem ahp {V L' L:List (Nat×AV)}{S:List (Nat×Slot)}(hE:Ext L' L){y:aw}{x:Value}(h:St.sc ⟨V,L',S⟩ y=some x):St.sc ⟨V,L,S⟩ y=some x:=by
 unfold St.sc at h⊢
 cases ha:St.arg ⟨V,L',S⟩ y with
 |none=>rw[ha] at h;cases h
 |some z=>rw[ha] at h;rw[atS hE ha];exact h
theorem atT (V L:List (Nat×AV))(S:List (Nat×Slot))(s:Nat):(St.freeze ⟨V,L,S⟩ s).V=(St.freeze ⟨V,[],S⟩ s).V/\(St.freeze ⟨V,L,S⟩ s).S=(St.freeze ⟨V,[],S⟩ s).S:=by
 unfold St.freeze;have e:(St.mk V L S).slot s=(St.mk V [] S).slot s:=rfl;rw[e];split
 ·split
  ·exact⟨rfl,rfl⟩
  ·exact⟨rfl,rfl⟩
 ·exact⟨rfl,rfl⟩
theorem atU (V L:List (Nat×AV))(S:List (Nat×Slot))(b off s e k:Nat):(St.iz ⟨V,L,S⟩ b off s e k).V=V/\(St.iz ⟨V,L,S⟩ b off s e k).S=(St.iz ⟨V,[],S⟩ b off s e k).S:=by
 unfold St.iz
 have e1:∀i,(St.mk V L S).slot i=(St.mk V [] S).slot i:=fun _=>rfl
 simp only[e1];split
 ·split
  ·split
   ·exact⟨rfl,rfl⟩
   ·exact⟨rfl,rfl⟩
  ·exact⟨rfl,rfl⟩
 ·exact⟨rfl,rfl⟩
def FA (P:Program)(c:aA)(st:St)(e:dQ)(st':St):Prop:=∀Q:dQ->St->Prop,(∀L,Ext st'.L L->Q e ⟨st'.V,L,st'.S⟩)->∀L,Ext st.L L->aC (lift P c) Q ⟨st.V,L,st.S⟩
theorem ahq {P:Program}{f:St->Option (dQ×St)}{body:aA}(hb:∀{st st':St} {e:dQ},f st=some (e,st')->FA P body st e st'):
  ∀{n:Nat} {st st':St} {e:dQ},SQ f n st=some (e,st')->∀Q:dQ->St->Prop,(∀L,Ext st'.L L->Q e ⟨st'.V,L,st'.S⟩)->∀L,Ext st.L L->zY (aC (lift P body)) Q n ⟨st.V,L,st.S⟩
 |0,st,st',e,h=>by cases h
 |n+1,st,st',e,h=>by
  intro Q hQ L hL
  change (match f st with
   |some (e,st')=>match e with
    | .normal=>SQ f n st'
    |e=>some (e,st')
   |none=>none)=some (e,st') at h
  split at h
  ·rename_i e2 dP hf;refine hb hf _ (fun L2 rD=> ?_) L hL;split at h
   ·exact ahq hb h Q hQ L2 rD
   ·rename_i hne;cases h
    cases e with
    |normal=>exact(hne rfl).elim
    |exit id=>exact hQ L2 rD
    |ret=>exact hQ L2 rD
  ·cases h
theorem uG {P:Program}{c1:C1}{c2:C2}(h1:gO P c1)(h2:zd P c2){n:Nat}:∀{c:aA} {st st':St} {e:dQ},xB c1 c2 n c st=some (e,st')->FA P c st e st'
 | .skip,st,st',e,h=>by cases h;exact fun Q hQ L hL=>hQ L hL
 | .ret,st,st',e,h=>by cases h;exact fun Q hQ L hL=>hQ L hL
 | .exit id,st,st',e,h=>by cases h;exact fun Q hQ L hL=>hQ L hL
 | .seq x y,st,st',e,h=>by
  intro Q hQ L hL
  change (match xB c1 c2 n x st with
   |some (e,st')=>match e with
    | .normal=>xB c1 c2 n y st'
    |e=>some (e,st')
   |none=>none)=some (e,st') at h
  split at h
  ·rename_i e2 dP hx;refine uG h1 h2 (c:=x) hx _ (fun L2 rD=> ?_) L hL;split at h
   ·exact uG h1 h2 (c:=y) h Q hQ L2 rD
   ·rename_i hne;cases h
    cases e with
    |normal=>exact(hne rfl).elim
    |exit id=>exact hQ L2 rD
    |ret=>exact hQ L2 rD
  ·cases h
 | .cond t x y,⟨V,L0,S⟩,st',e,h=>by
  intro Q hQ L hL
  change (match St.sc ⟨V,L0,S⟩ t with
   |some (.bool b)=>match b with
    |true=>xB c1 c2 n x ⟨V,L0,S⟩
    |false=>xB c1 c2 n y ⟨V,L0,S⟩
   |_=>none)=some (e,st') at h
  split at h
  ·rename_i b hb
   cases b with
   |true=>exact Js (ahp hL hb) (uG h1 h2 (c:=x) h Q hQ L hL)
   |false=>exact Js (ahp hL hb) (uG h1 h2 (c:=y) h Q hQ L hL)
  ·cases h
 | .block id c,st,st',e,h=>by
  intro Q hQ L hL
  change (match xB c1 c2 n c st with
   |some (e,st')=>match e with
    | .exit lN=>match Nat.beq lN id with
     |true=>some (.normal,st')
     |false=>some (.exit lN,st')
    |e=>some (e,st')
   |none=>none)=some (e,st') at h
  refine anq ?_;split at h
  ·rename_i e2 dP hx;refine uG h1 h2 (c:=c) hx _ (fun L2 rD=> ?_) L hL;split at h
   ·rename_i lN
    show(if lN=id then _ else _)
    cases hb:Nat.beq lN id with
    |true=>rw[hb] at h;cases h;rw[if_pos (ew hb)];exact hQ L2 rD
    |false=>rw[hb] at h;cases h;rw[if_neg (Ho hb)];exact hQ L2 rD
   ·rename_i hne;cases h
    cases e with
    |normal=>exact hQ L2 rD
    |exit lN=>exact(hne lN rfl).elim
    |ret=>exact hQ L2 rD
  ·cases h
 | .loop c,st,st',e,h=>fun Q hQ L hL=>⟨n,ahq (P:=P) (body:=c) (fun h=>uG h1 h2 (c:=c) h) h Q hQ L hL⟩
 | .region l,⟨V,L0,S⟩,st',e,h=>by
  intro Q hQ L hL
  change (match xL c1 c2 none l ⟨V,[],S⟩ with
   |some st'=>some (dQ.normal,st')
   |none=>none)=some (e,st') at h
  split at h
  ·rename_i dP hx;cases h;exact anp (SL h1 h2 hx (hQ _ (Ext.refl _)))
  ·cases h
 | .oJ l k t U,⟨V,L0,S⟩,st',e,h=>by
  intro Q hQ L hL
  change (match AR c1 c2 U l (l.drop k) t false ⟨V,[],S⟩ with
   |some st'=>some (dQ.normal,st')
   |none=>none)=some (e,st') at h
  split at h
  ·rename_i dP hx;cases h;exact Cz (Gw h1 h2 hx hQ)
  ·cases h
 | .jf s c,⟨V,L0,S⟩,st',e,h=>by
  intro Q hQ L hL
  change (match St.freeze ⟨V,[],S⟩ s with
   |⟨V,_,S⟩=>Gm V fun V=>Gl S fun S=>xB c1 c2 n c ⟨V,[],S⟩)=some (e,st') at h
  split at h;rename_i V1 L1 S1 hs;rw[ahg,ahf] at h;obtain⟨e1,e2⟩:=atT V L S s;rw[hs] at e1 e2;refine NG (st':=⟨V1,(St.freeze ⟨V,L,S⟩ s).L,S1⟩) ?_ (uG h1 h2 (c:=c) h Q hQ _ (Ext.nil _));generalize St.freeze ⟨V,L,S⟩ s=q at e1 e2⊢;obtain⟨a,b,d⟩:=q;dsimp only at e1 e2⊢;rw[e1,e2]
 | .lM b off s e0 k c,⟨V,L0,S⟩,st',e,h=>by
  intro Q hQ L hL
  change (match St.iz ⟨V,[],S⟩ b off s e0 k with
   |⟨_,_,S⟩=>uD S fun S=>xB c1 c2 n c ⟨V,[],S⟩)=some (e,st') at h
  split at h;rename_i V1 L1 S1 hs;rw[Du] at h;obtain⟨e1,e2⟩:=atU V L S b off s e0 k;rw[hs] at e2;refine ND (st':=⟨V,(St.iz ⟨V,L,S⟩ b off s e0 k).L,S1⟩) ?_ (uG h1 h2 (c:=c) h Q hQ _ (Ext.nil _));generalize St.iz ⟨V,L,S⟩ b off s e0 k=q at e1 e2⊢;obtain⟨a,b,d⟩:=q;dsimp only at e1 e2⊢;rw[e1,e2]
noncomputable def KG (ji:List (FuncId×FD))(c1:C1)(c2:C2)(n:Nat)(f:FuncId)(args:List AW):Option AV:=match Gk ji f with
 |some d=>match Nat.ble args.length d.nt with
  |true=>Dr (V0 args 0 d.vs) fun V=>uD (S0 d.ss) fun S=>match xB c1 c2 n d.b ⟨V,[],S⟩ with
   |some (e,st)=>match e with
    | .exit _=>none
    |_=>match tZ st d.rv with
     |some xs=>some (cZ xs)
     |none=>none
   |none=>none
  |false=>none
 |none=>none
noncomputable def SR (ji:List (FuncId×FD))(c1:C1)(c2:C2)(n:Nat)(f:FuncId)(args:List AV)(T:List (Nat×Slot)):Option (AV×List (Nat×Slot)):=match Gk ji f with
 |some d=>match Nat.ble args.length d.nt with
  |true=>Dr (VM args 0 d.vs) fun V=>uD (T++S0 d.ss) fun S=>match xB c1 c2 n d.b ⟨V,[],S⟩ with
   |some (e,st)=>match e with
    | .exit _=>none
    |_=>match pX (T.map (·.1)) st d.rv with
     |some xs=>match(T.map (·.1)).all (fun s=>eE (T.map (·.1)) (st.slot s)) with
      |true=>some (cZ xs,eW st (T.map (·.1)))
      |false=>none
     |none=>none
   |none=>none
  |false=>none
 |none=>none
noncomputable def xP (ji:List (FuncId×FD))(p:C1)(m n:Nat):C1×C2:=Nat.rec (motive:=fun _=>C1×C2) (fun _ _=>none,fun _ _ _=>none) (fun _ c=>
 (fun f args=>match p f args with
  |some x=>some x
  |none=>KG ji c.1 c.2 m f args,fun f args T=>SR ji c.1 c.2 m f args T)) n
theorem KH {V L' L:List (Nat×AV)}(hE:Ext L' L){S:List (Nat×Slot)}{U:List Nat}{n p:Nat}{cs:List AC}(h:St.cells ⟨V,L',S⟩ U n (St.get ⟨V,L',S⟩ p)=some cs):St.cells ⟨V,L,S⟩ U n (St.get ⟨V,L,S⟩ p)=some cs:=by
 cases hg:St.get ⟨V,L',S⟩ p with
 |none=>rw[hg] at h;cases h
 |some x=>rw[hg] at h;rw[KF hE hg];exact h
theorem ahr {V L' L:List (Nat×AV)}{S:List (Nat×Slot)}:∀l:List AC,St.gK ⟨V,L,S⟩ l=St.gK ⟨V,L',S⟩ l
 |[]=>rfl
 |x::l=>by
  have h1:St.fz ⟨V,L,S⟩ x=St.fz ⟨V,L',S⟩ x:=by cases x<;>rfl
  unfold St.gK;rw[h1,ahr (L':=L') l]
theorem SS {V L' L:List (Nat×AV)}{S:List (Nat×Slot)}(x:AW):St.mF ⟨V,L,S⟩ x=St.mF ⟨V,L',S⟩ x:=by
 cases x with
 |c x=>cases x<;>rfl
 |agg cs=>show(St.gK _ cs).map _=_;rw[ahr (L':=L')];rfl
theorem ahs {D:List Nat}{V L' L:List (Nat×AV)}{S:List (Nat×Slot)}:∀l:List AC,St.gY D ⟨V,L,S⟩ l=St.gY D ⟨V,L',S⟩ l
 |[]=>rfl
 |x::l=>by
  have h1:St.lP D ⟨V,L,S⟩ x=St.lP D ⟨V,L',S⟩ x:=by cases x<;>rfl
  unfold St.gY;rw[h1,ahs (L':=L') l]
theorem SU {D:List Nat}{V L' L:List (Nat×AV)}{S:List (Nat×Slot)}(x:AW):St.pW D ⟨V,L,S⟩ x=St.pW D ⟨V,L',S⟩ x:=by
 cases x with
 |c x=>cases x<;>rfl
 |agg cs=>show(St.gY D _ cs).map _=_;rw[ahs (L':=L')];rfl
theorem SV {V L' L:List (Nat×AV)}{S:List (Nat×Slot)}(hE:Ext L' L):∀{rv:List RV} {xs:List AW},tZ ⟨V,L',S⟩ rv=some xs->tZ ⟨V,L,S⟩ rv=some xs
 |[],xs,h=>h
 |r::rv,xs,h=>by
  unfold tZ at h⊢;split at h
  ·rename_i x q hx hq
   have:wS ⟨V,L,S⟩ r=some x:=by
    cases r with
    |t i=>
     simp only[wS] at hx⊢;split at hx
     ·rename_i y hy;rw[KF hE hy];dsimp only;rw[SS (L':=L')];exact hx
     ·cases hx
    |cell p n=>
     simp only[wS] at hx⊢;split at hx
     ·rename_i y hy;rw[KH hE hy];dsimp only;rw[SS (L':=L')];exact hx
     ·cases hx
    |cell1 p=>
     simp only[wS] at hx⊢;split at hx
     ·rename_i y hy;rw[KH hE hy];dsimp only;rw[SS (L':=L')];exact hx
     ·cases hx
   rw[this,SV hE hq];exact h
  ·cases h
theorem aht {D:List Nat}{V L' L:List (Nat×AV)}{S:List (Nat×Slot)}(hE:Ext L' L):∀{rv:List RV} {xs:List AW},pX D ⟨V,L',S⟩ rv=some xs->pX D ⟨V,L,S⟩ rv=some xs
 |[],xs,h=>h
 |r::rv,xs,h=>by
  unfold pX at h⊢;split at h
  ·rename_i x q hx hq
   have:uf D ⟨V,L,S⟩ r=some x:=by
    cases r with
    |t i=>
     simp only[uf] at hx⊢;split at hx
     ·rename_i y hy;rw[KF hE hy];dsimp only;rw[SU (L':=L')];exact hx
     ·cases hx
    |cell p n=>
     simp only[uf] at hx⊢;split at hx
     ·rename_i y hy;rw[KH hE hy];dsimp only;rw[SU (L':=L')];exact hx
     ·cases hx
    |cell1 p=>
     simp only[uf] at hx⊢;split at hx
     ·rename_i y hy;rw[KH hE hy];dsimp only;rw[SU (L':=L')];exact hx
     ·cases hx
   rw[this,aht hE hq];exact h
  ·cases h
theorem atV {P:Program}{ji:List (FuncId×FD)}(xn:∀q∈ji,bY P q.1 q.2){c1:C1}{c2:C2}(h1:gO P c1)(h2:zd P c2){n:Nat}{f:FuncId}{args:List AW}{x:AV}(h:KG ji c1 c2 n f args=some x):bt P f args (fun y=>y=x):=by
 unfold KG at h;split at h
 ·rename_i d hd;obtain⟨owns,ts,fn,c,hE,hf,hb,ht,yH,uz⟩:=xn _ (Qf hd);split at h
  ·rename_i hn;rw[Kt,Du] at h;split at h
   ·rename_i e st hx;have g2:=uG (P:=P) h1 h2 hx;obtain⟨V2,L2,S2⟩:=st;refine bZ hE hf hb ht d.rv yH args (by rw[uz];exact hn) d.vs d.ss (g2 _ (fun L hL=> ?_) [] (Ext.refl _));split at h
    ·cases h
    ·rename_i hne;split at h
     ·rename_i xs Cr;cases h
      cases e with
      |exit id=>exact(hne id rfl).elim
      |normal=>exact⟨xs,SV hL Cr,rfl⟩
      |ret=>exact⟨xs,SV hL Cr,rfl⟩
     ·cases h
   ·cases h
  ·cases h
 ·cases h
theorem atW {P:Program}{ji:List (FuncId×FD)}(xn:∀q∈ji,bY P q.1 q.2){c1:C1}{c2:C2}(h1:gO P c1)(h2:zd P c2){n:Nat}{f:FuncId}{args:List AV}{T:List (Nat×Slot)}{x:AV}{Y:List (Nat×Slot)}(h:SR ji c1 c2 n f args T=some (x,Y)):
  Y.map (·.1)=T.map (·.1)/\fQ P f args T (fun y S'=>y=x/\∀p∈Y,S' p.1=p.2):=by
 unfold SR at h;split at h
 ·rename_i d hd;obtain⟨owns,ts,fn,c,hE,hf,hb,ht,yH,uz⟩:=xn _ (Qf hd);split at h
  ·rename_i hn;rw[Kt,Du] at h;split at h
   ·rename_i e st hx;have g2:=uG (P:=P) h1 h2 hx;obtain⟨V2,L2,S2⟩:=st;split at h
    ·cases h
    ·rename_i hne;split at h
     ·rename_i xs Cr;split at h
      ·rename_i hc;cases h
       have hq:∀L,Ext L2 L->NI (T.map (·.1)) d.rv (fun y S'=>y=cZ xs/\∀p∈eW ⟨V2,L2,S2⟩ (T.map (·.1)),S' p.1=p.2) e ⟨V2,L,S2⟩:=fun L hL=>by
        have:∃ys,pX (T.map (·.1)) ⟨V2,L,S2⟩ d.rv=some ys/\(∀s∈T.map (·.1),eE (T.map (·.1)) (St.slot ⟨V2,L,S2⟩ s)=true)/\cZ ys=cZ xs/\∀p∈eW ⟨V2,L2,S2⟩ (T.map (·.1)),dC (T.map (·.1)) (St.mk V2 L S2).slot p.1=p.2:=by
         refine⟨xs,aht hL Cr,fun s hs=>dY.1 hc s hs,rfl,fun p hp=> ?_⟩;unfold eW at hp;obtain⟨s,hs,rfl⟩:=fZ.1 hp;unfold dC;rw[if_pos hs];rfl
        cases e with
        |exit id=>exact(hne id rfl).elim
        |normal=>exact this
        |ret=>exact this
       refine⟨by unfold eW;rw[List.map_map];exact List.map_id _,lQ hE hf hb ht d.rv yH args (by rw[uz];exact hn) T d.vs d.ss (g2 _ hq [] (Ext.refl _))⟩
      ·cases h
     ·cases h
   ·cases h
  ·cases h
 ·cases h
theorem ahu {P:Program}{ji:List (FuncId×FD)}(xn:∀q∈ji,bY P q.1 q.2){p:C1}(hp:gO P p){m:Nat}:∀n:Nat,gO P (xP ji p m n).1/\zd P (xP ji p m n).2
 |0=>⟨fun _ _ _ h=>(nomatch h),fun _ _ _ _ _ h=>(nomatch h)⟩
 |n+1=>by
  obtain⟨g1,g2⟩:=ahu xn hp (m:=m) n;refine⟨fun f args x h=> ?_,fun f args T x Y h=>atW xn g1 g2 h⟩
  change (match p f args with
   |some x=>some x
   |none=>KG ji (xP ji p m n).1 (xP ji p m n).2 m f args)=some x at h
  split at h
  ·rename_i y hy;cases h;exact hp f args _ hy
  ·exact atV xn g1 g2 h
theorem iD {P:Program}{ji:List (FuncId×FD)}(xn:∀q∈ji,bY P q.1 q.2){p:C1}(hp:gO P p)(m n:Nat){f:FuncId}{args:List AW}{x:AV}(h:(xP ji p m n).1 f args=some x):bt P f args (fun y=>y=x):=(ahu xn hp (m:=m) n).1 f args x h
noncomputable def gP (r:Option AV)(x:AV):Bool:=match r with
 |some y=>Dx y x
 |none=>false
theorem iE {r:Option AV}{x:AV}(h:gP r x=true):r=some x:=by
 unfold gP at h;split at h
 ·rw[KE h]
 ·cases h
end Ab
namespace Ab
open Go Go.RowKit
attribute [local irreducible] aC bo aU
abbrev sA (l:List UInt8):AC:=.v (.string ⟨⟨l⟩⟩)
def uH:List (List UInt8)->List UInt8->Bool
 |[],_=>false
 |s::l,x=>match AL s x with
  |true=>true
  |false=>uH l x
theorem SW:∀(l:List (List UInt8)) (x:List UInt8),uH l x=decide (x∈l)
 |[],x=>by simp[uH]
 |s::l,x=>by
  unfold uH;rw[Gp];by_cases h:s=x
  ·subst h;simp
  ·have h':¬x=s:=fun e=>h e.symm
   have:(s==x)=false:=by simpa using h
   rw[this,SW l x];simp[h']
theorem SX {l:List (List UInt8)}{x:List UInt8}(h:x∈l):uH l x=true:=by rw[SW];exact ll h
theorem SY {l:List (List UInt8)}{x:List UInt8}(h:¬x∈l):uH l x=false:=by rw[SW];exact pg h
theorem atX (l:List (List UInt8))(x:List UInt8)(hl:l.length<=1000000):bt Tryz.prog 127 [.c (.sl (l.map fun s=>[sA s])),.c (sA x)] (fun y=>y=.w (.c (bA (uH l x)))):=by
 refine bZ aG Tryz.func127 rfl Qp [.t 4] ah _ rfl [4,5] [] ?_;refine bG Qp ?_;dsimp only[V0,uV,S0];have FF:=trivial
 try refine aj ?_
 refine cF (fun n V S=>∃k:Nat,k<=l.length/\n=l.length-k/\(∀j (hj:j<l.length),j<k->l[j]≠x)/\
  V=[(0,.w (.c (.sl (l.map fun s=>[sA s])))),(1,.w (.c (sA x))),(4,.w (.c (bA false))),(5,.w (.c (iA k)))]/\S=[]) (n:=l.length) ⟨0,aa,aa,fun j _ h=>aa,rfl,rfl⟩ ?_
 rintro n V L S ⟨k,hk,rfl,hj,rfl,rfl⟩;by_cases hlt:k<l.length
 ·have cg:k<=1000000000:=aa
  obtain⟨y,hy⟩:∃y,l[k]=y:=⟨_,rfl⟩
  by_cases he:y=x
  ·have FF:=dW @hlt @hy @he @uE
   try refine aj ?_
   (try dsimp only[aM,aJ])
   exact bd (by simp;try rfl) (by rw[SX (he▸hy▸cT hlt)];rfl)
  ·have FF:=fX @hlt @hy @he @uE (bL cg)
   try refine aj ?_
   exact⟨l.length-(k+1),aa,k+1,aa,aa,fun j dD dx=>by
    by_cases dN:j=k
    ·subst dN;rw[hy];exact he
    ·exact hj j dD aa,rfl,rfl⟩
 ·have FF:=@hlt
  try refine aj ?_
  (try dsimp only[aM,aJ])
  exact bd (by simp;try rfl) (by rw[SY (fun hm=>by obtain⟨j,dD,dN⟩:=vQ.1 hm;exact hj j dD aa dN)];rfl)
theorem atY (l:List (List UInt8))(x:List UInt8)(hl:l.length<=1000000):bt Tryz.prog 89 [.c (.sl (l.map fun s=>[sA s])),.c (sA x)] (fun y=>y=.w (.c (bA (uH l x)))):=by
 refine bZ aG Tryz.func89 rfl QA [.t 4] ah _ rfl [4,5] [] ?_;refine bG QA ?_;dsimp only[V0,uV,S0];have FF:=trivial
 try refine aj ?_
 refine cF (fun n V S=>∃k:Nat,k<=l.length/\n=l.length-k/\(∀j (hj:j<l.length),j<k->l[j]≠x)/\
  V=[(0,.w (.c (.sl (l.map fun s=>[sA s])))),(1,.w (.c (sA x))),(4,.w (.c (bA false))),(5,.w (.c (iA k)))]/\S=[]) (n:=l.length) ⟨0,aa,aa,fun j _ h=>aa,rfl,rfl⟩ ?_
 rintro n V L S ⟨k,hk,rfl,hj,rfl,rfl⟩;by_cases hlt:k<l.length
 ·have cg:k<=1000000000:=aa
  obtain⟨y,hy⟩:∃y,l[k]=y:=⟨_,rfl⟩
  by_cases he:y=x
  ·have FF:=dW @hlt @hy @he @uE
   try refine aj ?_
   (try dsimp only[aM,aJ])
   exact bd (by simp;try rfl) (by rw[SX (he▸hy▸cT hlt)];rfl)
  ·have FF:=fX @hlt @hy @he @uE (bL cg)
   try refine aj ?_
   exact⟨l.length-(k+1),aa,k+1,aa,aa,fun j dD dx=>by
    by_cases dN:j=k
    ·subst dN;rw[hy];exact he
    ·exact hj j dD aa,rfl,rfl⟩
 ·have FF:=@hlt
  try refine aj ?_
  (try dsimp only[aM,aJ])
  exact bd (by simp;try rfl) (by rw[SY (fun hm=>by obtain⟨j,dD,dN⟩:=vQ.1 hm;exact hj j dD aa dN)];rfl)
theorem atZ (l:List (List UInt8))(x:List UInt8)(hl:l.length<=1000000):bt Tryz.prog 94 [.c (.sl (l.map fun s=>[sA s])),.c (sA x)] (fun y=>y=.w (.c (bA (uH l x)))):=by
 refine bZ aG Tryz.func94 rfl Rs [.t 4] ah _ rfl [4,5] [] ?_;refine bG Rs ?_;dsimp only[V0,uV,S0];have FF:=trivial
 try refine aj ?_
 refine cF (fun n V S=>∃k:Nat,k<=l.length/\n=l.length-k/\(∀j (hj:j<l.length),j<k->l[j]≠x)/\
  V=[(0,.w (.c (.sl (l.map fun s=>[sA s])))),(1,.w (.c (sA x))),(4,.w (.c (bA false))),(5,.w (.c (iA k)))]/\S=[]) (n:=l.length) ⟨0,aa,aa,fun j _ h=>aa,rfl,rfl⟩ ?_
 rintro n V L S ⟨k,hk,rfl,hj,rfl,rfl⟩;by_cases hlt:k<l.length
 ·have cg:k<=1000000000:=aa
  obtain⟨y,hy⟩:∃y,l[k]=y:=⟨_,rfl⟩
  by_cases he:y=x
  ·have FF:=dW @hlt @hy @he @uE
   try refine aj ?_
   (try dsimp only[aM,aJ])
   exact bd (by simp;try rfl) (by rw[SX (he▸hy▸cT hlt)];rfl)
  ·have FF:=fX @hlt @hy @he @uE (bL cg)
   try refine aj ?_
   exact⟨l.length-(k+1),aa,k+1,aa,aa,fun j dD dx=>by
    by_cases dN:j=k
    ·subst dN;rw[hy];exact he
    ·exact hj j dD aa,rfl,rfl⟩
 ·have FF:=@hlt
  try refine aj ?_
  (try dsimp only[aM,aJ])
  exact bd (by simp;try rfl) (by rw[SY (fun hm=>by obtain⟨j,dD,dN⟩:=vQ.1 hm;exact hj j dD aa dN)];rfl)
def KI:List (List AC)->Option (List (List UInt8))
 |[]=>some []
 |[.v (.string ⟨⟨s⟩⟩)]::l=>match KI l with
  |some q=>some (s::q)
  |none=>none
 |_::_=>none
theorem ahv:∀{rows:List (List AC)} {l:List (List UInt8)},KI rows=some l->rows=l.map fun s=>[sA s]
 |[],l,h=>by cases h;rfl
 |row::rows,l,h=>by
  unfold KI at h;split at h
  ·rename_i heq;cases heq
  ·rename_i s r heq;cases heq;split at h
   ·rename_i q hq;cases h;rw[ahv hq];rfl
   ·cases h
  ·cases h
def dU:C1:=fun f args=>match args with
 |[.c (.sl rows),.c (.v (.string ⟨⟨x⟩⟩))]=>match Nat.beq f 127||(Nat.beq f 89||Nat.beq f 94) with
  |true=>match KI rows with
   |some l=>match Nat.ble l.length 1000000 with
    |true=>some (.w (.c (.v (.bool (uH l x)))))
    |false=>none
   |none=>none
  |false=>none
 |_=>none
theorem iF:gO Tryz.prog dU:=by
 intro f args x h;unfold dU at h;split at h
 case h_2=>cases h
 rename_i rows s;split at h
 case h_2=>cases h
 rename_i hf;split at h
 case h_2=>cases h
 rename_i l hl;split at h
 case h_2=>cases h
 rename_i hn;cases h;rw[ahv hl];simp only[og] at hf;have hn:=vO hn
 rcases hf with hf|hf|hf
 ·rw[ew hf];exact atX l s hn
 ·rw[ew hf];exact atY l s hn
 ·rw[ew hf];exact atZ l s hn
noncomputable def ahw:FD:=⟨aaJ,13,[(.t 4)],[4],[]⟩
theorem aua:bY Tryz.prog 14 ahw:=⟨⟨0,[],[],[],aR,[],[]⟩,[],Tryz.f14,_,aG,Tryz.func14,rfl,NV,ah,rfl⟩
noncomputable def ib:List (FuncId×FD):=(14,ahw)::Sv
theorem iG:∀q∈ib,bY Tryz.prog q.1 q.2:=by
 intro q hq
 rcases eM.1 hq with rfl|hq
 ·exact aua
 ·exact atu q hq
end Ab
end Go.Proofs.YtlnghiefahcnpaaGreat
