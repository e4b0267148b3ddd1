import Derived.Test.YtngblilamkkikaaGreatDoorW3
set_option maxHeartbeats 40000000
set_option maxRecDepth 100000
set_option linter.all false
namespace Go.Proofs.YtngblilamkkikaaGreatDoor
namespace Ab
open Go Go.RowKit
variable {U:Option (List Nat)} {f:FuncId} {k:Nat} {qs:List (Nat×Nat×aP)} {st:St} {za:List AC}
def FE (k:Nat):Nat->List (Nat×Nat×List AC)->Option (List (List AC))
 |_,[]=>some []
 |pos,(off,size,cs)::r=>match Nat.beq off pos && (Nat.beq size k && Nat.beq cs.length k) with
  |true=>match FE k (pos+k) r with
   |some q=>some (cs::q)
   |none=>none
  |false=>none
theorem aew{pos off size:Nat}{cs:List AC}{r:List (Nat×Nat×List AC)}{rows:List (List AC)}(h:FE k pos ((off,size,cs)::r)=some rows):off=pos/\size=k/\cs.length=k/\∃q,FE k (pos+k) r=some q/\rows=cs::q:=by
 unfold FE at h;split at h
 ·rename_i hb;simp only[bO] at hb;split at h
  ·rename_i q hq;cases h;exact⟨fH hb.1,fH hb.2.1,fH hb.2.2,q,hq,rfl⟩
  ·cases h
 ·cases h
theorem aex {k:Nat}:∀{pr:List (Nat×Nat×List AC)} {pos:Nat} {rows:List (List AC)},FE k pos pr=some rows->∀row∈rows,row.length=k
 |[],pos,rows,h=>by cases h;simp
 |(off,size,cs)::r,pos,rows,h=>by
  obtain⟨_,_,h3,q,hq,rfl⟩:=aew h;intro row hr
  rcases bZ.1 hr with rfl|hr
  ·exact h3
  ·exact aex hq row hr
theorem aey {k:Nat}:∀{pr:List (Nat×Nat×List AC)} {pos:Nat} {rows:List (List AC)} {D Z:List AC},FE k pos pr=some rows->D.length=pos->Z.length=rows.length*k->mF (D++Z) pr=some (D++rows.flatten)
 |[],pos,rows,D,Z,h,hD,hZ=>by
  cases h;have:Z=[]:=ya (by simpa using hZ);subst this;rfl
 |(off,size,cs)::r,pos,rows,D,Z,h,hD,hZ=>by
  obtain⟨rfl,rfl,h3,q,hq,rfl⟩:=aew h
  have hZ':Z.length=q.length*size+size:=by rw[hZ,List.length_cons,wy,Nat.one_mul]
  unfold mF;rw[aj ⟨h3,by rw[List.length_append];omega⟩]
  have e1:(D++Z).take off=D:=by rw[<-hD];exact nW
  have e2:(D++Z).drop (off+size)=Z.drop size:=by
   rw[<-hD,<-List.drop_drop,lM]
  rw[e1,e2];have:=aey (D:=D++cs) (Z:=Z.drop size) hq (by rw[List.length_append,hD,h3]) (by rw[nf,hZ'];omega);rw[this,List.flatten_cons,List.append_assoc]
theorem Wz {k:Nat}:∀{rows:List (List AC)},(∀row∈rows,row.length=k)->∀i,i<rows.length->some ((rows.flatten.drop (i*k)).take k)=rows[i]?
 |[],_,i,hi=>by simp at hi
 |row::rows,h,0,_=>by
  have:=h row (Lo ..);rw[Nat.zero_mul,sY,List.flatten_cons,sU ab,lK ab];rfl
 |row::rows,h,i+1,hi=>by
  have hk:=h row (Lo ..)
  have e:(i+1)*k=row.length+i*k:=by rw[hk,wy,Nat.one_mul,Ck]
  rw[e,List.flatten_cons,<-List.drop_drop,lM];rw[Wz (fun r hr=>h r (kA _ hr)) i (by simpa using hi)];rfl
theorem apK{rows:List (List AC)}(h:∀row∈rows,row.length=k):rowsOf k rows.length rows.flatten=rows:=by
 apply wm;intro i;unfold rowsOf;rw[eZ];by_cases hi:i<rows.length
 ·rw[EL hi,wu,Wz h i hi]
 ·rw[oW (by simpa using hi),oW (by simpa using hi)];rfl
def Jl (k n:Nat)(st:St)(qs:List (Nat×Nat×aP)):Option (List (List AC)):=match pD st qs with
 |some pr=>match FE k 0 pr with
  |some rows=>match Nat.beq rows.length n && rows.all (fun r=>r.all inl) with
   |true=>some rows
   |false=>none
  |none=>none
 |none=>none
theorem aez{n:Nat}{rows:List (List AC)}(za:List AC)(h:Jl k n st qs=some rows):∃pr,pD st qs=some pr/\mF (cQ k n za) pr=some rows.flatten/\rows.flatten.all inl=true/\rowsOf k n rows.flatten=rows:=by
 unfold Jl at h;split at h
 case h_2=>cases h
 rename_i pr hp;split at h
 case h_2=>cases h
 rename_i rows' hl;split at h
 case h_2=>cases h
 rename_i hb;cases h;rw[bO] at hb;have hn:=fH hb.1;subst hn;refine⟨pr,hp,?_,?_,apK (aex hl)⟩
 ·exact aey (D:=[]) (Z:=cQ k rows.length za) hl rfl (by simp[cQ])
 ·rw[fg];intro x hx;obtain⟨row,hr,WA⟩:=List.mem_flatten.1 hx;exact fg.1 (fg.1 hb.2 row hr) x WA
theorem apL{n:Nat}{rows:List (List AC)}(h:Jl k n st qs=some rows):cS U st (.tD k n za qs)=some (.w (.c (.sl rows)),st):=by
 obtain⟨pr,h1,h2,h3,h4⟩:=aez za h;unfold cS;dsimp only;rw[h1];dsimp only;rw[h2];dsimp only;rw[aj h3,h4]
theorem apM{s e n:Nat}{rows:List (List AC)}(h:Jl k n st qs=some rows)(hs:(aH st.S s).isSome=true):cS U st (.yD s e k n za qs)=some (.w (.c (.own s ((st.slot s).gen+1))),st.bR s (.row e k ((st.slot s).gen+1) rows)):=by
 obtain⟨pr,h1,h2,h3,h4⟩:=aez za h;unfold cS;dsimp only;rw[h1];dsimp only;rw[h2];dsimp only;rw[aj ⟨h3,hs⟩,h4]
structure FD where
 b:eR
 nt:Nat
 rv:List RV
 vs:List Nat
 ss:List Nat
def CX (P:Program)(f:FuncId)(d:FD):Prop:=∃(owns:fX) (ts:Trees) (fn:Func) (c:Code),(∀p∈owns.eqs,qP P p.1 p.2)/\P.funcs[f]? =some fn/\fn.body=some c/\fY P owns fn.ntmps ts c=some d.b/\tF P fn.results.toList=some d.rv/\fn.ntmps=d.nt
def Mo:List (FuncId×FD)->FuncId->Option FD
 |[],_=>none
 |(i,d)::l,f=>match Nat.beq i f with
  |true=>some d
  |false=>Mo l f
theorem WB:∀{l:List (FuncId×FD)} {f:FuncId} {d:FD},Mo l f=some d->(f,d)∈l
 |[],f,d,h=>by cases h
 |(i,e)::l,f,d,h=>by
  unfold Mo at h
  cases hb:Nat.beq i f with
  |true=>rw[hb] at h;cases h;rw[fH hb];exact Lo ..
  |false=>rw[hb] at h;exact kA _ (WB h)
noncomputable def cw (fn:Func)(a:fX)(ts:Trees)(rv:List RV)(vs ss:List Nat):FD:=⟨ij Tryz.prog a ts (fn.body.getD .skip),fn.ntmps,rv,vs,ss⟩
theorem okF{fn:Func}(hf:Tryz.prog.funcs[f]? =some fn){a:fX}{ts:Trees}{rv:List RV}{vs ss:List Nat}(ok:Ml Tryz.prog a ts fn=true:=by kernel_rfl)(oB:tF Tryz.prog fn.results.toList=some rv:=by kernel_rfl)(hE:a.eqs=dc:=by exact rfl):CX Tryz.prog f (cw fn a ts rv vs ss):=by
 obtain⟨c,h1,h2⟩:=Wp ok rfl;exact⟨a,ts,fn,c,by rw[hE];exact VF,hf,h1,h2,oB,rfl⟩
def Mq (l:List (FuncId×FD)):Prop:=∀q∈l,CX Tryz.prog q.1 q.2
theorem tn:Mq []:=fun q hq=>by cases hq
theorem tc{d:FD}{l:List (FuncId×FD)}(h:CX Tryz.prog f d)(r:Mq l):Mq ((f,d)::l):=fun q hq=>by
 rcases bZ.1 hq with rfl|hq
 ·exact h
 ·exact r q hq
def qR:List (Nat×List Nat):=[(129,[29,901]),(130,[29,901]),(131,[29,901]),(132,[29,901]),(133,[29,901]),(173,[29,901]),(174,[29,901]),(175,[29,901]),(177,[29,901]),(178,[29,901]),(179,[29,901]),(233,[29,901]),(257,[29,901]),(258,[29,901]),(259,[29,901]),(263,[29,901])]
noncomputable def apN:FD:=cw Tryz.f228 aN [] [.t 2] [2] []
noncomputable def apO:FD:=cw Tryz.f229 aN [] [.t 2] [2] []
noncomputable def apP:FD:=cw Tryz.f230 aN [] [.t 2] [2,3,4] []
noncomputable def apQ:FD:=cw Tryz.f231 aN [] [.t 4] [4,5] []
noncomputable def apR:FD:=cw Tryz.f171 aN [] [.t 4] [4,5] []
noncomputable def apS:FD:=cw Tryz.f172 aN [] [(.cell 4 4),.t 5] [4,5,6,7,8,9] [4]
noncomputable def apT:FD:=cw Tryz.f128 (aO [5]) [] [.t 2,.t 3,.t 4] [2,3,4,5,6,7,8] [7,5]
noncomputable def apU:FD:=cw Tryz.f256 aN [] [.t 0] [0] []
noncomputable def apV:FD:=cw Tryz.f176 aN [] [.t 4] [4,5] []
noncomputable def apW:FD:=cw Tryz.f232 aN [] [.t 2] [2] []
noncomputable def apX:FD:=cw Tryz.f129 (aB 1000 []) [tz 1 8] [.t 2] [2] []
noncomputable def apY:FD:=cw Tryz.f131 ⟨1000,[],qR,[],dc,[],[]⟩ [] [] [] []
noncomputable def apZ:FD:=cw Tryz.f132 ⟨1000,[],qR,[],dc,[],[]⟩ [] [.t 4] [4,5,6,7,8] []
noncomputable def aqa:FD:=cw Tryz.f133 ⟨1000,[],qR,[],dc,[(6,[3])],[(2,[(1005,3,1900,242,4)])]⟩ [(4,6,tk 0 4 (.move 4 (.move 5 .nil)),[29,901])] [(.cell 4 4)] [4,5] [1004,1005,1900]
noncomputable def aqb:FD:=cw Tryz.f134 (aO [5]) [tz 3 12] [.t 4] [3,4,5,6] [3,5]
noncomputable def aqc:FD:=cw Tryz.f130 ⟨1000,[3],[(129,[29,901]),(130,[29,901]),(131,[29,901]),(132,[29,901]),(133,[29,901]),(173,[29,901]),(174,[29,901]),(175,[29,901]),(177,[29,901]),(178,[29,901]),(179,[29,901]),(233,[29,901]),(257,[29,901]),(258,[29,901]),(259,[29,901]),(263,[29,901]),(176,[901])],[],dc,[],[]⟩ [(6,6,tk 0 3 (tk 4 1 (.fork 3 5 (.move 5 .nil) (.move 3 .nil))),[29,901]),(12,9,tk 0 4 (tk 5 1 (.fork 4 6 (.move 6 (.move 7 (.move 8 .nil))) (.fork 4 7 (.move 7 (.move 8 .nil)) (.move 4 (.move 8 .nil))))),[29,901,1003])] [.t 2] [2,3] [1003]
noncomputable def aqd:FD:=cw Tryz.f173 ⟨1000,[],qR,[],dc,[],[]⟩ [tz 0 10] [] [] []
noncomputable def aqe:FD:=cw Tryz.f174 ⟨1000,[],qR,[],dc,[],[]⟩ [tz 1 21] [.t 2] [2] []
noncomputable def aqf:FD:=cw Tryz.f175 ⟨1000,[],qR,[],dc,[],[]⟩ [] [] [] []
noncomputable def aqg:FD:=cw Tryz.f177 ⟨1000,[],qR,[],dc,[],[]⟩ [tm 1 10] [.t 4] [4,5] [1005]
noncomputable def aqh:FD:=cw Tryz.f178 ⟨1000,[],qR,[],dc,[],[]⟩ [] [] [] []
noncomputable def aqi:FD:=cw Tryz.f179 ⟨1000,[58],qR,[],dc,[],[]⟩ [(18,5,tk 0 4 (.move 4 .nil),[29,901]),(33,7,tk 0 5 (.move 5 (.move 6 .nil)),[29,901]),(41,4,tk 0 3 (.move 3 .nil),[29,901])] [(.cell 4 4)] [4,5,6,7,8,9,10,11,12,13,45,58] [1004,1006,1007,1009,1010,1012,1013,1058]
noncomputable def aqj:FD:=cw Tryz.f233 ⟨1000,[],qR,[],dc,[],[]⟩ [] [(.cell 6 4)] [6,7] [1006]
noncomputable def aqk:FD:=cw Tryz.f257 ⟨1000,[],qR,[],dc,[],[]⟩ [] [(.cell 8 4)] [8,9] [1008,1009]
noncomputable def aql:FD:=cw Tryz.f258 ⟨1000,[],qR,[],dc,[],[]⟩ [(3,12,tk 0 3 (.move 3 (tk 4 5 (tk 10 1 (.fork 9 11 (.move 11 .nil) (.move 9 .nil))))),[29,901])] [(.cell 6 4)] [6,7,8,9,10] [1006,1008,1010]
noncomputable def aqm:FD:=cw Tryz.f259 ⟨1000,[],qR,[],dc,[],[]⟩ [tm 1 10,(15,3,tk 1 2 (.move 0 .nil),[])] [(.cell 4 4)] [4,5,6,7] [1004,1005,1006,1007]
noncomputable def aqn:FD:=cw Tryz.f263 ⟨1000,[],qR,[],dc,[],[]⟩ [] [(.cell 4 4)] [4,5] [1004,1005]
noncomputable def aqo:FD:=cw Tryz.f90 ⟨0,[],qR,[],dc,[(28,[4]),(9,[0,1])],[(8,[(29,4,901,9,1),(9,0,902,9,1),(9,1,903,9,1)])]⟩ [(10,4,tk 0 3 (.move 3 .nil),[29,901]),(11,4,tk 0 3 (.move 3 .nil),[29,901]),tz 12 14,(19,11,tk 0 9 (.move 9 (tk 10 1 .nil)),[901,902,903])] [(.cell 2 3),.t 3,.t 4] [2,3,4,5,6,7,8,9,10,11,29] [2,29,9,11,901,902,903]
noncomputable def aqp:FD:=cw Tryz.f181 aN [] [.t 4] [4,5] []
noncomputable def aqq:FD:=cw Tryz.f234 aN [] [.t 2] [2] []
noncomputable def aqr:FD:=cw Tryz.f180 aN [] [.t 2] [1,2,3,4,5,6] [1]
noncomputable def aqs:FD:=cw Tryz.f135 aN [] [.t 2] [1,2,3,4,5,6,7,8,9] [1]
noncomputable def aqt:FD:=cw Tryz.f136 ⟨0,[5],[],[(8,[5])],dc,[],[]⟩ [] [.t 4] [2,4,5,6] [2,5]
noncomputable def aqu:FD:=cw Tryz.f137 aN [] [.t 4] [2,4,5,6] [2]
noncomputable def aqv:FD:=cw Tryz.f91 aN [tz 11 5] [.t 2] [1,2,3,4,5,6] [1]
noncomputable def aqw:FD:=cw Tryz.f182 aN [] [.t 4] [4,5] []
noncomputable def aqx:FD:=cw Tryz.f183 aN [] [.t 0] [0] []
noncomputable def aqy:FD:=cw Tryz.f186 aN [] [.t 2] [2,3] []
noncomputable def aqz:FD:=cw Tryz.f235 (aB 4000 []) [tz 2 5] [.t 8] [4,8] [4004]
noncomputable def aqA:FD:=cw Tryz.f185 (aB 3000 [7]) [tm 5 10] [.t 6] [3,6,7,8] [3003,3007,3007,2019,2027,2035,2056,2062,2066,2070,2101,2109,2165,2174,2178,2188,2196,2202,2208]
noncomputable def aqB:FD:=cw Tryz.f184 ⟨5000,[],[(1000020,[3007,2019,2027,2035,2056,2062,2066,2070,2101,2109,2165,2174,2178,2188,2196,2202,2208])],[],dc,[],[]⟩ [] [.t 12] [6,7,12,13,14,15,16] [5006,5007,3007,2019,2027,2035,2056,2062,2066,2070,2101,2109,2165,2174,2178,2188,2196,2202,2208]
noncomputable def aqC:FD:=cw Tryz.f138 ⟨2000,[19,27,35,56,62,66,70,101,109,165,174,178,188,196,202,208],[(1000050,[3007,2019,2027,2035,2056,2062,2066,2070,2101,2109,2165,2174,2178,2188,2196,2202,2208]),(1000128,[3007,2019,2027,2035,2056,2062,2066,2070,2101,2109,2165,2174,2178,2188,2196,2202,2208]),(1000146,[3007,2019,2027,2035,2056,2062,2066,2070,2101,2109,2165,2174,2178,2188,2196,2202,2208]),(1000079,[3007,2019,2027,2035,2056,2062,2066,2070,2101,2109,2165,2174,2178,2188,2196,2202,2208]),(1000151,[3007,2019,2027,2035,2056,2062,2066,2070,2101,2109,2165,2174,2178,2188,2196,2202,2208])],[],dc,[],[]⟩ [(8,3,tk 1 2 (.move 0 .nil),[]),tz 10 12,tz 20 6,tz 21 10,tz 26 9,tz 28 9] [.t 6] [3,4,6,7,8,9,10,12,19,27,35,56,62,66,70,101,109,153,165,174,178,188,196,202,208] [2003,2004,2019,2027,2035,2056,2062,2066,2070,2101,2109,2165,2174,2178,2188,2196,2202,2208,3007]
noncomputable def aqD:FD:=cw Tryz.f188 aN [] [.t 2] [2,3] []
noncomputable def aqE:FD:=cw Tryz.f189 aN [] [.t 2] [2,3] []
noncomputable def aqF:FD:=cw Tryz.f236 aN [] [.t 4] [2,4,10] [2]
noncomputable def aqG:FD:=cw Tryz.f187 (aO [17]) [tm 17 10] [.t 4,.t 5] [2,4,5,6,7,8,9,10,11,12,13,17] [2,17]
noncomputable def aqH:FD:=cw Tryz.f139 aN [(1,10,tk 0 5 (.move 5 (tk 6 1 (.fork 7 8 (tk 9 1 (.move 8 .nil)) (.move 7 (tk 9 1 .nil))))),[]),(8,15,tk 0 10 (tk 12 1 (.move 10 (tk 11 1 (.move 13 (tk 14 1 .nil))))),[])] [.t 4] [2,4,5,7,8,9] [2]
noncomputable def aqI:FD:=cw Tryz.f92 ⟨0,[],[],[(18,[904])],dc,[(15,[0])],[(2,[(4,0,904,252,2)])]⟩ [tm 11 12] [(.cell 2 43),.t 3] [1,2,3,4,5,6,7,8] [1,2,4,904]
noncomputable def aqJ:FD:=cw Tryz.f93 aN [] [.t 0] [0] []
noncomputable def aqK:FD:=cw Tryz.f42 aN [] [.t 2] [2,3] []
noncomputable def aqL:FD:=cw Tryz.f41 aN [] [(.cell 2 43),.t 3] [2,3,4,6,7,8] [2,4,7]
noncomputable def aeA:List (FuncId×FD):=[(228,apN),(229,apO),(230,apP),(231,apQ),(171,apR),(172,apS),(128,apT),(256,apU),(176,apV),(232,apW),(129,apX),(131,apY),(132,apZ),(133,aqa),(134,aqb),(130,aqc),(173,aqd),(174,aqe),(175,aqf),(177,aqg),(178,aqh),(179,aqi),(233,aqj),(257,aqk),(258,aql),(259,aqm),(263,aqn),(90,aqo),(181,aqp),(234,aqq),(180,aqr),(135,aqs),(136,aqt),(137,aqu),(91,aqv),(182,aqw),(183,aqx),(186,aqy),(235,aqz),(185,aqA),(184,aqB),(138,aqC),(188,aqD),(189,aqE),(236,aqF),(187,aqG),(139,aqH),(92,aqI),(93,aqJ),(42,aqK),(41,aqL)]
theorem aqM:Mq aeA:=tc (okF Tryz.func228)<|tc (okF Tryz.func229)<|tc (okF Tryz.func230)<|tc (okF Tryz.func231)<|tc (okF Tryz.func171)<|tc (okF Tryz.func172)<|tc (okF Tryz.func128)<|tc (okF Tryz.func256)<|tc (okF Tryz.func176)<|tc (okF Tryz.func232)<|tc (okF Tryz.func129)<|tc (okF Tryz.func131)<|tc (okF Tryz.func132)<|tc (okF Tryz.func133)<|tc (okF Tryz.func134)<|tc (okF Tryz.func130)<|tc (okF Tryz.func173)<|tc (okF Tryz.func174)<|tc (okF Tryz.func175)<|tc (okF Tryz.func177)<|tc (okF Tryz.func178)<|tc (okF Tryz.func179)<|tc (okF Tryz.func233)<|tc (okF Tryz.func257)<|tc (okF Tryz.func258)<|tc (okF Tryz.func259)<|tc (okF Tryz.func263)<|tc (okF Tryz.func90)<|tc (okF Tryz.func181)<|tc (okF Tryz.func234)<|tc (okF Tryz.func180)<|tc (okF Tryz.func135)<|tc (okF Tryz.func136)<|tc (okF Tryz.func137)<|tc (okF Tryz.func91)<|tc (okF Tryz.func182)<|tc (okF Tryz.func183)<|tc (okF Tryz.func186)<|tc (okF Tryz.func235)<|tc (okF Tryz.func185)<|tc (okF Tryz.func184)<|tc (okF Tryz.func138)<|tc (okF Tryz.func188)<|tc (okF Tryz.func189)<|tc (okF Tryz.func236)<|tc (okF Tryz.func187)<|tc (okF Tryz.func139)<|tc (okF Tryz.func92)<|tc (okF Tryz.func93)<|tc (okF Tryz.func42)<|tc (okF Tryz.func41)<|tn
section
variable {R:Type}
noncomputable def fN (n:Nat)(k:Nat->R):R:=Nat.rec (motive:=fun _=>R) (k 0) (fun m _=>k (Nat.succ m)) n
noncomputable def fI (i:Int)(k:Int->R):R:=Int.rec (motive:=fun _=>R) (fun n=>fN n fun n=>k (.ofNat n)) (fun n=>fN n fun n=>k (.negSucc n)) i
noncomputable def fBo (b:Bool)(k:Bool->R):R:=Bool.rec (motive:=fun _=>R) (k false) (k true) b
noncomputable def Jm {α:Type}(l:List α):(List α->R)->R:=List.rec (motive:=fun _=>(List α->R)->R) (fun k=>k []) (fun a _ ih k=>ih fun r=>k (a::r)) l
noncomputable def CY (v:Value)(k:Value->R):R:=match v with
 | .int kd n=>fI n fun n=>k (.int kd n)
 | .bool b=>fBo b fun b=>k (.bool b)
 | .string ⟨⟨l⟩⟩=>Jm l fun l=>k (.string ⟨⟨l⟩⟩)
 |v=>k v
noncomputable def QH (x:AC):(AC->R)->R:=AC.rec (motive_1:=fun _=>(AC->R)->R) (motive_2:=fun _=>(List (List AC)->R)->R) (motive_3:=fun _=>(List AC->R)->R)
 (fun v k=>CY v fun v=>k (.v v)) (fun _ ih k=>ih fun es=>k (.sl es)) (fun s g k=>fN s fun s=>fN g fun g=>k (.own s g)) (fun s g k=>k (.cB s g)) (fun s g i k=>k (.part s g i)) (fun f _ ih k=>ih fun bP=>k (.fc f bP)) (fun f bP k=>k (.cls f bP))
 (fun k=>k []) (fun _ _ iI iJ k=>iI fun r=>iJ fun l=>k (r::l)) (fun k=>k []) (fun _ _ iI iJ k=>iI fun r=>iJ fun l=>k (r::l)) x
noncomputable def Jn (x:List AC):(List AC->R)->R:=List.rec (motive:=fun _=>(List AC->R)->R) (fun k=>k []) (fun a _ ih k=>QH a fun a=>ih fun r=>k (a::r)) x
noncomputable def WC (x:List (List AC)):(List (List AC)->R)->R:=List.rec (motive:=fun _=>(List (List AC)->R)->R) (fun k=>k []) (fun a _ ih k=>Jn a fun a=>ih fun r=>k (a::r)) x
noncomputable def WD (x:AW)(k:AW->R):R:=match x with
 | .c x=>QH x fun x=>k (.c x)
 | .agg cs=>Jn cs fun cs=>k (.agg cs)
noncomputable def WE (x:List AW):(List AW->R)->R:=List.rec (motive:=fun _=>(List AW->R)->R) (fun k=>k []) (fun a _ ih k=>WD a fun a=>ih fun r=>k (a::r)) x
noncomputable def Jo (x:AV)(k:AV->R):R:=match x with
 | .w x=>WD x fun x=>k (.w x)
 | .cg l=>WE l fun l=>k (.cg l)
 | .pb s g o=>fN s fun s=>fN g fun g=>fN o fun o=>k (.pb s g o)
 | .pr s g i o=>fN s fun s=>fN g fun g=>fN i fun i=>fN o fun o=>k (.pr s g i o)
 | .pi cs o=>Jn cs fun cs=>fN o fun o=>k (.pi cs o)
 | .u=>k .u
noncomputable def QI (x:Slot)(k:Slot->R):R:=match x with
 | .dead g=>fN g fun g=>k (.dead g)
 | .box g cs=>fN g fun g=>Jn cs fun cs=>k (.box g cs)
 | .row e kk g es=>fN g fun g=>WC es fun es=>k (.row e kk g es)
 | .obj g K=>k (.obj g K)
noncomputable def Mr (x:List (Nat×Slot)):(List (Nat×Slot)->R)->R:=List.rec (motive:=fun _=>(List (Nat×Slot)->R)->R) (fun k=>k []) (fun a _ ih k=>fN a.1 fun i=>QI a.2 fun y=>ih fun r=>k ((i,y)::r)) x
noncomputable def Jp (x:List (Nat×AV)):(List (Nat×AV)->R)->R:=List.rec (motive:=fun _=>(List (Nat×AV)->R)->R) (fun k=>k []) (fun a _ ih k=>fN a.1 fun i=>ih fun r=>k ((i,a.2)::r)) x
noncomputable def Ms (x:List (Nat×AV)):(List (Nat×AV)->R)->R:=List.rec (motive:=fun _=>(List (Nat×AV)->R)->R) (fun k=>k []) (fun a _ ih k=>fN a.1 fun i=>Jo a.2 fun y=>ih fun r=>k ((i,y)::r)) x
theorem oF (n:Nat)(k:Nat->R):fN n k=k n:=by cases n<;>rfl
theorem aqN (n:Int)(k:Int->R):fI n k=k n:=by
 cases n with
 |ofNat n=>exact oF n fun n=>k (.ofNat n)
 |negSucc n=>exact oF n fun n=>k (.negSucc n)
theorem aqO (n:Bool)(k:Bool->R):fBo n k=k n:=by cases n<;>rfl
theorem Jq {α:Type}:∀(l:List α) (k:List α->R),Jm l k=k l
 |[],_=>rfl
 |a::l,k=>Jq l fun r=>k (a::r)
theorem aeB (v:Value)(k:Value->R):CY v k=k v:=by
 unfold CY;split
 ·rename_i kd n;exact aqN n fun n=>k (.int kd n)
 ·rename_i b;exact aqO b fun b=>k (.bool b)
 ·rename_i l;exact Jq l fun l=>k (.string ⟨⟨l⟩⟩)
 ·rfl
theorem aeC (x:AC):∀k:AC->R,QH x k=k x:=by
 refine AC.rec (motive_1:=fun x=>∀k:AC->R,QH x k=k x)
  (motive_2:=fun l=>∀k:List (List AC)->R,(AC.rec_1 (motive_1:=fun _=>(AC->R)->R) (motive_2:=fun _=>(List (List AC)->R)->R) (motive_3:=fun _=>(List AC->R)->R)
   (fun v k=>CY v fun v=>k (.v v)) (fun _ ih k=>ih fun es=>k (.sl es)) (fun s g k=>fN s fun s=>fN g fun g=>k (.own s g)) (fun s g k=>k (.cB s g)) (fun s g i k=>k (.part s g i)) (fun f _ ih k=>ih fun bP=>k (.fc f bP)) (fun f bP k=>k (.cls f bP))
   (fun k=>k []) (fun _ _ iI iJ k=>iI fun r=>iJ fun l=>k (r::l)) (fun k=>k []) (fun _ _ iI iJ k=>iI fun r=>iJ fun l=>k (r::l)) l:(List (List AC)->R)->R) k=k l)
  (motive_3:=fun l=>∀k:List AC->R,(AC.rec_2 (motive_1:=fun _=>(AC->R)->R) (motive_2:=fun _=>(List (List AC)->R)->R) (motive_3:=fun _=>(List AC->R)->R)
   (fun v k=>CY v fun v=>k (.v v)) (fun _ ih k=>ih fun es=>k (.sl es)) (fun s g k=>fN s fun s=>fN g fun g=>k (.own s g)) (fun s g k=>k (.cB s g)) (fun s g i k=>k (.part s g i)) (fun f _ ih k=>ih fun bP=>k (.fc f bP)) (fun f bP k=>k (.cls f bP))
   (fun k=>k []) (fun _ _ iI iJ k=>iI fun r=>iJ fun l=>k (r::l)) (fun k=>k []) (fun _ _ iI iJ k=>iI fun r=>iJ fun l=>k (r::l)) l:(List AC->R)->R) k=k l)
  ?_ ?_ ?_ ?_ ?_ ?_ ?_ ?_ ?_ ?_ ?_ x
 ·intro v k;exact aeB v fun v=>k (.v v)
 ·intro es ih k;exact ih fun es=>k (.sl es)
 ·intro s g k;exact(oF s fun s=>fN g fun g=>k (.own s g)).trans (oF g fun g=>k (.own s g))
 ·intro s g k;rfl
 ·intro s g i k;rfl
 ·intro f es ih k;exact ih fun es=>k (.fc f es)
 ·intro f es k;rfl
 ·intro k;rfl
 ·intro a l h1 h2 k;exact(h1 fun r=>_).trans (h2 fun l=>k (a::l))
 ·intro k;rfl
 ·intro a l h1 h2 k;exact(h1 fun r=>_).trans (h2 fun l=>k (a::l))
theorem Mt:∀(l:List AC) (k:List AC->R),Jn l k=k l
 |[],_=>rfl
 |a::l,k=>(aeC a fun a=>Jn l fun r=>k (a::r)).trans (Mt l fun r=>k (a::r))
theorem aeD:∀(l:List (List AC)) (k:List (List AC)->R),WC l k=k l
 |[],_=>rfl
 |a::l,k=>(Mt a fun a=>WC l fun r=>k (a::r)).trans (aeD l fun r=>k (a::r))
theorem aeE (x:AW)(k:AW->R):WD x k=k x:=by
 cases x with
 |c x=>exact aeC x fun x=>k (.c x)
 |agg cs=>exact Mt cs fun cs=>k (.agg cs)
theorem aeF:∀(l:List AW) (k:List AW->R),WE l k=k l
 |[],_=>rfl
 |a::l,k=>(aeE a fun a=>WE l fun r=>k (a::r)).trans (aeF l fun r=>k (a::r))
theorem aqP (x:AV)(k:AV->R):Jo x k=k x:=by
 cases x with
 |w x=>exact aeE x fun x=>k (.w x)
 |cg l=>exact aeF l fun l=>k (.cg l)
 |pb s g o=>simp only[Jo,oF]
 |pr s g i o=>simp only[Jo,oF]
 |pi cs o=>simp only[Jo,oF,Mt]
 |u=>rfl
theorem aqQ (x:Slot)(k:Slot->R):QI x k=k x:=by
 cases x<;>simp only[QI,oF,Mt,aeD]
theorem aeG:∀(l:List (Nat×Slot)) (k:List (Nat×Slot)->R),Mr l k=k l
 |[],_=>rfl
 |(i,a)::l,k=>(oF i fun i=>QI a fun y=>Mr l fun r=>k ((i,y)::r)).trans ((aqQ a fun y=>Mr l fun r=>k ((i,y)::r)).trans (aeG l fun r=>k ((i,a)::r)))
theorem QJ:∀(l:List (Nat×AV)) (k:List (Nat×AV)->R),Jp l k=k l
 |[],_=>rfl
 |(i,a)::l,k=>(oF i fun i=>Jp l fun r=>k ((i,a)::r)).trans (QJ l fun r=>k ((i,a)::r))
theorem aeH:∀(l:List (Nat×AV)) (k:List (Nat×AV)->R),Ms l k=k l
 |[],_=>rfl
 |(i,a)::l,k=>(oF i fun i=>Jo a fun y=>Ms l fun r=>k ((i,y)::r)).trans ((aqP a fun y=>Ms l fun r=>k ((i,y)::r)).trans (aeH l fun r=>k ((i,a)::r)))
end
section
variable {R:Type}
noncomputable def QK (x:List (List AC)):(List (List AC)->R)->R:=List.rec (motive:=fun _=>(List (List AC)->R)->R) (fun k=>k []) (fun a _ ih k=>Jm a fun a=>ih fun r=>k (a::r)) x
noncomputable def WG (x:AC)(k:AC->R):R:=match x with
 | .v v=>CY v fun v=>k (.v v)
 | .sl es=>QK es fun es=>k (.sl es)
 | .own s g=>fN s fun s=>fN g fun g=>k (.own s g)
 | .cB s g=>k (.cB s g)
 | .part s g i=>k (.part s g i)
 | .fc f cs=>k (.fc f cs)
 | .cls f cs=>k (.cls f cs)
noncomputable def WH (x:AW)(k:AW->R):R:=match x with
 | .c x=>WG x fun x=>k (.c x)
 | .agg cs=>Jm cs fun cs=>k (.agg cs)
noncomputable def WJ (x:List AW):(List AW->R)->R:=List.rec (motive:=fun _=>(List AW->R)->R) (fun k=>k []) (fun a _ ih k=>WH a fun a=>ih fun r=>k (a::r)) x
noncomputable def iK (x:AV)(k:AV->R):R:=match x with
 | .w x=>WH x fun x=>k (.w x)
 | .cg l=>WJ l fun l=>k (.cg l)
 | .pb s g o=>fN s fun s=>fN g fun g=>fN o fun o=>k (.pb s g o)
 | .pr s g i o=>fN s fun s=>fN g fun g=>fN i fun i=>fN o fun o=>k (.pr s g i o)
 | .pi cs o=>Jm cs fun cs=>fN o fun o=>k (.pi cs o)
 | .u=>k .u
noncomputable def QL (x:Slot)(k:Slot->R):R:=match x with
 | .dead g=>fN g fun g=>k (.dead g)
 | .box g cs=>fN g fun g=>Jm cs fun cs=>k (.box g cs)
 | .row e kk g es=>fN g fun g=>QK es fun es=>k (.row e kk g es)
 | .obj g K=>k (.obj g K)
noncomputable def yS (x:List (Nat×Slot)):(List (Nat×Slot)->R)->R:=List.rec (motive:=fun _=>(List (Nat×Slot)->R)->R) (fun k=>k []) (fun a _ ih k=>fN a.1 fun i=>QL a.2 fun y=>ih fun r=>k ((i,y)::r)) x
theorem WK:∀(l:List (List AC)) (k:List (List AC)->R),QK l k=k l
 |[],_=>rfl
 |a::l,k=>(Jq a fun a=>QK l fun r=>k (a::r)).trans (WK l fun r=>k (a::r))
theorem aqR (x:AC)(k:AC->R):WG x k=k x:=by
 cases x with
 |v v=>exact aeB v fun v=>k (.v v)
 |sl es=>exact WK es fun es=>k (.sl es)
 |own s g=>simp only[WG,oF]
 |cB s g=>rfl
 |part s g i=>rfl
 |fc f cs=>rfl
 |cls f cs=>rfl
theorem aeI (x:AW)(k:AW->R):WH x k=k x:=by
 cases x with
 |c x=>exact aqR x fun x=>k (.c x)
 |agg cs=>exact Jq cs fun cs=>k (.agg cs)
theorem aeJ:∀(l:List AW) (k:List AW->R),WJ l k=k l
 |[],_=>rfl
 |a::l,k=>(aeI a fun a=>WJ l fun r=>k (a::r)).trans (aeJ l fun r=>k (a::r))
theorem Jr (x:AV)(k:AV->R):iK x k=k x:=by
 cases x with
 |w x=>exact aeI x fun x=>k (.w x)
 |cg l=>exact aeJ l fun l=>k (.cg l)
 |pb s g o=>simp only[iK,oF]
 |pr s g i o=>simp only[iK,oF]
 |pi cs o=>simp only[iK,oF,Jq]
 |u=>rfl
theorem aqS (x:Slot)(k:Slot->R):QL x k=k x:=by
 cases x<;>simp only[QL,oF,Jq,WK]
theorem Js:∀(l:List (Nat×Slot)) (k:List (Nat×Slot)->R),yS l k=k l
 |[],_=>rfl
 |(i,a)::l,k=>(oF i fun i=>QL a fun y=>yS l fun r=>k ((i,y)::r)).trans ((aqS a fun y=>yS l fun r=>k ((i,y)::r)).trans (Js l fun r=>k ((i,a)::r)))
end
variable {U:Option (List Nat)} {op:eD} {st st':St} {x:AV}
def aeK:eD->Bool
 | .mv _=>true
 | .ld1 _=>true
 | .pick _ _ _=>true
 | .ext _ _=>true
 |_=>false
def FG:List UInt8->List UInt8->Bool
 |[],[]=>true
 |a::l,b::m=>match Nat.beq a.toNat b.toNat with
  |true=>FG l m
  |false=>false
 |_,_=>false
theorem Mu:∀l m:List UInt8,FG l m=(l==m)
 |[],[]=>rfl
 |[],_::_=>rfl
 |_::_,[]=>rfl
 |a::l,b::m=>by
  show(match Nat.beq a.toNat b.toNat with |true=>FG l m|false=>false)=(a==b && l==m)
  have:Nat.beq a.toNat b.toNat=(a==b):=by
   rw[qy];simp[UInt8.toNat_inj]
  rw[this,Mu l m];cases(a==b)<;>rfl
def Jt:Int->Bool
 | .ofNat n=>Nat.ble n 9223372036854775807
 | .negSucc n=>Nat.ble n 9223372036854775807
theorem aqT{n:Int}(h:Jt n=true):IntKind.i64.wrap n=n:=by
 cases n with
 |ofNat n=>exact wrap64 (by have:=zX h;show _<=((n:Nat):Int);omega) (by have:=zX h;show((n:Nat):Int)<=_;omega)
 |negSucc n=>exact wrap64 (by have:=zX h;omega) (by have:=zX h;omega)
def xd (op:BinOp)(x y:Value):Option Value:=match x,y with
 | .string ⟨⟨a⟩⟩,.string ⟨⟨b⟩⟩=>match op with
  | .eql=>some (.bool (FG a b))
  | .neq=>some (.bool (!FG a b))
  |_=>none
 | .int .i64 a,.int .i64 b=>match op with
  | .add=>match Jt (Int.add a b) with |true=>some (.int .i64 (Int.add a b))|false=>none
  | .sub=>match Jt (Int.sub a b) with |true=>some (.int .i64 (Int.sub a b))|false=>none
  | .mul=>match Jt (Int.mul a b) with |true=>some (.int .i64 (Int.mul a b))|false=>none
  |op=>bt op (.int .i64 a) (.int .i64 b)
 |x,y=>bt op x y
theorem aqU(bs:ByteArray):∀(k i:Nat) (r:List UInt8),bs.size-i=k->ByteArray.toList.loop bs i r=r.reverse++bs.data.toList.drop i:=by
 intro k
 induction k with
 |zero=>
  intro i r hk;unfold ByteArray.toList.loop;have h:¬i<bs.size:=ab;rw[af h];have:bs.data.toList.drop i=[]:=sV (by simpa using(by omega:bs.size<=i));rw[this];simp
 |succ k ih=>
  intro i r hk;unfold ByteArray.toList.loop;have h:i<bs.size:=ab;rw[aj h,ih (i+1) _ ab]
  have h':i<bs.data.toList.length:=by simpa using h
  rw[List.drop_eq_getElem_cons h']
  have:bs.get! i=bs.data.toList[i]:=by
   obtain⟨⟨l⟩⟩:=bs
   show(Array.mk l)[i]! =_
   simp at h';simp[h']
  rw[this];simp
theorem toList_data (l:List UInt8):(ByteArray.mk ⟨l⟩).toList=l:=by
 unfold ByteArray.toList;rw[aqU _ _ 0 [] rfl];rfl
theorem aqV{op:BinOp}{x y r:Value}(h:xd op x y=some r):bt op x y=some r:=by
 have key:∀(n:Int) (x:Option Value),(match Jt n with |true=>some (Value.int .i64 n)|false=>none)=some r->x=(if IntKind.i64=IntKind.i64 then(if IntKind.i64.wrap n=n then some (Value.int .i64 n) else none) else none)->x=some r:=by
  intro n x h hx
  cases hh:Jt n with
  |true=>rw[hh] at h;rw[hx,aj rfl,aj (aqT hh)];exact h
  |false=>rw[hh] at h;cases h
 unfold xd at h;split at h
 ·split at h
  ·rw[Mu] at h;rw[apo,toList_data,toList_data];exact h
  ·rw[Mu] at h;rw[apq,toList_data,toList_data];exact h
  ·cases h
 ·split at h
  ·exact key _ _ h rfl
  ·exact key _ _ h rfl
  ·exact key _ _ h rfl
  ·exact h
 ·exact h
def FH (U:List Nat)(st:St)(op:eD):Option AV:=match op with
 | .bin o x y=>match st.sc x,st.sc y with
  |some u,some v=>match xd o u v with
   |some r=>some (.w (.c (.v r)))
   |none=>none
  |_,_=>none
 |op=>match bY op with
  |some (_,ev)=>ev st U
  |none=>none
theorem aeL{U:List Nat}(h:FH U st op=some x):∃m ev,bY op=some (m,ev)/\ev st U=some x:=by
 unfold FH at h;split at h
 ·rename_i o a b;refine⟨_,_,rfl,?_⟩;split at h
  ·rename_i u v h1 h2;split at h
   ·rename_i r hr
    show(match st.sc a,st.sc b with |some u,some v=>(bt o u v).map fun r=>AV.w (.c (.v r))|_,_=>none)=_
    rw[h1,h2];dsimp only;rw[aqV hr];exact h
   ·cases h
  ·cases h
 ·split at h
  ·rename_i m ev he;exact⟨m,ev,he,h⟩
  ·cases h
noncomputable def QN {R:Type}(l:List (Nat×AV))(d:Nat)(x:AV):(List (Nat×AV)->R)->R:=List.rec (motive:=fun _=>(List (Nat×AV)->R)->R) (fun k=>k []) (fun p t ih k=>match p with
 |(i,y)=>match Nat.beq i d with
  |true=>ih fun t'=>k ((i,x)::t')
  |false=>ih fun t'=>k ((i,y)::t')) l
theorem WL {R:Type}:∀(l:List (Nat×AV)) (d:Nat) (x:AV) (k:List (Nat×AV)->R),QN l d x k=k (pw l d x)
 |[],_,_,_=>rfl
 |(i,y)::l,d,x,k=>by
  show(match Nat.beq i d with
  |true=>QN l d x fun t'=>k ((i,x)::t')
  |false=>QN l d x fun t'=>k ((i,y)::t'))=_
  unfold pw
  cases h:Nat.beq i d with
  |true=>rw[aj (fH h)];exact WL l d x _
  |false=>rw[af (PB h)];exact WL l d x _
def QO:List (Nat×AV)->Nat->Bool
 |[],_=>false
 |(i,_)::l,d=>match Nat.beq i d with
  |true=>true
  |false=>QO l d
theorem aeM:∀(l:List (Nat×AV)) (d:Nat),QO l d=(aH l d).isSome
 |[],_=>rfl
 |(i,y)::l,d=>by
  unfold QO aH
  cases h:Nat.beq i d with
  |true=>rw[aj (fH h)];rfl
  |false=>rw[af (PB h)];exact aeM l d
noncomputable def dx (V L:List (Nat×AV))(S:List (Nat×Slot))(d:Option Nat)(x:AV):Option St:=match d with
 |none=>some ⟨V,L,S⟩
 |some d=>match QO V d with
  |true=>QN V d x fun V'=>some ⟨V',L,S⟩
  |false=>some ⟨V,(d,x)::L,S⟩
theorem CZ(V L:List (Nat×AV))(S:List (Nat×Slot))(d:Option Nat)(x:AV):dx V L S d x=some ((St.mk V L S).dZ d x):=by
 cases d with
 |none=>rfl
 |some d=>
  unfold dx St.dZ St.put;dsimp only;rw[aeM]
  cases h:(aH V d).isSome with
  |true=>rw[WL];rfl
  |false=>rfl
def Mw:eD->Bool
 | .Fs _ _ _=>false
 | .box _ _=>false
 | .alloc _ _=>false
 | .tD _ _ _ _=>false
 | .yD _ _ _ _ _ _=>false
 | .app _ _ _ _=>false
 | .store _ _ _=>false
 | .pH _ _ _ _=>false
 | .CM _ _ _=>false
 | .Fw _ _ _ _ _=>false
 | .pB _ _ none _=>false
 | .call _ _=>false
 | .mH _ _ _=>false
 |_=>true
theorem aeN(h:Mw op=true):cS U st op=match bY op with
  |some (_,ev)=>(ev st []).map fun x=>(x,st)
  |none=>none:=by
 cases op<;>first|rfl|(cases h;done)|skip
 rename_i k x lo hi
 cases lo with
 |none=>cases h
 |some lo=>rfl
theorem aqW(h:cS U st op=some (x,st')):st'.V=st.V/\st'.L=st.L:=by
 have rd:∀(ev:St->List Nat->Option AV),((ev st []).map fun x=>(x,st))=some (x,st')->st'.V=st.V/\st'.L=st.L:=fun ev h=>by
  rw[bK] at h;obtain⟨y,hy,he⟩:=h;cases he;exact⟨rfl,rfl⟩
 by_cases hr:Mw op=true
 ·rw[aeN hr] at h;split at h
  ·exact rd _ h
  ·cases h
 cases op with
 |Fs s e k=>simp only[cS] at h;split at h<;>cases h;exact⟨rfl,rfl⟩
 |box s y=>simp only[cS] at h;(repeat' split at h)<;>cases h;exact⟨rfl,rfl⟩
 |alloc s za=>simp only[cS] at h;split at h<;>cases h;exact⟨rfl,rfl⟩
 |CM k za y=>simp only[cS] at h;(repeat' split at h)<;>cases h;exact⟨rfl,rfl⟩
 |Fw s e k za y=>simp only[cS] at h;(repeat' split at h)<;>cases h;exact⟨rfl,rfl⟩
 |tD k n za qs=>simp only[cS] at h;(repeat' split at h)<;>cases h;exact⟨rfl,rfl⟩
 |yD s e k n za qs=>simp only[cS] at h;(repeat' split at h)<;>cases h;exact⟨rfl,rfl⟩
 |app e k y z=>simp only[cS] at h;(repeat' split at h)<;>cases h;exact⟨rfl,rfl⟩
 |store n p y=>
  simp only[cS] at h;split at h
  ·rename_i xw hy;split at h
   ·rename_i st2 hst;split at h
    ·cases h;unfold St.store at hst
     (repeat' split at hst)<;>cases hst<;>exact⟨rfl,rfl⟩
    ·cases h
   ·cases h
  ·cases h
 |pB k y lo hi=>
  cases lo with
  |none=>
   simp only[cS] at h;split at h
   ·(repeat' split at h)<;>cases h;exact⟨rfl,rfl⟩
   ·exact rd ((bY (.pB k y none hi)).get rfl).2 h
  |some lo=>exact absurd rfl hr
 |call f ys=>simp[cS] at h
 |mH f ys D=>simp[cS] at h
 |pH D n p y=>simp[cS] at h
 |mv y=>exact absurd rfl hr
 |bin Mc y z=>exact absurd rfl hr
 |un Md y=>exact absurd rfl hr
 |pick c y z=>exact absurd rfl hr
 |len y=>exact absurd rfl hr
 |mm mx y z=>exact absurd rfl hr
 |ld1 p=>exact absurd rfl hr
 |CA n p=>exact absurd rfl hr
 |tr p off=>exact absurd rfl hr
 |idx k y i=>exact absurd rfl hr
 |CB n k p i=>exact absurd rfl hr
 |ext y i=>exact absurd rfl hr
 |CC y i=>exact absurd rfl hr
 |AA y=>exact absurd rfl hr
 |Ft y lo hi=>exact absurd rfl hr
 |Fu kk y=>exact absurd rfl hr
 |AB y=>exact absurd rfl hr
 |Fv y z t=>exact absurd rfl hr
 |CD za qs=>exact absurd rfl hr
 |eqs neg n y z=>exact absurd rfl hr
def xW (U:Option (List Nat))(st:St)(op:eD):Option (AV×St):=match op with
 | .tD k n za qs=>match Jl k n st qs with
  |some rows=>some (.w (.c (.sl rows)),st)
  |none=>cS U st (.tD k n za qs)
 | .yD s e k n za qs=>match Jl k n st qs with
  |some rows=>match(aH st.S s).isSome with
   |true=>some (.w (.c (.own s ((st.slot s).gen+1))),st.bR s (.row e k ((st.slot s).gen+1) rows))
   |false=>none
  |none=>cS U st (.yD s e k n za qs)
 |op=>cS U st op
theorem aqX{r:AV×St}(h:xW U st op=some r):cS U st op=some r:=by
 unfold xW at h;split at h
 ·split at h
  ·rename_i rows hr;rw[apL hr];exact h
  ·exact h
 ·split at h
  ·rename_i rows hr;split at h
   ·rename_i hs;rw[apM hr hs];exact h
   ·cases h
  ·exact h
 ·exact h
def QP:eD->Bool
 | .tD _ _ _ _=>false
 | .CM _ _ _=>false
 |_=>true
theorem aqY(hs:QP op=false)(h:cS U st op=some (x,st')):st'=st:=by
 cases op<;>first|(cases hs;done)|skip
 ·simp only[cS] at h;(repeat' split at h)<;>cases h;rfl
 ·simp only[cS] at h;(repeat' split at h)<;>cases h;rfl
noncomputable def WM (U:Option (List Nat))(V L:List (Nat×AV))(S:List (Nat×Slot))(d:Option Nat)(op:eD):Option St:=match Mw op with
 |true=>match FH [] ⟨V,L,S⟩ op with
  |some x=>match aeK op with
   |true=>dx V L S d x
   |false=>iK x fun x=>dx V L S d x
  |none=>none
 |false=>match xW U ⟨V,L,S⟩ op with
  |some (x,st')=>match QP op with
   |true=>iK x fun x=>yS st'.S fun S'=>dx V L S' d x
   |false=>iK x fun x=>dx V L S d x
  |none=>none
theorem aqZ{V L:List (Nat×AV)}{S:List (Nat×Slot)}{d:Option Nat}(h:WM U V L S d op=some st'):((cS U ⟨V,L,S⟩ op).map fun p=>p.2.dZ d p.1)=some st':=by
 unfold WM at h
 cases hr:Mw op with
 |true=>
  rw[hr] at h;dsimp only at h;split at h
  ·rename_i x hx
   have h:dx V L S d x=some st':=by
    split at h
    ·exact h
    ·rw[Jr] at h;exact h
   rw[CZ] at h;obtain⟨m,ev,he,hv⟩:=aeL hx;rw[aeN hr,he];dsimp only;rw[hv];exact h
  ·cases h
 |false=>
  rw[hr] at h;dsimp only at h;split at h
  ·rename_i x st2 hx;have hx:=aqX hx
   cases hs:QP op with
   |true=>
    rw[hs] at h;dsimp only at h;rw[Jr,Js,CZ] at h;obtain⟨h1,h2⟩:=aqW hx;rw[hx];obtain⟨V2,L2,S2⟩:=st2;dsimp only at h1 h2 h⊢;subst h1;subst h2;exact h
   |false=>
    rw[hs] at h;dsimp only at h;rw[Jr,CZ] at h;rw[hx,aqY hs hx];exact h
  ·cases h
structure Ju (α:Type) where
 f:α
noncomputable def QQ {α:Type}(j:Nat)(l:List (Nat×α)):Option α:=List.rec (motive:=fun _=>Option α) none (fun p _ ih=>Prod.rec (motive:=fun _=>Option α) (fun i x=>Bool.rec (motive:=fun _=>Option α) ih (some x) (Nat.beq i j)) p) l
theorem WN {α:Type}(j:Nat):∀l:List (Nat×α),QQ j l=aH l j
 |[]=>rfl
 |(i,x)::l=>by
  show Bool.rec (motive:=fun _=>Option α) (QQ j l) (some x) (Nat.beq i j)=_
  unfold aH
  cases h:Nat.beq i j with
  |true=>rw[aj (fH h)]
  |false=>rw[af (PB h)];exact WN j l
noncomputable def FI (V L:List (Nat×AV))(i:Nat):Option AV:=Option.rec (motive:=fun _=>Option AV) (QQ i L) (fun v=>some v) (QQ i V)
theorem WO(V L:List (Nat×AV))(S:List (Nat×Slot))(i:Nat):FI V L i=St.get ⟨V,L,S⟩ i:=by
 unfold FI St.get;dsimp only;rw[WN,WN];cases aH V i<;>rfl
noncomputable def mI (y:aP):Ju (List (Nat×AV)->List (Nat×AV)->Option AV):=match y with
 | .t i=>⟨fun V L=>FI V L i⟩
 | .k x=>⟨fun _ _=>some (.w x)⟩
theorem Da(y:aP)(V L:List (Nat×AV))(S:List (Nat×Slot)):(mI y).f V L=St.arg ⟨V,L,S⟩ y:=by
 cases y with
 |t i=>exact WO V L S i
 |k x=>rfl
noncomputable def xe (y:aP):Ju (List (Nat×AV)->List (Nat×AV)->Option Value):=match y with
 | .t i=>⟨fun V L=>Fb (FI V L i)⟩
 | .k x=>⟨fun _ _=>Fb (some (.w x))⟩
theorem Mx(y:aP)(V L:List (Nat×AV))(S:List (Nat×Slot)):(xe y).f V L=St.sc ⟨V,L,S⟩ y:=by
 cases y with
 |t i=>show Fb (FI V L i)=_;rw[WO V L S];rfl
 |k x=>rfl
def WQ (o:BinOp):Ju (Value->Value->Option Value):=match o with
 | .lss=>⟨fun x y=>xd .lss x y⟩
 | .eql=>⟨fun x y=>xd .eql x y⟩
 | .neq=>⟨fun x y=>xd .neq x y⟩
 | .add=>⟨fun x y=>xd .add x y⟩
 |o=>⟨fun x y=>xd o x y⟩
theorem ara(o:BinOp)(x y:Value):(WQ o).f x y=xd o x y:=by cases o<;>rfl
abbrev GoT:=Option (List Nat)->List (Nat×AV)->List (Nat×AV)->List (Nat×Slot)->Option Nat->Option St
noncomputable def WS (op:eD):Ju GoT:=match op with
 | .mv x=>match mI x with
  |⟨a⟩=>⟨fun _ V L S d=>match a V L with
   |some y=>dx V L S d y
   |none=>none⟩
 | .bin o x y=>match xe x,xe y,WQ o with
  |⟨a⟩,⟨b⟩,⟨f⟩=>⟨fun _ V L S d=>match a V L,b V L with
   |some u,some v=>match f u v with
    |some r=>CY r fun r=>dx V L S d (.w (.c (.v r)))
    |none=>none
   |_,_=>none⟩
 | .len x=>match mI x with
  |⟨a⟩=>⟨fun _ V L S d=>match St.rows ⟨V,L,S⟩ [] (a V L) with
   |some es=>fI (Int.ofNat es.length) fun n=>dx V L S d (.w (.c (.v (.int .i64 n))))
   |none=>none⟩
 | .ld1 p=>match mI p with
  |⟨a⟩=>⟨fun _ V L S d=>match St.cells ⟨V,L,S⟩ [] 1 (a V L) with
   |some (c::_)=>dx V L S d (.w (.c c))
   |_=>none⟩
 | .tr p off=>match mI p with
  |⟨a⟩=>⟨fun _ V L S d=>match St.cells ⟨V,L,S⟩ [] 0 (a V L),a V L with
   |some _,some q=>iK (q.shift off) fun x=>dx V L S d x
   |_,_=>none⟩
 | .AB p=>match mI p with
  |⟨a⟩=>⟨fun _ V L S d=>match St.cells ⟨V,L,S⟩ [] 0 (a V L),a V L with
   |some _,some q=>iK q fun x=>dx V L S d x
   |_,_=>none⟩
 | .idx k x i=>match mI x,xe i with
  |⟨a⟩,⟨b⟩=>⟨fun _ V L S d=>match CF k (St.rows ⟨V,L,S⟩ [] (a V L)) (a V L) (b V L) with
   |some x=>iK x fun x=>dx V L S d x
   |none=>none⟩
 | .pick c x y=>match xe c,mI x,mI y with
  |⟨a⟩,⟨b⟩,⟨e⟩=>⟨fun _ V L S d=>match a V L with
   |some (.bool true)=>(match b V L with
    |some x=>dx V L S d x
    |none=>none)
   |some (.bool false)=>(match e V L with
    |some x=>dx V L S d x
    |none=>none)
   |_=>none⟩
 | .AA x=>match xe x with
  |⟨a⟩=>⟨fun _ V L S d=>match a V L with
   |some (.string s)=>fI (Int.ofNat s.size) fun n=>dx V L S d (.w (.c (.v (.int .i64 n))))
   |_=>none⟩
 |op=>match Mw op,QP op with
  |true,_=>⟨fun _ V L S d=>match FH [] ⟨V,L,S⟩ op with
   |some x=>match aeK op with
    |true=>dx V L S d x
    |false=>iK x fun x=>dx V L S d x
   |none=>none⟩
  |false,true=>⟨fun U V L S d=>match xW U ⟨V,L,S⟩ op with
   |some (x,st')=>iK x fun x=>yS st'.S fun S'=>dx V L S' d x
   |none=>none⟩
  |false,false=>⟨fun U V L S d=>match xW U ⟨V,L,S⟩ op with
   |some (x,_)=>iK x fun x=>dx V L S d x
   |none=>none⟩
theorem arb(op:eD)(U:Option (List Nat))(V L:List (Nat×AV))(S:List (Nat×Slot))(d:Option Nat):(WS op).f U V L S d=WM U V L S d op:=by
 cases op with
 |mv x=>
  show(match(mI x).f V L with |some y=>dx V L S d y|none=>none)=(match St.arg ⟨V,L,S⟩ x with |some y=>dx V L S d y|none=>none)
  rw[Da x V L S]
 |bin o x y=>
  show(match(xe x).f V L,(xe y).f V L with |some u,some v=>(match(WQ o).f u v with |some r=>CY r fun r=>dx V L S d (.w (.c (.v r)))|none=>none)|_,_=>none)=_
  rw[Mx x V L S,Mx y V L S];simp only[ara]
  show _=(match(match St.sc ⟨V,L,S⟩ x,St.sc ⟨V,L,S⟩ y with |some u,some v=>(match xd o u v with |some r=>some (AV.w (.c (.v r)))|none=>none)|_,_=>none) with |some x=>iK x fun x=>dx V L S d x|none=>none)
  cases St.sc ⟨V,L,S⟩ x with
  |none=>rfl
  |some u=>cases St.sc ⟨V,L,S⟩ y with
   |none=>rfl
   |some v=>dsimp only;cases xd o u v<;>rfl
 |len x=>
  show(match St.rows ⟨V,L,S⟩ [] ((mI x).f V L) with |some es=>fI (Int.ofNat es.length) fun n=>dx V L S d (.w (.c (.v (.int .i64 n))))|none=>none)=(match(match St.rows ⟨V,L,S⟩ [] (St.arg ⟨V,L,S⟩ x) with |some es=>some (AV.w (.c (.v (.int .i64 es.length))))|none=>none) with |some x=>iK x fun x=>dx V L S d x|none=>none)
  rw[Da x V L S];cases St.rows ⟨V,L,S⟩ [] (St.arg ⟨V,L,S⟩ x)<;>rfl
 |ld1 p=>
  show(match St.cells ⟨V,L,S⟩ [] 1 ((mI p).f V L) with |some (c::_)=>dx V L S d (.w (.c c))|_=>none)=(match(match St.cells ⟨V,L,S⟩ [] 1 (St.arg ⟨V,L,S⟩ p) with |some (c::_)=>some (AV.w (.c c))|_=>none) with |some x=>dx V L S d x|none=>none)
  rw[Da p V L S]
  cases St.cells ⟨V,L,S⟩ [] 1 (St.arg ⟨V,L,S⟩ p) with
  |none=>rfl
  |some l=>cases l<;>rfl
 |tr p off=>
  show(match St.cells ⟨V,L,S⟩ [] 0 ((mI p).f V L),(mI p).f V L with |some _,some q=>iK (q.shift off) fun x=>dx V L S d x|_,_=>none)=(match(match St.cells ⟨V,L,S⟩ [] 0 (St.arg ⟨V,L,S⟩ p),St.arg ⟨V,L,S⟩ p with |some _,some q=>some (q.shift off)|_,_=>none) with |some x=>iK x fun x=>dx V L S d x|none=>none)
  rw[Da p V L S];cases St.cells ⟨V,L,S⟩ [] 0 (St.arg ⟨V,L,S⟩ p)<;>cases St.arg ⟨V,L,S⟩ p<;>rfl
 |AB p=>
  show(match St.cells ⟨V,L,S⟩ [] 0 ((mI p).f V L),(mI p).f V L with |some _,some q=>iK q fun x=>dx V L S d x|_,_=>none)=(match(match St.cells ⟨V,L,S⟩ [] 0 (St.arg ⟨V,L,S⟩ p),St.arg ⟨V,L,S⟩ p with |some _,some q=>some q|_,_=>none) with |some x=>iK x fun x=>dx V L S d x|none=>none)
  rw[Da p V L S];cases St.cells ⟨V,L,S⟩ [] 0 (St.arg ⟨V,L,S⟩ p)<;>cases St.arg ⟨V,L,S⟩ p<;>rfl
 |idx k x i=>
  show(match CF k (St.rows ⟨V,L,S⟩ [] ((mI x).f V L)) ((mI x).f V L) ((xe i).f V L) with |some x=>iK x fun x=>dx V L S d x|none=>none)=_
  rw[Da x V L S,Mx i V L S];rfl
 |pick c x y=>
  show(match(xe c).f V L with |some (.bool true)=>(match(mI x).f V L with |some x=>dx V L S d x|none=>none)|some (.bool false)=>(match(mI y).f V L with |some x=>dx V L S d x|none=>none)|_=>none)=(match(match St.sc ⟨V,L,S⟩ c with |some (.bool true)=>St.arg ⟨V,L,S⟩ x|some (.bool false)=>St.arg ⟨V,L,S⟩ y|_=>none) with |some x=>dx V L S d x|none=>none)
  rw[Mx c V L S,Da x V L S,Da y V L S]
  cases St.sc ⟨V,L,S⟩ c with
  |none=>rfl
  |some v=>
   cases v with
   |bool b=>cases b<;>rfl
   |_=>rfl
 |AA x=>
  show(match(xe x).f V L with |some (.string s)=>fI (Int.ofNat s.size) fun n=>dx V L S d (.w (.c (.v (.int .i64 n))))|_=>none)=(match(match St.sc ⟨V,L,S⟩ x with |some (.string s)=>some (AV.w (.c (.v (.int .i64 s.size))))|_=>none) with |some x=>iK x fun x=>dx V L S d x|none=>none)
  rw[Mx x V L S]
  cases St.sc ⟨V,L,S⟩ x with
  |none=>rfl
  |some v=>cases v<;>rfl
 |pB k x lo hi=>cases lo<;>rfl
 |tD k n za qs=>
  show(match xW U ⟨V,L,S⟩ (.tD k n za qs) with |some (x,_)=>iK x fun x=>dx V L S d x|none=>none)=_
  rfl
 |_=>rfl
abbrev C1:=FuncId->List AW->Option AV
abbrev C2:=FuncId->List AV->List (Nat×Slot)->Option (AV×List (Nat×Slot))
def iL (P:Program)(c:C1):Prop:=∀f args x,c f args=some x->bu P f args (fun y=>y=x)
def Db (P:Program)(c:C2):Prop:=∀f args T x Y,c f args T=some (x,Y)->Y.map (·.1)=T.map (·.1)/\gM P f args T (fun y S'=>y=x/\∀p∈Y,S' p.1=p.2)
def QR:List Nat->List Nat->Bool
 |[],[]=>true
 |a::l,b::m=>match Nat.beq a b with
  |true=>QR l m
  |false=>false
 |_,_=>false
theorem aeO:∀{l m:List Nat},QR l m=true->l=m
 |[],[],_=>rfl
 |[],_::_,h=>by cases h
 |_::_,[],h=>by cases h
 |a::l,b::m,h=>by
  unfold QR at h
  cases hb:Nat.beq a b with
  |true=>rw[hb] at h;rw[fH hb,aeO h]
  |false=>rw[hb] at h;cases h
noncomputable def QS (c1:C1)(c2:C2)(op:eD):Ju GoT:=match op with
 | .call f ys=>⟨fun _ V L S d=>match nL ⟨V,L,S⟩ ys with
  |some ws=>match c1 f ws with
   |some x=>iK x fun x=>dx V L S d x
   |none=>none
  |none=>none⟩
 | .mH f ys D=>⟨fun U V L S d=>match lX ⟨V,L,S⟩ ys with
  |some ws=>match ws.all (gO D) && (D.all fun s=>(aH S s).isSome && eQ D (St.slot ⟨V,L,S⟩ s) && pI U s) with
   |true=>match c2 f ws (fP ⟨V,L,S⟩ D) with
    |some (x,Y)=>match QR (Y.map (·.1)) D && (gO D x && Y.all fun p=>eQ D p.2) with
     |true=>iK x fun x=>yS (lB Y ⟨V,L,S⟩).S fun S'=>dx V L S' d x
     |false=>none
    |none=>none
   |false=>none
  |none=>none⟩
 |op=>WS op
noncomputable def cO (c1:C1)(c2:C2)(U:Option (List Nat))(b:BO):Ju (List (Nat×AV)->List (Nat×AV)->List (Nat×Slot)->Option St):=match b with
 |⟨d,g,op⟩=>match QS c1 c2 op with
  |⟨f⟩=>match g with
   |none=>⟨fun V L S=>f U V L S d⟩
   |some (t,want)=>⟨fun V L S=>match kM (FI V L t) want with
    |some true=>f U V L S d
    |some false=>dx V L S d (.cg [])
    |none=>none⟩
noncomputable def xO (c1:C1)(c2:C2)(U:Option (List Nat))(st:St)(b:BO):Option St:=match cO c1 c2 U b,st with
 |⟨f⟩,⟨V,L,S⟩=>f V L S
section
variable {P:Program} {c1:C1} {c2:C2}
variable {K:St->Prop} {U:Option (List Nat)} {st':St}
theorem arc(l:List (Nat×Slot))(st:St):(lB l st).V=st.V/\(lB l st).L=st.L:=by rw[Mj];exact⟨rfl,rfl⟩
theorem aeP(h1:iL P c1)(h2:Db P c2){V L:List (Nat×AV)}{S:List (Nat×Slot)}{d:Option Nat}{op:eD}(h:(QS c1 c2 op).f U V L S d=some st')(hK:K st'):
  rZ P U op ⟨V,L,S⟩ fun x st2=>K (st2.dZ d x):=by
 have gen:(WS op).f U V L S d=some st'->rZ P U op ⟨V,L,S⟩ fun x st2=>K (st2.dZ d x):=fun h=>by
  rw[arb] at h;have:=aqZ h;rw[bK] at this;obtain⟨⟨x,st2⟩,g1,g2⟩:=this;refine Wc g1 ?_;dsimp only at g2;rw[g2];exact hK
 unfold QS at h;split at h
 ·rename_i f ys;dsimp only at h;split at h
  ·rename_i ws WT;split at h
   ·rename_i x hx;rw[Jr,CZ] at h;cases h;exact⟨ws,_,WT,h1 f ws x hx,fun y hy=>by rw[hy];exact hK⟩
   ·cases h
  ·cases h
 ·rename_i f ys D;dsimp only at h;split at h
  ·rename_i ws WT;split at h
   ·rename_i hc;rw[bO] at hc;obtain⟨lu,oG⟩:=hc;split at h
    ·rename_i x Y hx;split at h
     ·rename_i hl;rw[bO,bO] at hl;obtain⟨cq,jY,yT⟩:=hl;have hY:=aeO cq;rw[Jr,Js,CZ] at h;cases h
      have hD:∀s∈D,(aH S s).isSome=true/\eQ D (St.slot ⟨V,L,S⟩ s)=true/\pI U s=true:=fun s hs=>by
       have:=fg.1 oG s hs;simp only[bO] at this;exact⟨this.1.1,this.1.2,this.2⟩
      refine⟨ws,_,WT,lu,fun s hs=>⟨(hD s hs).1,(hD s hs).2.1⟩,fun s hs=>Qs (hD s hs).2.2,(h2 f ws _ x Y hx).2,?_⟩;rintro r S' ⟨rfl,hS⟩;refine⟨⟨jY,fun s hs=> ?_⟩,?_⟩
      ·rw[<-hY] at hs;obtain⟨p,hp,rfl⟩:=dh.1 hs;rw[hS p hp];exact fg.1 yT p hp
      ·have e1:lY D S' ⟨V,L,S⟩=lB Y ⟨V,L,S⟩:=by
        rw[Mj];unfold lY;rw[Wm Y S D S' hS (fun s=>by rw[hY])]
       rw[e1];obtain⟨g1,g2⟩:=arc Y ⟨V,L,S⟩
       have e2:lB Y ⟨V,L,S⟩=⟨V,L,(lB Y ⟨V,L,S⟩).S⟩:=by
        generalize lB Y ⟨V,L,S⟩=q at g1 g2⊢;obtain⟨a,b,c⟩:=q;dsimp only at g1 g2;rw[g1,g2]
       rw[e2];exact hK
     ·cases h
    ·cases h
   ·cases h
  ·cases h
 ·exact gen h
theorem QT(h1:iL P c1)(h2:Db P c2){st:St}{b:BO}(h:xO c1 c2 U st b=some st')(hK:K st'):qN U (b.ao P) K st:=by
 obtain⟨V,L,S⟩:=st;obtain⟨d,g,op⟩:=b
 cases g with
 |none=>exact aeP h1 h2 (op:=op) (U:=U) (d:=d) h hK
 |some p=>
  obtain⟨t,want⟩:=p
  change (match kM (FI V L t) want with
   |some true=>(QS c1 c2 op).f U V L S d
   |some false=>dx V L S d (.cg [])
   |none=>none)=some st' at h
  rw[WO V L S] at h
  show(match kM (St.arg ⟨V,L,S⟩ (.t t)) want with
   |some true=>_
   |some false=>_
   |none=>False)
  split at h
  ·rename_i hw;have hw:kM (St.arg ⟨V,L,S⟩ (.t t)) want=some true:=hw;rw[hw];exact aeP h1 h2 (op:=op) (U:=U) (d:=d) h hK
  ·rename_i hw;have hw:kM (St.arg ⟨V,L,S⟩ (.t t)) want=some false:=hw;rw[hw];dsimp only;rw[Qt];rw[CZ] at h;cases h;exact hK
  ·cases h
end
variable {L L' V:List (Nat×AV)} {P:Program} {U:List Nat} {c1:C1} {c2:C2} {f:FuncId} {kJ:List (FuncId×FD)} {x:AV} {y:aP}
noncomputable def xL (c1:C1)(c2:C2)(U:Option (List Nat))(l:List BO):St->Option St:=List.rec (motive:=fun _=>St->Option St) (fun st=>some st) (fun b _ ih st=>match xO c1 c2 U st b with
 |some st'=>ih st'
 |none=>none) l
theorem WU {P:Program}{c1:C1}{c2:C2}(h1:iL P c1)(h2:Db P c2){U:Option (List Nat)}:∀{l:List BO} {st st':St},xL c1 c2 U l st=some st'->∀{K:St->Prop},K st'->bm U (l.map (BO.ao P)) K st
 |[],st,st',h,K,hK=>by cases h;exact hK
 |b::l,st,st',h,K,hK=>by
  change (match xO c1 c2 U st b with
   |some st'=>xL c1 c2 U l st'
   |none=>none)=some st' at h
  split at h
  ·rename_i st2 hb;exact QT h1 h2 hb (WU h1 h2 h hK)
  ·cases h
noncomputable def xT (U:List Nat)(st:St)(b:BO)(bp:Bool):Option St:=match st,b with
 |⟨V,L,S⟩,⟨d,g,op⟩=>match bY op with
  |none=>none
  |some (mem,_)=>match mem && bp with
   |true=>none
   |false=>match g with
    |none=>match FH U ⟨V,L,S⟩ op with
     |some x=>iK x fun x=>dx V L S d x
     |none=>none
    |some (t,want)=>match kM (St.arg ⟨V,L,S⟩ (.t t)) want with
     |some true=>match FH U ⟨V,L,S⟩ op with
      |some x=>iK x fun x=>dx V L S d x
      |none=>none
     |some false=>dx V L S d (.cg [])
     |none=>none
theorem ard{st st':St}{b:BO}{bp:Bool}(h:xT U st b bp=some st'):CU U st b bp=some st':=by
 obtain⟨V,L,S⟩:=st;obtain⟨d,g,op⟩:=b;unfold xT at h;unfold CU;dsimp only at h⊢;split at h
 ·cases h
 rename_i mem ev aF;rw[aF];dsimp only;split at h
 ·cases h
 rename_i hm
 have Jv:¬(mem=true/\bp=true):=fun⟨e1,e2⟩=>by rw[e1,e2] at hm;cases hm
 rw[af Jv]
 have key:(match FH U ⟨V,L,S⟩ op with
     |some x=>iK x fun x=>dx V L S d x
     |none=>none)=some st'->((ev ⟨V,L,S⟩ U).map fun x=>(St.mk V L S).dZ d x)=some st':=fun h=>by
  split at h
  ·rename_i x hx;rw[Jr,CZ] at h;obtain⟨m,ev',he,hv⟩:=aeL hx;rw[aF] at he;cases he;rw[hv];exact h
  ·cases h
 cases g with
 |none=>exact key h
 |some p=>
  obtain⟨t,want⟩:=p;dsimp only at h⊢;split at h
  ·rename_i hv;rw[hv];exact key h
  ·rename_i hv;rw[hv];rw[CZ] at h;exact h
  ·cases h
def My:Value->Value->Bool
 | .int k a,.int k' b=>decide (k=k') && decide (a=b)
 | .bool a,.bool b=>decide (a=b)
 | .string ⟨⟨a⟩⟩,.string ⟨⟨b⟩⟩=>FG a b
 | .slice none 0 0,.slice none 0 0=>true
 |_,_=>false
theorem arf{x y:Value}(h:My x y=true):x=y:=by
 unfold My at h;split at h
 ·simp only[bO,cP] at h;rw[h.1,h.2]
 ·simp only[cP] at h;rw[h]
 ·rw[Mu,Cl] at h;rw[h]
 ·rfl
 ·cases h
noncomputable def FJ (x:AC):AC->Bool:=AC.rec (motive_1:=fun _=>AC->Bool) (motive_2:=fun _=>List (List AC)->Bool) (motive_3:=fun _=>List AC->Bool)
 (fun v y=>match y with | .v u=>My v u|_=>false) (fun _ ih y=>match y with | .sl fs=>ih fs|_=>false) (fun s g y=>match y with | .own s' g'=>Nat.beq s s' && Nat.beq g g'|_=>false) (fun _ _ _=>false) (fun _ _ _ _=>false) (fun _ _ _ _=>false) (fun _ _ _=>false)
 (fun l=>match l with |[]=>true|_=>false) (fun _ _ iI iJ l=>match l with |b::m=>iI b && iJ m|[]=>false) (fun l=>match l with |[]=>true|_=>false) (fun _ _ iI iJ l=>match l with |b::m=>iI b && iJ m|[]=>false) x
theorem Mz(x:AC):∀y,FJ x y=true->x=y:=by
 refine AC.rec (motive_1:=fun x=>∀y,FJ x y=true->x=y)
  (motive_2:=fun l=>∀m,(AC.rec_1 (motive_1:=fun _=>AC->Bool) (motive_2:=fun _=>List (List AC)->Bool) (motive_3:=fun _=>List AC->Bool)
   (fun v y=>match y with | .v u=>My v u|_=>false) (fun _ ih y=>match y with | .sl fs=>ih fs|_=>false) (fun s g y=>match y with | .own s' g'=>Nat.beq s s' && Nat.beq g g'|_=>false) (fun _ _ _=>false) (fun _ _ _ _=>false) (fun _ _ _ _=>false) (fun _ _ _=>false)
   (fun l=>match l with |[]=>true|_=>false) (fun _ _ iI iJ l=>match l with |b::m=>iI b && iJ m|[]=>false) (fun l=>match l with |[]=>true|_=>false) (fun _ _ iI iJ l=>match l with |b::m=>iI b && iJ m|[]=>false) l:List (List AC)->Bool) m=true->l=m)
  (motive_3:=fun l=>∀m,(AC.rec_2 (motive_1:=fun _=>AC->Bool) (motive_2:=fun _=>List (List AC)->Bool) (motive_3:=fun _=>List AC->Bool)
   (fun v y=>match y with | .v u=>My v u|_=>false) (fun _ ih y=>match y with | .sl fs=>ih fs|_=>false) (fun s g y=>match y with | .own s' g'=>Nat.beq s s' && Nat.beq g g'|_=>false) (fun _ _ _=>false) (fun _ _ _ _=>false) (fun _ _ _ _=>false) (fun _ _ _=>false)
   (fun l=>match l with |[]=>true|_=>false) (fun _ _ iI iJ l=>match l with |b::m=>iI b && iJ m|[]=>false) (fun l=>match l with |[]=>true|_=>false) (fun _ _ iI iJ l=>match l with |b::m=>iI b && iJ m|[]=>false) l:List AC->Bool) m=true->l=m)
  ?_ ?_ ?_ (fun _ _ _ h=>by cases h) (fun _ _ _ _ h=>by cases h) (fun _ _ _ _ h=>by cases h) (fun _ _ _ h=>by cases h) ?_ ?_ ?_ ?_ x
 ·intro v y h
  cases y with
  |v u=>exact aG _ (arf h)
  |sl es=>cases h
  |own s g=>cases h
  |_=>cases h
 ·intro es ih y h
  cases y with
  |v u=>cases h
  |sl fs=>exact aG _ (ih fs h)
  |own s g=>cases h
  |_=>cases h
 ·intro s g y h
  cases y with
  |v u=>cases h
  |sl fs=>cases h
  |own s' g'=>
   change (Nat.beq s s' && Nat.beq g g')=true at h;rw[bO] at h;rw[fH h.1,fH h.2]
  |_=>cases h
 ·intro m h
  cases m with
  |nil=>rfl
  |cons b m=>cases h
 ·intro a l h1 h2 m h
  cases m with
  |nil=>cases h
  |cons b m=>
   have:=EJ.1 h;rw[h1 b this.1,h2 m this.2]
 ·intro m h
  cases m with
  |nil=>rfl
  |cons b m=>cases h
 ·intro a l h1 h2 m h
  cases m with
  |nil=>cases h
  |cons b m=>
   have:=EJ.1 h;rw[h1 b this.1,h2 m this.2]
def cF {α:Type}(f:α->α->Bool):List α->List α->Bool
 |[],[]=>true
 |a::l,b::m=>f a b && cF f l m
 |_,_=>false
theorem yU {α:Type}{f:α->α->Bool}(hf:∀a b,f a b=true->a=b):∀{l m:List α},cF f l m=true->l=m
 |[],[],_=>rfl
 |[],_::_,h=>by cases h
 |_::_,[],h=>by cases h
 |a::l,b::m,h=>by
  have:=EJ.1 h;rw[hf a b this.1,yU hf this.2]
noncomputable def MA:AW->AW->Bool
 | .c x,.c y=>FJ x y
 | .agg x,.agg y=>cF (fun a b=>FJ a b) x y
 |_,_=>false
theorem WV{x y:AW}(h:MA x y=true):x=y:=by
 unfold MA at h;split at h
 ·rw[Mz _ _ h]
 ·rw[yU (fun a b=>Mz a b) h]
 ·cases h
noncomputable def Jw:AV->AV->Bool
 | .w x,.w y=>MA x y
 | .cg x,.cg y=>cF (fun a b=>MA a b) x y
 | .pb s g o,.pb s' g' o'=>Nat.beq s s' && (Nat.beq g g' && Nat.beq o o')
 | .pr s g i o,.pr s' g' i' o'=>Nat.beq s s' && (Nat.beq g g' && (Nat.beq i i' && Nat.beq o o'))
 | .pi x o,.pi y o'=>cF (fun a b=>FJ a b) x y && Nat.beq o o'
 | .u,.u=>true
 |_,_=>false
theorem QU{y:AV}(h:Jw x y=true):x=y:=by
 unfold Jw at h;split at h
 ·rw[WV h]
 ·rw[yU (fun a b=>WV) h]
 ·simp only[bO] at h;rw[fH h.1,fH h.2.1,fH h.2.2]
 ·simp only[bO] at h;rw[fH h.1,fH h.2.1,fH h.2.2.1,fH h.2.2.2]
 ·simp only[bO] at h;rw[yU (fun a b=>Mz a b) h.1,fH h.2]
 ·rfl
 ·cases h
noncomputable def WW:Slot->Slot->Bool
 | .dead g,.dead g'=>Nat.beq g g'
 | .box g x,.box g' y=>Nat.beq g g' && cF (fun a b=>FJ a b) x y
 | .row e k g x,.row e' k' g' y=>Nat.beq e e' && (Nat.beq k k' && (Nat.beq g g' && cF (fun a b=>cF (fun a b=>FJ a b) a b) x y))
 |_,_=>false
theorem arh{x y:Slot}(h:WW x y=true):x=y:=by
 unfold WW at h;split at h
 ·rw[fH h]
 ·simp only[bO] at h;rw[fH h.1,yU (fun a b=>Mz a b) h.2]
 ·simp only[bO] at h;rw[fH h.1,fH h.2.1,fH h.2.2.1,yU (fun a b=>yU (fun a b=>Mz a b)) h.2.2.2]
 ·cases h
noncomputable def WX (V V':List (Nat×AV))(S S':List (Nat×Slot)):Bool:=cF (fun p q=>Nat.beq p.1 q.1 && Jw p.2 q.2) V V' && cF (fun p q=>Nat.beq p.1 q.1 && WW p.2 q.2) S S'
theorem ari{V':List (Nat×AV)}{S S':List (Nat×Slot)}(h:WX V V' S S'=true):V=V'/\S=S':=by
 have:=EJ.1 h;refine⟨yU (fun p q hh=> ?_) this.1,yU (fun p q hh=> ?_) this.2⟩
 ·have h2:=EJ.1 hh;exact Prod.ext (fH h2.1) (QU h2.2)
 ·have h2:=EJ.1 hh;exact Prod.ext (fH h2.1) (arh h2.2)
noncomputable def agree (L1 L2:List (Nat×AV)):List (Nat×AV)->List (Nat×AV)
 |[]=>[]
 |(i,x)::L=>match aH L1 i,aH L2 i with
  |some a,some b=>match Jw x a && Jw x b with
   |true=>(i,x)::agree L1 L2 L
   |false=>agree L1 L2 L
  |_,_=>agree L1 L2 L
noncomputable def FK (c1:C1)(c2:C2)(U:List Nat)(l tl:List BO)(t:OT):Bool->St->Option St:=OT.rec (motive:=fun _=>Bool->St->Option St)
 (fun _ st=>xL c1 c2 none tl st)
 (fun i _ ih m st=>match l[i]? with
  |some b=>match xT U st b m with
   |some st'=>ih m st'
   |none=>none
  |none=>none)
 (fun i _ ih _ st=>match l[i]? with
  |some b=>match xO c1 c2 (some U) st b with
   |some st'=>ih true st'
   |none=>none
  |none=>none)
 (fun i j _ _ ihi ihj _ st=>match l[i]?,l[j]? with
  |some b,some b'=>match xO c1 c2 (some U) st b,xO c1 c2 (some U) st b' with
   |some s1,some s2=>match ihi true s1,ihj true s2 with
    |some ⟨V,L,S⟩,some ⟨V',L',S'⟩=>match WX V V' S S' with
     |true=>Jp (agree L L' L) fun L=>some ⟨V,L,S⟩
     |false=>none
    |_,_=>none
   |_,_=>none
  |_,_=>none)
 (fun _ _ _ _ _ _ _ _ _ _ _=>none) t
def Ext (L' L:List (Nat×AV)):Prop:=∀i x,aH L' i=some x->aH L i=some x
theorem Ext.refl(L:List (Nat×AV)):Ext L L:=fun _ _ h=>h
theorem Ext.nil(L:List (Nat×AV)):Ext [] L:=fun _ _ h=>by simp[aH] at h
theorem MB (L1 L2:List (Nat×AV)):∀(L:List (Nat×AV)) (i:Nat) (x:AV),aH (agree L1 L2 L) i=some x->aH L1 i=some x/\aH L2 i=some x
 |[],i,x,h=>by simp[agree,aH] at h
 |(j,y)::L,i,x,h=>by
  unfold agree at h;split at h
  ·rename_i a b ha hb;split at h
   ·rename_i hc;have hc:=EJ.1 hc;unfold aH at h;split at h
    ·rename_i yz;cases h;subst yz;exact⟨by rw[ha,<-QU hc.1],by rw[hb,<-QU hc.2]⟩
    ·exact MB L1 L2 L i x h
   ·exact MB L1 L2 L i x h
  ·exact MB L1 L2 L i x h
theorem MC {P:Program}{c1:C1}{c2:C2}(h1:iL P c1)(h2:Db P c2){U:List Nat}{l tl:List BO}{K:St->Prop}:∀{t:OT} {m:Bool} {st st':St},FK c1 c2 U l tl t m st=some st'->(∀L,Ext st'.L L->K ⟨st'.V,L,st'.S⟩)->aU U (l.map (BO.ao P)) (tl.map (BO.ao P)) K t m st
 | .nil,m,st,st',h,hK=>tG (WU h1 h2 h (hK st'.L (Ext.refl _)))
 | .take i t,m,st,st',h,hK=>by
  change (match l[i]? with
  |some b=>match xT U st b m with
   |some st'=>FK c1 c2 U l tl t m st'
   |none=>none
  |none=>none)=some st' at h
  split at h
  ·rename_i b hb;split at h
   ·rename_i st2 hx;exact pJ hb (ard hx) (MC h1 h2 h hK)
   ·cases h
  ·cases h
 | .move i t,m,st,st',h,hK=>by
  change (match l[i]? with
  |some b=>match xO c1 c2 (some U) st b with
   |some st'=>FK c1 c2 U l tl t true st'
   |none=>none
  |none=>none)=some st' at h
  split at h
  ·rename_i b hb;split at h
   ·rename_i st2 hx;unfold aU;rw[eZ,hb];exact QT h1 h2 hx (MC h1 h2 h hK)
   ·cases h
  ·cases h
 | .uX i j k ti tj tk,m,st,st',h,hK=>by
  change none=some st' at h;cases h
 | .fork i j ti tj,m,st,st',h,hK=>by
  change (match l[i]?,l[j]? with
  |some b,some b'=>match xO c1 c2 (some U) st b,xO c1 c2 (some U) st b' with
   |some s1,some s2=>match FK c1 c2 U l tl ti true s1,FK c1 c2 U l tl tj true s2 with
    |some ⟨V,L,S⟩,some ⟨V',L',S'⟩=>match WX V V' S S' with
     |true=>Jp (agree L L' L) fun L=>some ⟨V,L,S⟩
     |false=>none
    |_,_=>none
   |_,_=>none
  |_,_=>none)=some st' at h
  split at h
  case h_2=>cases h
  rename_i b b' hb yy;split at h
  case h_2=>cases h
  rename_i s1 s2 hx qL;split at h
  case h_2=>cases h
  rename_i V L S V' L' S' hy hy';split at h
  case h_2=>cases h
  rename_i he;rw[QJ] at h;cases h;obtain⟨e1,e2⟩:=ari he;refine wW ?_ ?_
  ·unfold aU;rw[eZ,hb];exact QT h1 h2 hx (MC h1 h2 hy (fun L3 h3=>hK L3 (fun i x hi=>h3 i x (MB L L' L i x hi).1)))
  ·unfold aU;rw[eZ,yy];refine QT h1 h2 qL (MC h1 h2 hy' ?_);rw[<-e1,<-e2]
   exact fun L3 h3=>hK L3 (fun i x hi=>h3 i x (MB L L' L i x hi).2)
noncomputable def WY (f:St->Option (fW×St))(n:Nat):St->Option (fW×St):=Nat.rec (motive:=fun _=>St->Option (fW×St)) (fun _=>none) (fun _ ih st=>match f st with
 |some (e,st')=>match e with
  | .normal=>ih st'
  |e=>some (e,st')
 |none=>none) n
noncomputable def xB (c1:C1)(c2:C2)(n:Nat)(c:eR):St->Option (fW×St):=eR.rec (motive:=fun _=>St->Option (fW×St))
 (fun st=>some (.normal,st)) (fun st=>some (.ret,st)) (fun id st=>some (.exit id,st))
 (fun _ _ iI iJ st=>match iI st with
  |some (e,st')=>match e with
   | .normal=>iJ st'
   |e=>some (e,st')
  |none=>none)
 (fun t _ _ iI iJ st=>match st.sc t with
  |some (.bool b)=>match b with
   |true=>iI st
   |false=>iJ st
  |_=>none)
 (fun id _ ih st=>match ih st with
  |some (e,st')=>match e with
   | .exit oA=>match Nat.beq oA id with
    |true=>some (.normal,st')
    |false=>some (.exit oA,st')
   |e=>some (e,st')
  |none=>none)
 (fun _ ih st=>WY ih n st)
 (fun l st=>match st with
  |⟨V,_,S⟩=>match xL c1 c2 none l ⟨V,[],S⟩ with
   |some st'=>some (.normal,st')
   |none=>none)
 (fun l k t U st=>match st with
  |⟨V,_,S⟩=>match FK c1 c2 U l (l.drop k) t false ⟨V,[],S⟩ with
   |some st'=>some (.normal,st')
   |none=>none)
 (fun s _ ih st=>match st with
  |⟨V,_,S⟩=>match St.freeze ⟨V,[],S⟩ s with
   |⟨V,_,S⟩=>Ms V fun V=>Mr S fun S=>ih ⟨V,[],S⟩)
 (fun b off s e k _ ih st=>match st with
  |⟨V,_,S⟩=>match St.ly ⟨V,[],S⟩ b off s e k with
   |⟨_,_,S⟩=>yS S fun S=>ih ⟨V,[],S⟩) c
theorem QV{S:List (Nat×Slot)}(hE:Ext L' L){i:Nat}(h:St.get ⟨V,L',S⟩ i=some x):St.get ⟨V,L,S⟩ i=some x:=by
 unfold St.get at h⊢;dsimp only at h⊢;split at h
 ·exact h
 ·exact hE i x h
theorem arj{S:List (Nat×Slot)}(hE:Ext L' L)(h:St.arg ⟨V,L',S⟩ y=some x):St.arg ⟨V,L,S⟩ y=some x:=by
 cases y with
 |t i=>exact QV hE h
 |k w=>exact h
theorem aeQ{S:List (Nat×Slot)}(hE:Ext L' L){x:Value}(h:St.sc ⟨V,L',S⟩ y=some x):St.sc ⟨V,L,S⟩ y=some x:=by
 unfold St.sc at h⊢
 cases ha:St.arg ⟨V,L',S⟩ y with
 |none=>rw[ha] at h;cases h
 |some z=>rw[ha] at h;rw[arj hE ha];exact h
theorem ark(V L:List (Nat×AV))(S:List (Nat×Slot))(s:Nat):(St.freeze ⟨V,L,S⟩ s).V=(St.freeze ⟨V,[],S⟩ s).V/\(St.freeze ⟨V,L,S⟩ s).S=(St.freeze ⟨V,[],S⟩ s).S:=by
 unfold St.freeze;have e:(St.mk V L S).slot s=(St.mk V [] S).slot s:=rfl;rw[e];split
 ·split
  ·exact⟨rfl,rfl⟩
  ·exact⟨rfl,rfl⟩
 ·exact⟨rfl,rfl⟩
theorem arl(V L:List (Nat×AV))(S:List (Nat×Slot))(b off s e k:Nat):(St.ly ⟨V,L,S⟩ b off s e k).V=V/\(St.ly ⟨V,L,S⟩ b off s e k).S=(St.ly ⟨V,[],S⟩ b off s e k).S:=by
 unfold St.ly
 have e1:∀i,(St.mk V L S).slot i=(St.mk V [] S).slot i:=fun _=>rfl
 simp only[e1];split
 ·split
  ·split
   ·exact⟨rfl,rfl⟩
   ·exact⟨rfl,rfl⟩
  ·exact⟨rfl,rfl⟩
 ·exact⟨rfl,rfl⟩
def BOk (P:Program)(c:eR)(st:St)(e:fW)(st':St):Prop:=∀Q:fW->St->Prop,(∀L,Ext st'.L L->Q e ⟨st'.V,L,st'.S⟩)->∀L,Ext st.L L->aL (lift P c) Q ⟨st.V,L,st.S⟩
theorem aeR {P:Program}{f:St->Option (fW×St)}{body:eR}(hb:∀{st st':St} {e:fW},f st=some (e,st')->BOk P body st e st'):
  ∀{n:Nat} {st st':St} {e:fW},WY f n st=some (e,st')->∀Q:fW->St->Prop,(∀L,Ext st'.L L->Q e ⟨st'.V,L,st'.S⟩)->∀L,Ext st.L L->Fm (aL (lift P body)) Q n ⟨st.V,L,st.S⟩
 |0,st,st',e,h=>by cases h
 |n+1,st,st',e,h=>by
  intro Q hQ L hL
  change (match f st with
   |some (e,st')=>match e with
    | .normal=>WY f n st'
    |e=>some (e,st')
   |none=>none)=some (e,st') at h
  split at h
  ·rename_i e2 st2 hf;refine hb hf _ (fun L2 vz=> ?_) L hL;split at h
   ·exact aeR hb h Q hQ L2 vz
   ·rename_i hne;cases h
    cases e with
    |normal=>exact(hne rfl).elim
    |exit id=>exact hQ L2 vz
    |ret=>exact hQ L2 vz
  ·cases h
theorem yV {P:Program}{c1:C1}{c2:C2}(h1:iL P c1)(h2:Db P c2){n:Nat}:∀{c:eR} {st st':St} {e:fW},xB c1 c2 n c st=some (e,st')->BOk P c st e st'
 | .skip,st,st',e,h=>by cases h;exact fun Q hQ L hL=>hQ L hL
 | .ret,st,st',e,h=>by cases h;exact fun Q hQ L hL=>hQ L hL
 | .exit id,st,st',e,h=>by cases h;exact fun Q hQ L hL=>hQ L hL
 | .seq x y,st,st',e,h=>by
  intro Q hQ L hL
  change (match xB c1 c2 n x st with
   |some (e,st')=>match e with
    | .normal=>xB c1 c2 n y st'
    |e=>some (e,st')
   |none=>none)=some (e,st') at h
  split at h
  ·rename_i e2 st2 hx;refine yV h1 h2 (c:=x) hx _ (fun L2 vz=> ?_) L hL;split at h
   ·exact yV h1 h2 (c:=y) h Q hQ L2 vz
   ·rename_i hne;cases h
    cases e with
    |normal=>exact(hne rfl).elim
    |exit id=>exact hQ L2 vz
    |ret=>exact hQ L2 vz
  ·cases h
 | .cond t x y,⟨V,L0,S⟩,st',e,h=>by
  intro Q hQ L hL
  change (match St.sc ⟨V,L0,S⟩ t with
   |some (.bool b)=>match b with
    |true=>xB c1 c2 n x ⟨V,L0,S⟩
    |false=>xB c1 c2 n y ⟨V,L0,S⟩
   |_=>none)=some (e,st') at h
  split at h
  ·rename_i b hb
   cases b with
   |true=>exact Qu (aeQ hL hb) (yV h1 h2 (c:=x) h Q hQ L hL)
   |false=>exact Qu (aeQ hL hb) (yV h1 h2 (c:=y) h Q hQ L hL)
  ·cases h
 | .block id c,st,st',e,h=>by
  intro Q hQ L hL
  change (match xB c1 c2 n c st with
   |some (e,st')=>match e with
    | .exit oA=>match Nat.beq oA id with
     |true=>some (.normal,st')
     |false=>some (.exit oA,st')
    |e=>some (e,st')
   |none=>none)=some (e,st') at h
  refine aph ?_;split at h
  ·rename_i e2 st2 hx;refine yV h1 h2 (c:=c) hx _ (fun L2 vz=> ?_) L hL;split at h
   ·rename_i oA
    show(if oA=id then _ else _)
    cases hb:Nat.beq oA id with
    |true=>rw[hb] at h;cases h;rw[aj (fH hb)];exact hQ L2 vz
    |false=>rw[hb] at h;cases h;rw[af (PB hb)];exact hQ L2 vz
   ·rename_i hne;cases h
    cases e with
    |normal=>exact hQ L2 vz
    |exit oA=>exact(hne oA rfl).elim
    |ret=>exact hQ L2 vz
  ·cases h
 | .loop c,st,st',e,h=>fun Q hQ L hL=>⟨n,aeR (P:=P) (body:=c) (fun h=>yV h1 h2 (c:=c) h) h Q hQ L hL⟩
 | .region l,⟨V,L0,S⟩,st',e,h=>by
  intro Q hQ L hL
  change (match xL c1 c2 none l ⟨V,[],S⟩ with
   |some st'=>some (fW.normal,st')
   |none=>none)=some (e,st') at h
  split at h
  ·rename_i st2 hx;cases h;exact apg (WU h1 h2 hx (hQ _ (Ext.refl _)))
  ·cases h
 | .rY l k t U,⟨V,L0,S⟩,st',e,h=>by
  intro Q hQ L hL
  change (match FK c1 c2 U l (l.drop k) t false ⟨V,[],S⟩ with
   |some st'=>some (fW.normal,st')
   |none=>none)=some (e,st') at h
  split at h
  ·rename_i st2 hx;cases h;exact Jf (MC h1 h2 hx hQ)
  ·cases h
 | .lz s c,⟨V,L0,S⟩,st',e,h=>by
  intro Q hQ L hL
  change (match St.freeze ⟨V,[],S⟩ s with
   |⟨V,_,S⟩=>Ms V fun V=>Mr S fun S=>xB c1 c2 n c ⟨V,[],S⟩)=some (e,st') at h
  split at h;rename_i V1 L1 S1 hs;rw[aeH,aeG] at h;obtain⟨e1,e2⟩:=ark V L S s;rw[hs] at e1 e2;refine Wj (st':=⟨V1,(St.freeze ⟨V,L,S⟩ s).L,S1⟩) ?_ (yV h1 h2 (c:=c) h Q hQ _ (Ext.nil _));generalize St.freeze ⟨V,L,S⟩ s=q at e1 e2⊢;obtain⟨a,b,d⟩:=q;dsimp only at e1 e2⊢;rw[e1,e2]
 | .oz b off s e0 k c,⟨V,L0,S⟩,st',e,h=>by
  intro Q hQ L hL
  change (match St.ly ⟨V,[],S⟩ b off s e0 k with
   |⟨_,_,S⟩=>yS S fun S=>xB c1 c2 n c ⟨V,[],S⟩)=some (e,st') at h
  split at h;rename_i V1 L1 S1 hs;rw[Js] at h;obtain⟨e1,e2⟩:=arl V L S b off s e0 k;rw[hs] at e2;refine Wi (st':=⟨V,(St.ly ⟨V,L,S⟩ b off s e0 k).L,S1⟩) ?_ (yV h1 h2 (c:=c) h Q hQ _ (Ext.nil _));generalize St.ly ⟨V,L,S⟩ b off s e0 k=q at e1 e2⊢;obtain⟨a,b,d⟩:=q;dsimp only at e1 e2⊢;rw[e1,e2]
noncomputable def QW (kJ:List (FuncId×FD))(c1:C1)(c2:C2)(n:Nat)(f:FuncId)(args:List AW):Option AV:=match Mo kJ f with
 |some d=>match Nat.ble args.length d.nt with
  |true=>Jp (V0 args 0 d.vs) fun V=>yS (S0 d.ss) fun S=>match xB c1 c2 n d.b ⟨V,[],S⟩ with
   |some (e,st)=>match e with
    | .exit _=>none
    |_=>match yE st d.rv with
     |some xs=>some (dL xs)
     |none=>none
   |none=>none
  |false=>none
 |none=>none
noncomputable def WZ (kJ:List (FuncId×FD))(c1:C1)(c2:C2)(n:Nat)(f:FuncId)(args:List AV)(T:List (Nat×Slot)):Option (AV×List (Nat×Slot)):=match Mo kJ f with
 |some d=>match Nat.ble args.length d.nt with
  |true=>Jp (VM args 0 d.vs) fun V=>yS (T++S0 d.ss) fun S=>match xB c1 c2 n d.b ⟨V,[],S⟩ with
   |some (e,st)=>match e with
    | .exit _=>none
    |_=>match tI (T.map (·.1)) st d.rv with
     |some xs=>match(T.map (·.1)).all (fun s=>eQ (T.map (·.1)) (st.slot s)) with
      |true=>some (dL xs,fP st (T.map (·.1)))
      |false=>none
     |none=>none
   |none=>none
  |false=>none
 |none=>none
noncomputable def xP (kJ:List (FuncId×FD))(p:C1)(m n:Nat):C1×C2:=Nat.rec (motive:=fun _=>C1×C2) (fun _ _=>none,fun _ _ _=>none) (fun _ c=>
 (fun f args=>match p f args with
  |some x=>some x
  |none=>QW kJ c.1 c.2 m f args,fun f args T=>WZ kJ c.1 c.2 m f args T)) n
theorem QX(hE:Ext L' L){S:List (Nat×Slot)}{n p:Nat}{cs:List AC}(h:St.cells ⟨V,L',S⟩ U n (St.get ⟨V,L',S⟩ p)=some cs):St.cells ⟨V,L,S⟩ U n (St.get ⟨V,L,S⟩ p)=some cs:=by
 cases hg:St.get ⟨V,L',S⟩ p with
 |none=>rw[hg] at h;cases h
 |some x=>rw[hg] at h;rw[QV hE hg];exact h
theorem aeS {V L' L:List (Nat×AV)}{S:List (Nat×Slot)}:∀l:List AC,St.jo ⟨V,L,S⟩ l=St.jo ⟨V,L',S⟩ l
 |[]=>rfl
 |x::l=>by
  have h1:St.fz ⟨V,L,S⟩ x=St.fz ⟨V,L',S⟩ x:=by cases x<;>rfl
  unfold St.jo;rw[h1,aeS (L':=L') l]
theorem Xa{S:List (Nat×Slot)}(x:AW):St.pG ⟨V,L,S⟩ x=St.pG ⟨V,L',S⟩ x:=by
 cases x with
 |c x=>cases x<;>rfl
 |agg cs=>show(St.jo _ cs).map _=_;rw[aeS (L':=L')];rfl
theorem aeT {D:List Nat}{V L' L:List (Nat×AV)}{S:List (Nat×Slot)}:∀l:List AC,St.jK D ⟨V,L,S⟩ l=St.jK D ⟨V,L',S⟩ l
 |[]=>rfl
 |x::l=>by
  have h1:St.oD D ⟨V,L,S⟩ x=St.oD D ⟨V,L',S⟩ x:=by cases x<;>rfl
  unfold St.jK;rw[h1,aeT (L':=L') l]
theorem Xb{D:List Nat}{S:List (Nat×Slot)}(x:AW):St.tH D ⟨V,L,S⟩ x=St.tH D ⟨V,L',S⟩ x:=by
 cases x with
 |c x=>cases x<;>rfl
 |agg cs=>show(St.jK D _ cs).map _=_;rw[aeT (L':=L')];rfl
theorem Xc {V L' L:List (Nat×AV)}{S:List (Nat×Slot)}(hE:Ext L' L):∀{rv:List RV} {xs:List AW},yE ⟨V,L',S⟩ rv=some xs->yE ⟨V,L,S⟩ rv=some xs
 |[],xs,h=>h
 |r::rv,xs,h=>by
  unfold yE at h⊢;split at h
  ·rename_i x q hx hq
   have:AE ⟨V,L,S⟩ r=some x:=by
    cases r with
    |t i=>
     simp only[AE] at hx⊢;split at hx
     ·rename_i y hy;rw[QV hE hy];dsimp only;rw[Xa (L':=L')];exact hx
     ·cases hx
    |cell p n=>
     simp only[AE] at hx⊢;split at hx
     ·rename_i y hy;rw[QX hE hy];dsimp only;rw[Xa (L':=L')];exact hx
     ·cases hx
    |cell1 p=>
     simp only[AE] at hx⊢;split at hx
     ·rename_i y hy;rw[QX hE hy];dsimp only;rw[Xa (L':=L')];exact hx
     ·cases hx
   rw[this,Xc hE hq];exact h
  ·cases h
theorem aeU {D:List Nat}{V L' L:List (Nat×AV)}{S:List (Nat×Slot)}(hE:Ext L' L):∀{rv:List RV} {xs:List AW},tI D ⟨V,L',S⟩ rv=some xs->tI D ⟨V,L,S⟩ rv=some xs
 |[],xs,h=>h
 |r::rv,xs,h=>by
  unfold tI at h⊢;split at h
  ·rename_i x q hx hq
   have:yH D ⟨V,L,S⟩ r=some x:=by
    cases r with
    |t i=>
     simp only[yH] at hx⊢;split at hx
     ·rename_i y hy;rw[QV hE hy];dsimp only;rw[Xb (L':=L')];exact hx
     ·cases hx
    |cell p n=>
     simp only[yH] at hx⊢;split at hx
     ·rename_i y hy;rw[QX hE hy];dsimp only;rw[Xb (L':=L')];exact hx
     ·cases hx
    |cell1 p=>
     simp only[yH] at hx⊢;split at hx
     ·rename_i y hy;rw[QX hE hy];dsimp only;rw[Xb (L':=L')];exact hx
     ·cases hx
   rw[this,aeU hE hq];exact h
  ·cases h
theorem arn(xf:∀q∈kJ,CX P q.1 q.2)(h1:iL P c1)(h2:Db P c2){n:Nat}{args:List AW}(h:QW kJ c1 c2 n f args=some x):bu P f args (fun y=>y=x):=by
 unfold QW at h;split at h
 ·rename_i d hd;obtain⟨owns,ts,fn,c,hE,hf,hb,ht,oB,yW⟩:=xf _ (WB hd);split at h
  ·rename_i hn;rw[QJ,Js] at h;split at h
   ·rename_i e st hx;have g2:=yV (P:=P) h1 h2 hx;obtain⟨V2,L2,S2⟩:=st;refine adr hE hf hb ht d.rv oB args (by rw[yW];exact hn) d.vs d.ss (g2 _ (fun L hL=> ?_) [] (Ext.refl _));split at h
    ·cases h
    ·rename_i hne;split at h
     ·rename_i xs CK;cases h
      cases e with
      |exit id=>exact(hne id rfl).elim
      |normal=>exact⟨xs,Xc hL CK,rfl⟩
      |ret=>exact⟨xs,Xc hL CK,rfl⟩
     ·cases h
   ·cases h
  ·cases h
 ·cases h
theorem aro(xf:∀q∈kJ,CX P q.1 q.2)(h1:iL P c1)(h2:Db P c2){n:Nat}{args:List AV}{T:List (Nat×Slot)}{Y:List (Nat×Slot)}(h:WZ kJ c1 c2 n f args T=some (x,Y)):
  Y.map (·.1)=T.map (·.1)/\gM P f args T (fun y S'=>y=x/\∀p∈Y,S' p.1=p.2):=by
 unfold WZ at h;split at h
 ·rename_i d hd;obtain⟨owns,ts,fn,c,hE,hf,hb,ht,oB,yW⟩:=xf _ (WB hd);split at h
  ·rename_i hn;rw[QJ,Js] at h;split at h
   ·rename_i e st hx;have g2:=yV (P:=P) h1 h2 hx;obtain⟨V2,L2,S2⟩:=st;split at h
    ·cases h
    ·rename_i hne;split at h
     ·rename_i xs CK;split at h
      ·rename_i hc;cases h
       have hq:∀L,Ext L2 L->Qy (T.map (·.1)) d.rv (fun y S'=>y=dL xs/\∀p∈fP ⟨V2,L2,S2⟩ (T.map (·.1)),S' p.1=p.2) e ⟨V2,L,S2⟩:=fun L hL=>by
        have:∃ys,tI (T.map (·.1)) ⟨V2,L,S2⟩ d.rv=some ys/\(∀s∈T.map (·.1),eQ (T.map (·.1)) (St.slot ⟨V2,L,S2⟩ s)=true)/\dL ys=dL xs/\∀p∈fP ⟨V2,L2,S2⟩ (T.map (·.1)),ew (T.map (·.1)) (St.mk V2 L S2).slot p.1=p.2:=by
         refine⟨xs,aeU hL CK,fun s hs=>fg.1 hc s hs,rfl,fun p hp=> ?_⟩;unfold fP at hp;obtain⟨s,hs,rfl⟩:=dh.1 hp;unfold ew;rw[aj hs];rfl
        cases e with
        |exit id=>exact(hne id rfl).elim
        |normal=>exact this
        |ret=>exact this
       refine⟨by unfold fP;rw[List.map_map];exact List.map_id _,adD hE hf hb ht d.rv oB args (by rw[yW];exact hn) T d.vs d.ss (g2 _ hq [] (Ext.refl _))⟩
      ·cases h
     ·cases h
   ·cases h
  ·cases h
 ·cases h
theorem aeV {P:Program}{kJ:List (FuncId×FD)}(xf:∀q∈kJ,CX P q.1 q.2){p:C1}(hp:iL P p){m:Nat}:∀n:Nat,iL P (xP kJ p m n).1/\Db P (xP kJ p m n).2
 |0=>⟨fun _ _ _ h=>(nomatch h),fun _ _ _ _ _ h=>(nomatch h)⟩
 |n+1=>by
  obtain⟨g1,g2⟩:=aeV xf hp (m:=m) n;refine⟨fun f args x h=> ?_,fun f args T x Y h=>aro xf g1 g2 h⟩
  change (match p f args with
   |some x=>some x
   |none=>QW kJ (xP kJ p m n).1 (xP kJ p m n).2 m f args)=some x at h
  split at h
  ·rename_i y hy;cases h;exact hp f args _ hy
  ·exact arn xf g1 g2 h
theorem jM(xf:∀q∈kJ,CX P q.1 q.2){p:C1}(hp:iL P p)(m n:Nat){args:List AW}(h:(xP kJ p m n).1 f args=some x):bu P f args (fun y=>y=x):=(aeV xf hp (m:=m) n).1 f args x h
noncomputable def iM (r:Option AV)(x:AV):Bool:=match r with
 |some y=>Jw y x
 |none=>false
theorem jN{r:Option AV}(h:iM r x=true):r=some x:=by
 unfold iM at h;split at h
 ·rw[QU h]
 ·cases h
attribute [local irreducible] aL bm aU
variable {l:List (List UInt8)} {x:List UInt8}
abbrev sA (l:List UInt8):AC:=.v (.string ⟨⟨l⟩⟩)
def yX:List (List UInt8)->List UInt8->Bool
 |[],_=>false
 |s::l,x=>match FG s x with
  |true=>true
  |false=>yX l x
theorem Xd:∀(l:List (List UInt8)) (x:List UInt8),yX l x=decide (x∈l)
 |[],x=>by simp[yX]
 |s::l,x=>by
  unfold yX;rw[Mu];by_cases h:s=x
  ·subst h;simp
  ·have h':¬x=s:=fun e=>h e.symm
   have:(s==x)=false:=by simpa using h
   rw[this,Xd l x];simp[h']
theorem arp(h:x∈l):yX l x=true:=by rw[Xd];exact fh h
theorem arq(h:¬x∈l):yX l x=false:=by rw[Xd];exact ja h
theorem Xe(l:List (List UInt8))(x:List UInt8)(hl:l.length<=1000000):(bu Tryz.prog 231 [.c (.sl (l.map fun s=>[sA s])),.c (sA x)] (fun y=>y=.w (.c (bA (yX l x)))))/\(bu Tryz.prog 176 [.c (.sl (l.map fun s=>[sA s])),.c (sA x)] (fun y=>y=.w (.c (bA (yX l x)))))/\bu Tryz.prog 181 [.c (.sl (l.map fun s=>[sA s])),.c (sA x)] (fun y=>y=.w (.c (bA (yX l x)))):=by
 refine⟨?a,?b,?c⟩
 case' a=>
  refine cD Tryz.func231 aN [] [.t 4] [4,5] [] ?_
 case' b=>
  refine cD Tryz.func176 aN [] [.t 4] [4,5] [] ?_
 case' c=>
  refine cD Tryz.func181 aN [] [.t 4] [4,5] [] ?_
 all_goals
  have FF:=trivial
  try refine aJ ?_
  refine dB (fun n V S=>∃k:Nat,k<=l.length/\n=l.length-k/\(∀j (hj:j<l.length),j<k->l[j]≠x)/\
   V=[(0,.w (.c (.sl (l.map fun s=>[sA s])))),(1,.w (.c (sA x))),(4,.w (.c (bA false))),(5,.w (.c (iA k)))]/\S=[]) (n:=l.length) ⟨0,ab,ab,fun j _ h=>ab,rfl,rfl⟩ ?_
  rintro n V L S ⟨k,hk,rfl,hj,rfl,rfl⟩;by_cases hlt:k<l.length
  ·have cL:k<=1000000000:=ab
   obtain⟨y,hy⟩:∃y,l[k]=y:=⟨_,rfl⟩
   by_cases he:y=x
   ·have FF:=fT @hlt @hy @he @toList_data
    try refine aJ ?_
    refine zE ?_;exact(by rw[arp (he▸hy▸cA hlt)];rfl)
   ·have FF:=jT @hlt @hy @he @toList_data (bT cL)
    try refine aJ ?_
    exact⟨l.length-(k+1),ab,k+1,ab,ab,fun j dV iC=>by
     by_cases gV:j=k
     ·subst gV;rw[hy];exact he
     ·exact hj j dV ab,rfl,rfl⟩
  ·have FF:=@hlt
   try refine aJ ?_
   refine zE ?_;exact(by rw[arq (fun hm=>by obtain⟨j,dV,gV⟩:=EI.1 hm;exact hj j dV ab gV)];rfl)
def QY:List (List AC)->Option (List (List UInt8))
 |[]=>some []
 |[.v (.string ⟨⟨s⟩⟩)]::l=>match QY l with
  |some q=>some (s::q)
  |none=>none
 |_::_=>none
theorem aeW:∀{rows:List (List AC)} {l:List (List UInt8)},QY rows=some l->rows=l.map fun s=>[sA s]
 |[],l,h=>by cases h;rfl
 |row::rows,l,h=>by
  unfold QY at h;split at h
  ·rename_i heq;cases heq
  ·rename_i s r heq;cases heq;split at h
   ·rename_i q hq;cases h;rw[aeW hq];rfl
   ·cases h
  ·cases h
def eS:C1:=fun f args=>match args with
 |[.c (.sl rows),.c (.v (.string ⟨⟨x⟩⟩))]=>match Nat.beq f 231||(Nat.beq f 176||Nat.beq f 181) with
  |true=>match QY rows with
   |some l=>match Nat.ble l.length 1000000 with
    |true=>some (.w (.c (.v (.bool (yX l x)))))
    |false=>none
   |none=>none
  |false=>none
 |_=>none
theorem jZ:iL Tryz.prog eS:=by
 intro f args x h;unfold eS at h;split at h
 case h_2=>cases h
 rename_i rows s;split at h
 case h_2=>cases h
 rename_i hf;split at h
 case h_2=>cases h
 rename_i l hl;split at h
 case h_2=>cases h
 rename_i hn;cases h;rw[aeW hl];simp only[uN] at hf;have hn:=zX hn
 rcases hf with hf|hf|hf
 ·rw[fH hf];exact(Xe l s hn).1
 ·rw[fH hf];exact(Xe l s hn).2.1
 ·rw[fH hf];exact(Xe l s hn).2.2
noncomputable def ars:FD:=cw Tryz.f35 aN [] [.t 4] [4] []
noncomputable def jO:List (FuncId×FD):=(35,ars)::aeA
theorem kg:∀q∈jO,CX Tryz.prog q.1 q.2:=tc (okF Tryz.func35) aqM
end Ab
end Go.Proofs.YtngblilamkkikaaGreatDoor
