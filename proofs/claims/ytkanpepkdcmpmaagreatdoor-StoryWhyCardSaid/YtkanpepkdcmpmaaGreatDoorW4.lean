import Derived.Test.YtkanpepkdcmpmaaGreatDoorW3
set_option maxHeartbeats 40000000
set_option maxRecDepth 100000
set_option linter.all false
namespace Go.Proofs.YtkanpepkdcmpmaaGreatDoor
namespace Ab
open Go Go.RowKit
variable {U:Option (List Nat)} {f:FuncId} {k:Nat} {qs:List (Nat×Nat×aQ)} {st:St} {za:List AC}
def Ii (k:Nat):Nat->List (Nat×Nat×List AC)->Option (List (List AC))
 |_,[]=>some []
 |pos,(off,size,cs)::r=>match Nat.beq off pos && (Nat.beq size k && Nat.beq cs.length k) with
  |true=>match Ii k (pos+k) r with
   |some q=>some (cs::q)
   |none=>none
  |false=>none
theorem agj{pos off size:Nat}{cs:List AC}{r:List (Nat×Nat×List AC)}{rows:List (List AC)}(h:Ii k pos ((off,size,cs)::r)=some rows):off=pos/\size=k/\cs.length=k/\∃q,Ii k (pos+k) r=some q/\rows=cs::q:=by
 unfold Ii at h;split at h
 ·rename_i hb;simp only[bZ] at hb;split at h
  ·rename_i q hq;cases h;exact⟨et hb.1,et hb.2.1,et hb.2.2,q,hq,rfl⟩
  ·cases h
 ·cases h
theorem agk {k:Nat}:∀{pr:List (Nat×Nat×List AC)} {pos:Nat} {rows:List (List AC)},Ii k pos pr=some rows->∀row∈rows,row.length=k
 |[],pos,rows,h=>by cases h;simp
 |(off,size,cs)::r,pos,rows,h=>by
  obtain⟨_,_,h3,q,hq,rfl⟩:=agj h;intro row hr
  rcases cA.1 hr with rfl|hr
  ·exact h3
  ·exact agk hq row hr
theorem agl {k:Nat}:∀{pr:List (Nat×Nat×List AC)} {pos:Nat} {rows:List (List AC)} {D Z:List AC},Ii k pos pr=some rows->D.length=pos->Z.length=rows.length*k->nL (D++Z) pr=some (D++rows.flatten)
 |[],pos,rows,D,Z,h,hD,hZ=>by
  cases h;have:Z=[]:=yb (by simpa using hZ);subst this;rfl
 |(off,size,cs)::r,pos,rows,D,Z,h,hD,hZ=>by
  obtain⟨rfl,rfl,h3,q,hq,rfl⟩:=agj h
  have hZ':Z.length=q.length*size+size:=by rw[hZ,List.length_cons,zQ,Nat.one_mul]
  unfold nL;rw[aj ⟨h3,by rw[List.length_append];omega⟩]
  have e1:(D++Z).take off=D:=by rw[<-hD];exact oL
  have e2:(D++Z).drop (off+size)=Z.drop size:=by
   rw[<-hD,<-List.drop_drop,mo]
  rw[e1,e2];have:=agl (D:=D++cs) (Z:=Z.drop size) hq (by rw[List.length_append,hD,h3]) (by rw[ml,hZ'];omega);rw[this,List.flatten_cons,List.append_assoc]
theorem Yi {k:Nat}:∀{rows:List (List AC)},(∀row∈rows,row.length=k)->∀i,i<rows.length->some ((rows.flatten.drop (i*k)).take k)=rows[i]?
 |[],_,i,hi=>by simp at hi
 |row::rows,h,0,_=>by
  have:=h row (Nj ..);rw[Nat.zero_mul,uN,List.flatten_cons,uF ab,nB ab];rfl
 |row::rows,h,i+1,hi=>by
  have hk:=h row (Nj ..)
  have e:(i+1)*k=row.length+i*k:=by rw[hk,zQ,Nat.one_mul,DO]
  rw[e,List.flatten_cons,<-List.drop_drop,mo];rw[Yi (fun r hr=>h r (lF _ hr)) i (by simpa using hi)];rfl
theorem arN{rows:List (List AC)}(h:∀row∈rows,row.length=k):rowsOf k rows.length rows.flatten=rows:=by
 apply yf;intro i;unfold rowsOf;rw[fD];by_cases hi:i<rows.length
 ·rw[Gt hi,yh,Yi h i hi]
 ·rw[qx (by simpa using hi),qx (by simpa using hi)];rfl
def KZ (k n:Nat)(st:St)(qs:List (Nat×Nat×aQ)):Option (List (List AC)):=match qR st qs with
 |some pr=>match Ii k 0 pr with
  |some rows=>match Nat.beq rows.length n && rows.all (fun r=>r.all inl) with
   |true=>some rows
   |false=>none
  |none=>none
 |none=>none
theorem agm{n:Nat}{rows:List (List AC)}(za:List AC)(h:KZ k n st qs=some rows):∃pr,qR st qs=some pr/\nL (dx k n za) pr=some rows.flatten/\rows.flatten.all inl=true/\rowsOf k n rows.flatten=rows:=by
 unfold KZ at h;split at h
 case h_2=>cases h
 rename_i pr hp;split at h
 case h_2=>cases h
 rename_i rows' hl;split at h
 case h_2=>cases h
 rename_i hb;cases h;rw[bZ] at hb;have hn:=et hb.1;subst hn;refine⟨pr,hp,?_,?_,arN (agk hl)⟩
 ·exact agl (D:=[]) (Z:=dx k rows.length za) hl rfl (by simp[dx])
 ·rw[fE];intro x hx;obtain⟨row,hr,Yj⟩:=List.mem_flatten.1 hx;exact fE.1 (fE.1 hb.2 row hr) x Yj
theorem arO{n:Nat}{rows:List (List AC)}(h:KZ k n st qs=some rows):dD U st (.vh k n za qs)=some (.w (.c (.sl rows)),st):=by
 obtain⟨pr,h1,h2,h3,h4⟩:=agm za h;unfold dD;dsimp only;rw[h1];dsimp only;rw[h2];dsimp only;rw[aj h3,h4]
theorem arP{s e n:Nat}{rows:List (List AC)}(h:KZ k n st qs=some rows)(hs:(aJ st.S s).isSome=true):dD U st (.Am s e k n za qs)=some (.w (.c (.own s ((st.slot s).gen+1))),st.cr s (.row e k ((st.slot s).gen+1) rows)):=by
 obtain⟨pr,h1,h2,h3,h4⟩:=agm za h;unfold dD;dsimp only;rw[h1];dsimp only;rw[h2];dsimp only;rw[aj ⟨h3,hs⟩,h4]
structure FD where
 b:fA
 nt:Nat
 rv:List RV
 vs:List Nat
 ss:List Nat
def EC (P:Program)(f:FuncId)(d:FD):Prop:=∃(owns:ij) (ts:Trees) (fn:Func) (c:Code),(∀p∈owns.eqs,sI P p.1 p.2)/\P.funcs[f]? =some fn/\fn.body=some c/\ik P owns fn.ntmps ts c=some d.b/\vq P fn.results.toList=some d.rv/\fn.ntmps=d.nt
def On:List (FuncId×FD)->FuncId->Option FD
 |[],_=>none
 |(i,d)::l,f=>match Nat.beq i f with
  |true=>some d
  |false=>On l f
theorem Yk:∀{l:List (FuncId×FD)} {f:FuncId} {d:FD},On l f=some d->(f,d)∈l
 |[],f,d,h=>by cases h
 |(i,e)::l,f,d,h=>by
  unfold On at h
  cases hb:Nat.beq i f with
  |true=>rw[hb] at h;cases h;rw[et hb];exact Nj ..
  |false=>rw[hb] at h;exact lF _ (Yk h)
noncomputable def cw (fn:Func)(a:ij)(ts:Trees)(rv:List RV)(vs ss:List Nat):FD:=⟨jf Tryz.prog a ts (fn.body.getD .skip),fn.ntmps,rv,vs,ss⟩
theorem okF{fn:Func}(hf:Tryz.prog.funcs[f]? =some fn){a:ij}{ts:Trees}{rv:List RV}{vs ss:List Nat}(ok:Oj Tryz.prog a ts fn=true:=by kernel_rfl)(pN:vq Tryz.prog fn.results.toList=some rv:=by kernel_rfl)(hE:a.eqs=cZ:=by exact rfl):EC Tryz.prog f (cw fn a ts rv vs ss):=by
 obtain⟨c,h1,h2⟩:=XZ ok rfl;exact⟨a,ts,fn,c,by rw[hE];exact Xu,hf,h1,h2,pN,rfl⟩
def La (l:List (FuncId×FD)):Prop:=∀q∈l,EC Tryz.prog q.1 q.2
theorem tn:La []:=fun q hq=>by cases hq
theorem tc{d:FD}{l:List (FuncId×FD)}(h:EC Tryz.prog f d)(r:La l):La ((f,d)::l):=fun q hq=>by
 rcases cA.1 hq with rfl|hq
 ·exact h
 ·exact r q hq
def sK:List (Nat×List Nat):=[(165,[29,901]),(166,[29,901]),(167,[29,901]),(168,[29,901]),(169,[29,901]),(209,[29,901]),(210,[29,901]),(211,[29,901]),(213,[29,901]),(214,[29,901]),(215,[29,901]),(264,[29,901]),(287,[29,901]),(288,[29,901]),(289,[29,901]),(292,[29,901])]
noncomputable def arQ:FD:=cw Tryz.f259 aN [] [.t 2] [2] []
noncomputable def arR:FD:=cw Tryz.f260 aN [] [.t 2] [2] []
noncomputable def arS:FD:=cw Tryz.f261 aN [] [.t 2] [2,3,4] []
noncomputable def arT:FD:=cw Tryz.f262 aN [] [.t 4] [4,5] []
noncomputable def arU:FD:=cw Tryz.f207 aN [] [.t 4] [4,5] []
noncomputable def arV:FD:=cw Tryz.f208 aN [] [(.cell 4 4),.t 5] [4,5,6,7,8,9] [4]
noncomputable def arW:FD:=cw Tryz.f164 (aO [5]) [] [.t 2,.t 3,.t 4] [2,3,4,5,6,7,8] [7,5]
noncomputable def arX:FD:=cw Tryz.f286 aN [] [.t 0] [0] []
noncomputable def arY:FD:=cw Tryz.f212 aN [] [.t 4] [4,5] []
noncomputable def arZ:FD:=cw Tryz.f263 aN [] [.t 2] [2] []
noncomputable def asa:FD:=cw Tryz.f165 (aB 1000 []) [tz 1 8] [.t 2] [2] []
noncomputable def asb:FD:=cw Tryz.f167 ⟨1000,[],sK,[],cZ,[],[]⟩ [] [] [] []
noncomputable def ase:FD:=cw Tryz.f168 ⟨1000,[],sK,[],cZ,[],[]⟩ [] [.t 4] [4,5,6,7,8] []
noncomputable def asf:FD:=cw Tryz.f169 ⟨1000,[],sK,[],cZ,[(6,[3])],[(2,[(1005,3,1900,268,4)])]⟩ [(4,6,tk 0 4 (.move 4 (.move 5 .nil)),[29,901])] [(.cell 4 4)] [4,5] [1004,1005,1900]
noncomputable def asg:FD:=cw Tryz.f170 (aO [5]) [tz 3 12] [.t 4] [3,4,5,6] [3,5]
noncomputable def ash:FD:=cw Tryz.f166 ⟨1000,[3],[(165,[29,901]),(166,[29,901]),(167,[29,901]),(168,[29,901]),(169,[29,901]),(209,[29,901]),(210,[29,901]),(211,[29,901]),(213,[29,901]),(214,[29,901]),(215,[29,901]),(264,[29,901]),(287,[29,901]),(288,[29,901]),(289,[29,901]),(292,[29,901]),(212,[901])],[],cZ,[],[]⟩ [(6,6,tk 0 3 (tk 4 1 (.fork 3 5 (.move 5 .nil) (.move 3 .nil))),[29,901]),(12,9,tk 0 4 (tk 5 1 (.fork 4 6 (.move 6 (.move 7 (.move 8 .nil))) (.fork 4 7 (.move 7 (.move 8 .nil)) (.move 4 (.move 8 .nil))))),[29,901,1003])] [.t 2] [2,3] [1003]
noncomputable def asi:FD:=cw Tryz.f209 ⟨1000,[],sK,[],cZ,[],[]⟩ [tz 0 10] [] [] []
noncomputable def asj:FD:=cw Tryz.f210 ⟨1000,[],sK,[],cZ,[],[]⟩ [tz 1 21] [.t 2] [2] []
noncomputable def asl:FD:=cw Tryz.f211 ⟨1000,[],sK,[],cZ,[],[]⟩ [] [] [] []
noncomputable def asm:FD:=cw Tryz.f213 ⟨1000,[],sK,[],cZ,[],[]⟩ [tm 1 10] [.t 4] [4,5] [1005]
noncomputable def asn:FD:=cw Tryz.f214 ⟨1000,[],sK,[],cZ,[],[]⟩ [] [] [] []
noncomputable def aso:FD:=cw Tryz.f215 ⟨1000,[58],sK,[],cZ,[],[]⟩ [(18,5,tk 0 4 (.move 4 .nil),[29,901]),(33,7,tk 0 5 (.move 5 (.move 6 .nil)),[29,901]),(41,4,tk 0 3 (.move 3 .nil),[29,901])] [(.cell 4 4)] [4,5,6,7,8,9,10,11,12,13,45,58] [1004,1006,1007,1009,1010,1012,1013,1058]
noncomputable def asp:FD:=cw Tryz.f264 ⟨1000,[],sK,[],cZ,[],[]⟩ [] [(.cell 6 4)] [6,7] [1006]
noncomputable def asq:FD:=cw Tryz.f287 ⟨1000,[],sK,[],cZ,[],[]⟩ [] [(.cell 8 4)] [8,9] [1008,1009]
noncomputable def asr:FD:=cw Tryz.f288 ⟨1000,[],sK,[],cZ,[],[]⟩ [(3,12,tk 0 3 (.move 3 (tk 4 5 (tk 10 1 (.fork 9 11 (.move 11 .nil) (.move 9 .nil))))),[29,901])] [(.cell 6 4)] [6,7,8,9,10] [1006,1008,1010]
noncomputable def ass:FD:=cw Tryz.f289 ⟨1000,[],sK,[],cZ,[],[]⟩ [tm 1 10,(15,3,tk 1 2 (.move 0 .nil),[])] [(.cell 4 4)] [4,5,6,7] [1004,1005,1006,1007]
noncomputable def ast:FD:=cw Tryz.f292 ⟨1000,[],sK,[],cZ,[],[]⟩ [] [(.cell 4 4)] [4,5] [1004,1005]
noncomputable def asu:FD:=cw Tryz.f122 ⟨0,[],sK,[],cZ,[(28,[4]),(9,[0,1])],[(8,[(29,4,901,9,1),(9,0,902,9,1),(9,1,903,9,1)])]⟩ [(10,4,tk 0 3 (.move 3 .nil),[29,901]),(11,4,tk 0 3 (.move 3 .nil),[29,901]),tz 12 14,(19,11,tk 0 9 (.move 9 (tk 10 1 .nil)),[901,902,903])] [(.cell 2 3),.t 3,.t 4] [2,3,4,5,6,7,8,9,10,11,29] [2,29,9,11,901,902,903]
noncomputable def asv:FD:=cw Tryz.f217 aN [] [.t 4] [4,5] []
noncomputable def asw:FD:=cw Tryz.f265 aN [] [.t 2] [2] []
noncomputable def asx:FD:=cw Tryz.f216 aN [] [.t 2] [1,2,3,4,5,6] [1]
noncomputable def asy:FD:=cw Tryz.f171 aN [] [.t 2] [1,2,3,4,5,6,7,8,9] [1]
noncomputable def asz:FD:=cw Tryz.f172 ⟨0,[5],[],[(8,[5])],cZ,[],[]⟩ [] [.t 4] [2,4,5,6] [2,5]
noncomputable def asA:FD:=cw Tryz.f173 aN [] [.t 4] [2,4,5,6] [2]
noncomputable def asB:FD:=cw Tryz.f123 aN [tz 11 5] [.t 2] [1,2,3,4,5,6] [1]
noncomputable def asC:FD:=cw Tryz.f218 aN [] [.t 4] [4,5] []
noncomputable def asD:FD:=cw Tryz.f219 aN [] [.t 0] [0] []
noncomputable def asE:FD:=cw Tryz.f222 aN [] [.t 2] [2,3] []
noncomputable def asF:FD:=cw Tryz.f266 (aB 4000 []) [tz 2 5] [.t 8] [4,8] [4004]
noncomputable def asG:FD:=cw Tryz.f221 (aB 3000 [7]) [tm 5 10] [.t 6] [3,6,7,8] [3003,3007,3007,2019,2027,2035,2056,2062,2066,2070,2101,2109,2165,2174,2178,2188,2196,2202,2208]
noncomputable def asH:FD:=cw Tryz.f220 ⟨5000,[],[(1000020,[3007,2019,2027,2035,2056,2062,2066,2070,2101,2109,2165,2174,2178,2188,2196,2202,2208])],[],cZ,[],[]⟩ [] [.t 12] [6,7,12,13,14,15,16] [5006,5007,3007,2019,2027,2035,2056,2062,2066,2070,2101,2109,2165,2174,2178,2188,2196,2202,2208]
noncomputable def asI:FD:=cw Tryz.f174 ⟨2000,[19,27,35,56,62,66,70,101,109,165,174,178,188,196,202,208],[(1000050,[3007,2019,2027,2035,2056,2062,2066,2070,2101,2109,2165,2174,2178,2188,2196,2202,2208]),(1000128,[3007,2019,2027,2035,2056,2062,2066,2070,2101,2109,2165,2174,2178,2188,2196,2202,2208]),(1000146,[3007,2019,2027,2035,2056,2062,2066,2070,2101,2109,2165,2174,2178,2188,2196,2202,2208]),(1000079,[3007,2019,2027,2035,2056,2062,2066,2070,2101,2109,2165,2174,2178,2188,2196,2202,2208]),(1000151,[3007,2019,2027,2035,2056,2062,2066,2070,2101,2109,2165,2174,2178,2188,2196,2202,2208])],[],cZ,[],[]⟩ [(8,3,tk 1 2 (.move 0 .nil),[]),tz 10 12,tz 20 6,tz 21 10,tz 26 9,tz 28 9] [.t 6] [3,4,6,7,8,9,10,12,19,27,35,56,62,66,70,101,109,153,165,174,178,188,196,202,208] [2003,2004,2019,2027,2035,2056,2062,2066,2070,2101,2109,2165,2174,2178,2188,2196,2202,2208,3007]
noncomputable def asJ:FD:=cw Tryz.f224 aN [] [.t 2] [2,3] []
noncomputable def asK:FD:=cw Tryz.f225 aN [] [.t 2] [2,3] []
noncomputable def asL:FD:=cw Tryz.f267 aN [] [.t 4] [2,4,10] [2]
noncomputable def asM:FD:=cw Tryz.f223 (aO [17]) [tm 17 10] [.t 4,.t 5] [2,4,5,6,7,8,9,10,11,12,13,17] [2,17]
noncomputable def asN:FD:=cw Tryz.f175 aN [(1,10,tk 0 5 (.move 5 (tk 6 1 (.fork 7 8 (tk 9 1 (.move 8 .nil)) (.move 7 (tk 9 1 .nil))))),[]),(8,15,tk 0 10 (tk 12 1 (.move 10 (tk 11 1 (.move 13 (tk 14 1 .nil))))),[])] [.t 4] [2,4,5,7,8,9] [2]
noncomputable def asO:FD:=cw Tryz.f124 ⟨0,[],[],[(18,[904])],cZ,[(15,[0])],[(2,[(4,0,904,278,2)])]⟩ [tm 11 12] [(.cell 2 43),.t 3] [1,2,3,4,5,6,7,8] [1,2,4,904]
noncomputable def asP:FD:=cw Tryz.f125 aN [] [.t 0] [0] []
noncomputable def asQ:FD:=cw Tryz.f66 aN [] [.t 2] [2,3] []
noncomputable def asR:FD:=cw Tryz.f65 aN [] [(.cell 2 43),.t 3] [2,3,4,6,7,8] [2,4,7]
noncomputable def agn:List (FuncId×FD):=[(259,arQ),(260,arR),(261,arS),(262,arT),(207,arU),(208,arV),(164,arW),(286,arX),(212,arY),(263,arZ),(165,asa),(167,asb),(168,ase),(169,asf),(170,asg),(166,ash),(209,asi),(210,asj),(211,asl),(213,asm),(214,asn),(215,aso),(264,asp),(287,asq),(288,asr),(289,ass),(292,ast),(122,asu),(217,asv),(265,asw),(216,asx),(171,asy),(172,asz),(173,asA),(123,asB),(218,asC),(219,asD),(222,asE),(266,asF),(221,asG),(220,asH),(174,asI),(224,asJ),(225,asK),(267,asL),(223,asM),(175,asN),(124,asO),(125,asP),(66,asQ),(65,asR)]
theorem asS:La agn:=tc (okF Tryz.func259)<|tc (okF Tryz.func260)<|tc (okF Tryz.func261)<|tc (okF Tryz.func262)<|tc (okF Tryz.func207)<|tc (okF Tryz.func208)<|tc (okF Tryz.func164)<|tc (okF Tryz.func286)<|tc (okF Tryz.func212)<|tc (okF Tryz.func263)<|tc (okF Tryz.func165)<|tc (okF Tryz.func167)<|tc (okF Tryz.func168)<|tc (okF Tryz.func169)<|tc (okF Tryz.func170)<|tc (okF Tryz.func166)<|tc (okF Tryz.func209)<|tc (okF Tryz.func210)<|tc (okF Tryz.func211)<|tc (okF Tryz.func213)<|tc (okF Tryz.func214)<|tc (okF Tryz.func215)<|tc (okF Tryz.func264)<|tc (okF Tryz.func287)<|tc (okF Tryz.func288)<|tc (okF Tryz.func289)<|tc (okF Tryz.func292)<|tc (okF Tryz.func122)<|tc (okF Tryz.func217)<|tc (okF Tryz.func265)<|tc (okF Tryz.func216)<|tc (okF Tryz.func171)<|tc (okF Tryz.func172)<|tc (okF Tryz.func173)<|tc (okF Tryz.func123)<|tc (okF Tryz.func218)<|tc (okF Tryz.func219)<|tc (okF Tryz.func222)<|tc (okF Tryz.func266)<|tc (okF Tryz.func221)<|tc (okF Tryz.func220)<|tc (okF Tryz.func174)<|tc (okF Tryz.func224)<|tc (okF Tryz.func225)<|tc (okF Tryz.func267)<|tc (okF Tryz.func223)<|tc (okF Tryz.func175)<|tc (okF Tryz.func124)<|tc (okF Tryz.func125)<|tc (okF Tryz.func66)<|tc (okF Tryz.func65)<|tn
section
variable {R:Type}
noncomputable def fN (n:Nat)(k:Nat->R):R:=Nat.rec (motive:=fun _=>R) (k 0) (fun m _=>k (Nat.succ m)) n
noncomputable def fI (i:Int)(k:Int->R):R:=Int.rec (motive:=fun _=>R) (fun n=>fN n fun n=>k (.ofNat n)) (fun n=>fN n fun n=>k (.negSucc n)) i
noncomputable def fBo (b:Bool)(k:Bool->R):R:=Bool.rec (motive:=fun _=>R) (k false) (k true) b
noncomputable def Lb {α:Type}(l:List α):(List α->R)->R:=List.rec (motive:=fun _=>(List α->R)->R) (fun k=>k []) (fun a _ ih k=>ih fun r=>k (a::r)) l
noncomputable def ED (v:Value)(k:Value->R):R:=match v with
 | .int kd n=>fI n fun n=>k (.int kd n)
 | .bool b=>fBo b fun b=>k (.bool b)
 | .string ⟨⟨l⟩⟩=>Lb l fun l=>k (.string ⟨⟨l⟩⟩)
 |v=>k v
noncomputable def SC (x:AC):(AC->R)->R:=AC.rec (motive_1:=fun _=>(AC->R)->R) (motive_2:=fun _=>(List (List AC)->R)->R) (motive_3:=fun _=>(List AC->R)->R)
 (fun v k=>ED v fun v=>k (.v v)) (fun _ ih k=>ih fun es=>k (.sl es)) (fun s g k=>fN s fun s=>fN g fun g=>k (.own s g)) (fun s g k=>k (.cK s g)) (fun s g i k=>k (.part s g i)) (fun f _ ih k=>ih fun cn=>k (.fV f cn)) (fun f cn k=>k (.cls f cn))
 (fun k=>k []) (fun _ _ jC jD k=>jC fun r=>jD fun l=>k (r::l)) (fun k=>k []) (fun _ _ jC jD k=>jC fun r=>jD fun l=>k (r::l)) x
noncomputable def Lc (x:List AC):(List AC->R)->R:=List.rec (motive:=fun _=>(List AC->R)->R) (fun k=>k []) (fun a _ ih k=>SC a fun a=>ih fun r=>k (a::r)) x
noncomputable def Yl (x:List (List AC)):(List (List AC)->R)->R:=List.rec (motive:=fun _=>(List (List AC)->R)->R) (fun k=>k []) (fun a _ ih k=>Lc a fun a=>ih fun r=>k (a::r)) x
noncomputable def Ym (x:AW)(k:AW->R):R:=match x with
 | .c x=>SC x fun x=>k (.c x)
 | .agg cs=>Lc cs fun cs=>k (.agg cs)
noncomputable def Yn (x:List AW):(List AW->R)->R:=List.rec (motive:=fun _=>(List AW->R)->R) (fun k=>k []) (fun a _ ih k=>Ym a fun a=>ih fun r=>k (a::r)) x
noncomputable def Ld (x:AV)(k:AV->R):R:=match x with
 | .w x=>Ym x fun x=>k (.w x)
 | .bP l=>Yn l fun l=>k (.bP l)
 | .pb s g o=>fN s fun s=>fN g fun g=>fN o fun o=>k (.pb s g o)
 | .pr s g i o=>fN s fun s=>fN g fun g=>fN i fun i=>fN o fun o=>k (.pr s g i o)
 | .pi cs o=>Lc cs fun cs=>fN o fun o=>k (.pi cs o)
 | .u=>k .u
noncomputable def SD (x:Slot)(k:Slot->R):R:=match x with
 | .dead g=>fN g fun g=>k (.dead g)
 | .box g cs=>fN g fun g=>Lc cs fun cs=>k (.box g cs)
 | .row e kk g es=>fN g fun g=>Yl es fun es=>k (.row e kk g es)
 | .obj g K=>k (.obj g K)
noncomputable def Oo (x:List (Nat×Slot)):(List (Nat×Slot)->R)->R:=List.rec (motive:=fun _=>(List (Nat×Slot)->R)->R) (fun k=>k []) (fun a _ ih k=>fN a.1 fun i=>SD a.2 fun y=>ih fun r=>k ((i,y)::r)) x
noncomputable def Le (x:List (Nat×AV)):(List (Nat×AV)->R)->R:=List.rec (motive:=fun _=>(List (Nat×AV)->R)->R) (fun k=>k []) (fun a _ ih k=>fN a.1 fun i=>ih fun r=>k ((i,a.2)::r)) x
noncomputable def Oq (x:List (Nat×AV)):(List (Nat×AV)->R)->R:=List.rec (motive:=fun _=>(List (Nat×AV)->R)->R) (fun k=>k []) (fun a _ ih k=>fN a.1 fun i=>Ld a.2 fun y=>ih fun r=>k ((i,y)::r)) x
theorem pP (n:Nat)(k:Nat->R):fN n k=k n:=by cases n<;>rfl
theorem asT (n:Int)(k:Int->R):fI n k=k n:=by
 cases n with
 |ofNat n=>exact pP n fun n=>k (.ofNat n)
 |negSucc n=>exact pP n fun n=>k (.negSucc n)
theorem asU (n:Bool)(k:Bool->R):fBo n k=k n:=by cases n<;>rfl
theorem Lf {α:Type}:∀(l:List α) (k:List α->R),Lb l k=k l
 |[],_=>rfl
 |a::l,k=>Lf l fun r=>k (a::r)
theorem ago (v:Value)(k:Value->R):ED v k=k v:=by
 unfold ED;split
 ·rename_i kd n;exact asT n fun n=>k (.int kd n)
 ·rename_i b;exact asU b fun b=>k (.bool b)
 ·rename_i l;exact Lf l fun l=>k (.string ⟨⟨l⟩⟩)
 ·rfl
theorem agp (x:AC):∀k:AC->R,SC x k=k x:=by
 refine AC.rec (motive_1:=fun x=>∀k:AC->R,SC x k=k x)
  (motive_2:=fun l=>∀k:List (List AC)->R,(AC.rec_1 (motive_1:=fun _=>(AC->R)->R) (motive_2:=fun _=>(List (List AC)->R)->R) (motive_3:=fun _=>(List AC->R)->R)
   (fun v k=>ED v fun v=>k (.v v)) (fun _ ih k=>ih fun es=>k (.sl es)) (fun s g k=>fN s fun s=>fN g fun g=>k (.own s g)) (fun s g k=>k (.cK s g)) (fun s g i k=>k (.part s g i)) (fun f _ ih k=>ih fun cn=>k (.fV f cn)) (fun f cn k=>k (.cls f cn))
   (fun k=>k []) (fun _ _ jC jD k=>jC fun r=>jD fun l=>k (r::l)) (fun k=>k []) (fun _ _ jC jD k=>jC fun r=>jD fun l=>k (r::l)) l:(List (List AC)->R)->R) k=k l)
  (motive_3:=fun l=>∀k:List AC->R,(AC.rec_2 (motive_1:=fun _=>(AC->R)->R) (motive_2:=fun _=>(List (List AC)->R)->R) (motive_3:=fun _=>(List AC->R)->R)
   (fun v k=>ED v fun v=>k (.v v)) (fun _ ih k=>ih fun es=>k (.sl es)) (fun s g k=>fN s fun s=>fN g fun g=>k (.own s g)) (fun s g k=>k (.cK s g)) (fun s g i k=>k (.part s g i)) (fun f _ ih k=>ih fun cn=>k (.fV f cn)) (fun f cn k=>k (.cls f cn))
   (fun k=>k []) (fun _ _ jC jD k=>jC fun r=>jD fun l=>k (r::l)) (fun k=>k []) (fun _ _ jC jD k=>jC fun r=>jD fun l=>k (r::l)) l:(List AC->R)->R) k=k l)
  ?_ ?_ ?_ ?_ ?_ ?_ ?_ ?_ ?_ ?_ ?_ x
 ·intro v k;exact ago v fun v=>k (.v v)
 ·intro es ih k;exact ih fun es=>k (.sl es)
 ·intro s g k;exact(pP s fun s=>fN g fun g=>k (.own s g)).trans (pP g fun g=>k (.own s g))
 ·intro s g k;rfl
 ·intro s g i k;rfl
 ·intro f es ih k;exact ih fun es=>k (.fV f es)
 ·intro f es k;rfl
 ·intro k;rfl
 ·intro a l h1 h2 k;exact(h1 fun r=>_).trans (h2 fun l=>k (a::l))
 ·intro k;rfl
 ·intro a l h1 h2 k;exact(h1 fun r=>_).trans (h2 fun l=>k (a::l))
theorem Ot:∀(l:List AC) (k:List AC->R),Lc l k=k l
 |[],_=>rfl
 |a::l,k=>(agp a fun a=>Lc l fun r=>k (a::r)).trans (Ot l fun r=>k (a::r))
theorem agq:∀(l:List (List AC)) (k:List (List AC)->R),Yl l k=k l
 |[],_=>rfl
 |a::l,k=>(Ot a fun a=>Yl l fun r=>k (a::r)).trans (agq l fun r=>k (a::r))
theorem agr (x:AW)(k:AW->R):Ym x k=k x:=by
 cases x with
 |c x=>exact agp x fun x=>k (.c x)
 |agg cs=>exact Ot cs fun cs=>k (.agg cs)
theorem ags:∀(l:List AW) (k:List AW->R),Yn l k=k l
 |[],_=>rfl
 |a::l,k=>(agr a fun a=>Yn l fun r=>k (a::r)).trans (ags l fun r=>k (a::r))
theorem asV (x:AV)(k:AV->R):Ld x k=k x:=by
 cases x with
 |w x=>exact agr x fun x=>k (.w x)
 |bP l=>exact ags l fun l=>k (.bP l)
 |pb s g o=>simp only[Ld,pP]
 |pr s g i o=>simp only[Ld,pP]
 |pi cs o=>simp only[Ld,pP,Ot]
 |u=>rfl
theorem asW (x:Slot)(k:Slot->R):SD x k=k x:=by
 cases x<;>simp only[SD,pP,Ot,agq]
theorem agt:∀(l:List (Nat×Slot)) (k:List (Nat×Slot)->R),Oo l k=k l
 |[],_=>rfl
 |(i,a)::l,k=>(pP i fun i=>SD a fun y=>Oo l fun r=>k ((i,y)::r)).trans ((asW a fun y=>Oo l fun r=>k ((i,y)::r)).trans (agt l fun r=>k ((i,a)::r)))
theorem SE:∀(l:List (Nat×AV)) (k:List (Nat×AV)->R),Le l k=k l
 |[],_=>rfl
 |(i,a)::l,k=>(pP i fun i=>Le l fun r=>k ((i,a)::r)).trans (SE l fun r=>k ((i,a)::r))
theorem agu:∀(l:List (Nat×AV)) (k:List (Nat×AV)->R),Oq l k=k l
 |[],_=>rfl
 |(i,a)::l,k=>(pP i fun i=>Ld a fun y=>Oq l fun r=>k ((i,y)::r)).trans ((asV a fun y=>Oq l fun r=>k ((i,y)::r)).trans (agu l fun r=>k ((i,a)::r)))
end
section
variable {R:Type}
noncomputable def SF (x:List (List AC)):(List (List AC)->R)->R:=List.rec (motive:=fun _=>(List (List AC)->R)->R) (fun k=>k []) (fun a _ ih k=>Lb a fun a=>ih fun r=>k (a::r)) x
noncomputable def Yo (x:AC)(k:AC->R):R:=match x with
 | .v v=>ED v fun v=>k (.v v)
 | .sl es=>SF es fun es=>k (.sl es)
 | .own s g=>fN s fun s=>fN g fun g=>k (.own s g)
 | .cK s g=>k (.cK s g)
 | .part s g i=>k (.part s g i)
 | .fV f cs=>k (.fV f cs)
 | .cls f cs=>k (.cls f cs)
noncomputable def Yp (x:AW)(k:AW->R):R:=match x with
 | .c x=>Yo x fun x=>k (.c x)
 | .agg cs=>Lb cs fun cs=>k (.agg cs)
noncomputable def Yq (x:List AW):(List AW->R)->R:=List.rec (motive:=fun _=>(List AW->R)->R) (fun k=>k []) (fun a _ ih k=>Yp a fun a=>ih fun r=>k (a::r)) x
noncomputable def jE (x:AV)(k:AV->R):R:=match x with
 | .w x=>Yp x fun x=>k (.w x)
 | .bP l=>Yq l fun l=>k (.bP l)
 | .pb s g o=>fN s fun s=>fN g fun g=>fN o fun o=>k (.pb s g o)
 | .pr s g i o=>fN s fun s=>fN g fun g=>fN i fun i=>fN o fun o=>k (.pr s g i o)
 | .pi cs o=>Lb cs fun cs=>fN o fun o=>k (.pi cs o)
 | .u=>k .u
noncomputable def SG (x:Slot)(k:Slot->R):R:=match x with
 | .dead g=>fN g fun g=>k (.dead g)
 | .box g cs=>fN g fun g=>Lb cs fun cs=>k (.box g cs)
 | .row e kk g es=>fN g fun g=>SF es fun es=>k (.row e kk g es)
 | .obj g K=>k (.obj g K)
noncomputable def AE (x:List (Nat×Slot)):(List (Nat×Slot)->R)->R:=List.rec (motive:=fun _=>(List (Nat×Slot)->R)->R) (fun k=>k []) (fun a _ ih k=>fN a.1 fun i=>SG a.2 fun y=>ih fun r=>k ((i,y)::r)) x
theorem Yr:∀(l:List (List AC)) (k:List (List AC)->R),SF l k=k l
 |[],_=>rfl
 |a::l,k=>(Lf a fun a=>SF l fun r=>k (a::r)).trans (Yr l fun r=>k (a::r))
theorem asX (x:AC)(k:AC->R):Yo x k=k x:=by
 cases x with
 |v v=>exact ago v fun v=>k (.v v)
 |sl es=>exact Yr es fun es=>k (.sl es)
 |own s g=>simp only[Yo,pP]
 |cK s g=>rfl
 |part s g i=>rfl
 |fV f cs=>rfl
 |cls f cs=>rfl
theorem agv (x:AW)(k:AW->R):Yp x k=k x:=by
 cases x with
 |c x=>exact asX x fun x=>k (.c x)
 |agg cs=>exact Lf cs fun cs=>k (.agg cs)
theorem agw:∀(l:List AW) (k:List AW->R),Yq l k=k l
 |[],_=>rfl
 |a::l,k=>(agv a fun a=>Yq l fun r=>k (a::r)).trans (agw l fun r=>k (a::r))
theorem Lg (x:AV)(k:AV->R):jE x k=k x:=by
 cases x with
 |w x=>exact agv x fun x=>k (.w x)
 |bP l=>exact agw l fun l=>k (.bP l)
 |pb s g o=>simp only[jE,pP]
 |pr s g i o=>simp only[jE,pP]
 |pi cs o=>simp only[jE,pP,Lf]
 |u=>rfl
theorem asY (x:Slot)(k:Slot->R):SG x k=k x:=by
 cases x<;>simp only[SG,pP,Lf,Yr]
theorem Lh:∀(l:List (Nat×Slot)) (k:List (Nat×Slot)->R),AE l k=k l
 |[],_=>rfl
 |(i,a)::l,k=>(pP i fun i=>SG a fun y=>AE l fun r=>k ((i,y)::r)).trans ((asY a fun y=>AE l fun r=>k ((i,y)::r)).trans (Lh l fun r=>k ((i,a)::r)))
end
variable {U:Option (List Nat)} {op:ft} {st st':St} {x:AV}
def agx:ft->Bool
 | .mv _=>true
 | .ld1 _=>true
 | .pick _ _ _=>true
 | .ext _ _=>true
 |_=>false
def Ij:List UInt8->List UInt8->Bool
 |[],[]=>true
 |a::l,b::m=>match Nat.beq a.toNat b.toNat with
  |true=>Ij l m
  |false=>false
 |_,_=>false
theorem Ou:∀l m:List UInt8,Ij l m=(l==m)
 |[],[]=>rfl
 |[],_::_=>rfl
 |_::_,[]=>rfl
 |a::l,b::m=>by
  show(match Nat.beq a.toNat b.toNat with |true=>Ij l m|false=>false)=(a==b && l==m)
  have:Nat.beq a.toNat b.toNat=(a==b):=by
   rw[rZ];simp[UInt8.toNat_inj]
  rw[this,Ou l m];cases(a==b)<;>rfl
def Li:Int->Bool
 | .ofNat n=>Nat.ble n 9223372036854775807
 | .negSucc n=>Nat.ble n 9223372036854775807
theorem asZ{n:Int}(h:Li n=true):IntKind.i64.wrap n=n:=by
 cases n with
 |ofNat n=>exact wrap64 (by have:=tB h;show _<=((n:Nat):Int);omega) (by have:=tB h;show((n:Nat):Int)<=_;omega)
 |negSucc n=>exact wrap64 (by have:=tB h;omega) (by have:=tB h;omega)
def yM (op:BinOp)(x y:Value):Option Value:=match x,y with
 | .string ⟨⟨a⟩⟩,.string ⟨⟨b⟩⟩=>match op with
  | .eql=>some (.bool (Ij a b))
  | .neq=>some (.bool (!Ij a b))
  | .add=>match Nat.ble (a.length+b.length) 1000000 with |true=>some (.string ⟨⟨a++b⟩⟩)|false=>none
  |_=>none
 | .int .i64 a,.int .i64 b=>match op with
  | .add=>match Li (Int.add a b) with |true=>some (.int .i64 (Int.add a b))|false=>none
  | .sub=>match Li (Int.sub a b) with |true=>some (.int .i64 (Int.sub a b))|false=>none
  | .mul=>match Li (Int.mul a b) with |true=>some (.int .i64 (Int.mul a b))|false=>none
  |op=>aZ op (.int .i64 a) (.int .i64 b)
 |x,y=>aZ op x y
theorem ata(bs:ByteArray):∀(k i:Nat) (r:List UInt8),bs.size-i=k->ByteArray.toList.loop bs i r=r.reverse++bs.data.toList.drop i:=by
 intro k
 induction k with
 |zero=>
  intro i r hk;unfold ByteArray.toList.loop;have h:¬i<bs.size:=ab;rw[af h];have:bs.data.toList.drop i=[]:=uG (by simpa using(by omega:bs.size<=i));rw[this];simp
 |succ k ih=>
  intro i r hk;unfold ByteArray.toList.loop;have h:i<bs.size:=ab;rw[aj h,ih (i+1) _ ab]
  have h':i<bs.data.toList.length:=by simpa using h
  rw[List.drop_eq_getElem_cons h']
  have:bs.get! i=bs.data.toList[i]:=by
   obtain⟨⟨l⟩⟩:=bs
   show(Array.mk l)[i]! =_
   simp at h';simp[h']
  rw[this];simp
theorem toList_data (l:List UInt8):(ByteArray.mk ⟨l⟩).toList=l:=by
 unfold ByteArray.toList;rw[ata _ _ 0 [] rfl];rfl
theorem atb{op:BinOp}{x y r:Value}(h:yM op x y=some r):aZ op x y=some r:=by
 have key:∀(n:Int) (x:Option Value),(match Li n with |true=>some (Value.int .i64 n)|false=>none)=some r->x=(if IntKind.i64=IntKind.i64 then(if IntKind.i64.wrap n=n then some (Value.int .i64 n) else none) else none)->x=some r:=by
  intro n x h hx
  cases hh:Li n with
  |true=>rw[hh] at h;rw[hx,aj rfl,aj (asZ hh)];exact h
  |false=>rw[hh] at h;cases h
 unfold yM at h;split at h
 ·split at h
  ·rw[Ou] at h;rw[arq,toList_data,toList_data];exact h
  ·rw[Ou] at h;rw[art,toList_data,toList_data];exact h
  ·split at h
   ·rename_i hb;rw[ars (by have:=tB hb;omega)];exact h
   ·cases h
  ·cases h
 ·split at h
  ·exact key _ _ h rfl
  ·exact key _ _ h rfl
  ·exact key _ _ h rfl
  ·exact h
 ·exact h
def Ik (U:List Nat)(st:St)(op:ft):Option AV:=match op with
 | .bin o x y=>match st.sc x,st.sc y with
  |some u,some v=>match yM o u v with
   |some r=>some (.w (.c (.v r)))
   |none=>none
  |_,_=>none
 |op=>match cC op with
  |some (_,ev)=>ev st U
  |none=>none
theorem agy{U:List Nat}(h:Ik U st op=some x):∃m ev,cC op=some (m,ev)/\ev st U=some x:=by
 unfold Ik at h;split at h
 ·rename_i o a b;refine⟨_,_,rfl,?_⟩;split at h
  ·rename_i u v h1 h2;split at h
   ·rename_i r hr
    show(match st.sc a,st.sc b with |some u,some v=>(aZ o u v).map fun r=>AV.w (.c (.v r))|_,_=>none)=_
    rw[h1,h2];dsimp only;rw[atb hr];exact h
   ·cases h
  ·cases h
 ·split at h
  ·rename_i m ev he;exact⟨m,ev,he,h⟩
  ·cases h
noncomputable def SH {R:Type}(l:List (Nat×AV))(d:Nat)(x:AV):(List (Nat×AV)->R)->R:=List.rec (motive:=fun _=>(List (Nat×AV)->R)->R) (fun k=>k []) (fun p t ih k=>match p with
 |(i,y)=>match Nat.beq i d with
  |true=>ih fun t'=>k ((i,x)::t')
  |false=>ih fun t'=>k ((i,y)::t')) l
theorem Yt {R:Type}:∀(l:List (Nat×AV)) (d:Nat) (x:AV) (k:List (Nat×AV)->R),SH l d x k=k (qI l d x)
 |[],_,_,_=>rfl
 |(i,y)::l,d,x,k=>by
  show(match Nat.beq i d with
  |true=>SH l d x fun t'=>k ((i,x)::t')
  |false=>SH l d x fun t'=>k ((i,y)::t'))=_
  unfold qI
  cases h:Nat.beq i d with
  |true=>rw[aj (et h)];exact Yt l d x _
  |false=>rw[af (Rl h)];exact Yt l d x _
def SI:List (Nat×AV)->Nat->Bool
 |[],_=>false
 |(i,_)::l,d=>match Nat.beq i d with
  |true=>true
  |false=>SI l d
theorem agz:∀(l:List (Nat×AV)) (d:Nat),SI l d=(aJ l d).isSome
 |[],_=>rfl
 |(i,y)::l,d=>by
  unfold SI aJ
  cases h:Nat.beq i d with
  |true=>rw[aj (et h)];rfl
  |false=>rw[af (Rl h)];exact agz l d
noncomputable def dQ (V L:List (Nat×AV))(S:List (Nat×Slot))(d:Option Nat)(x:AV):Option St:=match d with
 |none=>some ⟨V,L,S⟩
 |some d=>match SI V d with
  |true=>SH V d x fun V'=>some ⟨V',L,S⟩
  |false=>some ⟨V,(d,x)::L,S⟩
theorem EE(V L:List (Nat×AV))(S:List (Nat×Slot))(d:Option Nat)(x:AV):dQ V L S d x=some ((St.mk V L S).eR d x):=by
 cases d with
 |none=>rfl
 |some d=>
  unfold dQ St.eR St.put;dsimp only;rw[agz]
  cases h:(aJ V d).isSome with
  |true=>rw[Yt];rfl
  |false=>rfl
def Ov:ft->Bool
 | .Hu _ _ _=>false
 | .box _ _=>false
 | .alloc _ _=>false
 | .vh _ _ _ _=>false
 | .Am _ _ _ _ _ _=>false
 | .app _ _ _ _=>false
 | .store _ _ _=>false
 | .qY _ _ _ _=>false
 | .Er _ _ _=>false
 | .Ia _ _ _ _ _=>false
 | .qO _ _ none _=>false
 | .call _ _=>false
 | .nM _ _ _=>false
 |_=>true
theorem agA(h:Ov op=true):dD U st op=match cC op with
  |some (_,ev)=>(ev st []).map fun x=>(x,st)
  |none=>none:=by
 cases op<;>first|rfl|(cases h;done)|skip
 rename_i k x lo hi
 cases lo with
 |none=>cases h
 |some lo=>rfl
theorem atc(h:dD U st op=some (x,st')):st'.V=st.V/\st'.L=st.L:=by
 have rd:∀(ev:St->List Nat->Option AV),((ev st []).map fun x=>(x,st))=some (x,st')->st'.V=st.V/\st'.L=st.L:=fun ev h=>by
  rw[bU] at h;obtain⟨y,hy,he⟩:=h;cases he;exact⟨rfl,rfl⟩
 by_cases hr:Ov op=true
 ·rw[agA hr] at h;split at h
  ·exact rd _ h
  ·cases h
 cases op with
 |Hu s e k=>simp only[dD] at h;split at h<;>cases h;exact⟨rfl,rfl⟩
 |box s y=>simp only[dD] at h;(repeat' split at h)<;>cases h;exact⟨rfl,rfl⟩
 |alloc s za=>simp only[dD] at h;split at h<;>cases h;exact⟨rfl,rfl⟩
 |Er k za y=>simp only[dD] at h;(repeat' split at h)<;>cases h;exact⟨rfl,rfl⟩
 |Ia s e k za y=>simp only[dD] at h;(repeat' split at h)<;>cases h;exact⟨rfl,rfl⟩
 |vh k n za qs=>simp only[dD] at h;(repeat' split at h)<;>cases h;exact⟨rfl,rfl⟩
 |Am s e k n za qs=>simp only[dD] at h;(repeat' split at h)<;>cases h;exact⟨rfl,rfl⟩
 |app e k y z=>simp only[dD] at h;(repeat' split at h)<;>cases h;exact⟨rfl,rfl⟩
 |store n p y=>
  simp only[dD] at h;split at h
  ·rename_i xw hy;split at h
   ·rename_i st2 hst;split at h
    ·cases h;unfold St.store at hst
     (repeat' split at hst)<;>cases hst<;>exact⟨rfl,rfl⟩
    ·cases h
   ·cases h
  ·cases h
 |qO k y lo hi=>
  cases lo with
  |none=>
   simp only[dD] at h;split at h
   ·(repeat' split at h)<;>cases h;exact⟨rfl,rfl⟩
   ·exact rd ((cC (.qO k y none hi)).get rfl).2 h
  |some lo=>exact absurd rfl hr
 |call f ys=>simp[dD] at h
 |nM f ys D=>simp[dD] at h
 |qY D n p y=>simp[dD] at h
 |mv y=>exact absurd rfl hr
 |bin NZ y z=>exact absurd rfl hr
 |un Oa y=>exact absurd rfl hr
 |pick c y z=>exact absurd rfl hr
 |len y=>exact absurd rfl hr
 |mm mx y z=>exact absurd rfl hr
 |ld1 p=>exact absurd rfl hr
 |Ef n p=>exact absurd rfl hr
 |uX p off=>exact absurd rfl hr
 |idx k y i=>exact absurd rfl hr
 |Eg n k p i=>exact absurd rfl hr
 |ext y i=>exact absurd rfl hr
 |Eh y i=>exact absurd rfl hr
 |Co y=>exact absurd rfl hr
 |Es i g y=>exact absurd rfl hr
 |Hy y lo hi=>exact absurd rfl hr
 |HK kk y=>exact absurd rfl hr
 |Cp y=>exact absurd rfl hr
 |HQ y z t=>exact absurd rfl hr
 |Ei za qs=>exact absurd rfl hr
 |eqs neg n y z=>exact absurd rfl hr
def xW (U:Option (List Nat))(st:St)(op:ft):Option (AV×St):=match op with
 | .vh k n za qs=>match KZ k n st qs with
  |some rows=>some (.w (.c (.sl rows)),st)
  |none=>dD U st (.vh k n za qs)
 | .Am s e k n za qs=>match KZ k n st qs with
  |some rows=>match(aJ st.S s).isSome with
   |true=>some (.w (.c (.own s ((st.slot s).gen+1))),st.cr s (.row e k ((st.slot s).gen+1) rows))
   |false=>none
  |none=>dD U st (.Am s e k n za qs)
 |op=>dD U st op
theorem atd{r:AV×St}(h:xW U st op=some r):dD U st op=some r:=by
 unfold xW at h;split at h
 ·split at h
  ·rename_i rows hr;rw[arO hr];exact h
  ·exact h
 ·split at h
  ·rename_i rows hr;split at h
   ·rename_i hs;rw[arP hr hs];exact h
   ·cases h
  ·exact h
 ·exact h
def SJ:ft->Bool
 | .vh _ _ _ _=>false
 | .Er _ _ _=>false
 |_=>true
theorem ate(hs:SJ op=false)(h:dD U st op=some (x,st')):st'=st:=by
 cases op<;>first|(cases hs;done)|skip
 ·simp only[dD] at h;(repeat' split at h)<;>cases h;rfl
 ·simp only[dD] at h;(repeat' split at h)<;>cases h;rfl
noncomputable def Yu (U:Option (List Nat))(V L:List (Nat×AV))(S:List (Nat×Slot))(d:Option Nat)(op:ft):Option St:=match Ov op with
 |true=>match Ik [] ⟨V,L,S⟩ op with
  |some x=>match agx op with
   |true=>dQ V L S d x
   |false=>jE x fun x=>dQ V L S d x
  |none=>none
 |false=>match xW U ⟨V,L,S⟩ op with
  |some (x,st')=>match SJ op with
   |true=>jE x fun x=>AE st'.S fun S'=>dQ V L S' d x
   |false=>jE x fun x=>dQ V L S d x
  |none=>none
theorem atf{V L:List (Nat×AV)}{S:List (Nat×Slot)}{d:Option Nat}(h:Yu U V L S d op=some st'):((dD U ⟨V,L,S⟩ op).map fun p=>p.2.eR d p.1)=some st':=by
 unfold Yu at h
 cases hr:Ov op with
 |true=>
  rw[hr] at h;dsimp only at h;split at h
  ·rename_i x hx
   have h:dQ V L S d x=some st':=by
    split at h
    ·exact h
    ·rw[Lg] at h;exact h
   rw[EE] at h;obtain⟨m,ev,he,hv⟩:=agy hx;rw[agA hr,he];dsimp only;rw[hv];exact h
  ·cases h
 |false=>
  rw[hr] at h;dsimp only at h;split at h
  ·rename_i x st2 hx;have hx:=atd hx
   cases hs:SJ op with
   |true=>
    rw[hs] at h;dsimp only at h;rw[Lg,Lh,EE] at h;obtain⟨h1,h2⟩:=atc hx;rw[hx];obtain⟨V2,L2,S2⟩:=st2;dsimp only at h1 h2 h⊢;subst h1;subst h2;exact h
   |false=>
    rw[hs] at h;dsimp only at h;rw[Lg,EE] at h;rw[hx,ate hs hx];exact h
  ·cases h
structure Lj (α:Type) where
 f:α
noncomputable def SK {α:Type}(j:Nat)(l:List (Nat×α)):Option α:=List.rec (motive:=fun _=>Option α) none (fun p _ ih=>Prod.rec (motive:=fun _=>Option α) (fun i x=>Bool.rec (motive:=fun _=>Option α) ih (some x) (Nat.beq i j)) p) l
theorem Yv {α:Type}(j:Nat):∀l:List (Nat×α),SK j l=aJ l j
 |[]=>rfl
 |(i,x)::l=>by
  show Bool.rec (motive:=fun _=>Option α) (SK j l) (some x) (Nat.beq i j)=_
  unfold aJ
  cases h:Nat.beq i j with
  |true=>rw[aj (et h)]
  |false=>rw[af (Rl h)];exact Yv j l
noncomputable def Il (V L:List (Nat×AV))(i:Nat):Option AV:=Option.rec (motive:=fun _=>Option AV) (SK i L) (fun v=>some v) (SK i V)
theorem Yw(V L:List (Nat×AV))(S:List (Nat×Slot))(i:Nat):Il V L i=St.get ⟨V,L,S⟩ i:=by
 unfold Il St.get;dsimp only;rw[Yv,Yv];cases aJ V i<;>rfl
noncomputable def nN (y:aQ):Lj (List (Nat×AV)->List (Nat×AV)->Option AV):=match y with
 | .t i=>⟨fun V L=>Il V L i⟩
 | .k x=>⟨fun _ _=>some (.w x)⟩
theorem EF(y:aQ)(V L:List (Nat×AV))(S:List (Nat×Slot)):(nN y).f V L=St.arg ⟨V,L,S⟩ y:=by
 cases y with
 |t i=>exact Yw V L S i
 |k x=>rfl
noncomputable def yN (y:aQ):Lj (List (Nat×AV)->List (Nat×AV)->Option Value):=match y with
 | .t i=>⟨fun V L=>GN (Il V L i)⟩
 | .k x=>⟨fun _ _=>GN (some (.w x))⟩
theorem Ow(y:aQ)(V L:List (Nat×AV))(S:List (Nat×Slot)):(yN y).f V L=St.sc ⟨V,L,S⟩ y:=by
 cases y with
 |t i=>show GN (Il V L i)=_;rw[Yw V L S];rfl
 |k x=>rfl
def Yx (o:BinOp):Lj (Value->Value->Option Value):=match o with
 | .lss=>⟨fun x y=>yM .lss x y⟩
 | .eql=>⟨fun x y=>yM .eql x y⟩
 | .neq=>⟨fun x y=>yM .neq x y⟩
 | .add=>⟨fun x y=>yM .add x y⟩
 |o=>⟨fun x y=>yM o x y⟩
theorem atg(o:BinOp)(x y:Value):(Yx o).f x y=yM o x y:=by cases o<;>rfl
abbrev GoT:=Option (List Nat)->List (Nat×AV)->List (Nat×AV)->List (Nat×Slot)->Option Nat->Option St
noncomputable def Yy (op:ft):Lj GoT:=match op with
 | .mv x=>match nN x with
  |⟨a⟩=>⟨fun _ V L S d=>match a V L with
   |some y=>dQ V L S d y
   |none=>none⟩
 | .bin o x y=>match yN x,yN y,Yx o with
  |⟨a⟩,⟨b⟩,⟨f⟩=>⟨fun _ V L S d=>match a V L,b V L with
   |some u,some v=>match f u v with
    |some r=>ED r fun r=>dQ V L S d (.w (.c (.v r)))
    |none=>none
   |_,_=>none⟩
 | .len x=>match nN x with
  |⟨a⟩=>⟨fun _ V L S d=>match St.rows ⟨V,L,S⟩ [] (a V L) with
   |some es=>fI (Int.ofNat es.length) fun n=>dQ V L S d (.w (.c (.v (.int .i64 n))))
   |none=>none⟩
 | .ld1 p=>match nN p with
  |⟨a⟩=>⟨fun _ V L S d=>match St.cells ⟨V,L,S⟩ [] 1 (a V L) with
   |some (c::_)=>dQ V L S d (.w (.c c))
   |_=>none⟩
 | .uX p off=>match nN p with
  |⟨a⟩=>⟨fun _ V L S d=>match St.cells ⟨V,L,S⟩ [] 0 (a V L),a V L with
   |some _,some q=>jE (q.shift off) fun x=>dQ V L S d x
   |_,_=>none⟩
 | .Cp p=>match nN p with
  |⟨a⟩=>⟨fun _ V L S d=>match St.cells ⟨V,L,S⟩ [] 0 (a V L),a V L with
   |some _,some q=>jE q fun x=>dQ V L S d x
   |_,_=>none⟩
 | .idx k x i=>match nN x,yN i with
  |⟨a⟩,⟨b⟩=>⟨fun _ V L S d=>match Ek k (St.rows ⟨V,L,S⟩ [] (a V L)) (a V L) (b V L) with
   |some x=>jE x fun x=>dQ V L S d x
   |none=>none⟩
 | .pick c x y=>match yN c,nN x,nN y with
  |⟨a⟩,⟨b⟩,⟨e⟩=>⟨fun _ V L S d=>match a V L with
   |some (.bool true)=>(match b V L with
    |some x=>dQ V L S d x
    |none=>none)
   |some (.bool false)=>(match e V L with
    |some x=>dQ V L S d x
    |none=>none)
   |_=>none⟩
 | .Co x=>match yN x with
  |⟨a⟩=>⟨fun _ V L S d=>match a V L with
   |some (.string s)=>fI (Int.ofNat s.size) fun n=>dQ V L S d (.w (.c (.v (.int .i64 n))))
   |_=>none⟩
 |op=>match Ov op,SJ op with
  |true,_=>⟨fun _ V L S d=>match Ik [] ⟨V,L,S⟩ op with
   |some x=>match agx op with
    |true=>dQ V L S d x
    |false=>jE x fun x=>dQ V L S d x
   |none=>none⟩
  |false,true=>⟨fun U V L S d=>match xW U ⟨V,L,S⟩ op with
   |some (x,st')=>jE x fun x=>AE st'.S fun S'=>dQ V L S' d x
   |none=>none⟩
  |false,false=>⟨fun U V L S d=>match xW U ⟨V,L,S⟩ op with
   |some (x,_)=>jE x fun x=>dQ V L S d x
   |none=>none⟩
theorem ath(op:ft)(U:Option (List Nat))(V L:List (Nat×AV))(S:List (Nat×Slot))(d:Option Nat):(Yy op).f U V L S d=Yu U V L S d op:=by
 cases op with
 |mv x=>
  show(match(nN x).f V L with |some y=>dQ V L S d y|none=>none)=(match St.arg ⟨V,L,S⟩ x with |some y=>dQ V L S d y|none=>none)
  rw[EF x V L S]
 |bin o x y=>
  show(match(yN x).f V L,(yN y).f V L with |some u,some v=>(match(Yx o).f u v with |some r=>ED r fun r=>dQ V L S d (.w (.c (.v r)))|none=>none)|_,_=>none)=_
  rw[Ow x V L S,Ow y V L S];simp only[atg]
  show _=(match(match St.sc ⟨V,L,S⟩ x,St.sc ⟨V,L,S⟩ y with |some u,some v=>(match yM o u v with |some r=>some (AV.w (.c (.v r)))|none=>none)|_,_=>none) with |some x=>jE x fun x=>dQ V L S d x|none=>none)
  cases St.sc ⟨V,L,S⟩ x with
  |none=>rfl
  |some u=>cases St.sc ⟨V,L,S⟩ y with
   |none=>rfl
   |some v=>dsimp only;cases yM o u v<;>rfl
 |len x=>
  show(match St.rows ⟨V,L,S⟩ [] ((nN x).f V L) with |some es=>fI (Int.ofNat es.length) fun n=>dQ V L S d (.w (.c (.v (.int .i64 n))))|none=>none)=(match(match St.rows ⟨V,L,S⟩ [] (St.arg ⟨V,L,S⟩ x) with |some es=>some (AV.w (.c (.v (.int .i64 es.length))))|none=>none) with |some x=>jE x fun x=>dQ V L S d x|none=>none)
  rw[EF x V L S];cases St.rows ⟨V,L,S⟩ [] (St.arg ⟨V,L,S⟩ x)<;>rfl
 |ld1 p=>
  show(match St.cells ⟨V,L,S⟩ [] 1 ((nN p).f V L) with |some (c::_)=>dQ V L S d (.w (.c c))|_=>none)=(match(match St.cells ⟨V,L,S⟩ [] 1 (St.arg ⟨V,L,S⟩ p) with |some (c::_)=>some (AV.w (.c c))|_=>none) with |some x=>dQ V L S d x|none=>none)
  rw[EF p V L S]
  cases St.cells ⟨V,L,S⟩ [] 1 (St.arg ⟨V,L,S⟩ p) with
  |none=>rfl
  |some l=>cases l<;>rfl
 |uX p off=>
  show(match St.cells ⟨V,L,S⟩ [] 0 ((nN p).f V L),(nN p).f V L with |some _,some q=>jE (q.shift off) fun x=>dQ V L S d x|_,_=>none)=(match(match St.cells ⟨V,L,S⟩ [] 0 (St.arg ⟨V,L,S⟩ p),St.arg ⟨V,L,S⟩ p with |some _,some q=>some (q.shift off)|_,_=>none) with |some x=>jE x fun x=>dQ V L S d x|none=>none)
  rw[EF p V L S];cases St.cells ⟨V,L,S⟩ [] 0 (St.arg ⟨V,L,S⟩ p)<;>cases St.arg ⟨V,L,S⟩ p<;>rfl
 |Cp p=>
  show(match St.cells ⟨V,L,S⟩ [] 0 ((nN p).f V L),(nN p).f V L with |some _,some q=>jE q fun x=>dQ V L S d x|_,_=>none)=(match(match St.cells ⟨V,L,S⟩ [] 0 (St.arg ⟨V,L,S⟩ p),St.arg ⟨V,L,S⟩ p with |some _,some q=>some q|_,_=>none) with |some x=>jE x fun x=>dQ V L S d x|none=>none)
  rw[EF p V L S];cases St.cells ⟨V,L,S⟩ [] 0 (St.arg ⟨V,L,S⟩ p)<;>cases St.arg ⟨V,L,S⟩ p<;>rfl
 |idx k x i=>
  show(match Ek k (St.rows ⟨V,L,S⟩ [] ((nN x).f V L)) ((nN x).f V L) ((yN i).f V L) with |some x=>jE x fun x=>dQ V L S d x|none=>none)=_
  rw[EF x V L S,Ow i V L S];rfl
 |pick c x y=>
  show(match(yN c).f V L with |some (.bool true)=>(match(nN x).f V L with |some x=>dQ V L S d x|none=>none)|some (.bool false)=>(match(nN y).f V L with |some x=>dQ V L S d x|none=>none)|_=>none)=(match(match St.sc ⟨V,L,S⟩ c with |some (.bool true)=>St.arg ⟨V,L,S⟩ x|some (.bool false)=>St.arg ⟨V,L,S⟩ y|_=>none) with |some x=>dQ V L S d x|none=>none)
  rw[Ow c V L S,EF x V L S,EF y V L S]
  cases St.sc ⟨V,L,S⟩ c with
  |none=>rfl
  |some v=>
   cases v with
   |bool b=>cases b<;>rfl
   |_=>rfl
 |Co x=>
  show(match(yN x).f V L with |some (.string s)=>fI (Int.ofNat s.size) fun n=>dQ V L S d (.w (.c (.v (.int .i64 n))))|_=>none)=(match(match St.sc ⟨V,L,S⟩ x with |some (.string s)=>some (AV.w (.c (.v (.int .i64 s.size))))|_=>none) with |some x=>jE x fun x=>dQ V L S d x|none=>none)
  rw[Ow x V L S]
  cases St.sc ⟨V,L,S⟩ x with
  |none=>rfl
  |some v=>cases v<;>rfl
 |qO k x lo hi=>cases lo<;>rfl
 |vh k n za qs=>
  show(match xW U ⟨V,L,S⟩ (.vh k n za qs) with |some (x,_)=>jE x fun x=>dQ V L S d x|none=>none)=_
  rfl
 |_=>rfl
abbrev C1:=FuncId->List AW->Option AV
abbrev C2:=FuncId->List AV->List (Nat×Slot)->Option (AV×List (Nat×Slot))
def iM (P:Program)(c:C1):Prop:=∀f args x,c f args=some x->bj P f args (fun y=>y=x)
def EG (P:Program)(c:C2):Prop:=∀f args T x Y,c f args T=some (x,Y)->Y.map (·.1)=T.map (·.1)/\iK P f args T (fun y S'=>y=x/\∀p∈Y,S' p.1=p.2)
def SL:List Nat->List Nat->Bool
 |[],[]=>true
 |a::l,b::m=>match Nat.beq a b with
  |true=>SL l m
  |false=>false
 |_,_=>false
theorem agB:∀{l m:List Nat},SL l m=true->l=m
 |[],[],_=>rfl
 |[],_::_,h=>by cases h
 |_::_,[],h=>by cases h
 |a::l,b::m,h=>by
  unfold SL at h
  cases hb:Nat.beq a b with
  |true=>rw[hb] at h;rw[et hb,agB h]
  |false=>rw[hb] at h;cases h
noncomputable def SM (c1:C1)(c2:C2)(op:ft):Lj GoT:=match op with
 | .call f ys=>⟨fun _ V L S d=>match oU ⟨V,L,S⟩ ys with
  |some ws=>match c1 f ws with
   |some x=>jE x fun x=>dQ V L S d x
   |none=>none
  |none=>none⟩
 | .nM f ys D=>⟨fun U V L S d=>match mY ⟨V,L,S⟩ ys with
  |some ws=>match ws.all (iL D) && (D.all fun s=>(aJ S s).isSome && fK D (St.slot ⟨V,L,S⟩ s) && qZ U s) with
   |true=>match c2 f ws (gU ⟨V,L,S⟩ D) with
    |some (x,Y)=>match SL (Y.map (·.1)) D && (iL D x && Y.all fun p=>fK D p.2) with
     |true=>jE x fun x=>AE (mE Y ⟨V,L,S⟩).S fun S'=>dQ V L S' d x
     |false=>none
    |none=>none
   |false=>none
  |none=>none⟩
 |op=>Yy op
noncomputable def cO (c1:C1)(c2:C2)(U:Option (List Nat))(b:BO):Lj (List (Nat×AV)->List (Nat×AV)->List (Nat×Slot)->Option St):=match b with
 |⟨d,g,op⟩=>match SM c1 c2 op with
  |⟨f⟩=>match g with
   |none=>⟨fun V L S=>f U V L S d⟩
   |some (t,want)=>⟨fun V L S=>match lS (Il V L t) want with
    |some true=>f U V L S d
    |some false=>dQ V L S d (.bP [])
    |none=>none⟩
noncomputable def xO (c1:C1)(c2:C2)(U:Option (List Nat))(st:St)(b:BO):Option St:=match cO c1 c2 U b,st with
 |⟨f⟩,⟨V,L,S⟩=>f V L S
section
variable {P:Program} {c1:C1} {c2:C2}
variable {K:St->Prop} {U:Option (List Nat)} {st':St}
theorem ati(l:List (Nat×Slot))(st:St):(mE l st).V=st.V/\(mE l st).L=st.L:=by rw[Oh];exact⟨rfl,rfl⟩
theorem agC(h1:iM P c1)(h2:EG P c2){V L:List (Nat×AV)}{S:List (Nat×Slot)}{d:Option Nat}{op:ft}(h:(SM c1 c2 op).f U V L S d=some st')(hK:K st'):
  tN P U op ⟨V,L,S⟩ fun x st2=>K (st2.eR d x):=by
 have gen:(Yy op).f U V L S d=some st'->tN P U op ⟨V,L,S⟩ fun x st2=>K (st2.eR d x):=fun h=>by
  rw[ath] at h;have:=atf h;rw[bU] at this;obtain⟨⟨x,st2⟩,g1,g2⟩:=this;refine XO g1 ?_;dsimp only at g2;rw[g2];exact hK
 unfold SM at h;split at h
 ·rename_i f ys;dsimp only at h;split at h
  ·rename_i ws Yz;split at h
   ·rename_i x hx;rw[Lg,EE] at h;cases h;exact⟨ws,_,Yz,h1 f ws x hx,fun y hy=>by rw[hy];exact hK⟩
   ·cases h
  ·cases h
 ·rename_i f ys D;dsimp only at h;split at h
  ·rename_i ws Yz;split at h
   ·rename_i hc;rw[bZ] at hc;obtain⟨jV,dW⟩:=hc;split at h
    ·rename_i x Y hx;split at h
     ·rename_i hl;rw[bZ,bZ] at hl;obtain⟨cD,fb,rm⟩:=hl;have hY:=agB cD;rw[Lg,Lh,EE] at h;cases h
      have hD:∀s∈D,(aJ S s).isSome=true/\fK D (St.slot ⟨V,L,S⟩ s)=true/\qZ U s=true:=fun s hs=>by
       have:=fE.1 dW s hs;simp only[bZ] at this;exact⟨this.1.1,this.1.2,this.2⟩
      refine⟨ws,_,Yz,jV,fun s hs=>⟨(hD s hs).1,(hD s hs).2.1⟩,fun s hs=>Sh (hD s hs).2.2,(h2 f ws _ x Y hx).2,?_⟩;rintro r S' ⟨rfl,hS⟩;refine⟨⟨fb,fun s hs=> ?_⟩,?_⟩
      ·rw[<-hY] at hs;obtain⟨p,hp,rfl⟩:=dp.1 hs;rw[hS p hp];exact fE.1 rm p hp
      ·have e1:mZ D S' ⟨V,L,S⟩=mE Y ⟨V,L,S⟩:=by
        rw[Oh];unfold mZ;rw[XW Y S D S' hS (fun s=>by rw[hY])]
       rw[e1];obtain⟨g1,g2⟩:=ati Y ⟨V,L,S⟩
       have e2:mE Y ⟨V,L,S⟩=⟨V,L,(mE Y ⟨V,L,S⟩).S⟩:=by
        generalize mE Y ⟨V,L,S⟩=q at g1 g2⊢;obtain⟨a,b,c⟩:=q;dsimp only at g1 g2;rw[g1,g2]
       rw[e2];exact hK
     ·cases h
    ·cases h
   ·cases h
  ·cases h
 ·exact gen h
theorem SN(h1:iM P c1)(h2:EG P c2){st:St}{b:BO}(h:xO c1 c2 U st b=some st')(hK:K st'):sG U (b.ao P) K st:=by
 obtain⟨V,L,S⟩:=st;obtain⟨d,g,op⟩:=b
 cases g with
 |none=>exact agC h1 h2 (op:=op) (U:=U) (d:=d) h hK
 |some p=>
  obtain⟨t,want⟩:=p
  change (match lS (Il V L t) want with
   |some true=>(SM c1 c2 op).f U V L S d
   |some false=>dQ V L S d (.bP [])
   |none=>none)=some st' at h
  rw[Yw V L S] at h
  show(match lS (St.arg ⟨V,L,S⟩ (.t t)) want with
   |some true=>_
   |some false=>_
   |none=>False)
  split at h
  ·rename_i hw;have hw:lS (St.arg ⟨V,L,S⟩ (.t t)) want=some true:=hw;rw[hw];exact agC h1 h2 (op:=op) (U:=U) (d:=d) h hK
  ·rename_i hw;have hw:lS (St.arg ⟨V,L,S⟩ (.t t)) want=some false:=hw;rw[hw];dsimp only;rw[Si];rw[EE] at h;cases h;exact hK
  ·cases h
end
variable {L L' V:List (Nat×AV)} {P:Program} {U:List Nat} {c1:C1} {c2:C2} {f:FuncId} {lP:List (FuncId×FD)} {x:AV} {y:aQ}
noncomputable def xL (c1:C1)(c2:C2)(U:Option (List Nat))(l:List BO):St->Option St:=List.rec (motive:=fun _=>St->Option St) (fun st=>some st) (fun b _ ih st=>match xO c1 c2 U st b with
 |some st'=>ih st'
 |none=>none) l
theorem YA {P:Program}{c1:C1}{c2:C2}(h1:iM P c1)(h2:EG P c2){U:Option (List Nat)}:∀{l:List BO} {st st':St},xL c1 c2 U l st=some st'->∀{K:St->Prop},K st'->bB U (l.map (BO.ao P)) K st
 |[],st,st',h,K,hK=>by cases h;exact hK
 |b::l,st,st',h,K,hK=>by
  change (match xO c1 c2 U st b with
   |some st'=>xL c1 c2 U l st'
   |none=>none)=some st' at h
  split at h
  ·rename_i st2 hb;exact SN h1 h2 hb (YA h1 h2 h hK)
  ·cases h
noncomputable def xT (U:List Nat)(st:St)(b:BO)(bu:Bool):Option St:=match st,b with
 |⟨V,L,S⟩,⟨d,g,op⟩=>match cC op with
  |none=>none
  |some (mem,_)=>match mem && bu with
   |true=>none
   |false=>match g with
    |none=>match Ik U ⟨V,L,S⟩ op with
     |some x=>jE x fun x=>dQ V L S d x
     |none=>none
    |some (t,want)=>match lS (St.arg ⟨V,L,S⟩ (.t t)) want with
     |some true=>match Ik U ⟨V,L,S⟩ op with
      |some x=>jE x fun x=>dQ V L S d x
      |none=>none
     |some false=>dQ V L S d (.bP [])
     |none=>none
theorem atj{st st':St}{b:BO}{bu:Bool}(h:xT U st b bu=some st'):EA U st b bu=some st':=by
 obtain⟨V,L,S⟩:=st;obtain⟨d,g,op⟩:=b;unfold xT at h;unfold EA;dsimp only at h⊢;split at h
 ·cases h
 rename_i mem ev aI;rw[aI];dsimp only;split at h
 ·cases h
 rename_i hm
 have Ll:¬(mem=true/\bu=true):=fun⟨e1,e2⟩=>by rw[e1,e2] at hm;cases hm
 rw[af Ll]
 have key:(match Ik U ⟨V,L,S⟩ op with
     |some x=>jE x fun x=>dQ V L S d x
     |none=>none)=some st'->((ev ⟨V,L,S⟩ U).map fun x=>(St.mk V L S).eR d x)=some st':=fun h=>by
  split at h
  ·rename_i x hx;rw[Lg,EE] at h;obtain⟨m,ev',he,hv⟩:=agy hx;rw[aI] at he;cases he;rw[hv];exact h
  ·cases h
 cases g with
 |none=>exact key h
 |some p=>
  obtain⟨t,want⟩:=p;dsimp only at h⊢;split at h
  ·rename_i hv;rw[hv];exact key h
  ·rename_i hv;rw[hv];rw[EE] at h;exact h
  ·cases h
def Ox:Value->Value->Bool
 | .int k a,.int k' b=>decide (k=k') && decide (a=b)
 | .bool a,.bool b=>decide (a=b)
 | .string ⟨⟨a⟩⟩,.string ⟨⟨b⟩⟩=>Ij a b
 | .slice none 0 0,.slice none 0 0=>true
 |_,_=>false
theorem atk{x y:Value}(h:Ox x y=true):x=y:=by
 unfold Ox at h;split at h
 ·simp only[bZ,dv] at h;rw[h.1,h.2]
 ·simp only[dv] at h;rw[h]
 ·rw[Ou,DT] at h;rw[h]
 ·rfl
 ·cases h
noncomputable def Im (x:AC):AC->Bool:=AC.rec (motive_1:=fun _=>AC->Bool) (motive_2:=fun _=>List (List AC)->Bool) (motive_3:=fun _=>List AC->Bool)
 (fun v y=>match y with | .v u=>Ox v u|_=>false) (fun _ ih y=>match y with | .sl fs=>ih fs|_=>false) (fun s g y=>match y with | .own s' g'=>Nat.beq s s' && Nat.beq g g'|_=>false) (fun _ _ _=>false) (fun _ _ _ _=>false) (fun _ _ _ _=>false) (fun _ _ _=>false)
 (fun l=>match l with |[]=>true|_=>false) (fun _ _ jC jD l=>match l with |b::m=>jC b && jD m|[]=>false) (fun l=>match l with |[]=>true|_=>false) (fun _ _ jC jD l=>match l with |b::m=>jC b && jD m|[]=>false) x
theorem Oy(x:AC):∀y,Im x y=true->x=y:=by
 refine AC.rec (motive_1:=fun x=>∀y,Im x y=true->x=y)
  (motive_2:=fun l=>∀m,(AC.rec_1 (motive_1:=fun _=>AC->Bool) (motive_2:=fun _=>List (List AC)->Bool) (motive_3:=fun _=>List AC->Bool)
   (fun v y=>match y with | .v u=>Ox v u|_=>false) (fun _ ih y=>match y with | .sl fs=>ih fs|_=>false) (fun s g y=>match y with | .own s' g'=>Nat.beq s s' && Nat.beq g g'|_=>false) (fun _ _ _=>false) (fun _ _ _ _=>false) (fun _ _ _ _=>false) (fun _ _ _=>false)
   (fun l=>match l with |[]=>true|_=>false) (fun _ _ jC jD l=>match l with |b::m=>jC b && jD m|[]=>false) (fun l=>match l with |[]=>true|_=>false) (fun _ _ jC jD l=>match l with |b::m=>jC b && jD m|[]=>false) l:List (List AC)->Bool) m=true->l=m)
  (motive_3:=fun l=>∀m,(AC.rec_2 (motive_1:=fun _=>AC->Bool) (motive_2:=fun _=>List (List AC)->Bool) (motive_3:=fun _=>List AC->Bool)
   (fun v y=>match y with | .v u=>Ox v u|_=>false) (fun _ ih y=>match y with | .sl fs=>ih fs|_=>false) (fun s g y=>match y with | .own s' g'=>Nat.beq s s' && Nat.beq g g'|_=>false) (fun _ _ _=>false) (fun _ _ _ _=>false) (fun _ _ _ _=>false) (fun _ _ _=>false)
   (fun l=>match l with |[]=>true|_=>false) (fun _ _ jC jD l=>match l with |b::m=>jC b && jD m|[]=>false) (fun l=>match l with |[]=>true|_=>false) (fun _ _ jC jD l=>match l with |b::m=>jC b && jD m|[]=>false) l:List AC->Bool) m=true->l=m)
  ?_ ?_ ?_ (fun _ _ _ h=>by cases h) (fun _ _ _ _ h=>by cases h) (fun _ _ _ _ h=>by cases h) (fun _ _ _ h=>by cases h) ?_ ?_ ?_ ?_ x
 ·intro v y h
  cases y with
  |v u=>exact aF _ (atk h)
  |sl es=>cases h
  |own s g=>cases h
  |_=>cases h
 ·intro es ih y h
  cases y with
  |v u=>cases h
  |sl fs=>exact aF _ (ih fs h)
  |own s g=>cases h
  |_=>cases h
 ·intro s g y h
  cases y with
  |v u=>cases h
  |sl fs=>cases h
  |own s' g'=>
   change (Nat.beq s s' && Nat.beq g g')=true at h;rw[bZ] at h;rw[et h.1,et h.2]
  |_=>cases h
 ·intro m h
  cases m with
  |nil=>rfl
  |cons b m=>cases h
 ·intro a l h1 h2 m h
  cases m with
  |nil=>cases h
  |cons b m=>
   have:=Gr.1 h;rw[h1 b this.1,h2 m this.2]
 ·intro m h
  cases m with
  |nil=>rfl
  |cons b m=>cases h
 ·intro a l h1 h2 m h
  cases m with
  |nil=>cases h
  |cons b m=>
   have:=Gr.1 h;rw[h1 b this.1,h2 m this.2]
def cL {α:Type}(f:α->α->Bool):List α->List α->Bool
 |[],[]=>true
 |a::l,b::m=>f a b && cL f l m
 |_,_=>false
theorem AG {α:Type}{f:α->α->Bool}(hf:∀a b,f a b=true->a=b):∀{l m:List α},cL f l m=true->l=m
 |[],[],_=>rfl
 |[],_::_,h=>by cases h
 |_::_,[],h=>by cases h
 |a::l,b::m,h=>by
  have:=Gr.1 h;rw[hf a b this.1,AG hf this.2]
noncomputable def Oz:AW->AW->Bool
 | .c x,.c y=>Im x y
 | .agg x,.agg y=>cL (fun a b=>Im a b) x y
 |_,_=>false
theorem YB{x y:AW}(h:Oz x y=true):x=y:=by
 unfold Oz at h;split at h
 ·rw[Oy _ _ h]
 ·rw[AG (fun a b=>Oy a b) h]
 ·cases h
noncomputable def Lm:AV->AV->Bool
 | .w x,.w y=>Oz x y
 | .bP x,.bP y=>cL (fun a b=>Oz a b) x y
 | .pb s g o,.pb s' g' o'=>Nat.beq s s' && (Nat.beq g g' && Nat.beq o o')
 | .pr s g i o,.pr s' g' i' o'=>Nat.beq s s' && (Nat.beq g g' && (Nat.beq i i' && Nat.beq o o'))
 | .pi x o,.pi y o'=>cL (fun a b=>Im a b) x y && Nat.beq o o'
 | .u,.u=>true
 |_,_=>false
theorem SP{y:AV}(h:Lm x y=true):x=y:=by
 unfold Lm at h;split at h
 ·rw[YB h]
 ·rw[AG (fun a b=>YB) h]
 ·simp only[bZ] at h;rw[et h.1,et h.2.1,et h.2.2]
 ·simp only[bZ] at h;rw[et h.1,et h.2.1,et h.2.2.1,et h.2.2.2]
 ·simp only[bZ] at h;rw[AG (fun a b=>Oy a b) h.1,et h.2]
 ·rfl
 ·cases h
noncomputable def YC:Slot->Slot->Bool
 | .dead g,.dead g'=>Nat.beq g g'
 | .box g x,.box g' y=>Nat.beq g g' && cL (fun a b=>Im a b) x y
 | .row e k g x,.row e' k' g' y=>Nat.beq e e' && (Nat.beq k k' && (Nat.beq g g' && cL (fun a b=>cL (fun a b=>Im a b) a b) x y))
 |_,_=>false
theorem atl{x y:Slot}(h:YC x y=true):x=y:=by
 unfold YC at h;split at h
 ·rw[et h]
 ·simp only[bZ] at h;rw[et h.1,AG (fun a b=>Oy a b) h.2]
 ·simp only[bZ] at h;rw[et h.1,et h.2.1,et h.2.2.1,AG (fun a b=>AG (fun a b=>Oy a b)) h.2.2.2]
 ·cases h
noncomputable def YD (V V':List (Nat×AV))(S S':List (Nat×Slot)):Bool:=cL (fun p q=>Nat.beq p.1 q.1 && Lm p.2 q.2) V V' && cL (fun p q=>Nat.beq p.1 q.1 && YC p.2 q.2) S S'
theorem atm{V':List (Nat×AV)}{S S':List (Nat×Slot)}(h:YD V V' S S'=true):V=V'/\S=S':=by
 have:=Gr.1 h;refine⟨AG (fun p q hh=> ?_) this.1,AG (fun p q hh=> ?_) this.2⟩
 ·have h2:=Gr.1 hh;exact Prod.ext (et h2.1) (SP h2.2)
 ·have h2:=Gr.1 hh;exact Prod.ext (et h2.1) (atl h2.2)
noncomputable def agree (L1 L2:List (Nat×AV)):List (Nat×AV)->List (Nat×AV)
 |[]=>[]
 |(i,x)::L=>match aJ L1 i,aJ L2 i with
  |some a,some b=>match Lm x a && Lm x b with
   |true=>(i,x)::agree L1 L2 L
   |false=>agree L1 L2 L
  |_,_=>agree L1 L2 L
noncomputable def Io (c1:C1)(c2:C2)(U:List Nat)(l tl:List BO)(t:OT):Bool->St->Option St:=OT.rec (motive:=fun _=>Bool->St->Option St)
 (fun _ st=>xL c1 c2 none tl st)
 (fun i _ ih m st=>match l[i]? with
  |some b=>match xT U st b m with
   |some st'=>ih m st'
   |none=>none
  |none=>none)
 (fun i _ ih _ st=>match l[i]? with
  |some b=>match xO c1 c2 (some U) st b with
   |some st'=>ih true st'
   |none=>none
  |none=>none)
 (fun i j _ _ ihi ihj _ st=>match l[i]?,l[j]? with
  |some b,some b'=>match xO c1 c2 (some U) st b,xO c1 c2 (some U) st b' with
   |some s1,some s2=>match ihi true s1,ihj true s2 with
    |some ⟨V,L,S⟩,some ⟨V',L',S'⟩=>match YD V V' S S' with
     |true=>Le (agree L L' L) fun L=>some ⟨V,L,S⟩
     |false=>none
    |_,_=>none
   |_,_=>none
  |_,_=>none)
 (fun _ _ _ _ _ _ _ _ _ _ _=>none) t
def Ext (L' L:List (Nat×AV)):Prop:=∀i x,aJ L' i=some x->aJ L i=some x
theorem Ext.refl(L:List (Nat×AV)):Ext L L:=fun _ _ h=>h
theorem Ext.nil(L:List (Nat×AV)):Ext [] L:=fun _ _ h=>by simp[aJ] at h
theorem OA (L1 L2:List (Nat×AV)):∀(L:List (Nat×AV)) (i:Nat) (x:AV),aJ (agree L1 L2 L) i=some x->aJ L1 i=some x/\aJ L2 i=some x
 |[],i,x,h=>by simp[agree,aJ] at h
 |(j,y)::L,i,x,h=>by
  unfold agree at h;split at h
  ·rename_i a b ha hb;split at h
   ·rename_i hc;have hc:=Gr.1 hc;unfold aJ at h;split at h
    ·rename_i Ag;cases h;subst Ag;exact⟨by rw[ha,<-SP hc.1],by rw[hb,<-SP hc.2]⟩
    ·exact OA L1 L2 L i x h
   ·exact OA L1 L2 L i x h
  ·exact OA L1 L2 L i x h
theorem OB {P:Program}{c1:C1}{c2:C2}(h1:iM P c1)(h2:EG P c2){U:List Nat}{l tl:List BO}{K:St->Prop}:∀{t:OT} {m:Bool} {st st':St},Io c1 c2 U l tl t m st=some st'->(∀L,Ext st'.L L->K ⟨st'.V,L,st'.S⟩)->aW U (l.map (BO.ao P)) (tl.map (BO.ao P)) K t m st
 | .nil,m,st,st',h,hK=>vw (YA h1 h2 h (hK st'.L (Ext.refl _)))
 | .take i t,m,st,st',h,hK=>by
  change (match l[i]? with
  |some b=>match xT U st b m with
   |some st'=>Io c1 c2 U l tl t m st'
   |none=>none
  |none=>none)=some st' at h
  split at h
  ·rename_i b hb;split at h
   ·rename_i st2 hx;exact rf hb (atj hx) (OB h1 h2 h hK)
   ·cases h
  ·cases h
 | .move i t,m,st,st',h,hK=>by
  change (match l[i]? with
  |some b=>match xO c1 c2 (some U) st b with
   |some st'=>Io c1 c2 U l tl t true st'
   |none=>none
  |none=>none)=some st' at h
  split at h
  ·rename_i b hb;split at h
   ·rename_i st2 hx;unfold aW;rw[fD,hb];exact SN h1 h2 hx (OB h1 h2 h hK)
   ·cases h
  ·cases h
 | .wR i j k ti tj tk,m,st,st',h,hK=>by
  change none=some st' at h;cases h
 | .fork i j ti tj,m,st,st',h,hK=>by
  change (match l[i]?,l[j]? with
  |some b,some b'=>match xO c1 c2 (some U) st b,xO c1 c2 (some U) st b' with
   |some s1,some s2=>match Io c1 c2 U l tl ti true s1,Io c1 c2 U l tl tj true s2 with
    |some ⟨V,L,S⟩,some ⟨V',L',S'⟩=>match YD V V' S S' with
     |true=>Le (agree L L' L) fun L=>some ⟨V,L,S⟩
     |false=>none
    |_,_=>none
   |_,_=>none
  |_,_=>none)=some st' at h
  split at h
  case h_2=>cases h
  rename_i b b' hb sE;split at h
  case h_2=>cases h
  rename_i s1 s2 hx sF;split at h
  case h_2=>cases h
  rename_i V L S V' L' S' hy hy';split at h
  case h_2=>cases h
  rename_i he;rw[SE] at h;cases h;obtain⟨e1,e2⟩:=atm he;refine yF ?_ ?_
  ·unfold aW;rw[fD,hb];exact SN h1 h2 hx (OB h1 h2 hy (fun L3 h3=>hK L3 (fun i x hi=>h3 i x (OA L L' L i x hi).1)))
  ·unfold aW;rw[fD,sE];refine SN h1 h2 sF (OB h1 h2 hy' ?_);rw[<-e1,<-e2]
   exact fun L3 h3=>hK L3 (fun i x hi=>h3 i x (OA L L' L i x hi).2)
noncomputable def YE (f:St->Option (gV×St))(n:Nat):St->Option (gV×St):=Nat.rec (motive:=fun _=>St->Option (gV×St)) (fun _=>none) (fun _ ih st=>match f st with
 |some (e,st')=>match e with
  | .normal=>ih st'
  |e=>some (e,st')
 |none=>none) n
noncomputable def xB (c1:C1)(c2:C2)(n:Nat)(c:fA):St->Option (gV×St):=fA.rec (motive:=fun _=>St->Option (gV×St))
 (fun st=>some (.normal,st)) (fun st=>some (.ret,st)) (fun id st=>some (.exit id,st))
 (fun _ _ jC jD st=>match jC st with
  |some (e,st')=>match e with
   | .normal=>jD st'
   |e=>some (e,st')
  |none=>none)
 (fun t _ _ jC jD st=>match st.sc t with
  |some (.bool b)=>match b with
   |true=>jC st
   |false=>jD st
  |_=>none)
 (fun id _ ih st=>match ih st with
  |some (e,st')=>match e with
   | .exit pM=>match Nat.beq pM id with
    |true=>some (.normal,st')
    |false=>some (.exit pM,st')
   |e=>some (e,st')
  |none=>none)
 (fun _ ih st=>YE ih n st)
 (fun l st=>match st with
  |⟨V,_,S⟩=>match xL c1 c2 none l ⟨V,[],S⟩ with
   |some st'=>some (.normal,st')
   |none=>none)
 (fun l k t U st=>match st with
  |⟨V,_,S⟩=>match Io c1 c2 U l (l.drop k) t false ⟨V,[],S⟩ with
   |some st'=>some (.normal,st')
   |none=>none)
 (fun s _ ih st=>match st with
  |⟨V,_,S⟩=>match St.freeze ⟨V,[],S⟩ s with
   |⟨V,_,S⟩=>Oq V fun V=>Oo S fun S=>ih ⟨V,[],S⟩)
 (fun b off s e k _ ih st=>match st with
  |⟨V,_,S⟩=>match St.mB ⟨V,[],S⟩ b off s e k with
   |⟨_,_,S⟩=>AE S fun S=>ih ⟨V,[],S⟩) c
theorem SQ{S:List (Nat×Slot)}(hE:Ext L' L){i:Nat}(h:St.get ⟨V,L',S⟩ i=some x):St.get ⟨V,L,S⟩ i=some x:=by
 unfold St.get at h⊢;dsimp only at h⊢;split at h
 ·exact h
 ·exact hE i x h
theorem atn{S:List (Nat×Slot)}(hE:Ext L' L)(h:St.arg ⟨V,L',S⟩ y=some x):St.arg ⟨V,L,S⟩ y=some x:=by
 cases y with
 |t i=>exact SQ hE h
 |k w=>exact h
theorem agD{S:List (Nat×Slot)}(hE:Ext L' L){x:Value}(h:St.sc ⟨V,L',S⟩ y=some x):St.sc ⟨V,L,S⟩ y=some x:=by
 unfold St.sc at h⊢
 cases ha:St.arg ⟨V,L',S⟩ y with
 |none=>rw[ha] at h;cases h
 |some z=>rw[ha] at h;rw[atn hE ha];exact h
theorem ato(V L:List (Nat×AV))(S:List (Nat×Slot))(s:Nat):(St.freeze ⟨V,L,S⟩ s).V=(St.freeze ⟨V,[],S⟩ s).V/\(St.freeze ⟨V,L,S⟩ s).S=(St.freeze ⟨V,[],S⟩ s).S:=by
 unfold St.freeze;have e:(St.mk V L S).slot s=(St.mk V [] S).slot s:=rfl;rw[e];split
 ·split
  ·exact⟨rfl,rfl⟩
  ·exact⟨rfl,rfl⟩
 ·exact⟨rfl,rfl⟩
theorem atp(V L:List (Nat×AV))(S:List (Nat×Slot))(b off s e k:Nat):(St.mB ⟨V,L,S⟩ b off s e k).V=V/\(St.mB ⟨V,L,S⟩ b off s e k).S=(St.mB ⟨V,[],S⟩ b off s e k).S:=by
 unfold St.mB
 have e1:∀i,(St.mk V L S).slot i=(St.mk V [] S).slot i:=fun _=>rfl
 simp only[e1];split
 ·split
  ·split
   ·exact⟨rfl,rfl⟩
   ·exact⟨rfl,rfl⟩
  ·exact⟨rfl,rfl⟩
 ·exact⟨rfl,rfl⟩
def BOk (P:Program)(c:fA)(st:St)(e:gV)(st':St):Prop:=∀Q:gV->St->Prop,(∀L,Ext st'.L L->Q e ⟨st'.V,L,st'.S⟩)->∀L,Ext st.L L->aP (lift P c) Q ⟨st.V,L,st.S⟩
theorem agE {P:Program}{f:St->Option (gV×St)}{body:fA}(hb:∀{st st':St} {e:gV},f st=some (e,st')->BOk P body st e st'):
  ∀{n:Nat} {st st':St} {e:gV},YE f n st=some (e,st')->∀Q:gV->St->Prop,(∀L,Ext st'.L L->Q e ⟨st'.V,L,st'.S⟩)->∀L,Ext st.L L->Hh (aP (lift P body)) Q n ⟨st.V,L,st.S⟩
 |0,st,st',e,h=>by cases h
 |n+1,st,st',e,h=>by
  intro Q hQ L hL
  change (match f st with
   |some (e,st')=>match e with
    | .normal=>YE f n st'
    |e=>some (e,st')
   |none=>none)=some (e,st') at h
  split at h
  ·rename_i e2 st2 hf;refine hb hf _ (fun L2 xj=> ?_) L hL;split at h
   ·exact agE hb h Q hQ L2 xj
   ·rename_i hne;cases h
    cases e with
    |normal=>exact(hne rfl).elim
    |exit id=>exact hQ L2 xj
    |ret=>exact hQ L2 xj
  ·cases h
theorem AH {P:Program}{c1:C1}{c2:C2}(h1:iM P c1)(h2:EG P c2){n:Nat}:∀{c:fA} {st st':St} {e:gV},xB c1 c2 n c st=some (e,st')->BOk P c st e st'
 | .skip,st,st',e,h=>by cases h;exact fun Q hQ L hL=>hQ L hL
 | .ret,st,st',e,h=>by cases h;exact fun Q hQ L hL=>hQ L hL
 | .exit id,st,st',e,h=>by cases h;exact fun Q hQ L hL=>hQ L hL
 | .seq x y,st,st',e,h=>by
  intro Q hQ L hL
  change (match xB c1 c2 n x st with
   |some (e,st')=>match e with
    | .normal=>xB c1 c2 n y st'
    |e=>some (e,st')
   |none=>none)=some (e,st') at h
  split at h
  ·rename_i e2 st2 hx;refine AH h1 h2 (c:=x) hx _ (fun L2 xj=> ?_) L hL;split at h
   ·exact AH h1 h2 (c:=y) h Q hQ L2 xj
   ·rename_i hne;cases h
    cases e with
    |normal=>exact(hne rfl).elim
    |exit id=>exact hQ L2 xj
    |ret=>exact hQ L2 xj
  ·cases h
 | .cond t x y,⟨V,L0,S⟩,st',e,h=>by
  intro Q hQ L hL
  change (match St.sc ⟨V,L0,S⟩ t with
   |some (.bool b)=>match b with
    |true=>xB c1 c2 n x ⟨V,L0,S⟩
    |false=>xB c1 c2 n y ⟨V,L0,S⟩
   |_=>none)=some (e,st') at h
  split at h
  ·rename_i b hb
   cases b with
   |true=>exact Sj (agD hL hb) (AH h1 h2 (c:=x) h Q hQ L hL)
   |false=>exact Sj (agD hL hb) (AH h1 h2 (c:=y) h Q hQ L hL)
  ·cases h
 | .block id c,st,st',e,h=>by
  intro Q hQ L hL
  change (match xB c1 c2 n c st with
   |some (e,st')=>match e with
    | .exit pM=>match Nat.beq pM id with
     |true=>some (.normal,st')
     |false=>some (.exit pM,st')
    |e=>some (e,st')
   |none=>none)=some (e,st') at h
  refine ari ?_;split at h
  ·rename_i e2 st2 hx;refine AH h1 h2 (c:=c) hx _ (fun L2 xj=> ?_) L hL;split at h
   ·rename_i pM
    show(if pM=id then _ else _)
    cases hb:Nat.beq pM id with
    |true=>rw[hb] at h;cases h;rw[aj (et hb)];exact hQ L2 xj
    |false=>rw[hb] at h;cases h;rw[af (Rl hb)];exact hQ L2 xj
   ·rename_i hne;cases h
    cases e with
    |normal=>exact hQ L2 xj
    |exit pM=>exact(hne pM rfl).elim
    |ret=>exact hQ L2 xj
  ·cases h
 | .loop c,st,st',e,h=>fun Q hQ L hL=>⟨n,agE (P:=P) (body:=c) (fun h=>AH h1 h2 (c:=c) h) h Q hQ L hL⟩
 | .region l,⟨V,L0,S⟩,st',e,h=>by
  intro Q hQ L hL
  change (match xL c1 c2 none l ⟨V,[],S⟩ with
   |some st'=>some (gV.normal,st')
   |none=>none)=some (e,st') at h
  split at h
  ·rename_i st2 hx;cases h;exact arh (YA h1 h2 hx (hQ _ (Ext.refl _)))
  ·cases h
 | .tM l k t U,⟨V,L0,S⟩,st',e,h=>by
  intro Q hQ L hL
  change (match Io c1 c2 U l (l.drop k) t false ⟨V,[],S⟩ with
   |some st'=>some (gV.normal,st')
   |none=>none)=some (e,st') at h
  split at h
  ·rename_i st2 hx;cases h;exact KT (OB h1 h2 hx hQ)
  ·cases h
 | .mC s c,⟨V,L0,S⟩,st',e,h=>by
  intro Q hQ L hL
  change (match St.freeze ⟨V,[],S⟩ s with
   |⟨V,_,S⟩=>Oq V fun V=>Oo S fun S=>xB c1 c2 n c ⟨V,[],S⟩)=some (e,st') at h
  split at h;rename_i V1 L1 S1 hs;rw[agu,agt] at h;obtain⟨e1,e2⟩:=ato V L S s;rw[hs] at e1 e2;refine XT (st':=⟨V1,(St.freeze ⟨V,L,S⟩ s).L,S1⟩) ?_ (AH h1 h2 (c:=c) h Q hQ _ (Ext.nil _));generalize St.freeze ⟨V,L,S⟩ s=q at e1 e2⊢;obtain⟨a,b,d⟩:=q;dsimp only at e1 e2⊢;rw[e1,e2]
 | .pL b off s e0 k c,⟨V,L0,S⟩,st',e,h=>by
  intro Q hQ L hL
  change (match St.mB ⟨V,[],S⟩ b off s e0 k with
   |⟨_,_,S⟩=>AE S fun S=>xB c1 c2 n c ⟨V,[],S⟩)=some (e,st') at h
  split at h;rename_i V1 L1 S1 hs;rw[Lh] at h;obtain⟨e1,e2⟩:=atp V L S b off s e0 k;rw[hs] at e2;refine XS (st':=⟨V,(St.mB ⟨V,L,S⟩ b off s e0 k).L,S1⟩) ?_ (AH h1 h2 (c:=c) h Q hQ _ (Ext.nil _));generalize St.mB ⟨V,L,S⟩ b off s e0 k=q at e1 e2⊢;obtain⟨a,b,d⟩:=q;dsimp only at e1 e2⊢;rw[e1,e2]
noncomputable def SR (lP:List (FuncId×FD))(c1:C1)(c2:C2)(n:Nat)(f:FuncId)(args:List AW):Option AV:=match On lP f with
 |some d=>match Nat.ble args.length d.nt with
  |true=>Le (V0 args 0 d.vs) fun V=>AE (S0 d.ss) fun S=>match xB c1 c2 n d.b ⟨V,[],S⟩ with
   |some (e,st)=>match e with
    | .exit _=>none
    |_=>match Ao st d.rv with
     |some xs=>some (ek xs)
     |none=>none
   |none=>none
  |false=>none
 |none=>none
noncomputable def YF (lP:List (FuncId×FD))(c1:C1)(c2:C2)(n:Nat)(f:FuncId)(args:List AV)(T:List (Nat×Slot)):Option (AV×List (Nat×Slot)):=match On lP f with
 |some d=>match Nat.ble args.length d.nt with
  |true=>Le (VM args 0 d.vs) fun V=>AE (T++S0 d.ss) fun S=>match xB c1 c2 n d.b ⟨V,[],S⟩ with
   |some (e,st)=>match e with
    | .exit _=>none
    |_=>match vy (T.map (·.1)) st d.rv with
     |some xs=>match(T.map (·.1)).all (fun s=>fK (T.map (·.1)) (st.slot s)) with
      |true=>some (ek xs,gU st (T.map (·.1)))
      |false=>none
     |none=>none
   |none=>none
  |false=>none
 |none=>none
noncomputable def xP (lP:List (FuncId×FD))(p:C1)(m n:Nat):C1×C2:=Nat.rec (motive:=fun _=>C1×C2) (fun _ _=>none,fun _ _ _=>none) (fun _ c=>
 (fun f args=>match p f args with
  |some x=>some x
  |none=>SR lP c.1 c.2 m f args,fun f args T=>YF lP c.1 c.2 m f args T)) n
theorem SS(hE:Ext L' L){S:List (Nat×Slot)}{n p:Nat}{cs:List AC}(h:St.cells ⟨V,L',S⟩ U n (St.get ⟨V,L',S⟩ p)=some cs):St.cells ⟨V,L,S⟩ U n (St.get ⟨V,L,S⟩ p)=some cs:=by
 cases hg:St.get ⟨V,L',S⟩ p with
 |none=>rw[hg] at h;cases h
 |some x=>rw[hg] at h;rw[SQ hE hg];exact h
theorem agF {V L' L:List (Nat×AV)}{S:List (Nat×Slot)}:∀l:List AC,St.jY ⟨V,L,S⟩ l=St.jY ⟨V,L',S⟩ l
 |[]=>rfl
 |x::l=>by
  have h1:St.fz ⟨V,L,S⟩ x=St.fz ⟨V,L',S⟩ x:=by cases x<;>rfl
  unfold St.jY;rw[h1,agF (L':=L') l]
theorem YG{S:List (Nat×Slot)}(x:AW):St.qX ⟨V,L,S⟩ x=St.qX ⟨V,L',S⟩ x:=by
 cases x with
 |c x=>cases x<;>rfl
 |agg cs=>show(St.jY _ cs).map _=_;rw[agF (L':=L')];rfl
theorem agG {D:List Nat}{V L' L:List (Nat×AV)}{S:List (Nat×Slot)}:∀l:List AC,St.kK D ⟨V,L,S⟩ l=St.kK D ⟨V,L',S⟩ l
 |[]=>rfl
 |x::l=>by
  have h1:St.pO D ⟨V,L,S⟩ x=St.pO D ⟨V,L',S⟩ x:=by cases x<;>rfl
  unfold St.kK;rw[h1,agG (L':=L') l]
theorem YH{D:List Nat}{S:List (Nat×Slot)}(x:AW):St.vx D ⟨V,L,S⟩ x=St.vx D ⟨V,L',S⟩ x:=by
 cases x with
 |c x=>cases x<;>rfl
 |agg cs=>show(St.kK D _ cs).map _=_;rw[agG (L':=L')];rfl
theorem YI {V L' L:List (Nat×AV)}{S:List (Nat×Slot)}(hE:Ext L' L):∀{rv:List RV} {xs:List AW},Ao ⟨V,L',S⟩ rv=some xs->Ao ⟨V,L,S⟩ rv=some xs
 |[],xs,h=>h
 |r::rv,xs,h=>by
  unfold Ao at h⊢;split at h
  ·rename_i x q hx hq
   have:Cr ⟨V,L,S⟩ r=some x:=by
    cases r with
    |t i=>
     simp only[Cr] at hx⊢;split at hx
     ·rename_i y hy;rw[SQ hE hy];dsimp only;rw[YG (L':=L')];exact hx
     ·cases hx
    |cell p n=>
     simp only[Cr] at hx⊢;split at hx
     ·rename_i y hy;rw[SS hE hy];dsimp only;rw[YG (L':=L')];exact hx
     ·cases hx
    |cell1 p=>
     simp only[Cr] at hx⊢;split at hx
     ·rename_i y hy;rw[SS hE hy];dsimp only;rw[YG (L':=L')];exact hx
     ·cases hx
   rw[this,YI hE hq];exact h
  ·cases h
theorem agH {D:List Nat}{V L' L:List (Nat×AV)}{S:List (Nat×Slot)}(hE:Ext L' L):∀{rv:List RV} {xs:List AW},vy D ⟨V,L',S⟩ rv=some xs->vy D ⟨V,L,S⟩ rv=some xs
 |[],xs,h=>h
 |r::rv,xs,h=>by
  unfold vy at h⊢;split at h
  ·rename_i x q hx hq
   have:Ar D ⟨V,L,S⟩ r=some x:=by
    cases r with
    |t i=>
     simp only[Ar] at hx⊢;split at hx
     ·rename_i y hy;rw[SQ hE hy];dsimp only;rw[YH (L':=L')];exact hx
     ·cases hx
    |cell p n=>
     simp only[Ar] at hx⊢;split at hx
     ·rename_i y hy;rw[SS hE hy];dsimp only;rw[YH (L':=L')];exact hx
     ·cases hx
    |cell1 p=>
     simp only[Ar] at hx⊢;split at hx
     ·rename_i y hy;rw[SS hE hy];dsimp only;rw[YH (L':=L')];exact hx
     ·cases hx
   rw[this,agH hE hq];exact h
  ·cases h
theorem atq(yO:∀q∈lP,EC P q.1 q.2)(h1:iM P c1)(h2:EG P c2){n:Nat}{args:List AW}(h:SR lP c1 c2 n f args=some x):bj P f args (fun y=>y=x):=by
 unfold SR at h;split at h
 ·rename_i d hd;obtain⟨owns,ts,fn,c,hE,hf,hb,ht,pN,AJ⟩:=yO _ (Yk hd);split at h
  ·rename_i hn;rw[SE,Lh] at h;split at h
   ·rename_i e st hx;have g2:=AH (P:=P) h1 h2 hx;obtain⟨V2,L2,S2⟩:=st;refine afe hE hf hb ht d.rv pN args (by rw[AJ];exact hn) d.vs d.ss (g2 _ (fun L hL=> ?_) [] (Ext.refl _));split at h
    ·cases h
    ·rename_i hne;split at h
     ·rename_i xs yw;cases h
      cases e with
      |exit id=>exact(hne id rfl).elim
      |normal=>exact⟨xs,YI hL yw,rfl⟩
      |ret=>exact⟨xs,YI hL yw,rfl⟩
     ·cases h
   ·cases h
  ·cases h
 ·cases h
theorem atr(yO:∀q∈lP,EC P q.1 q.2)(h1:iM P c1)(h2:EG P c2){n:Nat}{args:List AV}{T:List (Nat×Slot)}{Y:List (Nat×Slot)}(h:YF lP c1 c2 n f args T=some (x,Y)):
  Y.map (·.1)=T.map (·.1)/\iK P f args T (fun y S'=>y=x/\∀p∈Y,S' p.1=p.2):=by
 unfold YF at h;split at h
 ·rename_i d hd;obtain⟨owns,ts,fn,c,hE,hf,hb,ht,pN,AJ⟩:=yO _ (Yk hd);split at h
  ·rename_i hn;rw[SE,Lh] at h;split at h
   ·rename_i e st hx;have g2:=AH (P:=P) h1 h2 hx;obtain⟨V2,L2,S2⟩:=st;split at h
    ·cases h
    ·rename_i hne;split at h
     ·rename_i xs yw;split at h
      ·rename_i hc;cases h
       have hq:∀L,Ext L2 L->Sq (T.map (·.1)) d.rv (fun y S'=>y=ek xs/\∀p∈gU ⟨V2,L2,S2⟩ (T.map (·.1)),S' p.1=p.2) e ⟨V2,L,S2⟩:=fun L hL=>by
        have:∃ys,vy (T.map (·.1)) ⟨V2,L,S2⟩ d.rv=some ys/\(∀s∈T.map (·.1),fK (T.map (·.1)) (St.slot ⟨V2,L,S2⟩ s)=true)/\ek ys=ek xs/\∀p∈gU ⟨V2,L2,S2⟩ (T.map (·.1)),eZ (T.map (·.1)) (St.mk V2 L S2).slot p.1=p.2:=by
         refine⟨xs,agH hL yw,fun s hs=>fE.1 hc s hs,rfl,fun p hp=> ?_⟩;unfold gU at hp;obtain⟨s,hs,rfl⟩:=dp.1 hp;unfold eZ;rw[aj hs];rfl
        cases e with
        |exit id=>exact(hne id rfl).elim
        |normal=>exact this
        |ret=>exact this
       refine⟨by unfold gU;rw[List.map_map];exact List.map_id _,afp hE hf hb ht d.rv pN args (by rw[AJ];exact hn) T d.vs d.ss (g2 _ hq [] (Ext.refl _))⟩
      ·cases h
     ·cases h
   ·cases h
  ·cases h
 ·cases h
theorem agI {P:Program}{lP:List (FuncId×FD)}(yO:∀q∈lP,EC P q.1 q.2){p:C1}(hp:iM P p){m:Nat}:∀n:Nat,iM P (xP lP p m n).1/\EG P (xP lP p m n).2
 |0=>⟨fun _ _ _ h=>(nomatch h),fun _ _ _ _ _ h=>(nomatch h)⟩
 |n+1=>by
  obtain⟨g1,g2⟩:=agI yO hp (m:=m) n;refine⟨fun f args x h=> ?_,fun f args T x Y h=>atr yO g1 g2 h⟩
  change (match p f args with
   |some x=>some x
   |none=>SR lP (xP lP p m n).1 (xP lP p m n).2 m f args)=some x at h
  split at h
  ·rename_i y hy;cases h;exact hp f args _ hy
  ·exact atq yO g1 g2 h
theorem kh(yO:∀q∈lP,EC P q.1 q.2){p:C1}(hp:iM P p)(m n:Nat){args:List AW}(h:(xP lP p m n).1 f args=some x):bj P f args (fun y=>y=x):=(agI yO hp (m:=m) n).1 f args x h
noncomputable def jh (r:Option AV)(x:AV):Bool:=match r with
 |some y=>Lm y x
 |none=>false
theorem ki{r:Option AV}(h:jh r x=true):r=some x:=by
 unfold jh at h;split at h
 ·rw[SP h]
 ·cases h
attribute [local irreducible] aP bB aW
variable {l:List (List UInt8)} {x:List UInt8}
abbrev sA (l:List UInt8):AC:=.v (.string ⟨⟨l⟩⟩)
def AK:List (List UInt8)->List UInt8->Bool
 |[],_=>false
 |s::l,x=>match Ij s x with
  |true=>true
  |false=>AK l x
theorem YJ:∀(l:List (List UInt8)) (x:List UInt8),AK l x=decide (x∈l)
 |[],x=>by simp[AK]
 |s::l,x=>by
  unfold AK;rw[Ou];by_cases h:s=x
  ·subst h;simp
  ·have h':¬x=s:=fun e=>h e.symm
   have:(s==x)=false:=by simpa using h
   rw[this,YJ l x];simp[h']
theorem att(h:x∈l):AK l x=true:=by rw[YJ];exact fF h
theorem atu(h:¬x∈l):AK l x=false:=by rw[YJ];exact jw h
theorem YK(l:List (List UInt8))(x:List UInt8)(hl:l.length<=1000000):(bj Tryz.prog 262 [.c (.sl (l.map fun s=>[sA s])),.c (sA x)] (fun y=>y=.w (.c (bA (AK l x)))))/\(bj Tryz.prog 212 [.c (.sl (l.map fun s=>[sA s])),.c (sA x)] (fun y=>y=.w (.c (bA (AK l x)))))/\bj Tryz.prog 217 [.c (.sl (l.map fun s=>[sA s])),.c (sA x)] (fun y=>y=.w (.c (bA (AK l x)))):=by
 refine⟨?a,?b,?c⟩
 case' a=>
  refine cI Tryz.func262 aN [] [.t 4] [4,5] [] ?_
 case' b=>
  refine cI Tryz.func212 aN [] [.t 4] [4,5] [] ?_
 case' c=>
  refine cI Tryz.func217 aN [] [.t 4] [4,5] [] ?_
 all_goals
  have FF:=trivial
  try refine aG ?_
  refine dA (fun n V S=>∃k:Nat,k<=l.length/\n=l.length-k/\(∀j (hj:j<l.length),j<k->l[j]≠x)/\
   V=[(0,.w (.c (.sl (l.map fun s=>[sA s])))),(1,.w (.c (sA x))),(4,.w (.c (bA false))),(5,.w (.c (iA k)))]/\S=[]) (n:=l.length) ⟨0,ab,ab,fun j _ h=>ab,rfl,rfl⟩ ?_
  rintro n V L S ⟨k,hk,rfl,hj,rfl,rfl⟩;by_cases hlt:k<l.length
  ·have cF:k<=1000000000:=ab
   obtain⟨y,hy⟩:∃y,l[k]=y:=⟨_,rfl⟩
   by_cases he:y=x
   ·have FF:=fg @hlt @hy @he @toList_data
    try refine aG ?_
    refine zE ?_;exact(by rw[att (he▸hy▸bW hlt)];rfl)
   ·have FF:=iF @hlt @hy @he @toList_data (bT cF)
    try refine aG ?_
    exact⟨l.length-(k+1),ab,k+1,ab,ab,fun j eb iq=>by
     by_cases iW:j=k
     ·subst iW;rw[hy];exact he
     ·exact hj j eb ab,rfl,rfl⟩
  ·have FF:=@hlt
   try refine aG ?_
   refine zE ?_;exact(by rw[atu (fun hm=>by obtain⟨j,eb,iW⟩:=Gq.1 hm;exact hj j eb ab iW)];rfl)
def SU:List (List AC)->Option (List (List UInt8))
 |[]=>some []
 |[.v (.string ⟨⟨s⟩⟩)]::l=>match SU l with
  |some q=>some (s::q)
  |none=>none
 |_::_=>none
theorem agJ:∀{rows:List (List AC)} {l:List (List UInt8)},SU rows=some l->rows=l.map fun s=>[sA s]
 |[],l,h=>by cases h;rfl
 |row::rows,l,h=>by
  unfold SU at h;split at h
  ·rename_i heq;cases heq
  ·rename_i s r heq;cases heq;split at h
   ·rename_i q hq;cases h;rw[agJ hq];rfl
   ·cases h
  ·cases h
def fL:C1:=fun f args=>match args with
 |[.c (.sl rows),.c (.v (.string ⟨⟨x⟩⟩))]=>match Nat.beq f 262||(Nat.beq f 212||Nat.beq f 217) with
  |true=>match SU rows with
   |some l=>match Nat.ble l.length 1000000 with
    |true=>some (.w (.c (.v (.bool (AK l x)))))
    |false=>none
   |none=>none
  |false=>none
 |_=>none
theorem lp:iM Tryz.prog fL:=by
 intro f args x h;unfold fL at h;split at h
 case h_2=>cases h
 rename_i rows s;split at h
 case h_2=>cases h
 rename_i hf;split at h
 case h_2=>cases h
 rename_i l hl;split at h
 case h_2=>cases h
 rename_i hn;cases h;rw[agJ hl];simp only[uM] at hf;have hn:=tB hn
 rcases hf with hf|hf|hf
 ·rw[et hf];exact(YK l s hn).1
 ·rw[et hf];exact(YK l s hn).2.1
 ·rw[et hf];exact(YK l s hn).2.2
noncomputable def atv:FD:=cw Tryz.f25 aN [] [.t 4] [4] []
noncomputable def kN:List (FuncId×FD):=(25,atv)::agn
theorem lq:∀q∈kN,EC Tryz.prog q.1 q.2:=tc (okF Tryz.func25) asS
end Ab
end Go.Proofs.YtkanpepkdcmpmaaGreatDoor
