import Derived.Test.YtkanpepkdcmpmaaGreatDoorY3
set_option maxHeartbeats 40000000
set_option maxRecDepth 100000
set_option linter.all false
namespace Go.Proofs.YtkanpepkdcmpmaaGreatDoor
namespace Ab
open Go Go.RowKit
variable {U:Option (List Nat)} {f:FuncId} {k:Nat} {qs:List (Nat×Nat×aP)} {st:St} {za:List AC}
def Hy (k:Nat):Nat->List (Nat×Nat×List AC)->Option (List (List AC))
 |_,[]=>some []
 |pos,(off,size,cs)::r=>match Nat.beq off pos && (Nat.beq size k && Nat.beq cs.length k) with
  |true=>match Hy k (pos+k) r with
   |some q=>some (cs::q)
   |none=>none
  |false=>none
theorem aga{pos off size:Nat}{cs:List AC}{r:List (Nat×Nat×List AC)}{rows:List (List AC)}(h:Hy k pos ((off,size,cs)::r)=some rows):off=pos/\size=k/\cs.length=k/\∃q,Hy k (pos+k) r=some q/\rows=cs::q:=by
 unfold Hy at h;split at h
 ·rename_i hb;simp only[bV] at hb;split at h
  ·rename_i q hq;cases h;exact⟨ej hb.1,ej hb.2.1,ej hb.2.2,q,hq,rfl⟩
  ·cases h
 ·cases h
theorem agb {k:Nat}:∀{pr:List (Nat×Nat×List AC)} {pos:Nat} {rows:List (List AC)},Hy k pos pr=some rows->∀row∈rows,row.length=k
 |[],pos,rows,h=>by cases h;simp
 |(off,size,cs)::r,pos,rows,h=>by
  obtain⟨_,_,h3,q,hq,rfl⟩:=aga h;intro row hr
  rcases cz.1 hr with rfl|hr
  ·exact h3
  ·exact agb hq row hr
theorem agc {k:Nat}:∀{pr:List (Nat×Nat×List AC)} {pos:Nat} {rows:List (List AC)} {D Z:List AC},Hy k pos pr=some rows->D.length=pos->Z.length=rows.length*k->nA (D++Z) pr=some (D++rows.flatten)
 |[],pos,rows,D,Z,h,hD,hZ=>by
  cases h;have:Z=[]:=yh (by simpa using hZ);subst this;rfl
 |(off,size,cs)::r,pos,rows,D,Z,h,hD,hZ=>by
  obtain⟨rfl,rfl,h3,q,hq,rfl⟩:=aga h
  have hZ':Z.length=q.length*size+size:=by rw[hZ,List.length_cons,zO,Nat.one_mul]
  unfold nA;rw[aq ⟨h3,by rw[List.length_append];omega⟩]
  have e1:(D++Z).take off=D:=by rw[<-hD];exact oC
  have e2:(D++Z).drop (off+size)=Z.drop size:=by
   rw[<-hD,<-List.drop_drop,lW]
  rw[e1,e2];have:=agc (D:=D++cs) (Z:=Z.drop size) hq (by rw[List.length_append,hD,h3]) (by rw[lU,hZ'];omega);rw[this,List.flatten_cons,List.append_assoc]
theorem Ya {k:Nat}:∀{rows:List (List AC)},(∀row∈rows,row.length=k)->∀i,i<rows.length->some ((rows.flatten.drop (i*k)).take k)=rows[i]?
 |[],_,i,hi=>by simp at hi
 |row::rows,h,0,_=>by
  have:=h row (MW ..);rw[Nat.zero_mul,uK,List.flatten_cons,uE ab,nh ab];rfl
 |row::rows,h,i+1,hi=>by
  have hk:=h row (MW ..)
  have e:(i+1)*k=row.length+i*k:=by rw[hk,zO,Nat.one_mul,DG]
  rw[e,List.flatten_cons,<-List.drop_drop,lW];rw[Ya (fun r hr=>h r (jC _ hr)) i (by simpa using hi)];rfl
theorem arE{rows:List (List AC)}(h:∀row∈rows,row.length=k):rowsOf k rows.length rows.flatten=rows:=by
 apply yj;intro i;unfold rowsOf;rw[fh];by_cases hi:i<rows.length
 ·rw[Gc hi,yl,Ya h i hi]
 ·rw[qh (by simpa using hi),qh (by simpa using hi)];rfl
def KR (k n:Nat)(st:St)(qs:List (Nat×Nat×aP)):Option (List (List AC)):=match qH st qs with
 |some pr=>match Hy k 0 pr with
  |some rows=>match Nat.beq rows.length n && rows.all (fun r=>r.all inl) with
   |true=>some rows
   |false=>none
  |none=>none
 |none=>none
theorem agd{n:Nat}{rows:List (List AC)}(za:List AC)(h:KR k n st qs=some rows):∃pr,qH st qs=some pr/\nA (dt k n za) pr=some rows.flatten/\rows.flatten.all inl=true/\rowsOf k n rows.flatten=rows:=by
 unfold KR at h;split at h
 case h_2=>cases h
 rename_i pr hp;split at h
 case h_2=>cases h
 rename_i rows' hl;split at h
 case h_2=>cases h
 rename_i hb;cases h;rw[bV] at hb;have hn:=ej hb.1;subst hn;refine⟨pr,hp,?_,?_,arE (agb hl)⟩
 ·exact agc (D:=[]) (Z:=dt k rows.length za) hl rfl (by simp[dt])
 ·rw[fq];intro x hx;obtain⟨row,hr,Yb⟩:=List.mem_flatten.1 hx;exact fq.1 (fq.1 hb.2 row hr) x Yb
theorem arF{n:Nat}{rows:List (List AC)}(h:KR k n st qs=some rows):dA U st (.uZ k n za qs)=some (.w (.c (.sl rows)),st):=by
 obtain⟨pr,h1,h2,h3,h4⟩:=agd za h;unfold dA;dsimp only;rw[h1];dsimp only;rw[h2];dsimp only;rw[aq h3,h4]
theorem arG{s e n:Nat}{rows:List (List AC)}(h:KR k n st qs=some rows)(hs:(aI st.S s).isSome=true):dA U st (.Aj s e k n za qs)=some (.w (.c (.own s ((st.slot s).gen+1))),st.cn s (.row e k ((st.slot s).gen+1) rows)):=by
 obtain⟨pr,h1,h2,h3,h4⟩:=agd za h;unfold dA;dsimp only;rw[h1];dsimp only;rw[h2];dsimp only;rw[aq ⟨h3,hs⟩,h4]
structure FD where
 b:fk
 nt:Nat
 rv:List RV
 vs:List Nat
 ss:List Nat
def Er (P:Program)(f:FuncId)(d:FD):Prop:=∃(owns:gV) (ts:Trees) (fn:Func) (c:Code),(∀p∈owns.eqs,sB P p.1 p.2)/\P.funcs[f]? =some fn/\fn.body=some c/\gW P owns fn.ntmps ts c=some d.b/\vh P fn.results.toList=some d.rv/\fn.ntmps=d.nt
def Oa:List (FuncId×FD)->FuncId->Option FD
 |[],_=>none
 |(i,d)::l,f=>match Nat.beq i f with
  |true=>some d
  |false=>Oa l f
theorem Yc:∀{l:List (FuncId×FD)} {f:FuncId} {d:FD},Oa l f=some d->(f,d)∈l
 |[],f,d,h=>by cases h
 |(i,e)::l,f,d,h=>by
  unfold Oa at h
  cases hb:Nat.beq i f with
  |true=>rw[hb] at h;cases h;rw[ej hb];exact MW ..
  |false=>rw[hb] at h;exact jC _ (Yc h)
noncomputable def cr (fn:Func)(a:gV)(ts:Trees)(rv:List RV)(vs ss:List Nat):FD:=⟨iW Tryz.prog a ts (fn.body.getD .skip),fn.ntmps,rv,vs,ss⟩
theorem okF{fn:Func}(hf:Tryz.prog.funcs[f]? =some fn){a:gV}{ts:Trees}{rv:List RV}{vs ss:List Nat}(ok:NW Tryz.prog a ts fn=true:=by kernel_rfl)(pE:vh Tryz.prog fn.results.toList=some rv:=by kernel_rfl)(hE:a.eqs=cU:=by exact rfl):Er Tryz.prog f (cr fn a ts rv vs ss):=by
 obtain⟨c,h1,h2⟩:=XR ok rfl;exact⟨a,ts,fn,c,by rw[hE];exact Xm,hf,h1,h2,pE,rfl⟩
def KS (l:List (FuncId×FD)):Prop:=∀q∈l,Er Tryz.prog q.1 q.2
theorem tn:KS []:=fun q hq=>by cases hq
theorem tc{d:FD}{l:List (FuncId×FD)}(h:Er Tryz.prog f d)(r:KS l):KS ((f,d)::l):=fun q hq=>by
 rcases cz.1 hq with rfl|hq
 ·exact h
 ·exact r q hq
def sF:List (Nat×List Nat):=[(165,[29,901]),(166,[29,901]),(167,[29,901]),(168,[29,901]),(169,[29,901]),(209,[29,901]),(210,[29,901]),(211,[29,901]),(213,[29,901]),(214,[29,901]),(215,[29,901]),(264,[29,901]),(287,[29,901]),(288,[29,901]),(289,[29,901]),(292,[29,901])]
noncomputable def arH:FD:=cr Tryz.f259 aN [] [.t 2] [2] []
noncomputable def arI:FD:=cr Tryz.f260 aN [] [.t 2] [2] []
noncomputable def arJ:FD:=cr Tryz.f261 aN [] [.t 2] [2,3,4] []
noncomputable def arK:FD:=cr Tryz.f262 aN [] [.t 4] [4,5] []
noncomputable def arL:FD:=cr Tryz.f207 aN [] [.t 4] [4,5] []
noncomputable def arM:FD:=cr Tryz.f208 aN [] [(.cell 4 4),.t 5] [4,5,6,7,8,9] [4]
noncomputable def arN:FD:=cr Tryz.f164 (aO [5]) [] [.t 2,.t 3,.t 4] [2,3,4,5,6,7,8] [7,5]
noncomputable def arO:FD:=cr Tryz.f286 aN [] [.t 0] [0] []
noncomputable def arP:FD:=cr Tryz.f212 aN [] [.t 4] [4,5] []
noncomputable def arQ:FD:=cr Tryz.f263 aN [] [.t 2] [2] []
noncomputable def arR:FD:=cr Tryz.f165 (aB 1000 []) [tz 1 8] [.t 2] [2] []
noncomputable def arS:FD:=cr Tryz.f167 ⟨1000,[],sF,[],cU,[],[]⟩ [] [] [] []
noncomputable def arT:FD:=cr Tryz.f168 ⟨1000,[],sF,[],cU,[],[]⟩ [] [.t 4] [4,5,6,7,8] []
noncomputable def arU:FD:=cr Tryz.f169 ⟨1000,[],sF,[],cU,[(6,[3])],[(2,[(1005,3,1900,268,4)])]⟩ [(4,6,tk 0 4 (.move 4 (.move 5 .nil)),[29,901])] [(.cell 4 4)] [4,5] [1004,1005,1900]
noncomputable def arV:FD:=cr Tryz.f170 (aO [5]) [tz 3 12] [.t 4] [3,4,5,6] [3,5]
noncomputable def arW:FD:=cr Tryz.f166 ⟨1000,[3],[(165,[29,901]),(166,[29,901]),(167,[29,901]),(168,[29,901]),(169,[29,901]),(209,[29,901]),(210,[29,901]),(211,[29,901]),(213,[29,901]),(214,[29,901]),(215,[29,901]),(264,[29,901]),(287,[29,901]),(288,[29,901]),(289,[29,901]),(292,[29,901]),(212,[901])],[],cU,[],[]⟩ [(6,6,tk 0 3 (tk 4 1 (.fork 3 5 (.move 5 .nil) (.move 3 .nil))),[29,901]),(12,9,tk 0 4 (tk 5 1 (.fork 4 6 (.move 6 (.move 7 (.move 8 .nil))) (.fork 4 7 (.move 7 (.move 8 .nil)) (.move 4 (.move 8 .nil))))),[29,901,1003])] [.t 2] [2,3] [1003]
noncomputable def arX:FD:=cr Tryz.f209 ⟨1000,[],sF,[],cU,[],[]⟩ [tz 0 10] [] [] []
noncomputable def arY:FD:=cr Tryz.f210 ⟨1000,[],sF,[],cU,[],[]⟩ [tz 1 21] [.t 2] [2] []
noncomputable def arZ:FD:=cr Tryz.f211 ⟨1000,[],sF,[],cU,[],[]⟩ [] [] [] []
noncomputable def asa:FD:=cr Tryz.f213 ⟨1000,[],sF,[],cU,[],[]⟩ [tm 1 10] [.t 4] [4,5] [1005]
noncomputable def asb:FD:=cr Tryz.f214 ⟨1000,[],sF,[],cU,[],[]⟩ [] [] [] []
noncomputable def ase:FD:=cr Tryz.f215 ⟨1000,[58],sF,[],cU,[],[]⟩ [(18,5,tk 0 4 (.move 4 .nil),[29,901]),(33,7,tk 0 5 (.move 5 (.move 6 .nil)),[29,901]),(41,4,tk 0 3 (.move 3 .nil),[29,901])] [(.cell 4 4)] [4,5,6,7,8,9,10,11,12,13,45,58] [1004,1006,1007,1009,1010,1012,1013,1058]
noncomputable def asf:FD:=cr Tryz.f264 ⟨1000,[],sF,[],cU,[],[]⟩ [] [(.cell 6 4)] [6,7] [1006]
noncomputable def asg:FD:=cr Tryz.f287 ⟨1000,[],sF,[],cU,[],[]⟩ [] [(.cell 8 4)] [8,9] [1008,1009]
noncomputable def ash:FD:=cr Tryz.f288 ⟨1000,[],sF,[],cU,[],[]⟩ [(3,12,tk 0 3 (.move 3 (tk 4 5 (tk 10 1 (.fork 9 11 (.move 11 .nil) (.move 9 .nil))))),[29,901])] [(.cell 6 4)] [6,7,8,9,10] [1006,1008,1010]
noncomputable def asi:FD:=cr Tryz.f289 ⟨1000,[],sF,[],cU,[],[]⟩ [tm 1 10,(15,3,tk 1 2 (.move 0 .nil),[])] [(.cell 4 4)] [4,5,6,7] [1004,1005,1006,1007]
noncomputable def asj:FD:=cr Tryz.f292 ⟨1000,[],sF,[],cU,[],[]⟩ [] [(.cell 4 4)] [4,5] [1004,1005]
noncomputable def asl:FD:=cr Tryz.f122 ⟨0,[],sF,[],cU,[(28,[4]),(9,[0,1])],[(8,[(29,4,901,9,1),(9,0,902,9,1),(9,1,903,9,1)])]⟩ [(10,4,tk 0 3 (.move 3 .nil),[29,901]),(11,4,tk 0 3 (.move 3 .nil),[29,901]),tz 12 14,(19,11,tk 0 9 (.move 9 (tk 10 1 .nil)),[901,902,903])] [(.cell 2 3),.t 3,.t 4] [2,3,4,5,6,7,8,9,10,11,29] [2,29,9,11,901,902,903]
noncomputable def asm:FD:=cr Tryz.f217 aN [] [.t 4] [4,5] []
noncomputable def asn:FD:=cr Tryz.f265 aN [] [.t 2] [2] []
noncomputable def aso:FD:=cr Tryz.f216 aN [] [.t 2] [1,2,3,4,5,6] [1]
noncomputable def asp:FD:=cr Tryz.f171 aN [] [.t 2] [1,2,3,4,5,6,7,8,9] [1]
noncomputable def asq:FD:=cr Tryz.f172 ⟨0,[5],[],[(8,[5])],cU,[],[]⟩ [] [.t 4] [2,4,5,6] [2,5]
noncomputable def asr:FD:=cr Tryz.f173 aN [] [.t 4] [2,4,5,6] [2]
noncomputable def ass:FD:=cr Tryz.f123 aN [tz 11 5] [.t 2] [1,2,3,4,5,6] [1]
noncomputable def ast:FD:=cr Tryz.f218 aN [] [.t 4] [4,5] []
noncomputable def asu:FD:=cr Tryz.f219 aN [] [.t 0] [0] []
noncomputable def asv:FD:=cr Tryz.f222 aN [] [.t 2] [2,3] []
noncomputable def asw:FD:=cr Tryz.f266 (aB 4000 []) [tz 2 5] [.t 8] [4,8] [4004]
noncomputable def asx:FD:=cr Tryz.f221 (aB 3000 [7]) [tm 5 10] [.t 6] [3,6,7,8] [3003,3007,3007,2019,2027,2035,2056,2062,2066,2070,2101,2109,2165,2174,2178,2188,2196,2202,2208]
noncomputable def asy:FD:=cr Tryz.f220 ⟨5000,[],[(1000020,[3007,2019,2027,2035,2056,2062,2066,2070,2101,2109,2165,2174,2178,2188,2196,2202,2208])],[],cU,[],[]⟩ [] [.t 12] [6,7,12,13,14,15,16] [5006,5007,3007,2019,2027,2035,2056,2062,2066,2070,2101,2109,2165,2174,2178,2188,2196,2202,2208]
noncomputable def asz:FD:=cr Tryz.f174 ⟨2000,[19,27,35,56,62,66,70,101,109,165,174,178,188,196,202,208],[(1000050,[3007,2019,2027,2035,2056,2062,2066,2070,2101,2109,2165,2174,2178,2188,2196,2202,2208]),(1000128,[3007,2019,2027,2035,2056,2062,2066,2070,2101,2109,2165,2174,2178,2188,2196,2202,2208]),(1000146,[3007,2019,2027,2035,2056,2062,2066,2070,2101,2109,2165,2174,2178,2188,2196,2202,2208]),(1000079,[3007,2019,2027,2035,2056,2062,2066,2070,2101,2109,2165,2174,2178,2188,2196,2202,2208]),(1000151,[3007,2019,2027,2035,2056,2062,2066,2070,2101,2109,2165,2174,2178,2188,2196,2202,2208])],[],cU,[],[]⟩ [(8,3,tk 1 2 (.move 0 .nil),[]),tz 10 12,tz 20 6,tz 21 10,tz 26 9,tz 28 9] [.t 6] [3,4,6,7,8,9,10,12,19,27,35,56,62,66,70,101,109,153,165,174,178,188,196,202,208] [2003,2004,2019,2027,2035,2056,2062,2066,2070,2101,2109,2165,2174,2178,2188,2196,2202,2208,3007]
noncomputable def asA:FD:=cr Tryz.f224 aN [] [.t 2] [2,3] []
noncomputable def asB:FD:=cr Tryz.f225 aN [] [.t 2] [2,3] []
noncomputable def asC:FD:=cr Tryz.f267 aN [] [.t 4] [2,4,10] [2]
noncomputable def asD:FD:=cr Tryz.f223 (aO [17]) [tm 17 10] [.t 4,.t 5] [2,4,5,6,7,8,9,10,11,12,13,17] [2,17]
noncomputable def asE:FD:=cr Tryz.f175 aN [(1,10,tk 0 5 (.move 5 (tk 6 1 (.fork 7 8 (tk 9 1 (.move 8 .nil)) (.move 7 (tk 9 1 .nil))))),[]),(8,15,tk 0 10 (tk 12 1 (.move 10 (tk 11 1 (.move 13 (tk 14 1 .nil))))),[])] [.t 4] [2,4,5,7,8,9] [2]
noncomputable def asF:FD:=cr Tryz.f124 ⟨0,[],[],[(18,[904])],cU,[(15,[0])],[(2,[(4,0,904,278,2)])]⟩ [tm 11 12] [(.cell 2 43),.t 3] [1,2,3,4,5,6,7,8] [1,2,4,904]
noncomputable def asG:FD:=cr Tryz.f125 aN [] [.t 0] [0] []
noncomputable def asH:FD:=cr Tryz.f66 aN [] [.t 2] [2,3] []
noncomputable def asI:FD:=cr Tryz.f65 aN [] [(.cell 2 43),.t 3] [2,3,4,6,7,8] [2,4,7]
noncomputable def age:List (FuncId×FD):=[(259,arH),(260,arI),(261,arJ),(262,arK),(207,arL),(208,arM),(164,arN),(286,arO),(212,arP),(263,arQ),(165,arR),(167,arS),(168,arT),(169,arU),(170,arV),(166,arW),(209,arX),(210,arY),(211,arZ),(213,asa),(214,asb),(215,ase),(264,asf),(287,asg),(288,ash),(289,asi),(292,asj),(122,asl),(217,asm),(265,asn),(216,aso),(171,asp),(172,asq),(173,asr),(123,ass),(218,ast),(219,asu),(222,asv),(266,asw),(221,asx),(220,asy),(174,asz),(224,asA),(225,asB),(267,asC),(223,asD),(175,asE),(124,asF),(125,asG),(66,asH),(65,asI)]
theorem asJ:KS age:=tc (okF Tryz.func259)<|tc (okF Tryz.func260)<|tc (okF Tryz.func261)<|tc (okF Tryz.func262)<|tc (okF Tryz.func207)<|tc (okF Tryz.func208)<|tc (okF Tryz.func164)<|tc (okF Tryz.func286)<|tc (okF Tryz.func212)<|tc (okF Tryz.func263)<|tc (okF Tryz.func165)<|tc (okF Tryz.func167)<|tc (okF Tryz.func168)<|tc (okF Tryz.func169)<|tc (okF Tryz.func170)<|tc (okF Tryz.func166)<|tc (okF Tryz.func209)<|tc (okF Tryz.func210)<|tc (okF Tryz.func211)<|tc (okF Tryz.func213)<|tc (okF Tryz.func214)<|tc (okF Tryz.func215)<|tc (okF Tryz.func264)<|tc (okF Tryz.func287)<|tc (okF Tryz.func288)<|tc (okF Tryz.func289)<|tc (okF Tryz.func292)<|tc (okF Tryz.func122)<|tc (okF Tryz.func217)<|tc (okF Tryz.func265)<|tc (okF Tryz.func216)<|tc (okF Tryz.func171)<|tc (okF Tryz.func172)<|tc (okF Tryz.func173)<|tc (okF Tryz.func123)<|tc (okF Tryz.func218)<|tc (okF Tryz.func219)<|tc (okF Tryz.func222)<|tc (okF Tryz.func266)<|tc (okF Tryz.func221)<|tc (okF Tryz.func220)<|tc (okF Tryz.func174)<|tc (okF Tryz.func224)<|tc (okF Tryz.func225)<|tc (okF Tryz.func267)<|tc (okF Tryz.func223)<|tc (okF Tryz.func175)<|tc (okF Tryz.func124)<|tc (okF Tryz.func125)<|tc (okF Tryz.func66)<|tc (okF Tryz.func65)<|tn
section
variable {R:Type}
noncomputable def fN (n:Nat)(k:Nat->R):R:=Nat.rec (motive:=fun _=>R) (k 0) (fun m _=>k (Nat.succ m)) n
noncomputable def fI (i:Int)(k:Int->R):R:=Int.rec (motive:=fun _=>R) (fun n=>fN n fun n=>k (.ofNat n)) (fun n=>fN n fun n=>k (.negSucc n)) i
noncomputable def fBo (b:Bool)(k:Bool->R):R:=Bool.rec (motive:=fun _=>R) (k false) (k true) b
noncomputable def KT {α:Type}(l:List α):(List α->R)->R:=List.rec (motive:=fun _=>(List α->R)->R) (fun k=>k []) (fun a _ ih k=>ih fun r=>k (a::r)) l
noncomputable def Es (v:Value)(k:Value->R):R:=match v with
 | .int kd n=>fI n fun n=>k (.int kd n)
 | .bool b=>fBo b fun b=>k (.bool b)
 | .string ⟨⟨l⟩⟩=>KT l fun l=>k (.string ⟨⟨l⟩⟩)
 |v=>k v
noncomputable def Sq (x:AC):(AC->R)->R:=AC.rec (motive_1:=fun _=>(AC->R)->R) (motive_2:=fun _=>(List (List AC)->R)->R) (motive_3:=fun _=>(List AC->R)->R)
 (fun v k=>Es v fun v=>k (.v v)) (fun _ ih k=>ih fun es=>k (.sl es)) (fun s g k=>fN s fun s=>fN g fun g=>k (.own s g)) (fun s g k=>k (.cP s g)) (fun s g i k=>k (.part s g i)) (fun f _ ih k=>ih fun bZ=>k (.fM f bZ)) (fun f bZ k=>k (.cls f bZ))
 (fun k=>k []) (fun _ _ jr js k=>jr fun r=>js fun l=>k (r::l)) (fun k=>k []) (fun _ _ jr js k=>jr fun r=>js fun l=>k (r::l)) x
noncomputable def KU (x:List AC):(List AC->R)->R:=List.rec (motive:=fun _=>(List AC->R)->R) (fun k=>k []) (fun a _ ih k=>Sq a fun a=>ih fun r=>k (a::r)) x
noncomputable def Yd (x:List (List AC)):(List (List AC)->R)->R:=List.rec (motive:=fun _=>(List (List AC)->R)->R) (fun k=>k []) (fun a _ ih k=>KU a fun a=>ih fun r=>k (a::r)) x
noncomputable def Ye (x:AW)(k:AW->R):R:=match x with
 | .c x=>Sq x fun x=>k (.c x)
 | .agg cs=>KU cs fun cs=>k (.agg cs)
noncomputable def Yf (x:List AW):(List AW->R)->R:=List.rec (motive:=fun _=>(List AW->R)->R) (fun k=>k []) (fun a _ ih k=>Ye a fun a=>ih fun r=>k (a::r)) x
noncomputable def KV (x:AV)(k:AV->R):R:=match x with
 | .w x=>Ye x fun x=>k (.w x)
 | .bD l=>Yf l fun l=>k (.bD l)
 | .pb s g o=>fN s fun s=>fN g fun g=>fN o fun o=>k (.pb s g o)
 | .pr s g i o=>fN s fun s=>fN g fun g=>fN i fun i=>fN o fun o=>k (.pr s g i o)
 | .pi cs o=>KU cs fun cs=>fN o fun o=>k (.pi cs o)
 | .u=>k .u
noncomputable def Sr (x:Slot)(k:Slot->R):R:=match x with
 | .dead g=>fN g fun g=>k (.dead g)
 | .box g cs=>fN g fun g=>KU cs fun cs=>k (.box g cs)
 | .row e kk g es=>fN g fun g=>Yd es fun es=>k (.row e kk g es)
 | .obj g K=>k (.obj g K)
noncomputable def Oc (x:List (Nat×Slot)):(List (Nat×Slot)->R)->R:=List.rec (motive:=fun _=>(List (Nat×Slot)->R)->R) (fun k=>k []) (fun a _ ih k=>fN a.1 fun i=>Sr a.2 fun y=>ih fun r=>k ((i,y)::r)) x
noncomputable def KW (x:List (Nat×AV)):(List (Nat×AV)->R)->R:=List.rec (motive:=fun _=>(List (Nat×AV)->R)->R) (fun k=>k []) (fun a _ ih k=>fN a.1 fun i=>ih fun r=>k ((i,a.2)::r)) x
noncomputable def Od (x:List (Nat×AV)):(List (Nat×AV)->R)->R:=List.rec (motive:=fun _=>(List (Nat×AV)->R)->R) (fun k=>k []) (fun a _ ih k=>fN a.1 fun i=>KV a.2 fun y=>ih fun r=>k ((i,y)::r)) x
theorem pH (n:Nat)(k:Nat->R):fN n k=k n:=by cases n<;>rfl
theorem asK (n:Int)(k:Int->R):fI n k=k n:=by
 cases n with
 |ofNat n=>exact pH n fun n=>k (.ofNat n)
 |negSucc n=>exact pH n fun n=>k (.negSucc n)
theorem asL (n:Bool)(k:Bool->R):fBo n k=k n:=by cases n<;>rfl
theorem KX {α:Type}:∀(l:List α) (k:List α->R),KT l k=k l
 |[],_=>rfl
 |a::l,k=>KX l fun r=>k (a::r)
theorem agf (v:Value)(k:Value->R):Es v k=k v:=by
 unfold Es;split
 ·rename_i kd n;exact asK n fun n=>k (.int kd n)
 ·rename_i b;exact asL b fun b=>k (.bool b)
 ·rename_i l;exact KX l fun l=>k (.string ⟨⟨l⟩⟩)
 ·rfl
theorem agh (x:AC):∀k:AC->R,Sq x k=k x:=by
 refine AC.rec (motive_1:=fun x=>∀k:AC->R,Sq x k=k x)
  (motive_2:=fun l=>∀k:List (List AC)->R,(AC.rec_1 (motive_1:=fun _=>(AC->R)->R) (motive_2:=fun _=>(List (List AC)->R)->R) (motive_3:=fun _=>(List AC->R)->R)
   (fun v k=>Es v fun v=>k (.v v)) (fun _ ih k=>ih fun es=>k (.sl es)) (fun s g k=>fN s fun s=>fN g fun g=>k (.own s g)) (fun s g k=>k (.cP s g)) (fun s g i k=>k (.part s g i)) (fun f _ ih k=>ih fun bZ=>k (.fM f bZ)) (fun f bZ k=>k (.cls f bZ))
   (fun k=>k []) (fun _ _ jr js k=>jr fun r=>js fun l=>k (r::l)) (fun k=>k []) (fun _ _ jr js k=>jr fun r=>js fun l=>k (r::l)) l:(List (List AC)->R)->R) k=k l)
  (motive_3:=fun l=>∀k:List AC->R,(AC.rec_2 (motive_1:=fun _=>(AC->R)->R) (motive_2:=fun _=>(List (List AC)->R)->R) (motive_3:=fun _=>(List AC->R)->R)
   (fun v k=>Es v fun v=>k (.v v)) (fun _ ih k=>ih fun es=>k (.sl es)) (fun s g k=>fN s fun s=>fN g fun g=>k (.own s g)) (fun s g k=>k (.cP s g)) (fun s g i k=>k (.part s g i)) (fun f _ ih k=>ih fun bZ=>k (.fM f bZ)) (fun f bZ k=>k (.cls f bZ))
   (fun k=>k []) (fun _ _ jr js k=>jr fun r=>js fun l=>k (r::l)) (fun k=>k []) (fun _ _ jr js k=>jr fun r=>js fun l=>k (r::l)) l:(List AC->R)->R) k=k l)
  ?_ ?_ ?_ ?_ ?_ ?_ ?_ ?_ ?_ ?_ ?_ x
 ·intro v k;exact agf v fun v=>k (.v v)
 ·intro es ih k;exact ih fun es=>k (.sl es)
 ·intro s g k;exact(pH s fun s=>fN g fun g=>k (.own s g)).trans (pH g fun g=>k (.own s g))
 ·intro s g k;rfl
 ·intro s g i k;rfl
 ·intro f es ih k;exact ih fun es=>k (.fM f es)
 ·intro f es k;rfl
 ·intro k;rfl
 ·intro a l h1 h2 k;exact(h1 fun r=>_).trans (h2 fun l=>k (a::l))
 ·intro k;rfl
 ·intro a l h1 h2 k;exact(h1 fun r=>_).trans (h2 fun l=>k (a::l))
theorem Oe:∀(l:List AC) (k:List AC->R),KU l k=k l
 |[],_=>rfl
 |a::l,k=>(agh a fun a=>KU l fun r=>k (a::r)).trans (Oe l fun r=>k (a::r))
theorem agi:∀(l:List (List AC)) (k:List (List AC)->R),Yd l k=k l
 |[],_=>rfl
 |a::l,k=>(Oe a fun a=>Yd l fun r=>k (a::r)).trans (agi l fun r=>k (a::r))
theorem agj (x:AW)(k:AW->R):Ye x k=k x:=by
 cases x with
 |c x=>exact agh x fun x=>k (.c x)
 |agg cs=>exact Oe cs fun cs=>k (.agg cs)
theorem agk:∀(l:List AW) (k:List AW->R),Yf l k=k l
 |[],_=>rfl
 |a::l,k=>(agj a fun a=>Yf l fun r=>k (a::r)).trans (agk l fun r=>k (a::r))
theorem asM (x:AV)(k:AV->R):KV x k=k x:=by
 cases x with
 |w x=>exact agj x fun x=>k (.w x)
 |bD l=>exact agk l fun l=>k (.bD l)
 |pb s g o=>simp only[KV,pH]
 |pr s g i o=>simp only[KV,pH]
 |pi cs o=>simp only[KV,pH,Oe]
 |u=>rfl
theorem asN (x:Slot)(k:Slot->R):Sr x k=k x:=by
 cases x<;>simp only[Sr,pH,Oe,agi]
theorem agl:∀(l:List (Nat×Slot)) (k:List (Nat×Slot)->R),Oc l k=k l
 |[],_=>rfl
 |(i,a)::l,k=>(pH i fun i=>Sr a fun y=>Oc l fun r=>k ((i,y)::r)).trans ((asN a fun y=>Oc l fun r=>k ((i,y)::r)).trans (agl l fun r=>k ((i,a)::r)))
theorem Ss:∀(l:List (Nat×AV)) (k:List (Nat×AV)->R),KW l k=k l
 |[],_=>rfl
 |(i,a)::l,k=>(pH i fun i=>KW l fun r=>k ((i,a)::r)).trans (Ss l fun r=>k ((i,a)::r))
theorem agm:∀(l:List (Nat×AV)) (k:List (Nat×AV)->R),Od l k=k l
 |[],_=>rfl
 |(i,a)::l,k=>(pH i fun i=>KV a fun y=>Od l fun r=>k ((i,y)::r)).trans ((asM a fun y=>Od l fun r=>k ((i,y)::r)).trans (agm l fun r=>k ((i,a)::r)))
end
section
variable {R:Type}
noncomputable def Su (x:List (List AC)):(List (List AC)->R)->R:=List.rec (motive:=fun _=>(List (List AC)->R)->R) (fun k=>k []) (fun a _ ih k=>KT a fun a=>ih fun r=>k (a::r)) x
noncomputable def Yg (x:AC)(k:AC->R):R:=match x with
 | .v v=>Es v fun v=>k (.v v)
 | .sl es=>Su es fun es=>k (.sl es)
 | .own s g=>fN s fun s=>fN g fun g=>k (.own s g)
 | .cP s g=>k (.cP s g)
 | .part s g i=>k (.part s g i)
 | .fM f cs=>k (.fM f cs)
 | .cls f cs=>k (.cls f cs)
noncomputable def Yh (x:AW)(k:AW->R):R:=match x with
 | .c x=>Yg x fun x=>k (.c x)
 | .agg cs=>KT cs fun cs=>k (.agg cs)
noncomputable def Yi (x:List AW):(List AW->R)->R:=List.rec (motive:=fun _=>(List AW->R)->R) (fun k=>k []) (fun a _ ih k=>Yh a fun a=>ih fun r=>k (a::r)) x
noncomputable def jt (x:AV)(k:AV->R):R:=match x with
 | .w x=>Yh x fun x=>k (.w x)
 | .bD l=>Yi l fun l=>k (.bD l)
 | .pb s g o=>fN s fun s=>fN g fun g=>fN o fun o=>k (.pb s g o)
 | .pr s g i o=>fN s fun s=>fN g fun g=>fN i fun i=>fN o fun o=>k (.pr s g i o)
 | .pi cs o=>KT cs fun cs=>fN o fun o=>k (.pi cs o)
 | .u=>k .u
noncomputable def Sv (x:Slot)(k:Slot->R):R:=match x with
 | .dead g=>fN g fun g=>k (.dead g)
 | .box g cs=>fN g fun g=>KT cs fun cs=>k (.box g cs)
 | .row e kk g es=>fN g fun g=>Su es fun es=>k (.row e kk g es)
 | .obj g K=>k (.obj g K)
noncomputable def Ar (x:List (Nat×Slot)):(List (Nat×Slot)->R)->R:=List.rec (motive:=fun _=>(List (Nat×Slot)->R)->R) (fun k=>k []) (fun a _ ih k=>fN a.1 fun i=>Sv a.2 fun y=>ih fun r=>k ((i,y)::r)) x
theorem Yj:∀(l:List (List AC)) (k:List (List AC)->R),Su l k=k l
 |[],_=>rfl
 |a::l,k=>(KX a fun a=>Su l fun r=>k (a::r)).trans (Yj l fun r=>k (a::r))
theorem asO (x:AC)(k:AC->R):Yg x k=k x:=by
 cases x with
 |v v=>exact agf v fun v=>k (.v v)
 |sl es=>exact Yj es fun es=>k (.sl es)
 |own s g=>simp only[Yg,pH]
 |cP s g=>rfl
 |part s g i=>rfl
 |fM f cs=>rfl
 |cls f cs=>rfl
theorem agn (x:AW)(k:AW->R):Yh x k=k x:=by
 cases x with
 |c x=>exact asO x fun x=>k (.c x)
 |agg cs=>exact KX cs fun cs=>k (.agg cs)
theorem ago:∀(l:List AW) (k:List AW->R),Yi l k=k l
 |[],_=>rfl
 |a::l,k=>(agn a fun a=>Yi l fun r=>k (a::r)).trans (ago l fun r=>k (a::r))
theorem KY (x:AV)(k:AV->R):jt x k=k x:=by
 cases x with
 |w x=>exact agn x fun x=>k (.w x)
 |bD l=>exact ago l fun l=>k (.bD l)
 |pb s g o=>simp only[jt,pH]
 |pr s g i o=>simp only[jt,pH]
 |pi cs o=>simp only[jt,pH,KX]
 |u=>rfl
theorem asP (x:Slot)(k:Slot->R):Sv x k=k x:=by
 cases x<;>simp only[Sv,pH,KX,Yj]
theorem KZ:∀(l:List (Nat×Slot)) (k:List (Nat×Slot)->R),Ar l k=k l
 |[],_=>rfl
 |(i,a)::l,k=>(pH i fun i=>Sv a fun y=>Ar l fun r=>k ((i,y)::r)).trans ((asP a fun y=>Ar l fun r=>k ((i,y)::r)).trans (KZ l fun r=>k ((i,a)::r)))
end
variable {U:Option (List Nat)} {op:fe} {st st':St} {x:AV}
def agp:fe->Bool
 | .mv _=>true
 | .ld1 _=>true
 | .pick _ _ _=>true
 | .ext _ _=>true
 |_=>false
def HK:List UInt8->List UInt8->Bool
 |[],[]=>true
 |a::l,b::m=>match Nat.beq a.toNat b.toNat with
  |true=>HK l m
  |false=>false
 |_,_=>false
theorem Of:∀l m:List UInt8,HK l m=(l==m)
 |[],[]=>rfl
 |[],_::_=>rfl
 |_::_,[]=>rfl
 |a::l,b::m=>by
  show(match Nat.beq a.toNat b.toNat with |true=>HK l m|false=>false)=(a==b && l==m)
  have:Nat.beq a.toNat b.toNat=(a==b):=by
   rw[rR];simp[UInt8.toNat_inj]
  rw[this,Of l m];cases(a==b)<;>rfl
def La:Int->Bool
 | .ofNat n=>Nat.ble n 9223372036854775807
 | .negSucc n=>Nat.ble n 9223372036854775807
theorem asQ{n:Int}(h:La n=true):IntKind.i64.wrap n=n:=by
 cases n with
 |ofNat n=>exact wrap64 (by have:=tr h;show _<=((n:Nat):Int);omega) (by have:=tr h;show((n:Nat):Int)<=_;omega)
 |negSucc n=>exact wrap64 (by have:=tr h;omega) (by have:=tr h;omega)
def yN (op:BinOp)(x y:Value):Option Value:=match x,y with
 | .string ⟨⟨a⟩⟩,.string ⟨⟨b⟩⟩=>match op with
  | .eql=>some (.bool (HK a b))
  | .neq=>some (.bool (!HK a b))
  | .add=>match Nat.ble (a.length+b.length) 1000000 with |true=>some (.string ⟨⟨a++b⟩⟩)|false=>none
  |_=>none
 | .int .i64 a,.int .i64 b=>match op with
  | .add=>match La (Int.add a b) with |true=>some (.int .i64 (Int.add a b))|false=>none
  | .sub=>match La (Int.sub a b) with |true=>some (.int .i64 (Int.sub a b))|false=>none
  | .mul=>match La (Int.mul a b) with |true=>some (.int .i64 (Int.mul a b))|false=>none
  |op=>aW op (.int .i64 a) (.int .i64 b)
 |x,y=>aW op x y
theorem asR(bs:ByteArray):∀(k i:Nat) (r:List UInt8),bs.size-i=k->ByteArray.toList.loop bs i r=r.reverse++bs.data.toList.drop i:=by
 intro k
 induction k with
 |zero=>
  intro i r hk;unfold ByteArray.toList.loop;have h:¬i<bs.size:=ab;rw[af h];have:bs.data.toList.drop i=[]:=uF (by simpa using(by omega:bs.size<=i));rw[this];simp
 |succ k ih=>
  intro i r hk;unfold ByteArray.toList.loop;have h:i<bs.size:=ab;rw[aq h,ih (i+1) _ ab]
  have h':i<bs.data.toList.length:=by simpa using h
  rw[List.drop_eq_getElem_cons h']
  have:bs.get! i=bs.data.toList[i]:=by
   obtain⟨⟨l⟩⟩:=bs
   show(Array.mk l)[i]! =_
   simp at h';simp[h']
  rw[this];simp
theorem toList_data (l:List UInt8):(ByteArray.mk ⟨l⟩).toList=l:=by
 unfold ByteArray.toList;rw[asR _ _ 0 [] rfl];rfl
theorem asS{op:BinOp}{x y r:Value}(h:yN op x y=some r):aW op x y=some r:=by
 have key:∀(n:Int) (x:Option Value),(match La n with |true=>some (Value.int .i64 n)|false=>none)=some r->x=(if IntKind.i64=IntKind.i64 then(if IntKind.i64.wrap n=n then some (Value.int .i64 n) else none) else none)->x=some r:=by
  intro n x h hx
  cases hh:La n with
  |true=>rw[hh] at h;rw[hx,aq rfl,aq (asQ hh)];exact h
  |false=>rw[hh] at h;cases h
 unfold yN at h;split at h
 ·split at h
  ·rw[Of] at h;rw[arh,toList_data,toList_data];exact h
  ·rw[Of] at h;rw[ari,toList_data,toList_data];exact h
  ·split at h
   ·rename_i hb;rw[afn (by have:=tr hb;omega)];exact h
   ·cases h
  ·cases h
 ·split at h
  ·exact key _ _ h rfl
  ·exact key _ _ h rfl
  ·exact key _ _ h rfl
  ·exact h
 ·exact h
def HQ (U:List Nat)(st:St)(op:fe):Option AV:=match op with
 | .bin o x y=>match st.sc x,st.sc y with
  |some u,some v=>match yN o u v with
   |some r=>some (.w (.c (.v r)))
   |none=>none
  |_,_=>none
 |op=>match cA op with
  |some (_,ev)=>ev st U
  |none=>none
theorem agq{U:List Nat}(h:HQ U st op=some x):∃m ev,cA op=some (m,ev)/\ev st U=some x:=by
 unfold HQ at h;split at h
 ·rename_i o a b;refine⟨_,_,rfl,?_⟩;split at h
  ·rename_i u v h1 h2;split at h
   ·rename_i r hr
    show(match st.sc a,st.sc b with |some u,some v=>(aW o u v).map fun r=>AV.w (.c (.v r))|_,_=>none)=_
    rw[h1,h2];dsimp only;rw[asS hr];exact h
   ·cases h
  ·cases h
 ·split at h
  ·rename_i m ev he;exact⟨m,ev,he,h⟩
  ·cases h
noncomputable def Sx {R:Type}(l:List (Nat×AV))(d:Nat)(x:AV):(List (Nat×AV)->R)->R:=List.rec (motive:=fun _=>(List (Nat×AV)->R)->R) (fun k=>k []) (fun p t ih k=>match p with
 |(i,y)=>match Nat.beq i d with
  |true=>ih fun t'=>k ((i,x)::t')
  |false=>ih fun t'=>k ((i,y)::t')) l
theorem Yk {R:Type}:∀(l:List (Nat×AV)) (d:Nat) (x:AV) (k:List (Nat×AV)->R),Sx l d x k=k (qA l d x)
 |[],_,_,_=>rfl
 |(i,y)::l,d,x,k=>by
  show(match Nat.beq i d with
  |true=>Sx l d x fun t'=>k ((i,x)::t')
  |false=>Sx l d x fun t'=>k ((i,y)::t'))=_
  unfold qA
  cases h:Nat.beq i d with
  |true=>rw[aq (ej h)];exact Yk l d x _
  |false=>rw[af (QY h)];exact Yk l d x _
def Sy:List (Nat×AV)->Nat->Bool
 |[],_=>false
 |(i,_)::l,d=>match Nat.beq i d with
  |true=>true
  |false=>Sy l d
theorem agr:∀(l:List (Nat×AV)) (d:Nat),Sy l d=(aI l d).isSome
 |[],_=>rfl
 |(i,y)::l,d=>by
  unfold Sy aI
  cases h:Nat.beq i d with
  |true=>rw[aq (ej h)];rfl
  |false=>rw[af (QY h)];exact agr l d
noncomputable def dP (V L:List (Nat×AV))(S:List (Nat×Slot))(d:Option Nat)(x:AV):Option St:=match d with
 |none=>some ⟨V,L,S⟩
 |some d=>match Sy V d with
  |true=>Sx V d x fun V'=>some ⟨V',L,S⟩
  |false=>some ⟨V,(d,x)::L,S⟩
theorem Et(V L:List (Nat×AV))(S:List (Nat×Slot))(d:Option Nat)(x:AV):dP V L S d x=some ((St.mk V L S).eM d x):=by
 cases d with
 |none=>rfl
 |some d=>
  unfold dP St.eM St.put;dsimp only;rw[agr]
  cases h:(aI V d).isSome with
  |true=>rw[Yk];rfl
  |false=>rfl
def Og:fe->Bool
 | .GL _ _ _=>false
 | .box _ _=>false
 | .alloc _ _=>false
 | .uZ _ _ _ _=>false
 | .Aj _ _ _ _ _ _=>false
 | .app _ _ _ _=>false
 | .store _ _ _=>false
 | .qM _ _ _ _=>false
 | .Eh _ _ _=>false
 | .GX _ _ _ _ _=>false
 | .sC _ _ none _=>false
 | .call _ _=>false
 | .nB _ _ _=>false
 |_=>true
theorem ags(h:Og op=true):dA U st op=match cA op with
  |some (_,ev)=>(ev st []).map fun x=>(x,st)
  |none=>none:=by
 cases op<;>first|rfl|(cases h;done)|skip
 rename_i k x lo hi
 cases lo with
 |none=>cases h
 |some lo=>rfl
theorem asT(h:dA U st op=some (x,st')):st'.V=st.V/\st'.L=st.L:=by
 have rd:∀(ev:St->List Nat->Option AV),((ev st []).map fun x=>(x,st))=some (x,st')->st'.V=st.V/\st'.L=st.L:=fun ev h=>by
  rw[bO] at h;obtain⟨y,hy,he⟩:=h;cases he;exact⟨rfl,rfl⟩
 by_cases hr:Og op=true
 ·rw[ags hr] at h;split at h
  ·exact rd _ h
  ·cases h
 cases op with
 |GL s e k=>simp only[dA] at h;split at h<;>cases h;exact⟨rfl,rfl⟩
 |box s y=>simp only[dA] at h;(repeat' split at h)<;>cases h;exact⟨rfl,rfl⟩
 |alloc s za=>simp only[dA] at h;split at h<;>cases h;exact⟨rfl,rfl⟩
 |Eh k za y=>simp only[dA] at h;(repeat' split at h)<;>cases h;exact⟨rfl,rfl⟩
 |GX s e k za y=>simp only[dA] at h;(repeat' split at h)<;>cases h;exact⟨rfl,rfl⟩
 |uZ k n za qs=>simp only[dA] at h;(repeat' split at h)<;>cases h;exact⟨rfl,rfl⟩
 |Aj s e k n za qs=>simp only[dA] at h;(repeat' split at h)<;>cases h;exact⟨rfl,rfl⟩
 |app e k y z=>simp only[dA] at h;(repeat' split at h)<;>cases h;exact⟨rfl,rfl⟩
 |store n p y=>
  simp only[dA] at h;split at h
  ·rename_i xw hy;split at h
   ·rename_i st2 hst;split at h
    ·cases h;unfold St.store at hst
     (repeat' split at hst)<;>cases hst<;>exact⟨rfl,rfl⟩
    ·cases h
   ·cases h
  ·cases h
 |sC k y lo hi=>
  cases lo with
  |none=>
   simp only[dA] at h;split at h
   ·(repeat' split at h)<;>cases h;exact⟨rfl,rfl⟩
   ·exact rd ((cA (.sC k y none hi)).get rfl).2 h
  |some lo=>exact absurd rfl hr
 |call f ys=>simp[dA] at h
 |nB f ys D=>simp[dA] at h
 |qM D n p y=>simp[dA] at h
 |mv y=>exact absurd rfl hr
 |bin NL y z=>exact absurd rfl hr
 |un NM y=>exact absurd rfl hr
 |pick c y z=>exact absurd rfl hr
 |len y=>exact absurd rfl hr
 |mm mx y z=>exact absurd rfl hr
 |ld1 p=>exact absurd rfl hr
 |GM n p=>exact absurd rfl hr
 |xe p off=>exact absurd rfl hr
 |idx k y i=>exact absurd rfl hr
 |GN n k p i=>exact absurd rfl hr
 |ext y i=>exact absurd rfl hr
 |GO y i=>exact absurd rfl hr
 |Cf y=>exact absurd rfl hr
 |Ei i g y=>exact absurd rfl hr
 |GR y lo hi=>exact absurd rfl hr
 |GU kk y=>exact absurd rfl hr
 |Cg y=>exact absurd rfl hr
 |GV y z t=>exact absurd rfl hr
 |GQ za qs=>exact absurd rfl hr
 |eqs neg n y z=>exact absurd rfl hr
def xW (U:Option (List Nat))(st:St)(op:fe):Option (AV×St):=match op with
 | .uZ k n za qs=>match KR k n st qs with
  |some rows=>some (.w (.c (.sl rows)),st)
  |none=>dA U st (.uZ k n za qs)
 | .Aj s e k n za qs=>match KR k n st qs with
  |some rows=>match(aI st.S s).isSome with
   |true=>some (.w (.c (.own s ((st.slot s).gen+1))),st.cn s (.row e k ((st.slot s).gen+1) rows))
   |false=>none
  |none=>dA U st (.Aj s e k n za qs)
 |op=>dA U st op
theorem asU{r:AV×St}(h:xW U st op=some r):dA U st op=some r:=by
 unfold xW at h;split at h
 ·split at h
  ·rename_i rows hr;rw[arF hr];exact h
  ·exact h
 ·split at h
  ·rename_i rows hr;split at h
   ·rename_i hs;rw[arG hr hs];exact h
   ·cases h
  ·exact h
 ·exact h
def Sz:fe->Bool
 | .uZ _ _ _ _=>false
 | .Eh _ _ _=>false
 |_=>true
theorem asV(hs:Sz op=false)(h:dA U st op=some (x,st')):st'=st:=by
 cases op<;>first|(cases hs;done)|skip
 ·simp only[dA] at h;(repeat' split at h)<;>cases h;rfl
 ·simp only[dA] at h;(repeat' split at h)<;>cases h;rfl
noncomputable def Yl (U:Option (List Nat))(V L:List (Nat×AV))(S:List (Nat×Slot))(d:Option Nat)(op:fe):Option St:=match Og op with
 |true=>match HQ [] ⟨V,L,S⟩ op with
  |some x=>match agp op with
   |true=>dP V L S d x
   |false=>jt x fun x=>dP V L S d x
  |none=>none
 |false=>match xW U ⟨V,L,S⟩ op with
  |some (x,st')=>match Sz op with
   |true=>jt x fun x=>Ar st'.S fun S'=>dP V L S' d x
   |false=>jt x fun x=>dP V L S d x
  |none=>none
theorem asW{V L:List (Nat×AV)}{S:List (Nat×Slot)}{d:Option Nat}(h:Yl U V L S d op=some st'):((dA U ⟨V,L,S⟩ op).map fun p=>p.2.eM d p.1)=some st':=by
 unfold Yl at h
 cases hr:Og op with
 |true=>
  rw[hr] at h;dsimp only at h;split at h
  ·rename_i x hx
   have h:dP V L S d x=some st':=by
    split at h
    ·exact h
    ·rw[KY] at h;exact h
   rw[Et] at h;obtain⟨m,ev,he,hv⟩:=agq hx;rw[ags hr,he];dsimp only;rw[hv];exact h
  ·cases h
 |false=>
  rw[hr] at h;dsimp only at h;split at h
  ·rename_i x st2 hx;have hx:=asU hx
   cases hs:Sz op with
   |true=>
    rw[hs] at h;dsimp only at h;rw[KY,KZ,Et] at h;obtain⟨h1,h2⟩:=asT hx;rw[hx];obtain⟨V2,L2,S2⟩:=st2;dsimp only at h1 h2 h⊢;subst h1;subst h2;exact h
   |false=>
    rw[hs] at h;dsimp only at h;rw[KY,Et] at h;rw[hx,asV hs hx];exact h
  ·cases h
structure Lb (α:Type) where
 f:α
noncomputable def SA {α:Type}(j:Nat)(l:List (Nat×α)):Option α:=List.rec (motive:=fun _=>Option α) none (fun p _ ih=>Prod.rec (motive:=fun _=>Option α) (fun i x=>Bool.rec (motive:=fun _=>Option α) ih (some x) (Nat.beq i j)) p) l
theorem Ym {α:Type}(j:Nat):∀l:List (Nat×α),SA j l=aI l j
 |[]=>rfl
 |(i,x)::l=>by
  show Bool.rec (motive:=fun _=>Option α) (SA j l) (some x) (Nat.beq i j)=_
  unfold aI
  cases h:Nat.beq i j with
  |true=>rw[aq (ej h)]
  |false=>rw[af (QY h)];exact Ym j l
noncomputable def Ia (V L:List (Nat×AV))(i:Nat):Option AV:=Option.rec (motive:=fun _=>Option AV) (SA i L) (fun v=>some v) (SA i V)
theorem Yn(V L:List (Nat×AV))(S:List (Nat×Slot))(i:Nat):Ia V L i=St.get ⟨V,L,S⟩ i:=by
 unfold Ia St.get;dsimp only;rw[Ym,Ym];cases aI V i<;>rfl
noncomputable def nC (y:aP):Lb (List (Nat×AV)->List (Nat×AV)->Option AV):=match y with
 | .t i=>⟨fun V L=>Ia V L i⟩
 | .k x=>⟨fun _ _=>some (.w x)⟩
theorem Eu(y:aP)(V L:List (Nat×AV))(S:List (Nat×Slot)):(nC y).f V L=St.arg ⟨V,L,S⟩ y:=by
 cases y with
 |t i=>exact Yn V L S i
 |k x=>rfl
noncomputable def yO (y:aP):Lb (List (Nat×AV)->List (Nat×AV)->Option Value):=match y with
 | .t i=>⟨fun V L=>Gw (Ia V L i)⟩
 | .k x=>⟨fun _ _=>Gw (some (.w x))⟩
theorem Oh(y:aP)(V L:List (Nat×AV))(S:List (Nat×Slot)):(yO y).f V L=St.sc ⟨V,L,S⟩ y:=by
 cases y with
 |t i=>show Gw (Ia V L i)=_;rw[Yn V L S];rfl
 |k x=>rfl
def Yo (o:BinOp):Lb (Value->Value->Option Value):=match o with
 | .lss=>⟨fun x y=>yN .lss x y⟩
 | .eql=>⟨fun x y=>yN .eql x y⟩
 | .neq=>⟨fun x y=>yN .neq x y⟩
 | .add=>⟨fun x y=>yN .add x y⟩
 |o=>⟨fun x y=>yN o x y⟩
theorem asX(o:BinOp)(x y:Value):(Yo o).f x y=yN o x y:=by cases o<;>rfl
abbrev GoT:=Option (List Nat)->List (Nat×AV)->List (Nat×AV)->List (Nat×Slot)->Option Nat->Option St
noncomputable def Yp (op:fe):Lb GoT:=match op with
 | .mv x=>match nC x with
  |⟨a⟩=>⟨fun _ V L S d=>match a V L with
   |some y=>dP V L S d y
   |none=>none⟩
 | .bin o x y=>match yO x,yO y,Yo o with
  |⟨a⟩,⟨b⟩,⟨f⟩=>⟨fun _ V L S d=>match a V L,b V L with
   |some u,some v=>match f u v with
    |some r=>Es r fun r=>dP V L S d (.w (.c (.v r)))
    |none=>none
   |_,_=>none⟩
 | .len x=>match nC x with
  |⟨a⟩=>⟨fun _ V L S d=>match St.rows ⟨V,L,S⟩ [] (a V L) with
   |some es=>fI (Int.ofNat es.length) fun n=>dP V L S d (.w (.c (.v (.int .i64 n))))
   |none=>none⟩
 | .ld1 p=>match nC p with
  |⟨a⟩=>⟨fun _ V L S d=>match St.cells ⟨V,L,S⟩ [] 1 (a V L) with
   |some (c::_)=>dP V L S d (.w (.c c))
   |_=>none⟩
 | .xe p off=>match nC p with
  |⟨a⟩=>⟨fun _ V L S d=>match St.cells ⟨V,L,S⟩ [] 0 (a V L),a V L with
   |some _,some q=>jt (q.shift off) fun x=>dP V L S d x
   |_,_=>none⟩
 | .Cg p=>match nC p with
  |⟨a⟩=>⟨fun _ V L S d=>match St.cells ⟨V,L,S⟩ [] 0 (a V L),a V L with
   |some _,some q=>jt q fun x=>dP V L S d x
   |_,_=>none⟩
 | .idx k x i=>match nC x,yO i with
  |⟨a⟩,⟨b⟩=>⟨fun _ V L S d=>match Eb k (St.rows ⟨V,L,S⟩ [] (a V L)) (a V L) (b V L) with
   |some x=>jt x fun x=>dP V L S d x
   |none=>none⟩
 | .pick c x y=>match yO c,nC x,nC y with
  |⟨a⟩,⟨b⟩,⟨e⟩=>⟨fun _ V L S d=>match a V L with
   |some (.bool true)=>(match b V L with
    |some x=>dP V L S d x
    |none=>none)
   |some (.bool false)=>(match e V L with
    |some x=>dP V L S d x
    |none=>none)
   |_=>none⟩
 | .Cf x=>match yO x with
  |⟨a⟩=>⟨fun _ V L S d=>match a V L with
   |some (.string s)=>fI (Int.ofNat s.size) fun n=>dP V L S d (.w (.c (.v (.int .i64 n))))
   |_=>none⟩
 |op=>match Og op,Sz op with
  |true,_=>⟨fun _ V L S d=>match HQ [] ⟨V,L,S⟩ op with
   |some x=>match agp op with
    |true=>dP V L S d x
    |false=>jt x fun x=>dP V L S d x
   |none=>none⟩
  |false,true=>⟨fun U V L S d=>match xW U ⟨V,L,S⟩ op with
   |some (x,st')=>jt x fun x=>Ar st'.S fun S'=>dP V L S' d x
   |none=>none⟩
  |false,false=>⟨fun U V L S d=>match xW U ⟨V,L,S⟩ op with
   |some (x,_)=>jt x fun x=>dP V L S d x
   |none=>none⟩
theorem asY(op:fe)(U:Option (List Nat))(V L:List (Nat×AV))(S:List (Nat×Slot))(d:Option Nat):(Yp op).f U V L S d=Yl U V L S d op:=by
 cases op with
 |mv x=>
  show(match(nC x).f V L with |some y=>dP V L S d y|none=>none)=(match St.arg ⟨V,L,S⟩ x with |some y=>dP V L S d y|none=>none)
  rw[Eu x V L S]
 |bin o x y=>
  show(match(yO x).f V L,(yO y).f V L with |some u,some v=>(match(Yo o).f u v with |some r=>Es r fun r=>dP V L S d (.w (.c (.v r)))|none=>none)|_,_=>none)=_
  rw[Oh x V L S,Oh y V L S];simp only[asX]
  show _=(match(match St.sc ⟨V,L,S⟩ x,St.sc ⟨V,L,S⟩ y with |some u,some v=>(match yN o u v with |some r=>some (AV.w (.c (.v r)))|none=>none)|_,_=>none) with |some x=>jt x fun x=>dP V L S d x|none=>none)
  cases St.sc ⟨V,L,S⟩ x with
  |none=>rfl
  |some u=>cases St.sc ⟨V,L,S⟩ y with
   |none=>rfl
   |some v=>dsimp only;cases yN o u v<;>rfl
 |len x=>
  show(match St.rows ⟨V,L,S⟩ [] ((nC x).f V L) with |some es=>fI (Int.ofNat es.length) fun n=>dP V L S d (.w (.c (.v (.int .i64 n))))|none=>none)=(match(match St.rows ⟨V,L,S⟩ [] (St.arg ⟨V,L,S⟩ x) with |some es=>some (AV.w (.c (.v (.int .i64 es.length))))|none=>none) with |some x=>jt x fun x=>dP V L S d x|none=>none)
  rw[Eu x V L S];cases St.rows ⟨V,L,S⟩ [] (St.arg ⟨V,L,S⟩ x)<;>rfl
 |ld1 p=>
  show(match St.cells ⟨V,L,S⟩ [] 1 ((nC p).f V L) with |some (c::_)=>dP V L S d (.w (.c c))|_=>none)=(match(match St.cells ⟨V,L,S⟩ [] 1 (St.arg ⟨V,L,S⟩ p) with |some (c::_)=>some (AV.w (.c c))|_=>none) with |some x=>dP V L S d x|none=>none)
  rw[Eu p V L S]
  cases St.cells ⟨V,L,S⟩ [] 1 (St.arg ⟨V,L,S⟩ p) with
  |none=>rfl
  |some l=>cases l<;>rfl
 |xe p off=>
  show(match St.cells ⟨V,L,S⟩ [] 0 ((nC p).f V L),(nC p).f V L with |some _,some q=>jt (q.shift off) fun x=>dP V L S d x|_,_=>none)=(match(match St.cells ⟨V,L,S⟩ [] 0 (St.arg ⟨V,L,S⟩ p),St.arg ⟨V,L,S⟩ p with |some _,some q=>some (q.shift off)|_,_=>none) with |some x=>jt x fun x=>dP V L S d x|none=>none)
  rw[Eu p V L S];cases St.cells ⟨V,L,S⟩ [] 0 (St.arg ⟨V,L,S⟩ p)<;>cases St.arg ⟨V,L,S⟩ p<;>rfl
 |Cg p=>
  show(match St.cells ⟨V,L,S⟩ [] 0 ((nC p).f V L),(nC p).f V L with |some _,some q=>jt q fun x=>dP V L S d x|_,_=>none)=(match(match St.cells ⟨V,L,S⟩ [] 0 (St.arg ⟨V,L,S⟩ p),St.arg ⟨V,L,S⟩ p with |some _,some q=>some q|_,_=>none) with |some x=>jt x fun x=>dP V L S d x|none=>none)
  rw[Eu p V L S];cases St.cells ⟨V,L,S⟩ [] 0 (St.arg ⟨V,L,S⟩ p)<;>cases St.arg ⟨V,L,S⟩ p<;>rfl
 |idx k x i=>
  show(match Eb k (St.rows ⟨V,L,S⟩ [] ((nC x).f V L)) ((nC x).f V L) ((yO i).f V L) with |some x=>jt x fun x=>dP V L S d x|none=>none)=_
  rw[Eu x V L S,Oh i V L S];rfl
 |pick c x y=>
  show(match(yO c).f V L with |some (.bool true)=>(match(nC x).f V L with |some x=>dP V L S d x|none=>none)|some (.bool false)=>(match(nC y).f V L with |some x=>dP V L S d x|none=>none)|_=>none)=(match(match St.sc ⟨V,L,S⟩ c with |some (.bool true)=>St.arg ⟨V,L,S⟩ x|some (.bool false)=>St.arg ⟨V,L,S⟩ y|_=>none) with |some x=>dP V L S d x|none=>none)
  rw[Oh c V L S,Eu x V L S,Eu y V L S]
  cases St.sc ⟨V,L,S⟩ c with
  |none=>rfl
  |some v=>
   cases v with
   |bool b=>cases b<;>rfl
   |_=>rfl
 |Cf x=>
  show(match(yO x).f V L with |some (.string s)=>fI (Int.ofNat s.size) fun n=>dP V L S d (.w (.c (.v (.int .i64 n))))|_=>none)=(match(match St.sc ⟨V,L,S⟩ x with |some (.string s)=>some (AV.w (.c (.v (.int .i64 s.size))))|_=>none) with |some x=>jt x fun x=>dP V L S d x|none=>none)
  rw[Oh x V L S]
  cases St.sc ⟨V,L,S⟩ x with
  |none=>rfl
  |some v=>cases v<;>rfl
 |sC k x lo hi=>cases lo<;>rfl
 |uZ k n za qs=>
  show(match xW U ⟨V,L,S⟩ (.uZ k n za qs) with |some (x,_)=>jt x fun x=>dP V L S d x|none=>none)=_
  rfl
 |_=>rfl
abbrev C1:=FuncId->List AW->Option AV
abbrev C2:=FuncId->List AV->List (Nat×Slot)->Option (AV×List (Nat×Slot))
def iD (P:Program)(c:C1):Prop:=∀f args x,c f args=some x->aU P f args (fun y=>y=x)
def Ew (P:Program)(c:C2):Prop:=∀f args T x Y,c f args T=some (x,Y)->Y.map (·.1)=T.map (·.1)/\iB P f args T (fun y S'=>y=x/\∀p∈Y,S' p.1=p.2)
def SB:List Nat->List Nat->Bool
 |[],[]=>true
 |a::l,b::m=>match Nat.beq a b with
  |true=>SB l m
  |false=>false
 |_,_=>false
theorem agt:∀{l m:List Nat},SB l m=true->l=m
 |[],[],_=>rfl
 |[],_::_,h=>by cases h
 |_::_,[],h=>by cases h
 |a::l,b::m,h=>by
  unfold SB at h
  cases hb:Nat.beq a b with
  |true=>rw[hb] at h;rw[ej hb,agt h]
  |false=>rw[hb] at h;cases h
noncomputable def SC (c1:C1)(c2:C2)(op:fe):Lb GoT:=match op with
 | .call f ys=>⟨fun _ V L S d=>match oL ⟨V,L,S⟩ ys with
  |some ws=>match c1 f ws with
   |some x=>jt x fun x=>dP V L S d x
   |none=>none
  |none=>none⟩
 | .nB f ys D=>⟨fun U V L S d=>match mM ⟨V,L,S⟩ ys with
  |some ws=>match ws.all (iC D) && (D.all fun s=>(aI S s).isSome && fy D (St.slot ⟨V,L,S⟩ s) && qN U s) with
   |true=>match c2 f ws (gL ⟨V,L,S⟩ D) with
    |some (x,Y)=>match SB (Y.map (·.1)) D && (iC D x && Y.all fun p=>fy D p.2) with
     |true=>jt x fun x=>Ar (ml Y ⟨V,L,S⟩).S fun S'=>dP V L S' d x
     |false=>none
    |none=>none
   |false=>none
  |none=>none⟩
 |op=>Yp op
noncomputable def cO (c1:C1)(c2:C2)(U:Option (List Nat))(b:BO):Lb (List (Nat×AV)->List (Nat×AV)->List (Nat×Slot)->Option St):=match b with
 |⟨d,g,op⟩=>match SC c1 c2 op with
  |⟨f⟩=>match g with
   |none=>⟨fun V L S=>f U V L S d⟩
   |some (t,want)=>⟨fun V L S=>match lH (Ia V L t) want with
    |some true=>f U V L S d
    |some false=>dP V L S d (.bD [])
    |none=>none⟩
noncomputable def xO (c1:C1)(c2:C2)(U:Option (List Nat))(st:St)(b:BO):Option St:=match cO c1 c2 U b,st with
 |⟨f⟩,⟨V,L,S⟩=>f V L S
section
variable {P:Program} {c1:C1} {c2:C2}
variable {K:St->Prop} {U:Option (List Nat)} {st':St}
theorem asZ(l:List (Nat×Slot))(st:St):(ml l st).V=st.V/\(ml l st).L=st.L:=by rw[NU];exact⟨rfl,rfl⟩
theorem agu(h1:iD P c1)(h2:Ew P c2){V L:List (Nat×AV)}{S:List (Nat×Slot)}{d:Option Nat}{op:fe}(h:(SC c1 c2 op).f U V L S d=some st')(hK:K st'):
  tJ P U op ⟨V,L,S⟩ fun x st2=>K (st2.eM d x):=by
 have gen:(Yp op).f U V L S d=some st'->tJ P U op ⟨V,L,S⟩ fun x st2=>K (st2.eM d x):=fun h=>by
  rw[asY] at h;have:=asW h;rw[bO] at this;obtain⟨⟨x,st2⟩,g1,g2⟩:=this;refine XG g1 ?_;dsimp only at g2;rw[g2];exact hK
 unfold SC at h;split at h
 ·rename_i f ys;dsimp only at h;split at h
  ·rename_i ws Yq;split at h
   ·rename_i x hx;rw[KY,Et] at h;cases h;exact⟨ws,_,Yq,h1 f ws x hx,fun y hy=>by rw[hy];exact hK⟩
   ·cases h
  ·cases h
 ·rename_i f ys D;dsimp only at h;split at h
  ·rename_i ws Yq;split at h
   ·rename_i hc;rw[bV] at hc;obtain⟨jN,dS⟩:=hc;split at h
    ·rename_i x Y hx;split at h
     ·rename_i hl;rw[bV,bV] at hl;obtain⟨cF,fO,xp⟩:=hl;have hY:=agt cF;rw[KY,KZ,Et] at h;cases h
      have hD:∀s∈D,(aI S s).isSome=true/\fy D (St.slot ⟨V,L,S⟩ s)=true/\qN U s=true:=fun s hs=>by
       have:=fq.1 dS s hs;simp only[bV] at this;exact⟨this.1.1,this.1.2,this.2⟩
      refine⟨ws,_,Yq,jN,fun s hs=>⟨(hD s hs).1,(hD s hs).2.1⟩,fun s hs=>RU (hD s hs).2.2,(h2 f ws _ x Y hx).2,?_⟩;rintro r S' ⟨rfl,hS⟩;refine⟨⟨fO,fun s hs=> ?_⟩,?_⟩
      ·rw[<-hY] at hs;obtain⟨p,hp,rfl⟩:=dm.1 hs;rw[hS p hp];exact fq.1 xp p hp
      ·have e1:mN D S' ⟨V,L,S⟩=ml Y ⟨V,L,S⟩:=by
        rw[NU];unfold mN;rw[XO Y S D S' hS (fun s=>by rw[hY])]
       rw[e1];obtain⟨g1,g2⟩:=asZ Y ⟨V,L,S⟩
       have e2:ml Y ⟨V,L,S⟩=⟨V,L,(ml Y ⟨V,L,S⟩).S⟩:=by
        generalize ml Y ⟨V,L,S⟩=q at g1 g2⊢;obtain⟨a,b,c⟩:=q;dsimp only at g1 g2;rw[g1,g2]
       rw[e2];exact hK
     ·cases h
    ·cases h
   ·cases h
  ·cases h
 ·exact gen h
theorem SD(h1:iD P c1)(h2:Ew P c2){st:St}{b:BO}(h:xO c1 c2 U st b=some st')(hK:K st'):sx U (b.ao P) K st:=by
 obtain⟨V,L,S⟩:=st;obtain⟨d,g,op⟩:=b
 cases g with
 |none=>exact agu h1 h2 (op:=op) (U:=U) (d:=d) h hK
 |some p=>
  obtain⟨t,want⟩:=p
  change (match lH (Ia V L t) want with
   |some true=>(SC c1 c2 op).f U V L S d
   |some false=>dP V L S d (.bD [])
   |none=>none)=some st' at h
  rw[Yn V L S] at h
  show(match lH (St.arg ⟨V,L,S⟩ (.t t)) want with
   |some true=>_
   |some false=>_
   |none=>False)
  split at h
  ·rename_i hw;have hw:lH (St.arg ⟨V,L,S⟩ (.t t)) want=some true:=hw;rw[hw];exact agu h1 h2 (op:=op) (U:=U) (d:=d) h hK
  ·rename_i hw;have hw:lH (St.arg ⟨V,L,S⟩ (.t t)) want=some false:=hw;rw[hw];dsimp only;rw[RW];rw[Et] at h;cases h;exact hK
  ·cases h
end
variable {L L' V:List (Nat×AV)} {P:Program} {U:List Nat} {c1:C1} {c2:C2} {f:FuncId} {lE:List (FuncId×FD)} {x:AV} {y:aP}
noncomputable def xL (c1:C1)(c2:C2)(U:Option (List Nat))(l:List BO):St->Option St:=List.rec (motive:=fun _=>St->Option St) (fun st=>some st) (fun b _ ih st=>match xO c1 c2 U st b with
 |some st'=>ih st'
 |none=>none) l
theorem Yr {P:Program}{c1:C1}{c2:C2}(h1:iD P c1)(h2:Ew P c2){U:Option (List Nat)}:∀{l:List BO} {st st':St},xL c1 c2 U l st=some st'->∀{K:St->Prop},K st'->bt U (l.map (BO.ao P)) K st
 |[],st,st',h,K,hK=>by cases h;exact hK
 |b::l,st,st',h,K,hK=>by
  change (match xO c1 c2 U st b with
   |some st'=>xL c1 c2 U l st'
   |none=>none)=some st' at h
  split at h
  ·rename_i st2 hb;exact SD h1 h2 hb (Yr h1 h2 h hK)
  ·cases h
noncomputable def xT (U:List Nat)(st:St)(b:BO)(bp:Bool):Option St:=match st,b with
 |⟨V,L,S⟩,⟨d,g,op⟩=>match cA op with
  |none=>none
  |some (mem,_)=>match mem && bp with
   |true=>none
   |false=>match g with
    |none=>match HQ U ⟨V,L,S⟩ op with
     |some x=>jt x fun x=>dP V L S d x
     |none=>none
    |some (t,want)=>match lH (St.arg ⟨V,L,S⟩ (.t t)) want with
     |some true=>match HQ U ⟨V,L,S⟩ op with
      |some x=>jt x fun x=>dP V L S d x
      |none=>none
     |some false=>dP V L S d (.bD [])
     |none=>none
theorem ata{st st':St}{b:BO}{bp:Bool}(h:xT U st b bp=some st'):Ep U st b bp=some st':=by
 obtain⟨V,L,S⟩:=st;obtain⟨d,g,op⟩:=b;unfold xT at h;unfold Ep;dsimp only at h⊢;split at h
 ·cases h
 rename_i mem ev bT;rw[bT];dsimp only;split at h
 ·cases h
 rename_i hm
 have Lc:¬(mem=true/\bp=true):=fun⟨e1,e2⟩=>by rw[e1,e2] at hm;cases hm
 rw[af Lc]
 have key:(match HQ U ⟨V,L,S⟩ op with
     |some x=>jt x fun x=>dP V L S d x
     |none=>none)=some st'->((ev ⟨V,L,S⟩ U).map fun x=>(St.mk V L S).eM d x)=some st':=fun h=>by
  split at h
  ·rename_i x hx;rw[KY,Et] at h;obtain⟨m,ev',he,hv⟩:=agq hx;rw[bT] at he;cases he;rw[hv];exact h
  ·cases h
 cases g with
 |none=>exact key h
 |some p=>
  obtain⟨t,want⟩:=p;dsimp only at h⊢;split at h
  ·rename_i hv;rw[hv];exact key h
  ·rename_i hv;rw[hv];rw[Et] at h;exact h
  ·cases h
def Oi:Value->Value->Bool
 | .int k a,.int k' b=>decide (k=k') && decide (a=b)
 | .bool a,.bool b=>decide (a=b)
 | .string ⟨⟨a⟩⟩,.string ⟨⟨b⟩⟩=>HK a b
 | .slice none 0 0,.slice none 0 0=>true
 |_,_=>false
theorem atb{x y:Value}(h:Oi x y=true):x=y:=by
 unfold Oi at h;split at h
 ·simp only[bV,dh] at h;rw[h.1,h.2]
 ·simp only[dh] at h;rw[h]
 ·rw[Of,DJ] at h;rw[h]
 ·rfl
 ·cases h
noncomputable def Ib (x:AC):AC->Bool:=AC.rec (motive_1:=fun _=>AC->Bool) (motive_2:=fun _=>List (List AC)->Bool) (motive_3:=fun _=>List AC->Bool)
 (fun v y=>match y with | .v u=>Oi v u|_=>false) (fun _ ih y=>match y with | .sl fs=>ih fs|_=>false) (fun s g y=>match y with | .own s' g'=>Nat.beq s s' && Nat.beq g g'|_=>false) (fun _ _ _=>false) (fun _ _ _ _=>false) (fun _ _ _ _=>false) (fun _ _ _=>false)
 (fun l=>match l with |[]=>true|_=>false) (fun _ _ jr js l=>match l with |b::m=>jr b && js m|[]=>false) (fun l=>match l with |[]=>true|_=>false) (fun _ _ jr js l=>match l with |b::m=>jr b && js m|[]=>false) x
theorem Oj(x:AC):∀y,Ib x y=true->x=y:=by
 refine AC.rec (motive_1:=fun x=>∀y,Ib x y=true->x=y)
  (motive_2:=fun l=>∀m,(AC.rec_1 (motive_1:=fun _=>AC->Bool) (motive_2:=fun _=>List (List AC)->Bool) (motive_3:=fun _=>List AC->Bool)
   (fun v y=>match y with | .v u=>Oi v u|_=>false) (fun _ ih y=>match y with | .sl fs=>ih fs|_=>false) (fun s g y=>match y with | .own s' g'=>Nat.beq s s' && Nat.beq g g'|_=>false) (fun _ _ _=>false) (fun _ _ _ _=>false) (fun _ _ _ _=>false) (fun _ _ _=>false)
   (fun l=>match l with |[]=>true|_=>false) (fun _ _ jr js l=>match l with |b::m=>jr b && js m|[]=>false) (fun l=>match l with |[]=>true|_=>false) (fun _ _ jr js l=>match l with |b::m=>jr b && js m|[]=>false) l:List (List AC)->Bool) m=true->l=m)
  (motive_3:=fun l=>∀m,(AC.rec_2 (motive_1:=fun _=>AC->Bool) (motive_2:=fun _=>List (List AC)->Bool) (motive_3:=fun _=>List AC->Bool)
   (fun v y=>match y with | .v u=>Oi v u|_=>false) (fun _ ih y=>match y with | .sl fs=>ih fs|_=>false) (fun s g y=>match y with | .own s' g'=>Nat.beq s s' && Nat.beq g g'|_=>false) (fun _ _ _=>false) (fun _ _ _ _=>false) (fun _ _ _ _=>false) (fun _ _ _=>false)
   (fun l=>match l with |[]=>true|_=>false) (fun _ _ jr js l=>match l with |b::m=>jr b && js m|[]=>false) (fun l=>match l with |[]=>true|_=>false) (fun _ _ jr js l=>match l with |b::m=>jr b && js m|[]=>false) l:List AC->Bool) m=true->l=m)
  ?_ ?_ ?_ (fun _ _ _ h=>by cases h) (fun _ _ _ _ h=>by cases h) (fun _ _ _ _ h=>by cases h) (fun _ _ _ h=>by cases h) ?_ ?_ ?_ ?_ x
 ·intro v y h
  cases y with
  |v u=>exact aG _ (atb h)
  |sl es=>cases h
  |own s g=>cases h
  |_=>cases h
 ·intro es ih y h
  cases y with
  |v u=>cases h
  |sl fs=>exact aG _ (ih fs h)
  |own s g=>cases h
  |_=>cases h
 ·intro s g y h
  cases y with
  |v u=>cases h
  |sl fs=>cases h
  |own s' g'=>
   change (Nat.beq s s' && Nat.beq g g')=true at h;rw[bV] at h;rw[ej h.1,ej h.2]
  |_=>cases h
 ·intro m h
  cases m with
  |nil=>rfl
  |cons b m=>cases h
 ·intro a l h1 h2 m h
  cases m with
  |nil=>cases h
  |cons b m=>
   have:=Ga.1 h;rw[h1 b this.1,h2 m this.2]
 ·intro m h
  cases m with
  |nil=>rfl
  |cons b m=>cases h
 ·intro a l h1 h2 m h
  cases m with
  |nil=>cases h
  |cons b m=>
   have:=Ga.1 h;rw[h1 b this.1,h2 m this.2]
def cS {α:Type}(f:α->α->Bool):List α->List α->Bool
 |[],[]=>true
 |a::l,b::m=>f a b && cS f l m
 |_,_=>false
theorem Au {α:Type}{f:α->α->Bool}(hf:∀a b,f a b=true->a=b):∀{l m:List α},cS f l m=true->l=m
 |[],[],_=>rfl
 |[],_::_,h=>by cases h
 |_::_,[],h=>by cases h
 |a::l,b::m,h=>by
  have:=Ga.1 h;rw[hf a b this.1,Au hf this.2]
noncomputable def Ol:AW->AW->Bool
 | .c x,.c y=>Ib x y
 | .agg x,.agg y=>cS (fun a b=>Ib a b) x y
 |_,_=>false
theorem Yt{x y:AW}(h:Ol x y=true):x=y:=by
 unfold Ol at h;split at h
 ·rw[Oj _ _ h]
 ·rw[Au (fun a b=>Oj a b) h]
 ·cases h
noncomputable def Ld:AV->AV->Bool
 | .w x,.w y=>Ol x y
 | .bD x,.bD y=>cS (fun a b=>Ol a b) x y
 | .pb s g o,.pb s' g' o'=>Nat.beq s s' && (Nat.beq g g' && Nat.beq o o')
 | .pr s g i o,.pr s' g' i' o'=>Nat.beq s s' && (Nat.beq g g' && (Nat.beq i i' && Nat.beq o o'))
 | .pi x o,.pi y o'=>cS (fun a b=>Ib a b) x y && Nat.beq o o'
 | .u,.u=>true
 |_,_=>false
theorem SE{y:AV}(h:Ld x y=true):x=y:=by
 unfold Ld at h;split at h
 ·rw[Yt h]
 ·rw[Au (fun a b=>Yt) h]
 ·simp only[bV] at h;rw[ej h.1,ej h.2.1,ej h.2.2]
 ·simp only[bV] at h;rw[ej h.1,ej h.2.1,ej h.2.2.1,ej h.2.2.2]
 ·simp only[bV] at h;rw[Au (fun a b=>Oj a b) h.1,ej h.2]
 ·rfl
 ·cases h
noncomputable def Yu:Slot->Slot->Bool
 | .dead g,.dead g'=>Nat.beq g g'
 | .box g x,.box g' y=>Nat.beq g g' && cS (fun a b=>Ib a b) x y
 | .row e k g x,.row e' k' g' y=>Nat.beq e e' && (Nat.beq k k' && (Nat.beq g g' && cS (fun a b=>cS (fun a b=>Ib a b) a b) x y))
 |_,_=>false
theorem atc{x y:Slot}(h:Yu x y=true):x=y:=by
 unfold Yu at h;split at h
 ·rw[ej h]
 ·simp only[bV] at h;rw[ej h.1,Au (fun a b=>Oj a b) h.2]
 ·simp only[bV] at h;rw[ej h.1,ej h.2.1,ej h.2.2.1,Au (fun a b=>Au (fun a b=>Oj a b)) h.2.2.2]
 ·cases h
noncomputable def Yv (V V':List (Nat×AV))(S S':List (Nat×Slot)):Bool:=cS (fun p q=>Nat.beq p.1 q.1 && Ld p.2 q.2) V V' && cS (fun p q=>Nat.beq p.1 q.1 && Yu p.2 q.2) S S'
theorem atd{V':List (Nat×AV)}{S S':List (Nat×Slot)}(h:Yv V V' S S'=true):V=V'/\S=S':=by
 have:=Ga.1 h;refine⟨Au (fun p q hh=> ?_) this.1,Au (fun p q hh=> ?_) this.2⟩
 ·have h2:=Ga.1 hh;exact Prod.ext (ej h2.1) (SE h2.2)
 ·have h2:=Ga.1 hh;exact Prod.ext (ej h2.1) (atc h2.2)
noncomputable def agree (L1 L2:List (Nat×AV)):List (Nat×AV)->List (Nat×AV)
 |[]=>[]
 |(i,x)::L=>match aI L1 i,aI L2 i with
  |some a,some b=>match Ld x a && Ld x b with
   |true=>(i,x)::agree L1 L2 L
   |false=>agree L1 L2 L
  |_,_=>agree L1 L2 L
noncomputable def Ic (c1:C1)(c2:C2)(U:List Nat)(l tl:List BO)(t:OT):Bool->St->Option St:=OT.rec (motive:=fun _=>Bool->St->Option St)
 (fun _ st=>xL c1 c2 none tl st)
 (fun i _ ih m st=>match l[i]? with
  |some b=>match xT U st b m with
   |some st'=>ih m st'
   |none=>none
  |none=>none)
 (fun i _ ih _ st=>match l[i]? with
  |some b=>match xO c1 c2 (some U) st b with
   |some st'=>ih true st'
   |none=>none
  |none=>none)
 (fun i j _ _ ihi ihj _ st=>match l[i]?,l[j]? with
  |some b,some b'=>match xO c1 c2 (some U) st b,xO c1 c2 (some U) st b' with
   |some s1,some s2=>match ihi true s1,ihj true s2 with
    |some ⟨V,L,S⟩,some ⟨V',L',S'⟩=>match Yv V V' S S' with
     |true=>KW (agree L L' L) fun L=>some ⟨V,L,S⟩
     |false=>none
    |_,_=>none
   |_,_=>none
  |_,_=>none)
 (fun _ _ _ _ _ _ _ _ _ _ _=>none) t
def Ext (L' L:List (Nat×AV)):Prop:=∀i x,aI L' i=some x->aI L i=some x
theorem Ext.refl(L:List (Nat×AV)):Ext L L:=fun _ _ h=>h
theorem Ext.nil(L:List (Nat×AV)):Ext [] L:=fun _ _ h=>by simp[aI] at h
theorem Om (L1 L2:List (Nat×AV)):∀(L:List (Nat×AV)) (i:Nat) (x:AV),aI (agree L1 L2 L) i=some x->aI L1 i=some x/\aI L2 i=some x
 |[],i,x,h=>by simp[agree,aI] at h
 |(j,y)::L,i,x,h=>by
  unfold agree at h;split at h
  ·rename_i a b ha hb;split at h
   ·rename_i hc;have hc:=Ga.1 hc;unfold aI at h;split at h
    ·rename_i Ad;cases h;subst Ad;exact⟨by rw[ha,<-SE hc.1],by rw[hb,<-SE hc.2]⟩
    ·exact Om L1 L2 L i x h
   ·exact Om L1 L2 L i x h
  ·exact Om L1 L2 L i x h
theorem On {P:Program}{c1:C1}{c2:C2}(h1:iD P c1)(h2:Ew P c2){U:List Nat}{l tl:List BO}{K:St->Prop}:∀{t:OT} {m:Bool} {st st':St},Ic c1 c2 U l tl t m st=some st'->(∀L,Ext st'.L L->K ⟨st'.V,L,st'.S⟩)->aX U (l.map (BO.ao P)) (tl.map (BO.ao P)) K t m st
 | .nil,m,st,st',h,hK=>vp (Yr h1 h2 h (hK st'.L (Ext.refl _)))
 | .take i t,m,st,st',h,hK=>by
  change (match l[i]? with
  |some b=>match xT U st b m with
   |some st'=>Ic c1 c2 U l tl t m st'
   |none=>none
  |none=>none)=some st' at h
  split at h
  ·rename_i b hb;split at h
   ·rename_i st2 hx;exact qO hb (ata hx) (On h1 h2 h hK)
   ·cases h
  ·cases h
 | .move i t,m,st,st',h,hK=>by
  change (match l[i]? with
  |some b=>match xO c1 c2 (some U) st b with
   |some st'=>Ic c1 c2 U l tl t true st'
   |none=>none
  |none=>none)=some st' at h
  split at h
  ·rename_i b hb;split at h
   ·rename_i st2 hx;unfold aX;rw[fh,hb];exact SD h1 h2 hx (On h1 h2 h hK)
   ·cases h
  ·cases h
 | .wQ i j k ti tj tk,m,st,st',h,hK=>by
  change none=some st' at h;cases h
 | .fork i j ti tj,m,st,st',h,hK=>by
  change (match l[i]?,l[j]? with
  |some b,some b'=>match xO c1 c2 (some U) st b,xO c1 c2 (some U) st b' with
   |some s1,some s2=>match Ic c1 c2 U l tl ti true s1,Ic c1 c2 U l tl tj true s2 with
    |some ⟨V,L,S⟩,some ⟨V',L',S'⟩=>match Yv V V' S S' with
     |true=>KW (agree L L' L) fun L=>some ⟨V,L,S⟩
     |false=>none
    |_,_=>none
   |_,_=>none
  |_,_=>none)=some st' at h
  split at h
  case h_2=>cases h
  rename_i b b' hb sq;split at h
  case h_2=>cases h
  rename_i s1 s2 hx su;split at h
  case h_2=>cases h
  rename_i V L S V' L' S' hy hy';split at h
  case h_2=>cases h
  rename_i he;rw[Ss] at h;cases h;obtain⟨e1,e2⟩:=atd he;refine vm ?_ ?_
  ·unfold aX;rw[fh,hb];exact SD h1 h2 hx (On h1 h2 hy (fun L3 h3=>hK L3 (fun i x hi=>h3 i x (Om L L' L i x hi).1)))
  ·unfold aX;rw[fh,sq];refine SD h1 h2 su (On h1 h2 hy' ?_);rw[<-e1,<-e2]
   exact fun L3 h3=>hK L3 (fun i x hi=>h3 i x (Om L L' L i x hi).2)
noncomputable def Yw (f:St->Option (gM×St))(n:Nat):St->Option (gM×St):=Nat.rec (motive:=fun _=>St->Option (gM×St)) (fun _=>none) (fun _ ih st=>match f st with
 |some (e,st')=>match e with
  | .normal=>ih st'
  |e=>some (e,st')
 |none=>none) n
noncomputable def xB (c1:C1)(c2:C2)(n:Nat)(c:fk):St->Option (gM×St):=fk.rec (motive:=fun _=>St->Option (gM×St))
 (fun st=>some (.normal,st)) (fun st=>some (.ret,st)) (fun id st=>some (.exit id,st))
 (fun _ _ jr js st=>match jr st with
  |some (e,st')=>match e with
   | .normal=>js st'
   |e=>some (e,st')
  |none=>none)
 (fun t _ _ jr js st=>match st.sc t with
  |some (.bool b)=>match b with
   |true=>jr st
   |false=>js st
  |_=>none)
 (fun id _ ih st=>match ih st with
  |some (e,st')=>match e with
   | .exit pD=>match Nat.beq pD id with
    |true=>some (.normal,st')
    |false=>some (.exit pD,st')
   |e=>some (e,st')
  |none=>none)
 (fun _ ih st=>Yw ih n st)
 (fun l st=>match st with
  |⟨V,_,S⟩=>match xL c1 c2 none l ⟨V,[],S⟩ with
   |some st'=>some (.normal,st')
   |none=>none)
 (fun l k t U st=>match st with
  |⟨V,_,S⟩=>match Ic c1 c2 U l (l.drop k) t false ⟨V,[],S⟩ with
   |some st'=>some (.normal,st')
   |none=>none)
 (fun s _ ih st=>match st with
  |⟨V,_,S⟩=>match St.freeze ⟨V,[],S⟩ s with
   |⟨V,_,S⟩=>Od V fun V=>Oc S fun S=>ih ⟨V,[],S⟩)
 (fun b off s e k _ ih st=>match st with
  |⟨V,_,S⟩=>match St.mh ⟨V,[],S⟩ b off s e k with
   |⟨_,_,S⟩=>Ar S fun S=>ih ⟨V,[],S⟩) c
theorem SF{S:List (Nat×Slot)}(hE:Ext L' L){i:Nat}(h:St.get ⟨V,L',S⟩ i=some x):St.get ⟨V,L,S⟩ i=some x:=by
 unfold St.get at h⊢;dsimp only at h⊢;split at h
 ·exact h
 ·exact hE i x h
theorem ate{S:List (Nat×Slot)}(hE:Ext L' L)(h:St.arg ⟨V,L',S⟩ y=some x):St.arg ⟨V,L,S⟩ y=some x:=by
 cases y with
 |t i=>exact SF hE h
 |k w=>exact h
theorem agv{S:List (Nat×Slot)}(hE:Ext L' L){x:Value}(h:St.sc ⟨V,L',S⟩ y=some x):St.sc ⟨V,L,S⟩ y=some x:=by
 unfold St.sc at h⊢
 cases ha:St.arg ⟨V,L',S⟩ y with
 |none=>rw[ha] at h;cases h
 |some z=>rw[ha] at h;rw[ate hE ha];exact h
theorem atf(V L:List (Nat×AV))(S:List (Nat×Slot))(s:Nat):(St.freeze ⟨V,L,S⟩ s).V=(St.freeze ⟨V,[],S⟩ s).V/\(St.freeze ⟨V,L,S⟩ s).S=(St.freeze ⟨V,[],S⟩ s).S:=by
 unfold St.freeze;have e:(St.mk V L S).slot s=(St.mk V [] S).slot s:=rfl;rw[e];split
 ·split
  ·exact⟨rfl,rfl⟩
  ·exact⟨rfl,rfl⟩
 ·exact⟨rfl,rfl⟩
theorem atg(V L:List (Nat×AV))(S:List (Nat×Slot))(b off s e k:Nat):(St.mh ⟨V,L,S⟩ b off s e k).V=V/\(St.mh ⟨V,L,S⟩ b off s e k).S=(St.mh ⟨V,[],S⟩ b off s e k).S:=by
 unfold St.mh
 have e1:∀i,(St.mk V L S).slot i=(St.mk V [] S).slot i:=fun _=>rfl
 simp only[e1];split
 ·split
  ·split
   ·exact⟨rfl,rfl⟩
   ·exact⟨rfl,rfl⟩
  ·exact⟨rfl,rfl⟩
 ·exact⟨rfl,rfl⟩
def BOk (P:Program)(c:fk)(st:St)(e:gM)(st':St):Prop:=∀Q:gM->St->Prop,(∀L,Ext st'.L L->Q e ⟨st'.V,L,st'.S⟩)->∀L,Ext st.L L->aM (lift P c) Q ⟨st.V,L,st.S⟩
theorem agw {P:Program}{f:St->Option (gM×St)}{body:fk}(hb:∀{st st':St} {e:gM},f st=some (e,st')->BOk P body st e st'):
  ∀{n:Nat} {st st':St} {e:gM},Yw f n st=some (e,st')->∀Q:gM->St->Prop,(∀L,Ext st'.L L->Q e ⟨st'.V,L,st'.S⟩)->∀L,Ext st.L L->GJ (aM (lift P body)) Q n ⟨st.V,L,st.S⟩
 |0,st,st',e,h=>by cases h
 |n+1,st,st',e,h=>by
  intro Q hQ L hL
  change (match f st with
   |some (e,st')=>match e with
    | .normal=>Yw f n st'
    |e=>some (e,st')
   |none=>none)=some (e,st') at h
  split at h
  ·rename_i e2 st2 hf;refine hb hf _ (fun L2 xq=> ?_) L hL;split at h
   ·exact agw hb h Q hQ L2 xq
   ·rename_i hne;cases h
    cases e with
    |normal=>exact(hne rfl).elim
    |exit id=>exact hQ L2 xq
    |ret=>exact hQ L2 xq
  ·cases h
theorem Av {P:Program}{c1:C1}{c2:C2}(h1:iD P c1)(h2:Ew P c2){n:Nat}:∀{c:fk} {st st':St} {e:gM},xB c1 c2 n c st=some (e,st')->BOk P c st e st'
 | .skip,st,st',e,h=>by cases h;exact fun Q hQ L hL=>hQ L hL
 | .ret,st,st',e,h=>by cases h;exact fun Q hQ L hL=>hQ L hL
 | .exit id,st,st',e,h=>by cases h;exact fun Q hQ L hL=>hQ L hL
 | .seq x y,st,st',e,h=>by
  intro Q hQ L hL
  change (match xB c1 c2 n x st with
   |some (e,st')=>match e with
    | .normal=>xB c1 c2 n y st'
    |e=>some (e,st')
   |none=>none)=some (e,st') at h
  split at h
  ·rename_i e2 st2 hx;refine Av h1 h2 (c:=x) hx _ (fun L2 xq=> ?_) L hL;split at h
   ·exact Av h1 h2 (c:=y) h Q hQ L2 xq
   ·rename_i hne;cases h
    cases e with
    |normal=>exact(hne rfl).elim
    |exit id=>exact hQ L2 xq
    |ret=>exact hQ L2 xq
  ·cases h
 | .cond t x y,⟨V,L0,S⟩,st',e,h=>by
  intro Q hQ L hL
  change (match St.sc ⟨V,L0,S⟩ t with
   |some (.bool b)=>match b with
    |true=>xB c1 c2 n x ⟨V,L0,S⟩
    |false=>xB c1 c2 n y ⟨V,L0,S⟩
   |_=>none)=some (e,st') at h
  split at h
  ·rename_i b hb
   cases b with
   |true=>exact RX (agv hL hb) (Av h1 h2 (c:=x) h Q hQ L hL)
   |false=>exact RX (agv hL hb) (Av h1 h2 (c:=y) h Q hQ L hL)
  ·cases h
 | .block id c,st,st',e,h=>by
  intro Q hQ L hL
  change (match xB c1 c2 n c st with
   |some (e,st')=>match e with
    | .exit pD=>match Nat.beq pD id with
     |true=>some (.normal,st')
     |false=>some (.exit pD,st')
    |e=>some (e,st')
   |none=>none)=some (e,st') at h
  refine aqY ?_;split at h
  ·rename_i e2 st2 hx;refine Av h1 h2 (c:=c) hx _ (fun L2 xq=> ?_) L hL;split at h
   ·rename_i pD
    show(if pD=id then _ else _)
    cases hb:Nat.beq pD id with
    |true=>rw[hb] at h;cases h;rw[aq (ej hb)];exact hQ L2 xq
    |false=>rw[hb] at h;cases h;rw[af (QY hb)];exact hQ L2 xq
   ·rename_i hne;cases h
    cases e with
    |normal=>exact hQ L2 xq
    |exit pD=>exact(hne pD rfl).elim
    |ret=>exact hQ L2 xq
  ·cases h
 | .loop c,st,st',e,h=>fun Q hQ L hL=>⟨n,agw (P:=P) (body:=c) (fun h=>Av h1 h2 (c:=c) h) h Q hQ L hL⟩
 | .region l,⟨V,L0,S⟩,st',e,h=>by
  intro Q hQ L hL
  change (match xL c1 c2 none l ⟨V,[],S⟩ with
   |some st'=>some (gM.normal,st')
   |none=>none)=some (e,st') at h
  split at h
  ·rename_i st2 hx;cases h;exact aqX (Yr h1 h2 hx (hQ _ (Ext.refl _)))
  ·cases h
 | .tI l k t U,⟨V,L0,S⟩,st',e,h=>by
  intro Q hQ L hL
  change (match Ic c1 c2 U l (l.drop k) t false ⟨V,[],S⟩ with
   |some st'=>some (gM.normal,st')
   |none=>none)=some (e,st') at h
  split at h
  ·rename_i st2 hx;cases h;exact KL (On h1 h2 hx hQ)
  ·cases h
 | .mi s c,⟨V,L0,S⟩,st',e,h=>by
  intro Q hQ L hL
  change (match St.freeze ⟨V,[],S⟩ s with
   |⟨V,_,S⟩=>Od V fun V=>Oc S fun S=>xB c1 c2 n c ⟨V,[],S⟩)=some (e,st') at h
  split at h;rename_i V1 L1 S1 hs;rw[agm,agl] at h;obtain⟨e1,e2⟩:=atf V L S s;rw[hs] at e1 e2;refine XL (st':=⟨V1,(St.freeze ⟨V,L,S⟩ s).L,S1⟩) ?_ (Av h1 h2 (c:=c) h Q hQ _ (Ext.nil _));generalize St.freeze ⟨V,L,S⟩ s=q at e1 e2⊢;obtain⟨a,b,d⟩:=q;dsimp only at e1 e2⊢;rw[e1,e2]
 | .pC b off s e0 k c,⟨V,L0,S⟩,st',e,h=>by
  intro Q hQ L hL
  change (match St.mh ⟨V,[],S⟩ b off s e0 k with
   |⟨_,_,S⟩=>Ar S fun S=>xB c1 c2 n c ⟨V,[],S⟩)=some (e,st') at h
  split at h;rename_i V1 L1 S1 hs;rw[KZ] at h;obtain⟨e1,e2⟩:=atg V L S b off s e0 k;rw[hs] at e2;refine XK (st':=⟨V,(St.mh ⟨V,L,S⟩ b off s e0 k).L,S1⟩) ?_ (Av h1 h2 (c:=c) h Q hQ _ (Ext.nil _));generalize St.mh ⟨V,L,S⟩ b off s e0 k=q at e1 e2⊢;obtain⟨a,b,d⟩:=q;dsimp only at e1 e2⊢;rw[e1,e2]
noncomputable def SG (lE:List (FuncId×FD))(c1:C1)(c2:C2)(n:Nat)(f:FuncId)(args:List AW):Option AV:=match Oa lE f with
 |some d=>match Nat.ble args.length d.nt with
  |true=>KW (V0 args 0 d.vs) fun V=>Ar (S0 d.ss) fun S=>match xB c1 c2 n d.b ⟨V,[],S⟩ with
   |some (e,st)=>match e with
    | .exit _=>none
    |_=>match Ak st d.rv with
     |some xs=>some (ed xs)
     |none=>none
   |none=>none
  |false=>none
 |none=>none
noncomputable def Yx (lE:List (FuncId×FD))(c1:C1)(c2:C2)(n:Nat)(f:FuncId)(args:List AV)(T:List (Nat×Slot)):Option (AV×List (Nat×Slot)):=match Oa lE f with
 |some d=>match Nat.ble args.length d.nt with
  |true=>KW (VM args 0 d.vs) fun V=>Ar (T++S0 d.ss) fun S=>match xB c1 c2 n d.b ⟨V,[],S⟩ with
   |some (e,st)=>match e with
    | .exit _=>none
    |_=>match vw (T.map (·.1)) st d.rv with
     |some xs=>match(T.map (·.1)).all (fun s=>fy (T.map (·.1)) (st.slot s)) with
      |true=>some (ed xs,gL st (T.map (·.1)))
      |false=>none
     |none=>none
   |none=>none
  |false=>none
 |none=>none
noncomputable def xP (lE:List (FuncId×FD))(p:C1)(m n:Nat):C1×C2:=Nat.rec (motive:=fun _=>C1×C2) (fun _ _=>none,fun _ _ _=>none) (fun _ c=>
 (fun f args=>match p f args with
  |some x=>some x
  |none=>SG lE c.1 c.2 m f args,fun f args T=>Yx lE c.1 c.2 m f args T)) n
theorem SH(hE:Ext L' L){S:List (Nat×Slot)}{n p:Nat}{cs:List AC}(h:St.cells ⟨V,L',S⟩ U n (St.get ⟨V,L',S⟩ p)=some cs):St.cells ⟨V,L,S⟩ U n (St.get ⟨V,L,S⟩ p)=some cs:=by
 cases hg:St.get ⟨V,L',S⟩ p with
 |none=>rw[hg] at h;cases h
 |some x=>rw[hg] at h;rw[SF hE hg];exact h
theorem agx {V L' L:List (Nat×AV)}{S:List (Nat×Slot)}:∀l:List AC,St.jQ ⟨V,L,S⟩ l=St.jQ ⟨V,L',S⟩ l
 |[]=>rfl
 |x::l=>by
  have h1:St.fz ⟨V,L,S⟩ x=St.fz ⟨V,L',S⟩ x:=by cases x<;>rfl
  unfold St.jQ;rw[h1,agx (L':=L') l]
theorem Yy{S:List (Nat×Slot)}(x:AW):St.qL ⟨V,L,S⟩ x=St.qL ⟨V,L',S⟩ x:=by
 cases x with
 |c x=>cases x<;>rfl
 |agg cs=>show(St.jQ _ cs).map _=_;rw[agx (L':=L')];rfl
theorem agy {D:List Nat}{V L' L:List (Nat×AV)}{S:List (Nat×Slot)}:∀l:List AC,St.kD D ⟨V,L,S⟩ l=St.kD D ⟨V,L',S⟩ l
 |[]=>rfl
 |x::l=>by
  have h1:St.pF D ⟨V,L,S⟩ x=St.pF D ⟨V,L',S⟩ x:=by cases x<;>rfl
  unfold St.kD;rw[h1,agy (L':=L') l]
theorem Yz{D:List Nat}{S:List (Nat×Slot)}(x:AW):St.vq D ⟨V,L,S⟩ x=St.vq D ⟨V,L',S⟩ x:=by
 cases x with
 |c x=>cases x<;>rfl
 |agg cs=>show(St.kD D _ cs).map _=_;rw[agy (L':=L')];rfl
theorem YA {V L' L:List (Nat×AV)}{S:List (Nat×Slot)}(hE:Ext L' L):∀{rv:List RV} {xs:List AW},Ak ⟨V,L',S⟩ rv=some xs->Ak ⟨V,L,S⟩ rv=some xs
 |[],xs,h=>h
 |r::rv,xs,h=>by
  unfold Ak at h⊢;split at h
  ·rename_i x q hx hq
   have:Ci ⟨V,L,S⟩ r=some x:=by
    cases r with
    |t i=>
     simp only[Ci] at hx⊢;split at hx
     ·rename_i y hy;rw[SF hE hy];dsimp only;rw[Yy (L':=L')];exact hx
     ·cases hx
    |cell p n=>
     simp only[Ci] at hx⊢;split at hx
     ·rename_i y hy;rw[SH hE hy];dsimp only;rw[Yy (L':=L')];exact hx
     ·cases hx
    |cell1 p=>
     simp only[Ci] at hx⊢;split at hx
     ·rename_i y hy;rw[SH hE hy];dsimp only;rw[Yy (L':=L')];exact hx
     ·cases hx
   rw[this,YA hE hq];exact h
  ·cases h
theorem agz {D:List Nat}{V L' L:List (Nat×AV)}{S:List (Nat×Slot)}(hE:Ext L' L):∀{rv:List RV} {xs:List AW},vw D ⟨V,L',S⟩ rv=some xs->vw D ⟨V,L,S⟩ rv=some xs
 |[],xs,h=>h
 |r::rv,xs,h=>by
  unfold vw at h⊢;split at h
  ·rename_i x q hx hq
   have:Ap D ⟨V,L,S⟩ r=some x:=by
    cases r with
    |t i=>
     simp only[Ap] at hx⊢;split at hx
     ·rename_i y hy;rw[SF hE hy];dsimp only;rw[Yz (L':=L')];exact hx
     ·cases hx
    |cell p n=>
     simp only[Ap] at hx⊢;split at hx
     ·rename_i y hy;rw[SH hE hy];dsimp only;rw[Yz (L':=L')];exact hx
     ·cases hx
    |cell1 p=>
     simp only[Ap] at hx⊢;split at hx
     ·rename_i y hy;rw[SH hE hy];dsimp only;rw[Yz (L':=L')];exact hx
     ·cases hx
   rw[this,agz hE hq];exact h
  ·cases h
theorem ath(yP:∀q∈lE,Er P q.1 q.2)(h1:iD P c1)(h2:Ew P c2){n:Nat}{args:List AW}(h:SG lE c1 c2 n f args=some x):aU P f args (fun y=>y=x):=by
 unfold SG at h;split at h
 ·rename_i d hd;obtain⟨owns,ts,fn,c,hE,hf,hb,ht,pE,Aw⟩:=yP _ (Yc hd);split at h
  ·rename_i hn;rw[Ss,KZ] at h;split at h
   ·rename_i e st hx;have g2:=Av (P:=P) h1 h2 hx;obtain⟨V2,L2,S2⟩:=st;refine aeV hE hf hb ht d.rv pE args (by rw[Aw];exact hn) d.vs d.ss (g2 _ (fun L hL=> ?_) [] (Ext.refl _));split at h
    ·cases h
    ·rename_i hne;split at h
     ·rename_i xs yA;cases h
      cases e with
      |exit id=>exact(hne id rfl).elim
      |normal=>exact⟨xs,YA hL yA,rfl⟩
      |ret=>exact⟨xs,YA hL yA,rfl⟩
     ·cases h
   ·cases h
  ·cases h
 ·cases h
theorem ati(yP:∀q∈lE,Er P q.1 q.2)(h1:iD P c1)(h2:Ew P c2){n:Nat}{args:List AV}{T:List (Nat×Slot)}{Y:List (Nat×Slot)}(h:Yx lE c1 c2 n f args T=some (x,Y)):
  Y.map (·.1)=T.map (·.1)/\iB P f args T (fun y S'=>y=x/\∀p∈Y,S' p.1=p.2):=by
 unfold Yx at h;split at h
 ·rename_i d hd;obtain⟨owns,ts,fn,c,hE,hf,hb,ht,pE,Aw⟩:=yP _ (Yc hd);split at h
  ·rename_i hn;rw[Ss,KZ] at h;split at h
   ·rename_i e st hx;have g2:=Av (P:=P) h1 h2 hx;obtain⟨V2,L2,S2⟩:=st;split at h
    ·cases h
    ·rename_i hne;split at h
     ·rename_i xs yA;split at h
      ·rename_i hc;cases h
       have hq:∀L,Ext L2 L->Sc (T.map (·.1)) d.rv (fun y S'=>y=ed xs/\∀p∈gL ⟨V2,L2,S2⟩ (T.map (·.1)),S' p.1=p.2) e ⟨V2,L,S2⟩:=fun L hL=>by
        have:∃ys,vw (T.map (·.1)) ⟨V2,L,S2⟩ d.rv=some ys/\(∀s∈T.map (·.1),fy (T.map (·.1)) (St.slot ⟨V2,L,S2⟩ s)=true)/\ed ys=ed xs/\∀p∈gL ⟨V2,L2,S2⟩ (T.map (·.1)),eS (T.map (·.1)) (St.mk V2 L S2).slot p.1=p.2:=by
         refine⟨xs,agz hL yA,fun s hs=>fq.1 hc s hs,rfl,fun p hp=> ?_⟩;unfold gL at hp;obtain⟨s,hs,rfl⟩:=dm.1 hp;unfold eS;rw[aq hs];rfl
        cases e with
        |exit id=>exact(hne id rfl).elim
        |normal=>exact this
        |ret=>exact this
       refine⟨by unfold gL;rw[List.map_map];exact List.map_id _,afg hE hf hb ht d.rv pE args (by rw[Aw];exact hn) T d.vs d.ss (g2 _ hq [] (Ext.refl _))⟩
      ·cases h
     ·cases h
   ·cases h
  ·cases h
 ·cases h
theorem agA {P:Program}{lE:List (FuncId×FD)}(yP:∀q∈lE,Er P q.1 q.2){p:C1}(hp:iD P p){m:Nat}:∀n:Nat,iD P (xP lE p m n).1/\Ew P (xP lE p m n).2
 |0=>⟨fun _ _ _ h=>(nomatch h),fun _ _ _ _ _ h=>(nomatch h)⟩
 |n+1=>by
  obtain⟨g1,g2⟩:=agA yP hp (m:=m) n;refine⟨fun f args x h=> ?_,fun f args T x Y h=>ati yP g1 g2 h⟩
  change (match p f args with
   |some x=>some x
   |none=>SG lE (xP lE p m n).1 (xP lE p m n).2 m f args)=some x at h
  split at h
  ·rename_i y hy;cases h;exact hp f args _ hy
  ·exact ath yP g1 g2 h
theorem jS(yP:∀q∈lE,Er P q.1 q.2){p:C1}(hp:iD P p)(m n:Nat){args:List AW}(h:(xP lE p m n).1 f args=some x):aU P f args (fun y=>y=x):=(agA yP hp (m:=m) n).1 f args x h
noncomputable def iY (r:Option AV)(x:AV):Bool:=match r with
 |some y=>Ld y x
 |none=>false
theorem jT{r:Option AV}(h:iY r x=true):r=some x:=by
 unfold iY at h;split at h
 ·rw[SE h]
 ·cases h
attribute [local irreducible] aM bt aX
variable {l:List (List UInt8)} {x:List UInt8}
abbrev sA (l:List UInt8):AC:=.v (.string ⟨⟨l⟩⟩)
def Ax:List (List UInt8)->List UInt8->Bool
 |[],_=>false
 |s::l,x=>match HK s x with
  |true=>true
  |false=>Ax l x
theorem YB:∀(l:List (List UInt8)) (x:List UInt8),Ax l x=decide (x∈l)
 |[],x=>by simp[Ax]
 |s::l,x=>by
  unfold Ax;rw[Of];by_cases h:s=x
  ·subst h;simp
  ·have h':¬x=s:=fun e=>h e.symm
   have:(s==x)=false:=by simpa using h
   rw[this,YB l x];simp[h']
theorem atj(h:x∈l):Ax l x=true:=by rw[YB];exact ft h
theorem atk(h:¬x∈l):Ax l x=false:=by rw[YB];exact jk h
theorem YC(l:List (List UInt8))(x:List UInt8)(hl:l.length<=1000000):(aU Tryz.prog 262 [.c (.sl (l.map fun s=>[sA s])),.c (sA x)] (fun y=>y=.w (.c (bA (Ax l x)))))/\(aU Tryz.prog 212 [.c (.sl (l.map fun s=>[sA s])),.c (sA x)] (fun y=>y=.w (.c (bA (Ax l x)))))/\aU Tryz.prog 217 [.c (.sl (l.map fun s=>[sA s])),.c (sA x)] (fun y=>y=.w (.c (bA (Ax l x)))):=by
 refine⟨?a,?b,?c⟩
 case' a=>
  refine cC Tryz.func262 aN [] [.t 4] [4,5] [] ?_
 case' b=>
  refine cC Tryz.func212 aN [] [.t 4] [4,5] [] ?_
 case' c=>
  refine cC Tryz.func217 aN [] [.t 4] [4,5] [] ?_
 all_goals
  have FF:=trivial
  try refine aF ?_
  refine dv (fun n V S=>∃k:Nat,k<=l.length/\n=l.length-k/\(∀j (hj:j<l.length),j<k->l[j]≠x)/\
   V=[(0,.w (.c (.sl (l.map fun s=>[sA s])))),(1,.w (.c (sA x))),(4,.w (.c (bA false))),(5,.w (.c (iA k)))]/\S=[]) (n:=l.length) ⟨0,ab,ab,fun j _ h=>ab,rfl,rfl⟩ ?_
  rintro n V L S ⟨k,hk,rfl,hj,rfl,rfl⟩;by_cases hlt:k<l.length
  ·have cD:k<=1000000000:=ab
   obtain⟨y,hy⟩:∃y,l[k]=y:=⟨_,rfl⟩
   by_cases he:y=x
   ·have FF:=eW @hlt @hy @he @toList_data
    try refine aF ?_
    refine zE ?_;exact(by rw[atj (he▸hy▸bP hlt)];rfl)
   ·have FF:=gZ @hlt @hy @he @toList_data (bN cD)
    try refine aF ?_
    exact⟨l.length-(k+1),ab,k+1,ab,ab,fun j dJ ib=>by
     by_cases iL:j=k
     ·subst iL;rw[hy];exact he
     ·exact hj j dJ ab,rfl,rfl⟩
  ·have FF:=@hlt
   try refine aF ?_
   refine zE ?_;exact(by rw[atk (fun hm=>by obtain⟨j,dJ,iL⟩:=FZ.1 hm;exact hj j dJ ab iL)];rfl)
def SI:List (List AC)->Option (List (List UInt8))
 |[]=>some []
 |[.v (.string ⟨⟨s⟩⟩)]::l=>match SI l with
  |some q=>some (s::q)
  |none=>none
 |_::_=>none
theorem agB:∀{rows:List (List AC)} {l:List (List UInt8)},SI rows=some l->rows=l.map fun s=>[sA s]
 |[],l,h=>by cases h;rfl
 |row::rows,l,h=>by
  unfold SI at h;split at h
  ·rename_i heq;cases heq
  ·rename_i s r heq;cases heq;split at h
   ·rename_i q hq;cases h;rw[agB hq];rfl
   ·cases h
  ·cases h
def fA:C1:=fun f args=>match args with
 |[.c (.sl rows),.c (.v (.string ⟨⟨x⟩⟩))]=>match Nat.beq f 262||(Nat.beq f 212||Nat.beq f 217) with
  |true=>match SI rows with
   |some l=>match Nat.ble l.length 1000000 with
    |true=>some (.w (.c (.v (.bool (Ax l x)))))
    |false=>none
   |none=>none
  |false=>none
 |_=>none
theorem kV:iD Tryz.prog fA:=by
 intro f args x h;unfold fA at h;split at h
 case h_2=>cases h
 rename_i rows s;split at h
 case h_2=>cases h
 rename_i hf;split at h
 case h_2=>cases h
 rename_i l hl;split at h
 case h_2=>cases h
 rename_i hn;cases h;rw[agB hl];simp only[uJ] at hf;have hn:=tr hn
 rcases hf with hf|hf|hf
 ·rw[ej hf];exact(YC l s hn).1
 ·rw[ej hf];exact(YC l s hn).2.1
 ·rw[ej hf];exact(YC l s hn).2.2
noncomputable def atl:FD:=cr Tryz.f25 aN [] [.t 4] [4] []
noncomputable def kG:List (FuncId×FD):=(25,atl)::age
theorem kW:∀q∈kG,Er Tryz.prog q.1 q.2:=tc (okF Tryz.func25) asJ
end Ab
end Go.Proofs.YtkanpepkdcmpmaaGreatDoor
