import Derived.Test.YtlnghiefahcnpaaGreatQ3
set_option maxHeartbeats 40000000
set_option maxRecDepth 100000
set_option linter.all false
namespace Go.Proofs.YtlnghiefahcnpaaGreat
namespace Ab
open Go Go.RowKit
def aaB:aF:=⟨0,[],[],[],aR,[],[]⟩
def aaC:aI:=[]
noncomputable def anX:aA:=aT Tryz.prog aaB 18 aaC (Tryz.f160.body.getD .skip)
theorem aaD:aD Tryz.prog aaB 18 aaC (Tryz.f160.body.getD .skip)=some anX:=aV rfl ah
def aaE:aF:=⟨0,[5],[],[],aR,[],[]⟩
def aaF:aI:=[]
noncomputable def anY:aA:=aT Tryz.prog aaE 14 aaF (Tryz.f137.body.getD .skip)
theorem aaG:aD Tryz.prog aaE 14 aaF (Tryz.f137.body.getD .skip)=some anY:=aV rfl ah
def aaH:aF:=⟨0,[],[],[],aR,[],[]⟩
def aaI:aI:=[]
noncomputable def aaJ:aA:=aT Tryz.prog aaH 13 aaI (Tryz.f14.body.getD .skip)
theorem NV:aD Tryz.prog aaH 13 aaI (Tryz.f14.body.getD .skip)=some aaJ:=aV rfl ah
def aaK:aF:=⟨0,[],[],[],aR,[],[]⟩
def aaL:aI:=[]
noncomputable def anZ:aA:=aT Tryz.prog aaK 21 aaL (Tryz.f10.body.getD .skip)
theorem aaM:aD Tryz.prog aaK 21 aaL (Tryz.f10.body.getD .skip)=some anZ:=aV rfl ah
def aaN:aF:=⟨0,[],[],[],aR,[],[]⟩
def aaO:aI:=[]
noncomputable def aoa:aA:=aT Tryz.prog aaN 6 aaO (Tryz.f161.body.getD .skip)
theorem aaP:aD Tryz.prog aaN 6 aaO (Tryz.f161.body.getD .skip)=some aoa:=aV rfl ah
def aaQ:aF:=⟨0,[],[],[],aR,[],[]⟩
def aaR:aI:=[]
noncomputable def aob:aA:=aT Tryz.prog aaQ 4 aaR (Tryz.f151.body.getD .skip)
theorem aaS:aD Tryz.prog aaQ 4 aaR (Tryz.f151.body.getD .skip)=some aob:=aV rfl ah
def aaT:aF:=⟨0,[],[],[],aR,[],[]⟩
def aaU:aI:=[]
noncomputable def aoc:aA:=aT Tryz.prog aaT 50 aaU (Tryz.f150.body.getD .skip)
theorem aaV:aD Tryz.prog aaT 50 aaU (Tryz.f150.body.getD .skip)=some aoc:=aV rfl ah
def aaW:aF:=⟨0,[],[],[],aR,[],[]⟩
def aaX:aI:=[]
noncomputable def aod:aA:=aT Tryz.prog aaW 25 aaX (Tryz.f149.body.getD .skip)
theorem aaY:aD Tryz.prog aaW 25 aaX (Tryz.f149.body.getD .skip)=some aod:=aV rfl ah
def aaZ:aF:=⟨0,[5],[],[],aR,[],[]⟩
def aba:aI:=[]
noncomputable def aoe:aA:=aT Tryz.prog aaZ 41 aba (Tryz.f148.body.getD .skip)
theorem abb:aD Tryz.prog aaZ 41 aba (Tryz.f148.body.getD .skip)=some aoe:=aV rfl ah
end Ab
namespace Ab
open Go Go.RowKit
theorem anA {P:Program}{U:Option (List Nat)}{d:Option Nat}{f:FuncId}{ys:List aw}{D:List Nat}{r:List BO}{K:St->Prop}{st st':St}{ws:List AV}{x0:AV}{Ys:List (Nat×Slot)}{t:Nat}{want:Bool}(hg:jd (st.arg (.t t)) want=some true)(ha:kA st ys=some ws)(hc:ws.all (gI D)=true)(hD:∀s∈D,(aB st.S s).isSome=true/\eE D (st.slot s)=true)(hU:∀s∈D,oL U s=true)
  (hC:fQ P f ws (eW st D) (fun x S'=>x=x0/\∀p∈Ys,S' p.1=p.2)) (hY:Ys.map (·.1)=D) (hx:gI D x0=true) (dc:∀p∈Ys,eE D p.2=true) (hst:(jR Ys st).dR d x0=st') (h:bo U (r.map (BO.ao P)) K st'):
  bo U ((⟨d,some (t,want),.kR f ys D⟩::r:List BO).map (BO.ao P)) K st:=by
 show(match jd (st.arg (.t t)) want with
  |some true=>_
  |some false=>_
  |none=>False)
 rw[hg];exact YX (d:=d) ha hc hD hU hC hY hx dc hst h
end Ab
namespace Ab
open Go Go.RowKit
attribute [local irreducible] aC bo aU
def Jw (b:BO):Bool:=match b.g,b.op with |none,.call ..=>false|none,.kR ..=>false|none,.mG ..=>false|_,.app ..=>false|_,_=>true
section
variable {P:Program} {Q:dQ->St->Prop} {V L:List (Nat×AV)} {S:List (Nat×Slot)} {st:St} {x y z:aA}
theorem aN {U:Option (List Nat)}{d:Option Nat}{f:FuncId}{ys:List aw}{r:List BO}{st:St}{K:St->Prop}{ws:List AW}{x:AV}(hC:bt P f ws (fun y=>y=x))(hr:bo U (r.map (BO.ao P)) K (st.dR d x))(ha:kP st ys=some ws:=by(simp[FF]);(try rfl);(first|done|fail)):
  bo U ((⟨d,none,.call f ys⟩::r:List BO).map (BO.ao P)) K st:=yG ha hC hr
theorem aO {U:Option (List Nat)}{d:Option Nat}{f:FuncId}{ys:List aw}{r:List BO}{K:St->Prop}{ws:List AW}{x:AV}{t:Nat}{want:Bool}(hC:bt P f ws (fun y=>y=x))(hr:bo U (r.map (BO.ao P)) K (st.dR d x))(hg:st.sc (.t t)=some (.bool want):=by(simp[FF]);(first|done|fail))(ha:kP st ys=some ws:=by(simp[FF]);(try rfl);(first|done|fail)):
  bo U ((⟨d,some (t,want),.call f ys⟩::r:List BO).map (BO.ao P)) K st:=YH hg ha hC hr
theorem jS {U:Option (List Nat)}{d:Option Nat}{f:FuncId}{ys:List aw}{D:List Nat}{r:List BO}{K:St->Prop}{st st':St}{ws:List AV}{x0:AV}{Ys:List (Nat×Slot)}(hC:fQ P f ws (eW st D) (fun x S'=>x=x0/\∀p∈Ys,S' p.1=p.2))(h:bo U (r.map (BO.ao P)) K st')(ha:kA st ys=some ws:=by(simp[FF]);(try rfl);(first|done|fail))(hc:ws.all (gI D)=true:=by(simp[FF]);(first|done|fail))(hD:∀s∈D,(aB st.S s).isSome=true/\eE D (st.slot s)=true:=by(simp[FF]);(first|done|fail))(hU:∀s∈D,oL U s=true:=by(simp[FF]);(first|done|fail))(hY:Ys.map (·.1)=D:=by exact rfl)(hx:gI D x0=true:=by(simp[FF]);(first|done|fail))(dc:∀p∈Ys,eE D p.2=true:=by(simp[FF]);(first|done|fail))(hst:(jR Ys st).dR d x0=st':=by(simp[FF]);(try rfl);(first|done|fail)):
  bo U ((⟨d,none,.kR f ys D⟩::r:List BO).map (BO.ao P)) K st:=YX ha hc hD hU hC hY hx dc hst h
theorem jT {P:Program}{U:Option (List Nat)}{d:Option Nat}{f:FuncId}{ys:List aw}{D:List Nat}{r:List BO}{K:St->Prop}{st st':St}{ws:List AV}{x0:AV}{Ys:List (Nat×Slot)}{t:Nat}{want:Bool}(hC:fQ P f ws (eW st D) (fun x S'=>x=x0/\∀p∈Ys,S' p.1=p.2))(h:bo U (r.map (BO.ao P)) K st')(hg:jd (st.arg (.t t)) want=some true:=by(simp[FF]);(first|done|fail))(ha:kA st ys=some ws:=by(simp[FF]);(try rfl);(first|done|fail))(hc:ws.all (gI D)=true:=by(simp[FF]);(first|done|fail))(hD:∀s∈D,(aB st.S s).isSome=true/\eE D (st.slot s)=true:=by(simp[FF]);(first|done|fail))(hU:∀s∈D,oL U s=true:=by(simp[FF]);(first|done|fail))(hY:Ys.map (·.1)=D:=by exact rfl)(hx:gI D x0=true:=by(simp[FF]);(first|done|fail))(dc:∀p∈Ys,eE D p.2=true:=by(simp[FF]);(first|done|fail))(hst:(jR Ys st).dR d x0=st':=by(simp[FF]);(try rfl);(first|done|fail)):
  bo U ((⟨d,some (t,want),.kR f ys D⟩::r:List BO).map (BO.ao P)) K st:=anA hg ha hc hD hU hC hY hx dc hst h
theorem ug {U:Option (List Nat)}{d:Option Nat}{D:List Nat}{n:Nat}{p q:aw}{r:List BO}{K:St->Prop}{st st':St}(h:bo U (r.map (BO.ao P)) K st')(hx:kB U (lK D st) ⟨d,none,.store n p q⟩=some st':=by(simp[FF]);(try rfl);(first|done|fail)):
  bo U ((⟨d,none,.mG D n p q⟩::r:List BO).map (BO.ao P)) K st:=YJ hx h
theorem uh {U:Option (List Nat)}{d:Option Nat}{e k s g:Nat}{u v:aw}{r:List BO}{K:St->Prop}{es ys:List (List AC)}{st':St}(h:bo U (r.map (BO.ao P)) K st')(hx:st.arg u=some (.w (.c (.own s g))):=by exact rfl)(hs:aB st.S s=some (.row e k g es):=by exact rfl)(hy:st.rows [s] (st.arg v)=some ys:=by exact rfl)(hk:∀row∈ys,row.length=k:=by(simp[FF]);(first|done|fail))(hl:es.length+ys.length<=100000000:=by(first|(simp[FF];done)|(simp[FF];omega)))(hU:oL U s=true:=by exact rfl)(hst:(st.bM s (.row e k (g+1) (es++ys))).dR d (.w (.c (.own s (g+1))))=st':=by(simp[FF]);(try rfl);(first|done|fail)):
  bo U ((⟨d,none,.app e k u v⟩::r:List BO).map (BO.ao P)) K st:=yI hx hs hy hk hl hU hst h
theorem ui {U:Option (List Nat)}{b:BO}{r:List BO}{st st':St}{K:St->Prop}(hr:bo U (r.map (BO.ao P)) K st')(hp:Jw b=true:=by exact rfl)(h:kB U st b=some st':=by(simp[FF,cp,rowsOf,List.range,List.range.loop]);(try rfl);(first|done|fail)):
  bo U ((b::r).map (BO.ao P)) K st:=aZ h hr
theorem uj {U:List Nat}{l:List BO}{tl:List AO}{K:St->Prop}{i:Nat}{t:OT}{bh:Bool}{b:BO}{st':St}(h:aU U (l.map (BO.ao P)) tl K t bh st')(hi:l[i]? =some b:=by exact rfl)(hx:Ak U st b bh=some st':=by(simp[FF]);(try rfl);(first|done|fail)):
  aU U (l.map (BO.ao P)) tl K (.take i t) bh st:=nK hi hx h
theorem aP {U:List Nat}{l:List BO}{tl:List AO}{K:St->Prop}{i:Nat}{t:OT}{bh:Bool}{d:Option Nat}{f:FuncId}{ys:List aw}{ws:List AW}{x:AV}(hC:bt P f ws (fun y=>y=x))(h:aU U (l.map (BO.ao P)) tl K t true (st.dR d x))(hi:l[i]? =some ⟨d,none,.call f ys⟩:=by exact rfl)(ha:kP st ys=some ws:=by(simp[FF]);(try rfl);(first|done|fail)):
  aU U (l.map (BO.ao P)) tl K (.move i t) bh st:=Al hi ha hC h
theorem Fj {U:List Nat}{l:List BO}{tl:List AO}{K:St->Prop}{i:Nat}{t:OT}{bh:Bool}{d:Option Nat}{f:FuncId}{ys:List aw}{D:List Nat}{st st':St}{ws:List AV}{x0:AV}{Ys:List (Nat×Slot)}(hC:fQ P f ws (eW st D) (fun x S'=>x=x0/\∀p∈Ys,S' p.1=p.2))(h:aU U (l.map (BO.ao P)) tl K t true st')(hi:l[i]? =some ⟨d,none,.kR f ys D⟩:=by exact rfl)(ha:kA st ys=some ws:=by(simp[FF]);(try rfl);(first|done|fail))(hc:ws.all (gI D)=true:=by(simp[FF]);(first|done|fail))(hD:∀s∈D,(aB st.S s).isSome=true/\eE D (st.slot s)=true:=by(simp[FF]);(first|done|fail))(hU:∀s∈D,s∈U:=by(simp[FF]);(first|done|fail))(hY:Ys.map (·.1)=D:=by exact rfl)(hx:gI D x0=true:=by(simp[FF]);(first|done|fail))(dc:∀p∈Ys,eE D p.2=true:=by(simp[FF]);(first|done|fail))(hst:(jR Ys st).dR d x0=st':=by(simp[FF]);(try rfl);(first|done|fail)):
  aU U (l.map (BO.ao P)) tl K (.move i t) bh st:=YY hi ha hc hD hU hC hY hx dc hst h
theorem uk {U:List Nat}{l:List BO}{tl:List AO}{K:St->Prop}{i:Nat}{t:OT}{bh:Bool}{d:Option Nat}{D:List Nat}{n:Nat}{p q:aw}{st st':St}(h:aU U (l.map (BO.ao P)) tl K t true st')(hi:l[i]? =some ⟨d,none,.mG D n p q⟩:=by exact rfl)(hx:kB (some U) (lK D st) ⟨d,none,.store n p q⟩=some st':=by(simp[FF]);(try rfl);(first|done|fail)):
  aU U (l.map (BO.ao P)) tl K (.move i t) bh st:=YL hi hx h
theorem um {U:List Nat}{l:List BO}{tl:List AO}{K:St->Prop}{i:Nat}{t:OT}{bh:Bool}{b:BO}{st':St}(h:aU U (l.map (BO.ao P)) tl K t true st')(hi:l[i]? =some b:=by exact rfl)(hp:Jw b=true:=by exact rfl)(hx:kB (some U) st b=some st':=by(simp[FF,cp,rowsOf,List.range,List.range.loop]);(try rfl);(first|done|fail)):
  aU U (l.map (BO.ao P)) tl K (.move i t) bh st:=Ff hi hx h
theorem uo {U:List Nat}{l:List AO}{l2:List BO}{n:Nat}{K:St->Prop}{bh:Bool}{r:List BO}(h:bo none (r.map (BO.ao P)) K st)(hr:l2.drop n=r:=by simp only[xy,List.drop_zero];(try rfl);(first|done|fail)):
  aU U l ((l2.drop n).map (BO.ao P)) K .nil bh st:=YV hr h
theorem YZ {t:aw}(h:aC (lift P (.seq x z)) Q st)(hb:st.sc t=some (.bool true):=by(simp[FF]);(first|done|fail)):
  aC (lift P (.seq (.cond t x y) z)) Q st:=YR hb h
theorem Za {t:aw}(h:aC (lift P (.seq y z)) Q st)(hb:st.sc t=some (.bool false):=by(simp[FF]);(first|done|fail)):
  aC (lift P (.seq (.cond t x y) z)) Q st:=YS hb h
theorem Zb {t:aw}(h:aC (lift P x) Q st)(hb:st.sc t=some (.bool true):=by(simp[FF]);(first|done|fail)):
  aC (lift P (.cond t x y)) Q st:=YT hb h
theorem Zc {t:aw}(h:aC (lift P y) Q st)(hb:st.sc t=some (.bool false):=by(simp[FF]);(first|done|fail)):
  aC (lift P (.cond t x y)) Q st:=YU hb h
theorem Zd {s:Nat}{st':St}(h:aC (lift P (.seq x z)) Q st')(hs:st.freeze s=st':=by(simp[FF]);(first|done|exact⟨rfl,rfl,rfl⟩|rfl)):
  aC (lift P (.seq (.jf s x) z)) Q st:=NC hs h
theorem Ze {s:Nat}{st':St}(h:aC (lift P x) Q st')(hs:st.freeze s=st':=by(simp[FF]);(first|done|exact⟨rfl,rfl,rfl⟩|rfl)):
  aC (lift P (.jf s x)) Q st:=NG hs h
theorem Zf {b off s e k:Nat}{st':St}(h:aC (lift P (.seq x z)) Q st')(hs:st.iz b off s e k=st':=by(simp[St.iz,FF]);(first|done|exact⟨rfl,rfl,rfl⟩|rfl)):
  aC (lift P (.seq (.lM b off s e k x) z)) Q st:=YK hs h
theorem Zg {b off s e k:Nat}{st':St}(h:aC (lift P x) Q st')(hs:st.iz b off s e k=st':=by(simp[St.iz,FF]);(first|done|exact⟨rfl,rfl,rfl⟩|rfl)):
  aC (lift P (.lM b off s e k x)) Q st:=ND hs h
theorem NL {U:Option (List Nat)}{d:Option Nat}{f:FuncId}{ys:List aw}{r:List BO}{st:St}{K:St->Prop}{ws:List AW}{x:AV}(hC:bt P f ws (fun y=>y=x))(hr:bo U (r.map (BO.ao P)) K (st.dR d x))(ha:kP st ys=some ws:=by(simp[FF,<-List.map_take,<-List.map_drop]);(try rfl);(first|done|fail)):
  bo U ((⟨d,none,.call f ys⟩::r:List BO).map (BO.ao P)) K st:=yG ha hC hr
theorem NM {U:Option (List Nat)}{d:Option Nat}{f:FuncId}{ys:List aw}{r:List BO}{K:St->Prop}{ws:List AW}{x:AV}{t:Nat}{want:Bool}(hC:bt P f ws (fun y=>y=x))(hr:bo U (r.map (BO.ao P)) K (st.dR d x))(hg:st.sc (.t t)=some (.bool want):=by(simp[FF,<-List.map_take,<-List.map_drop]);(first|done|fail))(ha:kP st ys=some ws:=by(simp[FF,<-List.map_take,<-List.map_drop]);(try rfl);(first|done|fail)):
  bo U ((⟨d,some (t,want),.call f ys⟩::r:List BO).map (BO.ao P)) K st:=YH hg ha hC hr
theorem Zh {U:Option (List Nat)}{d:Option Nat}{D:List Nat}{n:Nat}{p q:aw}{r:List BO}{K:St->Prop}{st st':St}(h:bo U (r.map (BO.ao P)) K st')(hx:kB U (lK D st) ⟨d,none,.store n p q⟩=some st':=by(simp[FF,<-List.map_take,<-List.map_drop]);(try rfl);(first|done|fail)):
  bo U ((⟨d,none,.mG D n p q⟩::r:List BO).map (BO.ao P)) K st:=YJ hx h
theorem Zi {U:Option (List Nat)}{d:Option Nat}{e k s g:Nat}{u v:aw}{r:List BO}{K:St->Prop}{es ys:List (List AC)}{st':St}(h:bo U (r.map (BO.ao P)) K st')(hx:st.arg u=some (.w (.c (.own s g))):=by exact rfl)(hs:aB st.S s=some (.row e k g es):=by exact rfl)(hy:st.rows [s] (st.arg v)=some ys:=by exact rfl)(hk:∀row∈ys,row.length=k:=by(simp[FF,<-List.map_take,<-List.map_drop]);(first|done|fail))(hl:es.length+ys.length<=100000000:=by(first|(simp[FF,<-List.map_take,<-List.map_drop];done)|(simp[FF,<-List.map_take,<-List.map_drop];omega)))(hU:oL U s=true:=by exact rfl)(hst:(st.bM s (.row e k (g+1) (es++ys))).dR d (.w (.c (.own s (g+1))))=st':=by(simp[FF,<-List.map_take,<-List.map_drop]);(try rfl);(first|done|fail)):
  bo U ((⟨d,none,.app e k u v⟩::r:List BO).map (BO.ao P)) K st:=yI hx hs hy hk hl hU hst h
theorem Zj {U:Option (List Nat)}{b:BO}{r:List BO}{st st':St}{K:St->Prop}(hr:bo U (r.map (BO.ao P)) K st')(hp:Jw b=true:=by exact rfl)(h:kB U st b=some st':=by(simp[FF,<-List.map_take,<-List.map_drop,cp,rowsOf,List.range,List.range.loop]);(try rfl);(first|done|fail)):
  bo U ((b::r).map (BO.ao P)) K st:=aZ h hr
theorem Zk {U:List Nat}{l:List BO}{tl:List AO}{K:St->Prop}{i:Nat}{t:OT}{bh:Bool}{b:BO}{st':St}(h:aU U (l.map (BO.ao P)) tl K t bh st')(hi:l[i]? =some b:=by exact rfl)(hx:Ak U st b bh=some st':=by(simp[FF,<-List.map_take,<-List.map_drop]);(try rfl);(first|done|fail)):
  aU U (l.map (BO.ao P)) tl K (.take i t) bh st:=nK hi hx h
theorem NN {U:List Nat}{l:List BO}{tl:List AO}{K:St->Prop}{i:Nat}{t:OT}{bh:Bool}{d:Option Nat}{f:FuncId}{ys:List aw}{ws:List AW}{x:AV}(hC:bt P f ws (fun y=>y=x))(h:aU U (l.map (BO.ao P)) tl K t true (st.dR d x))(hi:l[i]? =some ⟨d,none,.call f ys⟩:=by exact rfl)(ha:kP st ys=some ws:=by(simp[FF,<-List.map_take,<-List.map_drop]);(try rfl);(first|done|fail)):
  aU U (l.map (BO.ao P)) tl K (.move i t) bh st:=Al hi ha hC h
theorem Zl {U:List Nat}{l:List BO}{tl:List AO}{K:St->Prop}{i:Nat}{t:OT}{bh:Bool}{d:Option Nat}{D:List Nat}{n:Nat}{p q:aw}{st st':St}(h:aU U (l.map (BO.ao P)) tl K t true st')(hi:l[i]? =some ⟨d,none,.mG D n p q⟩:=by exact rfl)(hx:kB (some U) (lK D st) ⟨d,none,.store n p q⟩=some st':=by(simp[FF,<-List.map_take,<-List.map_drop]);(try rfl);(first|done|fail)):
  aU U (l.map (BO.ao P)) tl K (.move i t) bh st:=YL hi hx h
theorem Zm {U:List Nat}{l:List BO}{tl:List AO}{K:St->Prop}{i:Nat}{t:OT}{bh:Bool}{b:BO}{st':St}(h:aU U (l.map (BO.ao P)) tl K t true st')(hi:l[i]? =some b:=by exact rfl)(hp:Jw b=true:=by exact rfl)(hx:kB (some U) st b=some st':=by(simp[FF,<-List.map_take,<-List.map_drop,cp,rowsOf,List.range,List.range.loop]);(try rfl);(first|done|fail)):
  aU U (l.map (BO.ao P)) tl K (.move i t) bh st:=Ff hi hx h
theorem Zn {U:List Nat}{l:List AO}{l2:List BO}{n:Nat}{K:St->Prop}{bh:Bool}{r:List BO}(h:bo none (r.map (BO.ao P)) K st)(hr:l2.drop n=r:=by simp only[xy,List.drop_zero];(try rfl);(first|done|fail)):
  aU U l ((l2.drop n).map (BO.ao P)) K .nil bh st:=YV hr h
theorem Zo {t:aw}(h:aC (lift P (.seq x z)) Q st)(hb:st.sc t=some (.bool true):=by(simp[FF,<-List.map_take,<-List.map_drop]);(first|done|fail)):
  aC (lift P (.seq (.cond t x y) z)) Q st:=YR hb h
theorem Zp {t:aw}(h:aC (lift P (.seq y z)) Q st)(hb:st.sc t=some (.bool false):=by(simp[FF,<-List.map_take,<-List.map_drop]);(first|done|fail)):
  aC (lift P (.seq (.cond t x y) z)) Q st:=YS hb h
theorem Zq {t:aw}(h:aC (lift P x) Q st)(hb:st.sc t=some (.bool true):=by(simp[FF,<-List.map_take,<-List.map_drop]);(first|done|fail)):
  aC (lift P (.cond t x y)) Q st:=YT hb h
theorem Zr {t:aw}(h:aC (lift P y) Q st)(hb:st.sc t=some (.bool false):=by(simp[FF,<-List.map_take,<-List.map_drop]);(first|done|fail)):
  aC (lift P (.cond t x y)) Q st:=YU hb h
theorem Zs {s:Nat}{st':St}(h:aC (lift P (.seq x z)) Q st')(hs:st.freeze s=st':=by(simp[FF,<-List.map_take,<-List.map_drop]);(first|done|exact⟨rfl,rfl,rfl⟩|rfl)):
  aC (lift P (.seq (.jf s x) z)) Q st:=NC hs h
theorem Zt {s:Nat}{st':St}(h:aC (lift P x) Q st')(hs:st.freeze s=st':=by(simp[FF,<-List.map_take,<-List.map_drop]);(first|done|exact⟨rfl,rfl,rfl⟩|rfl)):
  aC (lift P (.jf s x)) Q st:=NG hs h
theorem Zu {b off s e k:Nat}{st':St}(h:aC (lift P (.seq x z)) Q st')(hs:st.iz b off s e k=st':=by(simp[St.iz,FF,<-List.map_take,<-List.map_drop]);(first|done|exact⟨rfl,rfl,rfl⟩|rfl)):
  aC (lift P (.seq (.lM b off s e k x) z)) Q st:=YK hs h
theorem Zv {b off s e k:Nat}{st':St}(h:aC (lift P x) Q st')(hs:st.iz b off s e k=st':=by(simp[St.iz,FF,<-List.map_take,<-List.map_drop]);(first|done|exact⟨rfl,rfl,rfl⟩|rfl)):
  aC (lift P (.lM b off s e k x)) Q st:=ND hs h
end
structure Bx (p:Prop):Prop where
 out:p
theorem aj {A B:Prop}(h:B)(g:Bx B->A:=by intro hB;(first|refine ug ?_|refine uh ?_|refine ui ?_|refine bq ?_|refine uj ?_|refine uk ?_|refine um ?_|refine uo ?_|refine eX ?_|refine k_reg ?_|refine uc ?_|refine YZ ?_|refine Za ?_|refine Zb ?_|refine Zc ?_|refine oN ?_|refine rj ?_|refine Ju ?_|refine ue ?_|refine kS ?_|refine wU ?_|refine Jt ?_|refine Jv ?_|refine sJ ?_|refine Cz ?_|refine Zd ?_|refine Ze ?_|refine Zf ?_|refine Zg ?_);(repeat (first|refine ug ?_|refine uh ?_|refine ui ?_|refine bq ?_|refine uj ?_|refine uk ?_|refine um ?_|refine uo ?_|refine eX ?_|refine k_reg ?_|refine uc ?_|refine YZ ?_|refine Za ?_|refine Zb ?_|refine Zc ?_|refine oN ?_|refine rj ?_|refine Ju ?_|refine ue ?_|refine kS ?_|refine wU ?_|refine Jt ?_|refine Jv ?_|refine sJ ?_|refine Cz ?_|refine Zd ?_|refine Ze ?_|refine Zf ?_|refine Zg ?_));exact hB.out):A:=g ⟨h⟩
theorem sL {A B:Prop}(h:B)(g:Bx B->A:=by intro hB;(first|refine Zh ?_|refine Zi ?_|refine Zj ?_|refine bq ?_|refine Zk ?_|refine Zl ?_|refine Zm ?_|refine Zn ?_|refine eX ?_|refine k_reg ?_|refine uc ?_|refine Zo ?_|refine Zp ?_|refine Zq ?_|refine Zr ?_|refine oN ?_|refine rj ?_|refine Ju ?_|refine ue ?_|refine kS ?_|refine wU ?_|refine Jt ?_|refine Jv ?_|refine sJ ?_|refine Cz ?_|refine Zs ?_|refine Zt ?_|refine Zu ?_|refine Zv ?_);(repeat (first|refine Zh ?_|refine Zi ?_|refine Zj ?_|refine bq ?_|refine Zk ?_|refine Zl ?_|refine Zm ?_|refine Zn ?_|refine eX ?_|refine k_reg ?_|refine uc ?_|refine Zo ?_|refine Zp ?_|refine Zq ?_|refine Zr ?_|refine oN ?_|refine rj ?_|refine Ju ?_|refine ue ?_|refine kS ?_|refine wU ?_|refine Jt ?_|refine Jv ?_|refine sJ ?_|refine Cz ?_|refine Zs ?_|refine Zt ?_|refine Zu ?_|refine Zv ?_));exact hB.out):A:=g ⟨h⟩
end Ab
namespace Ab
open Go Go.RowKit
def abc:aF:=⟨100,[7],[],[],aR,[],[]⟩
def abd:aI:=[(5,11,(.take 0 (.take 1 (.take 2 (.take 3 (.take 4 (.take 5 (.take 6 (.take 7 (.take 8 (.take 9 (.take 10 .nil))))))))))),[])]
noncomputable def aof:aA:=aT Tryz.prog abc 29 abd (Tryz.f141.body.getD .skip)
theorem abe:aD Tryz.prog abc 29 abd (Tryz.f141.body.getD .skip)=some aof:=aV rfl ah
def abf:aF:=⟨110,[],[(141,[107])],[],aR,[],[]⟩
def abg:aI:=[]
noncomputable def aog:aA:=aT Tryz.prog abf 8 abg (Tryz.f134.body.getD .skip)
theorem abh:aD Tryz.prog abf 8 abg (Tryz.f134.body.getD .skip)=some aog:=aV rfl ah
def abi:aF:=⟨0,[],[(134,[107])],[],aR,[],[]⟩
def abj:aI:=[]
noncomputable def aoh:aA:=aT Tryz.prog abi 19 abj (Tryz.f105.body.getD .skip)
theorem abk:aD Tryz.prog abi 19 abj (Tryz.f105.body.getD .skip)=some aoh:=aV rfl ah
def abl:aF:=⟨0,[5],[],[(7,[5])],aR,[],[]⟩
def abm:aI:=[]
noncomputable def aoi:aA:=aT Tryz.prog abl 37 abm (Tryz.f112.body.getD .skip)
theorem abn:aD Tryz.prog abl 37 abm (Tryz.f112.body.getD .skip)=some aoi:=aV rfl ah
end Ab
namespace Ab
open Go Go.RowKit
def aao:aF:=⟨0,[7],[],[],aR,[],[]⟩
def aap:aI:=[(5,11,(.take 0 (.take 1 (.take 2 (.take 3 (.take 4 (.take 5 (.take 6 (.take 7 (.take 8 (.take 9 (.take 10 .nil))))))))))),[])]
noncomputable def anQ:aA:=aT Tryz.prog aao 29 aap (Tryz.f141.body.getD .skip)
theorem aaq:aD Tryz.prog aao 29 aap (Tryz.f141.body.getD .skip)=some anQ:=aV rfl ah
def aar:aF:=⟨0,[],[],[],aR,[],[]⟩
def aas:aI:=[]
noncomputable def anR:aA:=aT Tryz.prog aar 8 aas (Tryz.f134.body.getD .skip)
theorem aat:aD Tryz.prog aar 8 aas (Tryz.f134.body.getD .skip)=some anR:=aV rfl ah
def aau:aF:=⟨0,[],[],[],aR,[],[]⟩
def aav:aI:=[]
noncomputable def anS:aA:=aT Tryz.prog aau 6 aav (Tryz.f154.body.getD .skip)
theorem aaw:aD Tryz.prog aau 6 aav (Tryz.f154.body.getD .skip)=some anS:=aV rfl ah
def aax:aF:=⟨0,[18],[],[(5,[18])],aR,[],[]⟩
def aay:aI:=[(5,7,(.take 0 (.take 1 (.take 2 (.take 3 (.take 5 (.take 6 (.move 4 .nil))))))),[])]
noncomputable def anT:aA:=aT Tryz.prog aax 42 aay (Tryz.f153.body.getD .skip)
theorem aaz:aD Tryz.prog aax 42 aay (Tryz.f153.body.getD .skip)=some anT:=aV rfl ah
end Ab
namespace Ab
open Go Go.RowKit
open aq (fg gV qR tN sr wG qU fO)
abbrev iA (n:Int):AC:=.v (.int .i64 n)
abbrev bA (b:Bool):AC:=.v (.bool b)
abbrev ints (l:List Int):AC:=.sl (l.map fun n=>[iA n])
abbrev NQ (l:List Bool):AC:=.sl (l.map fun n=>[bA n])
abbrev oO (l:List (Int×Int)):AC:=.sl (l.map fun p=>[iA p.1,iA p.2])
abbrev kT (d:fg):List AC:=[ints d.cells,oO d.pending]
theorem Fl {c:List Int}{i v:Int}{l:List (Int×Int)}{r:List Int}(h:gV c ((i,v)::l)=some r):0<=i/\i<c.length/\gV (c.set i.toNat v) l=some r:=by
 unfold gV at h;split at h
 ·rename_i hh;exact⟨hh.1,hh.2,h⟩
 ·cases h
theorem yL (c:List Int)(l:List (Int×Int))(r:List Int)(h:gV c l=some r)(hm:c.length<=1000000)(ft:l.length<=1000000):bt Tryz.prog 141 [.c (ints c),.c (oO l)] (fun x=>x=.w (.c (ints r))):=by
 have hm8:c.length<=100000000:=aa;refine bZ aG Tryz.func141 rfl aaq [.t 4] ah _ rfl [4,5,6,7] [7] ?_;refine bG aaq ?_;dsimp only[V0,uV,S0];refine k_reg ?_
 (refine aZ (by simp;try rfl) ?_)
 refine bq (k_reg ?_)
 (refine aZ (by simp[cp,rowsOf,List.range,List.range.loop];try rfl) ?_)
 (refine aZ (by simp;try rfl) ?_)
 refine yI rfl rfl rfl ae (by first|(simp;done)|(simp;omega)) rfl (by simp;try rfl) ?_
 (refine aZ (by simp;try rfl) ?_)
 refine bq (eX (k_reg ?_))
 (refine aZ (by simp;try rfl) ?_)
 refine bq (rj ?_)
 refine cF (fun n V S=>∃(k:Nat) (d:List Int),k<=l.length/\n=l.length-k/\d.length=c.length/\gV d (l.drop k)=some r/\
  V=[(0,.w (.c (ints c))),(1,.w (.c (oO l))),(4,.w (.c (.sl []))),(5,.w (.c (.own 7 2))),(6,.w (.c (iA k))),(7,.w (.c (.own 7 1)))]/\S=[(7,.row 3 1 2 (d.map fun n=>[iA n]))]) (n:=l.length) ⟨0,c,aa,aa,rfl,h,rfl,rfl⟩ ?_
 rintro n V L S ⟨k,d,hk,rfl,mf,hd,rfl,rfl⟩;by_cases hlt:k<l.length
 ·have cg:k<=1000000000:=aa;have lA:=hd;rw[List.drop_eq_getElem_cons hlt] at lA
  obtain⟨⟨y1,y2⟩,hy⟩:∃y,l[k]=y:=⟨_,rfl⟩
  rw[hy] at lA;obtain⟨q1,q2,q3⟩:=Fl lA
  obtain⟨m,rfl⟩:∃m:Nat,y1=m:=⟨y1.toNat,aa⟩
  have NR:m<d.length:=aa;refine eX (k_reg ?_)
  iterate 4 (refine aZ (by simp[hlt];try rfl) ?_)
  refine bq (iR true ae (oN (rj (Cz ?_))))
  iterate 11 (refine nK rfl (by simp[hlt,hy];try rfl) ?_)
  refine pV ?_
  iterate 2 (refine aZ (by simp[NR];try rfl) ?_)
  refine bq ?_
  show aC _ _ _
  refine uc ?_
  (refine aZ (by simp;try rfl) ?_)
  (refine aZ (by simp[bL cg];try rfl) ?_)
  (refine aZ (by simp;try rfl) ?_)
  refine bq ?_;exact⟨l.length-(k+1),aa,k+1,d.set m y2,aa,rfl,by simp[mf],by simpa using q3,rfl,by rw[List.map_set]⟩
 ·have jE:k=l.length:=aa;subst jE;rw[List.drop_length] at hd;simp only[gV,ar] at hd;subst hd;refine eX (k_reg ?_)
  iterate 4 (refine aZ (by simp;try rfl) ?_)
  refine bq (iR false ae (wU ?_))
  show aC _ _ _
  refine k_reg ?_
  iterate 2 (refine aZ (by simp;try rfl) ?_)
  refine bq (kS ?_);exact bd (by simp;try rfl) rfl
theorem anU (d:fg)(r:List Int)(h:qR d=some r)(hm:d.cells.length<=1000000)(hp:d.pending.length<=1000000):bt Tryz.prog 134 [.agg (kT d)] (fun x=>x=.w (.c (ints r))):=by
 refine bZ aG Tryz.func134 rfl aat [.t 2] ah _ rfl [1,2] [1] ?_;refine bG aat ?_;dsimp only[V0,uV,S0];refine k_reg ?_
 iterate 2 (refine aZ (by simp;try rfl) ?_)
 refine bq (k_reg ?_)
 iterate 4 (refine aZ (by simp;try rfl) ?_)
 refine yG (by simp;try rfl) (yL _ _ _ h hm hp) ?_
 (refine aZ (by simp;try rfl) ?_)
 refine bq (kS ?_);exact bd (by simp;try rfl) rfl
theorem NS (d r:fg)(h:tN d=some r)(hm:d.cells.length<=1000000)(hp:d.pending.length<=1000000):bt Tryz.prog 154 [.agg (kT d)] (fun x=>x=.w (.agg (kT r))):=by
 unfold tN at h;rw[bz] at h;obtain⟨x,h1,rfl⟩:=h;refine bZ aG Tryz.func154 rfl aaw [.cell 2 2] ah _ rfl [1,2] [1,2] ?_;refine bG aaw ?_;dsimp only[V0,uV,S0];refine k_reg ?_
 iterate 2 (refine aZ (by simp;try rfl) ?_)
 refine bq (k_reg ?_)
 (refine aZ (by simp;try rfl) ?_)
 refine yG (by simp;try rfl) (anU d x h1 hm hp) ?_
 iterate 2 (refine aZ (by simp;try rfl) ?_)
 refine bq (kS ?_);exact bd (by simp;try rfl) rfl
theorem NT (d r:fg)(c v:Int)(h:sr d c v=some r)(hm:d.cells.length<=1000000)(hp:d.pending.length<=1000000):bt Tryz.prog 153 [.agg (kT d),.c (iA c),.c (iA v)] (fun x=>x=.w (.agg (kT r))):=by
 have hp8:d.pending.length<=100000000:=aa;have hp9:d.pending.length+1<=100000000:=aa
 have key:∀(hc:c<0\/(d.cells.length:Int)<=c),d=r:=fun hc=>by
  unfold sr at h;rw[if_pos hc] at h;exact tq h
 refine bZ aG Tryz.func153 rfl aaz [.cell 6 2] ah _ rfl [3,6,7,18] [3,6,18] ?_;refine bG aaz ?_;dsimp only[V0,uV,S0];refine k_reg ?_
 iterate 2 (refine aZ (by simp;try rfl) ?_)
 refine bq (eX (k_reg ?_));by_cases h0:c<0
 ·iterate 9 (refine aZ (by simp[h0];try rfl) ?_)
  refine bq (iR true ae ?_);refine eX (k_reg ?_)
  iterate 2 (refine aZ (by simp;try rfl) ?_)
  refine bq (ue ?_);exact bd (by simp;try rfl) (by rw[<-key (.inl h0)];rfl)
 ·by_cases h1:(d.cells.length:Int)<=c
  ·iterate 9 (refine aZ (by simp[h0,h1];try rfl) ?_)
   refine bq (iR true ae ?_);refine eX (k_reg ?_)
   iterate 2 (refine aZ (by simp;try rfl) ?_)
   refine bq (ue ?_);exact bd (by simp;try rfl) (by rw[<-key (.inr h1)];rfl)
  ·iterate 9 (refine aZ (by simp[h0,h1];try rfl) ?_)
   refine bq (iR false ae (oN ?_));unfold sr at h;rw[if_neg aa] at h;refine k_reg ?_
   (refine aZ (by simp[cp,rowsOf,List.range,List.range.loop];try rfl) ?_)
   iterate 2 (refine aZ (by simp;try rfl) ?_)
   refine yI rfl rfl rfl ae (by first|(simp;done)|(simp;omega)) rfl (by simp;try rfl) ?_
   iterate 3 (refine aZ (by simp;try rfl) ?_)
   (refine aZ (by simp[cp,rowsOf,List.range,List.range.loop];try rfl) ?_)
   refine yI rfl rfl rfl ae (by first|(simp;done)|(simp;omega)) rfl (by simp;try rfl) ?_
   (refine aZ (by simp;try rfl) ?_)
   have sM:(d.pending++[(c,v)]).length=d.pending.length+1:=ae;rw[sM] at h;refine bq (eX (k_reg ?_));by_cases h4:4<d.pending.length+1
   ·rw[if_pos h4,bz] at h;obtain⟨x,Am,rfl⟩:=h;have NU:(4:Int)<(d.pending.length:Int)+1:=aa
    iterate 3 (refine aZ (by simp[NU];try rfl) ?_)
    refine bq (iR true ae ?_);refine eX (NC (by simp;exact⟨rfl,rfl,rfl⟩) (sJ ?_))
    have e1:(d.pending.map (fun p=>[iA p.1,iA p.2])++[[iA c,iA v]])=(d.pending++[(c,v)]).map fun p=>[iA p.1,iA p.2]:=ae
    rw[e1];generalize hL:d.pending++[(c,v)]=l at*;have cn:1<=l.length:=aa
    iterate 3 (refine nK rfl (by simp;try rfl) ?_)
    iterate 3 (refine nK rfl (by simp[cn];try rfl) ?_)
    refine Al rfl (by simp[List.map_take];try rfl) (yL d.cells (l.take 1) x Am hm (by simp;omega)) ?_;refine pV ?_
    iterate 2 (refine aZ (by simp;try rfl) ?_)
    refine bq (ue ?_);exact bd (by simp;try rfl) (by simp[List.map_drop])
   ·rw[if_neg h4] at h;simp only[ar] at h;subst h;have NU:¬(4:Int)<(d.pending.length:Int)+1:=aa
    iterate 3 (refine aZ (by simp[NU];try rfl) ?_)
    refine bq (iR false ae (oN ?_));refine k_reg ?_
    iterate 5 (refine aZ (by simp;try rfl) ?_)
    refine bq (kS ?_);exact bd (by simp;try rfl) ae
end Ab
namespace Ab
open Go Go.RowKit
attribute [local irreducible] aC bo aU
open aq (fg gV qR tN sr wG qU fO)
abbrev bB (l:List Int):List (List AC):=l.map fun n=>[iA n]
theorem NW (c:List Int)(l:List (Int×Int))(r:List Int)(x0:Slot)(h:gV c l=some r)(hm:c.length<=1000000)(ft:l.length<=1000000):fQ Tryz.prog 141 [.w (.c (ints c)),.w (.c (oO l))] [(107,x0)] (fun x S'=>x=.w (.c (.own 107 (x0.gen+1+1)))/\∀p∈[(107,Slot.row 3 1 (x0.gen+1+1) (bB r))],S' p.1=p.2):=by
 have hm8:c.length<=100000000:=aa;refine lQ aG Tryz.func141 rfl abe [.t 4] ah _ rfl _ [4,5,6,7] [] ?_;refine bG abe ?_;dsimp only[VM,uV,S0,List.cons_append,List.nil_append,List.map];have FF:=trivial
 try refine aj ?_
 refine cF (fun n V S=>∃(k:Nat) (d:List Int),k<=l.length/\n=l.length-k/\d.length=c.length/\gV d (l.drop k)=some r/\
  V=[(0,.w (.c (ints c))),(1,.w (.c (oO l))),(4,.w (.c (.sl []))),(5,.w (.c (.own 107 (x0.gen+1+1)))),(6,.w (.c (iA k))),(7,.w (.c (.own 107 (x0.gen+1))))]/\S=[(107,.row 3 1 (x0.gen+1+1) (bB d))]) (n:=l.length) ⟨0,c,aa,aa,rfl,h,rfl,rfl⟩ ?_
 rintro n V L S ⟨k,d,hk,rfl,mf,hd,rfl,rfl⟩;by_cases hlt:k<l.length
 ·have cg:k<=1000000000:=aa;have lA:=hd;rw[List.drop_eq_getElem_cons hlt] at lA
  obtain⟨⟨y1,y2⟩,hy⟩:∃y,l[k]=y:=⟨_,rfl⟩
  rw[hy] at lA;obtain⟨q1,q2,q3⟩:=Fl lA
  obtain⟨m,rfl⟩:∃m:Nat,y1=m:=⟨y1.toNat,aa⟩
  have NR:m<d.length:=aa;have FF:=dW @hlt @hy @NR (bL cg)
  try refine aj ?_
  exact⟨l.length-(k+1),aa,k+1,d.set m y2,aa,rfl,by simp[mf],by simpa using q3,rfl,by simp[bB,List.map_set]⟩
 ·have jE:k=l.length:=aa;subst jE;rw[List.drop_length] at hd;simp only[gV,ar] at hd;subst hd;have FF:=trivial
  try refine aj ?_
  (try dsimp only[aM,aJ])
  refine gZ (by first|(simp;done)|(simp[hl,hw,fz];try rfl)|(simp;try rfl)) ae ?_;exact(by simp[cZ])
theorem CA (d:fg)(r:List Int)(x0:Slot)(hx0:eE [107] x0=true)(h:qR d=some r)(hm:d.cells.length<=1000000)(hp:d.pending.length<=1000000):fQ Tryz.prog 134 [.w (.agg (kT d))] [(107,x0)] (fun x S'=>x=.w (.c (.own 107 (x0.gen+1+1)))/\∀p∈[(107,Slot.row 3 1 (x0.gen+1+1) (bB r))],S' p.1=p.2):=by
 refine lQ aG Tryz.func134 rfl abh [.t 2] ah _ rfl _ [1,2] [111] ?_;refine bG abh ?_;dsimp only[VM,uV,S0,List.cons_append,List.nil_append,List.map];have FF:=@hx0
 repeat first|refine jS (NW d.cells d.pending r _ h hm hp) ?_|refine jT (NW d.cells d.pending r _ h hm hp) ?_|refine Fj (NW d.cells d.pending r _ h hm hp) ?_|refine aj ?_
 (try dsimp only[aM,aJ])
 refine gZ (by first|(simp;done)|(simp[hl,hw,fz];try rfl)|(simp;try rfl)) ae ?_;exact(by simp[cZ])
theorem aoj (d r:fg)(m:Nat)(h:qU d m=some r)(hm:d.cells.length<=1000000)(hp:d.pending.length<=1000000)(gr:m<=1000000):bt Tryz.prog 105 [.agg (kT d),.c (iA m)] (fun x=>x=.w (.agg (kT r))):=by
 unfold qU at h;rw[bz] at h;obtain⟨c,h1,rfl⟩:=h
 have dc:c.length<=1000000:=by
  have:c.length=d.cells.length:=by
   have key:∀(l:List (Int×Int)) (c r:List Int),gV c l=some r->r.length=c.length:=by
    intro l
    induction l with
    |nil=>intro c r h;simp only[gV,ar] at h;rw[h]
    |cons x l ih=>
     intro c r h;obtain⟨_,_,h3⟩:=Fl (i:=x.1) (v:=x.2) h;have:=ih _ _ h3;simpa using this
   exact key _ _ _ h1
  omega
 refine bZ aG Tryz.func105 rfl abk [.cell 4 2] ah _ rfl [2,4,5] [2,4,107] ?_;refine bG abk ?_;dsimp only[V0,uV,S0];have FF:=trivial
 repeat first|refine jS (CA d c _ ae h1 hm hp) ?_|refine jT (CA d c _ ae h1 hm hp) ?_|refine Fj (CA d c _ ae h1 hm hp) ?_|refine aj ?_
 refine cF (fun n V S=>∃(k g:Nat),n=m-c.length-k/\(k=0\/c.length+k<=m)/\
  V=[(0,.w (.agg (kT d))),(1,.w (.c (iA m))),(2,.pb 2 1 0),(4,.pb 4 1 0),(5,.w (.c (.own 107 g)))]/\S=[(2,.box 1 (kT d)),(4,.box 1 [.sl [],.sl []]),(107,.row 3 1 g (bB (c++List.replicate k 0)))]) (n:=m-c.length) ⟨0,2,aa,.inl rfl,rfl,ae⟩ ?_
 rintro n V L S ⟨k,g,rfl,hk,rfl,rfl⟩;by_cases hlt:c.length+k<m
 ·have gj:(c.length:Int)+(k:Int)<(m:Int):=aa;have uq:c.length+k+1<=100000000:=aa;have FF:=kh @gj @hlt @uq
  try refine aj ?_
  exact⟨m-c.length-(k+1),aa,k+1,g+1,rfl,.inr aa,rfl,by simp[List.replicate_succ']⟩
 ·have gj:¬(c.length:Int)+(k:Int)<(m:Int):=aa;have hle:m<=c.length+k:=aa
  have nN:(c++List.replicate k 0).take m=(c++List.replicate (m-c.length) 0).take m:=by
   rcases hk with rfl|hk
   ·have:m-c.length=0:=aa;rw[this]
   ·have jE:k=m-c.length:=aa;rw[jE]
  have FF:=jk @gj @hle
  try refine aj ?_
  (try dsimp only[aM,aJ])
  exact bd (by simp;try rfl) (by rw[<-nN];simp[List.map_take])
end Ab
namespace Ab
open Go Go.RowKit
attribute [local irreducible] aC bo aU
open aq (tJ tK np pN bp kv jO dF)
theorem kU (l:List Int)(x:Int)(hl:l.length<=1000000):bt Tryz.prog 160 [.c (ints l),.c (iA x)] (fun y=>y=.w (.c (bA (decide (x∈l))))):=by
 refine bZ aG Tryz.func160 rfl aaD [.t 4] ah _ rfl [4,5] [] ?_;refine bG aaD ?_;dsimp only[V0,uV,S0];have FF:=trivial
 try refine aj ?_
 refine cF (fun n V S=>∃k:Nat,k<=l.length/\n=l.length-k/\(∀j (hj:j<l.length),j<k->l[j]≠x)/\
  V=[(0,.w (.c (ints l))),(1,.w (.c (iA x))),(4,.w (.c (bA false))),(5,.w (.c (iA k)))]/\S=[]) (n:=l.length) ⟨0,aa,aa,fun j _ h=>aa,rfl,rfl⟩ ?_
 rintro n V L S ⟨k,hk,rfl,hj,rfl,rfl⟩;by_cases hlt:k<l.length
 ·have cg:k<=1000000000:=aa
  obtain⟨y,hy⟩:∃y,l[k]=y:=⟨_,rfl⟩
  by_cases he:y=x
  ·have FF:=kh @hlt @hy @he
   try refine aj ?_
   (try dsimp only[aM,aJ])
   exact bd (by simp;try rfl) (by rw[ll (he▸hy▸cT hlt)];rfl)
  ·have FF:=dW @hlt @hy @he (bL cg)
   try refine aj ?_
   exact⟨l.length-(k+1),aa,k+1,aa,aa,fun j dD dx=>by
    by_cases dN:j=k
    ·subst dN;rw[hy];exact he
    ·exact hj j dD aa,rfl,rfl⟩
 ·have FF:=@hlt
  try refine aj ?_
  (try dsimp only[aM,aJ])
  exact bd (by simp;try rfl) (by rw[pg (fun hm=>by obtain⟨j,dD,dN⟩:=vQ.1 hm;exact hj j dD aa dN)];rfl)
theorem NY (l:List Int)(m:Nat)(hm:m<=1000000):bt Tryz.prog 137 [.c (ints l),.c (iA m)] (fun y=>y=.w (.c (ints (l.take m)))):=by
 have ou:min (l.length:Int) (m:Int)=((min l.length m:Nat):Int):=aa;have hle:min l.length m<=l.length:=Nat.min_le_left _ _;have axs:min l.length m<=m:=Nat.min_le_right _ _;have uq:min l.length m<=100000000:=aa;refine bZ aG Tryz.func137 rfl aaG [.t 4] ah _ rfl [4,5] [5] ?_;refine bG aaG ?_;dsimp only[V0,uV,S0];have FF:=kh @ou @hle @uq
 try refine sL ?_
 (try dsimp only[aM,aJ])
 exact bd (by simp;try rfl) (by rw[show l.take m=l.take (min l.length m) by rw[Nat.min_comm,<-List.take_take,ig]];simp[cZ,List.map_take])
theorem rm (n:Int):bt Tryz.prog 161 [.c (iA n)] (fun x=>x=.w (.c (iA (tJ n)))):=by
 refine bZ aG Tryz.func161 rfl aaP [.t 2] ah _ rfl [2] [] ?_;refine bG aaP ?_;dsimp only[V0,uV,S0];have FF:=trivial
 try refine aj ?_
 (try dsimp only[aM,aJ])
 exact bd (by simp;try rfl) (rfl)
theorem rp (b:Bool):bt Tryz.prog 151 [.c (bA b)] (fun x=>x=.w (.c (iA (tK b)))):=by
 refine bZ aG Tryz.func151 rfl aaS [.t 2] ah _ rfl [2] [] ?_;refine bG aaS ?_;dsimp only[V0,uV,S0];cases b
 ·have FF:=trivial
  try refine aj ?_
  (try dsimp only[aM,aJ])
  exact bd (by simp;try rfl) (rfl)
 ·have FF:=trivial
  try refine aj ?_
  (try dsimp only[aM,aJ])
  exact bd (by simp;try rfl) (rfl)
theorem jF (op y x:Int)(hop:op=6\/op=7\/op=8\/op=9\/op=11\/op=12\/op=13)(hy:bp y=true)(hx:bp x=true):bt Tryz.prog 150 [.c (iA op),.c (iA y),.c (iA x)] (fun r=>r=.w (.c (iA (np op y x)))):=by
 have JA: -2147483647<=y/\y<=2147483647:=by simpa [bp] using hy
 have cU: -2147483647<=x/\x<=2147483647:=by simpa [bp] using hx
 refine bZ aG Tryz.func150 rfl aaV [.t 6] ah _ rfl [6,7] [] ?_;refine bG aaV ?_;dsimp only[V0,uV,S0]
 rcases hop with rfl|rfl|rfl|rfl|rfl|rfl|rfl
 ·have FF:=(lO (a:=y) (b:=x) aa aa)
  repeat first|refine aN (rm (y+x)) ?_|refine aO (rm (y+x)) ?_|refine aP (rm (y+x)) ?_|refine aj ?_
  (try dsimp only[aM,aJ])
  exact bd (by simp;try rfl) (rfl)
 ·have FF:=(fJ (a:=y) (b:=x) aa aa)
  repeat first|refine aN (rm (y-x)) ?_|refine aO (rm (y-x)) ?_|refine aP (rm (y-x)) ?_|refine aj ?_
  (try dsimp only[aM,aJ])
  exact bd (by simp;try rfl) (rfl)
 ·have FF:=(ant (XK JA cU).1 (XK JA cU).2)
  repeat first|refine aN (rm (y*x)) ?_|refine aO (rm (y*x)) ?_|refine aP (rm (y*x)) ?_|refine aj ?_
  (try dsimp only[aM,aJ])
  exact bd (by simp;try rfl) (rfl)
 ·by_cases h0:x=0
  ·have FF:=@h0
   try refine aj ?_
   (try dsimp only[aM,aJ])
   exact bd (by simp;try rfl) (by rw[h0];rfl)
  ·have FF:=jk @h0 (YM h0 (XL JA).1 (XL JA).2)
   repeat first|refine aN (rm (y.tdiv x)) ?_|refine aO (rm (y.tdiv x)) ?_|refine aP (rm (y.tdiv x)) ?_|refine aj ?_
   (try dsimp only[aM,aJ])
   exact bd (by simp;try rfl) (by simp[np,h0])
 ·have FF:=trivial
  repeat first|refine aN (rp (decide (y<x))) ?_|refine aO (rp (decide (y<x))) ?_|refine aP (rp (decide (y<x))) ?_|refine aj ?_
  (try dsimp only[aM,aJ])
  exact bd (by simp;try rfl) (rfl)
 ·have FF:=trivial
  repeat first|refine aN (rp (decide (y<=x))) ?_|refine aO (rp (decide (y<=x))) ?_|refine aP (rp (decide (y<=x))) ?_|refine aj ?_
  (try dsimp only[aM,aJ])
  exact bd (by simp;try rfl) (rfl)
 ·have FF:=trivial
  repeat first|refine aN (rp (decide (y=x))) ?_|refine aO (rp (decide (y=x))) ?_|refine aP (rp (decide (y=x))) ?_|refine aj ?_
  (try dsimp only[aM,aJ])
  exact bd (by simp;try rfl) (rfl)
theorem NZ (l:List Int)(i:Nat)(k:Int)(hk:2<=k/\k<=4)(hi:i<=1000000)(hl:l.length<=1000000):bt Tryz.prog 149 [.c (ints l),.c (iA i),.c (iA k)] (fun r=>r=.w (.c (iA (pN l i k)))):=by
 have h0:k≠0:=aa;have i0:¬(i:Int)<0:=aa;refine bZ aG Tryz.func149 rfl aaY [.t 6] ah _ rfl [6] [] ?_;refine bG aaY ?_;dsimp only[V0,uV,S0];by_cases hlt:i<l.length
 ·obtain⟨y,hy⟩:∃y,l[i]=y:=⟨_,rfl⟩
  have pw:¬l.length<=i:=aa;have h1:=Int.tmod_lt_of_pos y (show 0<k by omega)
  have h2: -k<y.tmod k:=by
   have:=Int.tmod_lt_of_pos (-y) (show 0<k by omega);rw[Int.neg_tmod] at this;omega
  have FF:=eL @i0 @hlt @pw @hy (fun a=>Fg (a:=a) h0) (lO (a:=y.tmod k) (b:=k) aa aa)
  try refine aj ?_
  (try dsimp only[aM,aJ])
  exact bd (by simp;try rfl) (by unfold pN;rw[List.getElem?_eq_getElem hlt,hy];rfl)
 ·have pw:l.length<=i:=aa;have FF:=kh @i0 @hlt @pw
  try refine aj ?_
  (try dsimp only[aM,aJ])
  exact bd (by simp;try rfl) (by unfold pN;rw[List.getElem?_eq_none pw];rfl)
abbrev Ao (a:dF):List AC:=[iA a.kind,iA a.a,iA a.b,iA a.c,iA a.d]
abbrev acts (l:List dF):AC:=.sl (l.map Ao)
theorem Oa (l:List Int)(x:Int)(hl:l.length<=1000000):bt Tryz.prog 148 [.c (ints l),.c (iA x)] (fun y=>y=.w (.c (ints (kv l x)))):=by
 refine bZ aG Tryz.func148 rfl abb [.t 4] ah _ rfl [4,5,6] [5] ?_;refine bG abb ?_;dsimp only[V0,uV,S0];by_cases hm:x∈l
 ·have FF:=@hm
  repeat first|refine aN (kU l x hl) ?_|refine aO (kU l x hl) ?_|refine aP (kU l x hl) ?_|refine aj ?_
  (try dsimp only[aM,aJ])
  exact bd (by simp;try rfl) (by unfold kv;rw[if_pos hm];rfl)
 ·have FF:=@hm
  repeat first|refine aN (kU l x hl) ?_|refine aO (kU l x hl) ?_|refine aP (kU l x hl) ?_|refine aj ?_
  refine cF (fun n V S=>∃k:Nat,k<=l.length/\n=l.length-k/\(∀j (hj:j<l.length),j<k->decide (l[j]<x)=true)/\
   V=[(0,.w (.c (ints l))),(1,.w (.c (iA x))),(4,.w (.c (.sl []))),(5,.w (.c (.own 5 (k+1)))),(6,.w (.c (iA k)))]/\S=[(5,.row 3 1 (k+1) (bB (l.take k)))]) (n:=l.length) ⟨0,aa,aa,fun j _ h=>aa,rfl,rfl⟩ ?_
  rintro n V L S ⟨k,hk,rfl,hj,rfl,rfl⟩
  have done:∀(h2:∀h:k<l.length,decide (l[k]<x)=false),kv l x=l.take k++x::l.drop k:=fun h2=>by
   obtain⟨g1,g2⟩:=EG (p:=fun y:Int=>decide (y<x)) hk hj h2;unfold kv;rw[if_neg hm,g1,g2]
  have CB:k<=100000000:=aa;have ou:min k l.length=k:=zw hk;have uq:k+1<=100000000:=aa;have dS:k+1+(l.length-k)<=100000000:=aa;by_cases hlt:k<l.length
  ·have cg:k<=1000000000:=aa
   obtain⟨y,hy⟩:∃y,l[k]=y:=⟨_,rfl⟩
   by_cases he:y<x
   ·have FF:=eL @hlt @hy @he (bL cg) @ou @uq
    try refine aj ?_
    exact⟨l.length-(k+1),aa,k+1,aa,aa,fun j dD dx=>by
     by_cases dN:j=k
     ·subst dN;rw[hy];exact ll he
     ·exact hj j dD aa,rfl,by rw[ki hlt,hy];simp[bB]⟩
   ·have FF:=jl @hlt @hy @he @ou @uq @dS (Nat.le_of_lt hlt)
    try refine sL ?_
    (try dsimp only[aM,aJ])
    exact bd (by simp;try rfl) (by rw[done (fun _=>by rw[hy];exact pg he)];simp[bB])
  ·have FF:=fX @hlt @ou @uq @dS @hk
   try refine sL ?_
   (try dsimp only[aM,aJ])
   exact bd (by simp;try rfl) (by rw[done (fun h=>absurd h hlt)];simp[bB])
end Ab
end Go.Proofs.YtlnghiefahcnpaaGreat
