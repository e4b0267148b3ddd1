import Derived.Test.YtlnghiefahcnpaaGreatQ5
set_option maxHeartbeats 40000000
set_option maxRecDepth 100000
set_option linter.all false
namespace Go.Proofs.YtlnghiefahcnpaaGreat
namespace Ab
open Go Go.RowKit dL
def nth (l:List Int)(n:Nat):List AC:=(List.range n).map fun i=>iA (l.getD i 0)
@[simp] theorem axk (l:List Int)(n:Nat):(nth l n).length=n:=by simp[nth]
theorem Jz (l:List Int)(n i:Nat)(h:i<n):(nth l n)[i]? =some (iA (l.getD i 0)):=by simp[nth,h]
@[simp] theorem axl (l:List Int)(n:Nat):(nth l n).all inl=true:=by simp[nth]
abbrev aaA (c:List (Int×Int)):AC:=.sl (c.map fun p=>[iA p.1,iA p.2])
@[irreducible] def bW (p:Prog):List AC:=aaA p.code::(nth p.entry 40++[iA p.cC,iA p.gG])
@[simp] theorem axm (p:Prog):(bW p).length=43:=by simp[bW]
@[simp] theorem axn (p:Prog):(bW p).take 1=[aaA p.code]:=by simp[bW]
@[simp] theorem anV (p:Prog):((bW p).drop 41).take 1=[iA p.cC]:=by
 unfold bW;rw[xy,Hg ae,oZ ae];rfl
@[simp] theorem axo (p:Prog):((bW p).drop 42).take 1=[iA p.gG]:=by
 unfold bW;rw[xy,show(41:Nat)=(nth p.entry 40).length+1 by simp,<-List.drop_drop,Bp];rfl
theorem anW (p:Prog){i:Nat}(h:i<40):((bW p).drop (1+i)).take 1=[iA (p.entry.getD i 0)]:=by
 unfold bW;rw[zx,xy,Hg (by simp;omega)]
 have h1:(nth p.entry 40).drop i=iA (p.entry.getD i 0)::(nth p.entry 40).drop (i+1):=by
  rw[List.drop_eq_getElem_cons (by simpa using h)];congr 1;have:=Jz p.entry 40 i h;rw[List.getElem?_eq_getElem (by simpa using h)] at this;exact tq this
 rw[h1];rfl
@[simp] theorem axp (p:Prog):(bW p).take 43=bW p:=List.take_of_length_le ae
@[simp] theorem axq (p:Prog):(bW p).all inl=true:=by simp[bW]
@[simp] theorem axr (p:Prog)(s g:Nat)(es:List (List AC)):(bW p).map (je s g es)=bW p:=by
 simp only[bW,nth,ey,dw,List.map_map,vU];rfl
end Ab
namespace Ab
open Go Go.RowKit
noncomputable def known (f:FuncId)(ws:List AW)(x:AV)(c:C1):C1:=fun g args=>match Nat.beq g f && cP (fun a b=>Gu a b) args ws with
 |true=>some x
 |false=>c g args
theorem sV {P:Program}{f:FuncId}{ws:List AW}{x:AV}{c:C1}(h:bt P f ws (fun y=>y=x))(hc:gO P c):gO P (known f ws x c):=by
 intro g args y hy;unfold known at hy;split at hy
 ·rename_i hb;cases hy;rw[bN] at hb;have h1:=ew hb.1;have h2:args=ws:=uF (fun a b=>SM) hb.2;subst h1;subst h2;exact h
 ·exact hc g args y hy
end Ab
namespace Ab
open Go Go.RowKit dL
abbrev aub (t:ym):List AC:=[iA t.kind,iA t.pos,.v (.string ⟨t.text.toArray⟩),iA t.val]
noncomputable def fW (k:Nat):AV:=.bQ [.c (.sl (((dL.tokens (sources.getD k [])).getD []).map aub)),.c (iA 0),.c (iA 0)]
end Ab
namespace Ab
open Go Go.RowKit
section
variable {P:Program} {Q:dQ->St->Prop} {V L:List (Nat×AV)} {S:List (Nat×Slot)} {st:St} {x y z:aA}
theorem nM {U:List Nat}{l:List BO}{tl:List AO}{K:St->Prop}{i:Nat}{t:OT}{bh:Bool}{d:Option Nat}{f:FuncId}{ys:List aw}{D:List Nat}{st st':St}{ws:List AV}{x0:AV}{Ys:List (Nat×Slot)}(hi:l[i]? =some ⟨d,none,.kR f ys D⟩)(hC:fQ P f ws (eW st D) (fun x S'=>x=x0/\∀p∈Ys,S' p.1=p.2))(h:aU U (l.map (BO.ao P)) tl K t true st')(ha:kA st ys=some ws:=by(simp[FF]);(try rfl);(first|done|fail))(hc:ws.all (gI D)=true:=by(simp[FF]);(first|done|fail))(hD:∀s∈D,(aB st.S s).isSome=true/\eE D (st.slot s)=true:=by(simp[FF]);(first|done|fail))(hU:∀s∈D,s∈U:=by(simp[FF]);(first|done|fail))(hY:Ys.map (·.1)=D:=by exact rfl)(hx:gI D x0=true:=by(simp[FF]);(first|done|fail))(dc:∀p∈Ys,eE D p.2=true:=by(simp[FF]);(first|done|fail))(hst:(jR Ys st).dR d x0=st':=by(simp[FF]);(try rfl);(first|done|fail)):
  aU U (l.map (BO.ao P)) tl K (.move i t) bh st:=YY hi ha hc hD hU hC hY hx dc hst h
end
end Ab
namespace Ab
open Go Go.RowKit
def ZW:aF:=⟨0,[],[],[],aR,[],[]⟩
def ZX:aI:=[]
noncomputable def anK:aA:=aT Tryz.prog ZW 2 ZX (Tryz.f31.body.getD .skip)
theorem ZY:aD Tryz.prog ZW 2 ZX (Tryz.f31.body.getD .skip)=some anK:=aV rfl ah
def ZZ:aF:=⟨0,[],[],[],aR,[],[]⟩
def aaa:aI:=[(5,6,(.take 0 (.take 1 (.take 2 (.take 3 (.take 4 (.take 5 .nil)))))),[])]
noncomputable def anL:aA:=aT Tryz.prog ZZ 27 aaa (Tryz.f140.body.getD .skip)
theorem aab:aD Tryz.prog ZZ 27 aaa (Tryz.f140.body.getD .skip)=some anL:=aV rfl ah
def aac:aF:=⟨0,[],[],[],aR,[],[]⟩
def aad:aI:=[]
noncomputable def anM:aA:=aT Tryz.prog aac 12 aad (Tryz.f111.body.getD .skip)
theorem aae:aD Tryz.prog aac 12 aad (Tryz.f111.body.getD .skip)=some anM:=aV rfl ah
def aaf:aF:=⟨0,[5],[],[],aR,[],[]⟩
def aag:aI:=[(6,11,(.take 0 (.take 1 (.take 2 (.take 3 (.take 4 (.take 5 (.take 6 (.take 7 (.take 8 (.take 9 (.take 10 .nil))))))))))),[])]
noncomputable def anN:aA:=aT Tryz.prog aaf 58 aag (Tryz.f136.body.getD .skip)
theorem aah:aD Tryz.prog aaf 58 aag (Tryz.f136.body.getD .skip)=some anN:=aV rfl ah
def aai:aF:=⟨0,[7],[],[],aR,[],[]⟩
def aaj:aI:=[]
noncomputable def anO:aA:=aT Tryz.prog aai 27 aaj (Tryz.f155.body.getD .skip)
theorem aak:aD Tryz.prog aai 27 aaj (Tryz.f155.body.getD .skip)=some anO:=aV rfl ah
def aal:aF:=⟨0,[],[(134,[107])],[],aR,[],[]⟩
def aam:aI:=[(1,5,(.take 0 (.take 1 (.take 3 (.take 4 (.move 2 .nil))))),[107])]
noncomputable def anP:aA:=aT Tryz.prog aal 9 aam (Tryz.f113.body.getD .skip)
theorem aan:aD Tryz.prog aal 9 aam (Tryz.f113.body.getD .skip)=some anP:=aV rfl ah
end Ab
namespace Ab
open Go Go.RowKit
attribute [local irreducible] aC bo aU
open aq (eh tP pO nw aL)
abbrev JB (q:Qn):List AC:=[iA q.node,iA q.handler,iA q.count,iA q.kind,iA q.index]
abbrev Ap (a:bf):List AC:=[iA a.q.node,iA a.q.handler,iA a.q.count,iA a.q.kind,iA a.q.index,iA a.n]
abbrev jU (l:List bf):AC:=.sl (l.map Ap)
theorem aok {a m:Qn}(h:a≠m):¬(a.node=m.node/\a.handler=m.handler/\a.count=m.count/\a.kind=m.kind/\a.index=m.index):=fun⟨h1,h2,h3,h4,h5⟩=>h (by cases a;cases m;simp_all)
theorem CC (l:List bf)(q:Qn)(hl:l.length<=1000000):bt Tryz.prog 140 [.c (jU l),.agg (JB q)] (fun x=>x=.w (.c (iA (nk l q)))):=by
 refine bZ aG Tryz.func140 rfl aab [.t 4] ah _ rfl [3,4,5,6] [3] ?_;refine bG aab ?_;dsimp only[V0,uV,S0];have FF:=trivial
 try refine aj ?_
 refine cF (fun n V S=>∃k:Nat,k<=l.length/\n=l.length-k/\
  V=[(0,.w (.c (jU l))),(1,.w (.agg (JB q))),(3,.pb 3 1 0),(4,.w (.c (iA 0))),(5,.w (.c (iA (nk (l.take k) q)))),(6,.w (.c (iA k)))]/\S=[(3,.box 1 (JB q))]) (n:=l.length) ⟨0,aa,aa,rfl,rfl⟩ ?_
 rintro n V L S ⟨k,hk,rfl,rfl,rfl⟩;by_cases hlt:k<l.length
 ·have cg:k<=1000000000:=aa
  obtain⟨x,hx⟩:∃x,l[k]=x:=⟨_,rfl⟩
  have hg:nk (l.take (k+1)) q=if x.q=q then max 0 x.n else nk (l.take k) q:=by rw[ki hlt,alz,hx]
  generalize nk (l.take k) q=gv at hg⊢;by_cases he:x.q=q
  ·rw[if_pos he] at hg;have hmx:max x.n 0=max 0 x.n:=aa;have FF:=fX @hlt @hx @he (bL cg) @hmx
   try refine aj ?_
   exact⟨l.length-(k+1),aa,k+1,aa,aa,by rw[hg];rfl,rfl⟩
  ·rw[if_neg he] at hg;have hne:=aok he;have FF:=dW @hlt @hx @hne (bL cg)
   try refine aj ?_
   exact⟨l.length-(k+1),aa,k+1,aa,aa,by rw[hg];rfl,rfl⟩
 ·have jE:k=l.length:=aa;have FF:=@hlt
  try refine aj ?_
  (try dsimp only[aM,aJ])
  exact bd (by simp;try rfl) (by rw[jE,ig];rfl)
theorem Oc (l:List bf)(q:Qn)(k:Int)(hk:k≠0)(hl:l.length<=1000000):bt Tryz.prog 111 [.c (jU l),.agg (JB q),.c (iA k)] (fun x=>x=.w (.c (iA (eh l q k)))):=by
 refine bZ aG Tryz.func111 rfl aae [.t 6] ah _ rfl [4,6] [4] ?_;refine bG aae ?_;dsimp only[V0,uV,S0]
 have FF:=(fun a=>Fg (a:=a) hk)
 repeat first|refine aN (CC l q hl) ?_|refine aO (CC l q hl) ?_|refine aP (CC l q hl) ?_|refine aj ?_
 (try dsimp only[aM,aJ])
 exact bd (by simp;try rfl) (rfl)
theorem aol (l:List Int)(k:Int)(set:Bool)(n:Nat):(((List.range (n+1)).map Int.ofNat).filter fun i=>if i=k then set else decide (i∈l))=(((List.range n).map Int.ofNat).filter fun i=>if i=k then set else decide (i∈l))++if(if(n:Int)=k then set else decide ((n:Int)∈l)) then [(n:Int)] else []:=by
 rw[qA,dw,fY];congr 1
 show List.filter _ [(n:Int)]=_
 rw[oe];rfl
theorem CD (l:List Int)(k:Int)(set:Bool)(hl:l.length<=1000000):bt Tryz.prog 155 [.c (ints l),.c (iA k),.c (bA set)] (fun x=>x=.w (.c (ints (tP l k set)))):=by
 refine bZ aG Tryz.func155 rfl aak [.t 6] ah _ rfl [6,7,8,9] [7] ?_;refine bG aak ?_;dsimp only[V0,uV,S0];have FF:=trivial
 try refine aj ?_
 refine cF (fun n V S=>∃(j g:Nat) (x9:AV),j<=8/\n=8-j/\(((List.range j).map Int.ofNat).filter fun i=>if i=k then set else decide (i∈l)).length<=j/\
  V=[(0,.w (.c (ints l))),(1,.w (.c (iA k))),(2,.w (.c (bA set))),(6,.w (.c (.sl []))),(7,.w (.c (.own 7 g))),(8,.w (.c (iA j))),(9,x9)]/\S=[(7,.row 3 1 g (bB (((List.range j).map Int.ofNat).filter fun i=>if i=k then set else decide (i∈l))))]) (n:=8) ⟨0,1,.u,aa,rfl,ae,rfl,rfl⟩ ?_
 rintro n V L S ⟨j,g,x9,hj,rfl,hle,rfl,rfl⟩;by_cases hlt:j<8
 ·have gj:(j:Int)<8:=aa;have CE:j<=1000000000:=aa;have ht:=aol l k set j;generalize(((List.range j).map Int.ofNat).filter fun i=>if i=k then set else decide (i∈l))=cur at hle ht⊢;have dc:cur.length+1<=100000000:=aa
  have fin:∀(b:Bool),(if(j:Int)=k then set else decide ((j:Int)∈l))=b->(((List.range (j+1)).map Int.ofNat).filter fun i=>if i=k then set else decide (i∈l))=cur++if b then [(j:Int)] else []:=fun b hb=>by rw[ht,hb]
  by_cases dx:(j:Int)=k
  ·subst dx
   cases set with
   |true=>
    have hf:=fin true (by rw[if_pos rfl]);have FF:=kh @gj @dc (bL CE)
    repeat first|refine aN (kU l j hl) ?_|refine aO (kU l j hl) ?_|refine aP (kU l j hl) ?_|refine aj ?_
    exact⟨8-(j+1),aa,j+1,g+1,_,aa,rfl,by rw[hf];simp;omega,rfl,by rw[hf];simp[bB]⟩
   |false=>
    have hf:=fin false (by rw[if_pos rfl]);have FF:=kh @gj @dc (bL CE)
    repeat first|refine aN (kU l j hl) ?_|refine aO (kU l j hl) ?_|refine aP (kU l j hl) ?_|refine aj ?_
    exact⟨8-(j+1),aa,j+1,g,_,aa,rfl,by rw[hf];simp;omega,rfl,by rw[hf];simp[bB]⟩
  ·by_cases hm:(j:Int)∈l
   ·have hf:=fin true (by rw[if_neg dx];exact ll hm);have FF:=fX @gj @dx @hm @dc (bL CE)
    repeat first|refine aN (kU l j hl) ?_|refine aO (kU l j hl) ?_|refine aP (kU l j hl) ?_|refine aj ?_
    exact⟨8-(j+1),aa,j+1,g+1,_,aa,rfl,by rw[hf];simp;omega,rfl,by rw[hf];simp[bB]⟩
   ·have hf:=fin false (by rw[if_neg dx];exact pg hm);have FF:=fX @gj @dx @hm @dc (bL CE)
    repeat first|refine aN (kU l j hl) ?_|refine aO (kU l j hl) ?_|refine aP (kU l j hl) ?_|refine aj ?_
    exact⟨8-(j+1),aa,j+1,g,_,aa,rfl,by rw[hf];simp;omega,rfl,by rw[hf];simp[bB]⟩
 ·have Fm:j=8:=aa;have gj:¬(j:Int)<8:=aa;have FF:=@gj
  try refine aj ?_
  (try dsimp only[aM,aJ])
  exact bd (by simp;try rfl) (by rw[Fm];rfl)
end Ab
end Go.Proofs.YtlnghiefahcnpaaGreat
