import Derived.Test.YtlnghiefahcnpaaGreatQ6
set_option maxHeartbeats 40000000
set_option maxRecDepth 100000
set_option linter.all false
namespace Go.Proofs.YtlnghiefahcnpaaGreat
namespace Ab
open Go Go.RowKit
attribute [local irreducible] aC bo aU
theorem ayd {U:Option (List Nat)}{st:St}{op:dz}{m:Bool}{ev:St->List Nat->Option AV}{x:AV}(he:bV op=some (m,ev))(h:ev st []=some x):cS U st op=some (x,st):=by
 cases op with
 |nE k y lo hi=>
  cases lo with
  |none=>
   simp only[cS];split
   ·rename_i s g hy;simp only[bV,ar,gR] at he;obtain⟨_,rfl⟩:=he;dsimp only at h;rw[hy] at h;cases h
   ·rw[he];simp only[h,DV]
  |some lo=>simp only[cS];rw[he];simp only[h,DV]
 |_=>first|(simp only[bV] at he;cases he;done)|(simp only[cS];rw[he];simp only[h,DV])
def EvX (V L:List (Nat×AV))(S:List (Nat×Slot))(U:List Nat)(op:dz)(x:AV):Prop:=∃m ev,bV op=some (m,ev)/\ev ⟨V,L,S⟩ U=some x
def axN (op:dz):Bool:=match bV op with
 |some (m,_)=>m
 |none=>false
section
variable {V L:List (Nat×AV)} {S:List (Nat×Slot)} {U:List Nat}
theorem axL {y:aw}{u:Value}(h:St.arg ⟨V,L,S⟩ y=some (.w (.c (.v u)))):St.sc ⟨V,L,S⟩ y=some u:=by unfold St.sc;rw[h];rfl
theorem axM {s:Nat}{x:Slot}(h:aB S s=some x):St.slot ⟨V,L,S⟩ s=x:=by unfold St.slot;rw[h];rfl
theorem axK {cs r:List AC}{off:Nat}{c:AC}(h:(cs.drop off).take 1=c::r):off+1<=cs.length/\(cs.drop off).take 1=[c]:=by
 have h2:=kp List.length h;simp only[eo,lj,List.length_cons] at h2;refine⟨aa,?_⟩;have:r=[]:=Hi.1 aa;rw[h,this]
theorem axO {s g off n:Nat}{cs ys:List AC}(hs:aB S s=some (.box g cs))(hU:U.contains s=false)(hl:off+n<=cs.length)(h:(cs.drop off).take n=ys):St.cells ⟨V,L,S⟩ U n (some (.pb s g off))=some ys:=by
 have hm:s∉U:=fun hm=>by rw[List.contains_iff_mem.2 hm] at hU;cases hU
 simp only[St.cells,axM hs];rw[if_pos ⟨trivial,hm,hl⟩,h]
theorem axP {s g i off n e k:Nat}{es:List (List AC)}{row ys:List AC}(hs:aB S s=some (.row e k g es))(hU:U.contains s=false)(hr:es[i]? =some row)(hl:off+n<=row.length)(h:(row.drop off).take n=ys):St.cells ⟨V,L,S⟩ U n (some (.pr s g i off))=some ys:=by
 have hm:s∉U:=fun hm=>by rw[List.contains_iff_mem.2 hm] at hU;cases hU
 simp only[St.cells,axM hs];rw[if_pos ⟨trivial,hm⟩,hr];dsimp only;rw[if_pos hl,h]
theorem axQ {off n:Nat}{cs ys:List AC}(hl:off+n<=cs.length)(h:(cs.drop off).take n=ys):St.cells ⟨V,L,S⟩ U n (some (.pi cs off))=some ys:=by
 simp only[St.cells];rw[if_pos hl,h]
theorem eMv {y:aw}{x:AV}(h:St.arg ⟨V,L,S⟩ y=some x:=by exact rfl):EvX V L S U (.mv y) x:=⟨_,_,rfl,h⟩
theorem axR {o:BinOp}{y z:aw}{u v q:Value}(h1:St.arg ⟨V,L,S⟩ y=some (.w (.c (.v u))):=by exact rfl)(h2:St.arg ⟨V,L,S⟩ z=some (.w (.c (.v v))):=by exact rfl)(h:aY o u v=some q:=by(simp[FF]);(try rfl);(first|done|fail)):EvX V L S U (.bin o y z) (.w (.c (.v q))):=
 ⟨_,_,rfl,by(try dsimp only);rw[axL h1,axL h2];(try dsimp only);rw[h];rfl⟩
theorem eUn {o:UnOp}{y:aw}{u q:Value}(h1:St.arg ⟨V,L,S⟩ y=some (.w (.c (.v u))):=by exact rfl)(h:zO o u=some q:=by(simp[FF]);(try rfl);(first|done|fail)):EvX V L S U (.un o y) (.w (.c (.v q))):=
 ⟨_,_,rfl,by(try dsimp only);rw[axL h1];(try dsimp only);rw[h];rfl⟩
theorem axS {y:aw}{es:List (List AC)}{n:Int}(h1:St.arg ⟨V,L,S⟩ y=some (.w (.c (.sl es))):=by exact rfl)(h:(es.length:Int)=n:=by first|((simp[FF]);(try rfl);(first|done|fail))|exact rfl):EvX V L S U (.len y) (.w (.c (.v (.int .i64 n)))):=
 ⟨_,_,rfl,by(try dsimp only);rw[h1];subst h;rfl⟩
theorem axT {y:aw}{s g e k:Nat}{es:List (List AC)}{n:Int}(h1:St.arg ⟨V,L,S⟩ y=some (.w (.c (.own s g))):=by exact rfl)(hs:aB S s=some (.row e k g es):=by exact rfl)(h:(es.length:Int)=n:=by first|((simp[FF]);(try rfl);(first|done|fail))|exact rfl):EvX V L S U (.len y) (.w (.c (.v (.int .i64 n)))):=
 ⟨_,_,rfl,by(try dsimp only);rw[h1];simp only[St.rows,axM hs];rw[if_pos ⟨trivial,qz⟩];subst h;rfl⟩
theorem axU {p:aw}{s g off:Nat}{cs r:List AC}{c:AC}{ys:List AC}(h1:St.arg ⟨V,L,S⟩ p=some (.pb s g off):=by exact rfl)(hs:aB S s=some (.box g cs):=by exact rfl)(hU:U.contains s=false:=by exact rfl)(h:(cs.drop off).take 1=ys:=by first|((simp[FF]);(try rfl);(first|done|fail))|exact rfl)(h2:ys=c::r:=by exact rfl):EvX V L S U (.sB p) (.w (.c c)):=
 ⟨_,_,rfl,by(try dsimp only);rw[h1,axO hs hU (axK (h.trans h2)).1 (axK (h.trans h2)).2]⟩
theorem axV {p:aw}{s g i off e k:Nat}{es:List (List AC)}{row r:List AC}{c:AC}{ys:List AC}(h1:St.arg ⟨V,L,S⟩ p=some (.pr s g i off):=by exact rfl)(hs:aB S s=some (.row e k g es):=by exact rfl)(hU:U.contains s=false:=by exact rfl)(hr:es[i]? =some row:=by first|((simp[FF]);(try rfl);(first|done|fail))|exact rfl)(h:(row.drop off).take 1=ys:=by first|((simp[FF]);(try rfl);(first|done|fail))|exact rfl)(h2:ys=c::r:=by exact rfl):EvX V L S U (.sB p) (.w (.c c)):=
 ⟨_,_,rfl,by(try dsimp only);rw[h1,axP hs hU hr (axK (h.trans h2)).1 (axK (h.trans h2)).2]⟩
theorem axW {p:aw}{off:Nat}{cs r:List AC}{c:AC}{ys:List AC}(h1:St.arg ⟨V,L,S⟩ p=some (.pi cs off):=by exact rfl)(h:(cs.drop off).take 1=ys:=by first|((simp[FF]);(try rfl);(first|done|fail))|exact rfl)(h2:ys=c::r:=by exact rfl):EvX V L S U (.sB p) (.w (.c c)):=
 ⟨_,_,rfl,by(try dsimp only);rw[h1,axQ (axK (h.trans h2)).1 (axK (h.trans h2)).2]⟩
theorem axX {p:aw}{s g off k m:Nat}{cs:List AC}(h1:St.arg ⟨V,L,S⟩ p=some (.pb s g off):=by exact rfl)(hs:aB S s=some (.box g cs):=by exact rfl)(hl:off+0<=cs.length:=by first|((simp[FF]);done)|omega)(h:off+k=m:=by first|((simp[FF]);(try rfl);(first|done|fail))|exact rfl):EvX V L S U (.tT p k) (.pb s g m):=
 ⟨_,_,rfl,by(try dsimp only);rw[h1,axO hs rfl hl rfl];subst h;rfl⟩
theorem axY {p:aw}{s g i off k m e q:Nat}{es:List (List AC)}{row:List AC}(h1:St.arg ⟨V,L,S⟩ p=some (.pr s g i off):=by exact rfl)(hs:aB S s=some (.row e q g es):=by exact rfl)(hr:es[i]? =some row:=by first|((simp[FF]);(try rfl);(first|done|fail))|exact rfl)(hl:off+0<=row.length:=by first|((simp[FF]);done)|omega)(h:off+k=m:=by first|((simp[FF]);(try rfl);(first|done|fail))|exact rfl):EvX V L S U (.tT p k) (.pr s g i m):=
 ⟨_,_,rfl,by(try dsimp only);rw[h1,axP hs rfl hr hl rfl];subst h;rfl⟩
theorem axZ {p:aw}{off k m:Nat}{cs:List AC}(h1:St.arg ⟨V,L,S⟩ p=some (.pi cs off):=by exact rfl)(hl:off+0<=cs.length:=by first|((simp[FF]);done)|omega)(h:off+k=m:=by first|((simp[FF]);(try rfl);(first|done|fail))|exact rfl):EvX V L S U (.tT p k) (.pi cs m):=
 ⟨_,_,rfl,by(try dsimp only);rw[h1,axQ hl rfl];subst h;rfl⟩
theorem aya {x i:aw}{kk:IntKind}{k:Nat}{n:Int}{es:List (List AC)}{row:List AC}(h1:St.arg ⟨V,L,S⟩ x=some (.w (.c (.sl es))):=by exact rfl)(h2:St.arg ⟨V,L,S⟩ i=some (.w (.c (.v (.int kk n)))):=by exact rfl)(hb:0<=n/\n<es.length:=by(simp[FF]);(first|done|omega))(hr:es.getD n.toNat []=row:=by first|((simp[FF]);(try rfl);(first|done|fail))|exact rfl)(hl:row.length=k:=by(simp[FF];done)):EvX V L S U (.idx k x i) (.pi row 0):=
 ⟨_,_,rfl,by(try dsimp only);rw[h1,axL h2];subst hr;simp only[St.rows,Cm];rw[if_pos ⟨hb.1,hb.2,hl⟩]⟩
theorem ayb {x i:aw}{kk:IntKind}{k s g e q m:Nat}{n:Int}{es:List (List AC)}(h1:St.arg ⟨V,L,S⟩ x=some (.w (.c (.own s g))):=by exact rfl)(h2:St.arg ⟨V,L,S⟩ i=some (.w (.c (.v (.int kk n)))):=by exact rfl)(hs:aB S s=some (.row e q g es):=by exact rfl)(hb:0<=n/\n<es.length:=by(simp[FF]);(first|done|omega))(hl:(es.getD n.toNat []).length=k:=by(simp[FF];done))(hm:n.toNat=m:=by first|((simp[FF]);(try rfl);(first|done|fail))|exact rfl):EvX V L S U (.idx k x i) (.pr s g m 0):=
 ⟨_,_,rfl,by(try dsimp only);rw[h1,axL h2];simp only[St.rows,axM hs];rw[if_pos ⟨trivial,qz⟩];subst hm;simp only[Cm];rw[if_pos ⟨hb.1,hb.2,hl⟩]⟩
theorem ayc {x:aw}{i:Nat}{vs:List AW}{w:AW}(h1:St.arg ⟨V,L,S⟩ x=some (.bQ vs):=by exact rfl)(h:vs[i]? =some w:=by exact rfl):EvX V L S U (.ext x i) (.w w):=
 ⟨_,_,rfl,by(try dsimp only);rw[h1];(try dsimp only);rw[h];rfl⟩
end
section
variable {P:Program} {d:Nat} {r:List BO} {V L:List (Nat×AV)} {S:List (Nat×Slot)} {K:St->Prop}
theorem zfr {U:Option (List Nat)}{op:dz}{x:AV}(hr:bo U (r.map (BO.ao P)) K ⟨V,(d,x)::L,S⟩)(hd:(aB V d).isSome=false:=by exact rfl)(h:EvX V L S [] op x:=by first|exact eMv|exact axR|exact axU|exact axX|exact aya|exact axS|exact axW|exact axZ|exact ayb|exact axV|exact axY|exact axT|exact eUn|exact ayc):
  bo U ((⟨some d,none,op⟩::r:List BO).map (BO.ao P)) K ⟨V,L,S⟩:=by
 obtain⟨m,ev,he,h⟩:=h;refine aZ (st':=⟨V,(d,x)::L,S⟩) ?_ hr;simp only[kB,ayd he h,DV,St.dR,St.put,hd];rfl
theorem zft {U:List Nat}{l:List BO}{tl:List AO}{i:Nat}{t:OT}{bh:Bool}{op:dz}{x:AV}(hr:aU U (l.map (BO.ao P)) tl K t bh ⟨V,(d,x)::L,S⟩)(hi:l[i]? =some ⟨some d,none,op⟩:=by exact rfl)(hm:(axN op && bh)=false:=by exact rfl)(hd:(aB V d).isSome=false:=by exact rfl)(h:EvX V L S U op x:=by first|exact eMv|exact axR|exact axU|exact axX|exact aya|exact axS|exact axW|exact axZ|exact ayb|exact axV|exact axY|exact axT|exact eUn|exact ayc):
  aU U (l.map (BO.ao P)) tl K (.take i t) bh ⟨V,L,S⟩:=by
 obtain⟨m,ev,he,h⟩:=h;refine nK hi (st':=⟨V,(d,x)::L,S⟩) ?_ hr
 have UH:¬(m=true/\bh=true):=fun q=>by
  have:axN op=m:=by unfold axN;rw[he]
  rw[this,q.1,q.2] at hm;cases hm
 simp only[Ak,he,if_neg UH,h,DV,St.dR,St.put,hd];rfl
end
theorem zrq {A B:Prop}(h:B)(g:Bx B->A:=by intro hB;(first|refine zfr ?_|refine zft ?_|refine ui ?_|refine uh ?_|refine bq ?_|refine uj ?_|refine um ?_|refine uo ?_|refine eX ?_|refine k_reg ?_|refine uc ?_|refine oN ?_|refine rj ?_|refine Ju ?_|refine ue ?_|refine kS ?_|refine wU ?_|refine Jt ?_|refine Jv ?_|refine sJ ?_|refine Cz ?_|refine YZ ?_|refine Za ?_|refine Zb ?_|refine Zc ?_|refine Zf ?_|refine Zg ?_|refine Zd ?_|refine Ze ?_|refine ug ?_|refine uk ?_);(repeat (first|refine zfr ?_|refine zft ?_|refine ui ?_|refine uh ?_|refine bq ?_|refine uj ?_|refine um ?_|refine uo ?_|refine eX ?_|refine k_reg ?_|refine uc ?_|refine oN ?_|refine rj ?_|refine Ju ?_|refine ue ?_|refine kS ?_|refine wU ?_|refine Jt ?_|refine Jv ?_|refine sJ ?_|refine Cz ?_|refine YZ ?_|refine Za ?_|refine Zb ?_|refine Zc ?_|refine Zf ?_|refine Zg ?_|refine Zd ?_|refine Ze ?_|refine ug ?_|refine uk ?_));exact hB.out):A:=g ⟨h⟩
theorem aye {A B:Prop}(h:B)(g:Bx B->A:=by intro hB;(first|refine zfr ?_|refine zft ?_|refine Zj ?_|refine Zi ?_|refine bq ?_|refine Zk ?_|refine Zm ?_|refine Zn ?_|refine eX ?_|refine k_reg ?_|refine uc ?_|refine oN ?_|refine rj ?_|refine Ju ?_|refine ue ?_|refine kS ?_|refine wU ?_|refine Jt ?_|refine Jv ?_|refine sJ ?_|refine Cz ?_|refine Zo ?_|refine Zp ?_|refine Zq ?_|refine Zr ?_|refine Zu ?_|refine Zv ?_|refine Zs ?_|refine Zt ?_|refine Zh ?_|refine Zl ?_);(repeat (first|refine zfr ?_|refine zft ?_|refine Zj ?_|refine Zi ?_|refine bq ?_|refine Zk ?_|refine Zm ?_|refine Zn ?_|refine eX ?_|refine k_reg ?_|refine uc ?_|refine oN ?_|refine rj ?_|refine Ju ?_|refine ue ?_|refine kS ?_|refine wU ?_|refine Jt ?_|refine Jv ?_|refine sJ ?_|refine Cz ?_|refine Zo ?_|refine Zp ?_|refine Zq ?_|refine Zr ?_|refine Zu ?_|refine Zv ?_|refine Zs ?_|refine Zt ?_|refine Zh ?_|refine Zl ?_));exact hB.out):A:=g ⟨h⟩
def isApp (b:BO):Bool:=match b.op with | .app ..=>true|_=>false
section
variable {P:Program} {Q:dQ->St->Prop} {V L:List (Nat×AV)} {S:List (Nat×Slot)} {st:St} {x y z:aA}
theorem bb {U:List Nat}{l:List BO}{tl:List AO}{K:St->Prop}{i:Nat}{t:OT}{bh:Bool}{b:BO}{st':St}(h:aU U (l.map (BO.ao P)) tl K t true st')(hi:l[i]? =some b:=by exact rfl)(hp:isApp b=true:=by exact rfl)(hx:kB (some U) st b=some st':=by(simp[FF,cp,rowsOf,List.range,List.range.loop]);(try rfl);(first|done|fail)):
  aU U (l.map (BO.ao P)) tl K (.move i t) bh st:=Ff hi hx h
theorem ayf {U:List Nat}{l:List BO}{tl:List AO}{K:St->Prop}{i:Nat}{t:OT}{bh:Bool}{b:BO}{st':St}(h:aU U (l.map (BO.ao P)) tl K t true st')(hi:l[i]? =some b:=by exact rfl)(hp:isApp b=true:=by exact rfl)(hx:kB (some U) st b=some st':=by(simp[FF,<-List.map_take,<-List.map_drop,cp,rowsOf,List.range,List.range.loop]);(try rfl);(first|done|fail)):
  aU U (l.map (BO.ao P)) tl K (.move i t) bh st:=Ff hi hx h
end
end Ab
end Go.Proofs.YtlnghiefahcnpaaGreat
