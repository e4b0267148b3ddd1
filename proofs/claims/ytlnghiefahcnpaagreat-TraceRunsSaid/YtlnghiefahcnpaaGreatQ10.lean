import Derived.Test.YtlnghiefahcnpaaGreatQ9
set_option maxHeartbeats 40000000
set_option maxRecDepth 100000
set_option linter.all false
namespace Go.Proofs.YtlnghiefahcnpaaGreat
namespace Ab
open Go Go.RowKit
open aq (Env qV kN gH jz lD fH)
abbrev oP (m:bm):List AC:=[iA m.node,iA m.handler,iA m.count,iA m.index,iA m.copy]
abbrev rq (e:Env):List AC:=[iA e.msg.node,iA e.msg.handler,iA e.msg.count,iA e.msg.index,iA e.msg.copy,iA e.eO,iA e.kind,iA e.a,iA e.b]
abbrev gM (l:List Env):AC:=.sl (l.map rq)
abbrev msgs (l:List bm):AC:=.sl (l.map oP)
theorem acA {a m:bm}(h:a≠m):¬(a.node=m.node/\a.handler=m.handler/\a.count=m.count/\a.index=m.index/\a.copy=m.copy):=fun⟨h1,h2,h3,h4,h5⟩=>h (by cases a;cases m;simp_all)
def yP (l:List Env)(m:bm):Int:=match l.findIdx? (fun e=>decide (e.msg=m)) with
 |some k=>k
 |none=> -1
theorem aoS {l:List Env}{m:bm}{k:Nat}(hk:k<l.length)(h:l[k].msg=m)(hj:∀j (hj:j<l.length),j<k->l[j].msg≠m):yP l m=k:=by
 unfold yP
 have:l.findIdx? (fun e=>decide (e.msg=m))=some k:=by
  rw[List.findIdx?_eq_some_iff_getElem];exact⟨hk,by simp[h],fun j dx=>by simp[hj j aa dx]⟩
 rw[this]
theorem aoT {l:List Env}{m:bm}(h:∀j (hj:j<l.length),l[j].msg≠m):yP l m= -1:=by
 unfold yP
 have:l.findIdx? (fun e=>decide (e.msg=m))=none:=by
  rw[List.findIdx?_eq_none_iff];intro x hx;obtain⟨j,hj,rfl⟩:=vQ.1 hx;simp[h j hj]
 rw[this]
theorem kV (l:List Env)(m:bm)(hl:l.length<=1000000):bt Tryz.prog 109 [.c (gM l),.agg (oP m)] (fun x=>x=.w (.c (iA (yP l m)))):=by
 refine bZ aG Tryz.func109 rfl abF [.t 4] ah _ rfl [3,4,5] [3] ?_;refine bG abF ?_;dsimp only[V0,uV,S0];refine k_reg ?_
 iterate 2 (refine aZ (by simp;try rfl) ?_)
 refine bq (eX (k_reg ?_))
 (refine aZ (by simp;try rfl) ?_)
 refine bq (rj ?_)
 refine cF (fun n V S=>∃k:Nat,k<=l.length/\n=l.length-k/\(∀j (hj:j<l.length),j<k->l[j].msg≠m)/\
  V=[(0,.w (.c (gM l))),(1,.w (.agg (oP m))),(3,.pb 3 1 0),(4,.w (.c (iA 0))),(5,.w (.c (iA k)))]/\S=[(3,.box 1 (oP m))]) (n:=l.length) ⟨0,aa,aa,fun j _ h=>aa,rfl,rfl⟩ ?_
 rintro n V L S ⟨k,hk,rfl,hj,rfl,rfl⟩;by_cases hlt:k<l.length
 ·have cg:k<=1000000000:=aa
  obtain⟨x,hx⟩:∃x,l[k]=x:=⟨_,rfl⟩
  refine eX (k_reg ?_)
  iterate 4 (refine aZ (by simp[hlt];try rfl) ?_)
  refine bq (iR true ae (oN (rj (sJ ?_))));by_cases he:x.msg=m
  ·iterate 6 (refine nK rfl (by simp[hlt,hx];try rfl) ?_)
   refine pV ?_
   (refine aZ (by simp[he];try rfl) ?_)
   refine bq (yJ true ae (k_reg ?_))
   iterate 2 (refine aZ (by simp;try rfl) ?_)
   refine bq (kS ?_)
   (try dsimp only[aM,aJ])
   exact bd (by simp;try rfl) (by rw[aoS hlt (by rw[hx];exact he) hj];rfl)
  ·have hne:=acA he
   iterate 6 (refine nK rfl (by simp[hlt,hx];try rfl) ?_)
   refine pV ?_
   (refine aZ (by simp[hne];try rfl) ?_)
   refine bq (yJ false ae ?_)
   show aC _ _ _
   refine uc ?_
   (refine aZ (by simp;try rfl) ?_)
   (refine aZ (by simp[bL cg];try rfl) ?_)
   (refine aZ (by simp;try rfl) ?_)
   exact bq ⟨l.length-(k+1),aa,k+1,aa,aa,fun j dD dx=>by
    by_cases dN:j=k
    ·subst dN;rw[hx];exact he
    ·exact hj j dD aa,rfl,rfl⟩
 ·refine eX (k_reg ?_)
  iterate 4 (refine aZ (by simp[hlt];try rfl) ?_)
  refine bq (iR false ae (wU ?_))
  show aC _ _ _
  refine k_reg ?_
  (refine aZ (by simp;try rfl) ?_)
  refine bq (kS ?_)
  (try dsimp only[aM,aJ])
  exact bd (by simp;try rfl) (by rw[aoT (fun j dD=>hj j dD aa)];rfl)
theorem aoU (l:List Env)(node:Int)(hl:l.length<=1000000):bt Tryz.prog 34 [.c (gM l),.c (iA node)] (fun x=>x=.w (.c (msgs (fH l node)))):=by
 refine bZ aG Tryz.func34 rfl abW [.t 4] ah _ rfl [4,5,6] [5] ?_;refine bG abW ?_;dsimp only[V0,uV,S0];refine k_reg ?_
 (refine aZ (by simp;try rfl) ?_)
 refine bq (k_reg ?_)
 (refine aZ (by simp;try rfl) ?_)
 refine bq (eX (k_reg ?_))
 (refine aZ (by simp;try rfl) ?_)
 refine bq (rj ?_)
 refine cF (fun n V S=>∃(k g:Nat) (o:List bm),k<=l.length/\n=l.length-k/\o=fH (l.take k) node/\o.length<=k/\
  V=[(0,.w (.c (gM l))),(1,.w (.c (iA node))),(4,.w (.c (.sl []))),(5,.w (.c (.own 5 g))),(6,.w (.c (iA k)))]/\S=[(5,.row 61 5 g (o.map oP))]) (n:=l.length) ⟨0,1,[],aa,aa,by simp[fH],ae,rfl,rfl⟩ ?_
 rintro n V L S ⟨k,g,o,hk,rfl,ho,rr,rfl,rfl⟩;by_cases hlt:k<l.length
 ·have cg:k<=1000000000:=aa
  obtain⟨x,hx⟩:∃x,l[k]=x:=⟨_,rfl⟩
  have cm:fH (l.take (k+1)) node=o++if x.eO=node then [x.msg] else []:=by
   rw[ho,ki hlt,hx];unfold fH;rw[fY,dw];by_cases Ow:x.eO=node<;>simp[Ow]
  refine eX (k_reg ?_)
  iterate 4 (refine aZ (by simp[hlt];try rfl) ?_)
  refine bq (iR true ae (oN (rj (k_reg ?_))));by_cases he:x.eO=node
  ·rw[if_pos he] at cm
   iterate 7 (refine aZ (by simp[hlt,hx,he];try rfl) ?_)
   refine bq (yJ true ae (uc ?_))
   iterate 6 (refine aZ (by simp[hlt,hx];try rfl) ?_)
   (refine aZ (by simp[cp,rowsOf,List.range,List.range.loop];try rfl) ?_)
   refine yI rfl rfl rfl ae (by first|(simp;done)|(simp;omega)) rfl (by simp;try rfl) ?_
   (refine aZ (by simp;try rfl) ?_)
   refine bq ?_
   show aC _ _ _
   refine uc ?_
   (refine aZ (by simp;try rfl) ?_)
   (refine aZ (by simp[bL cg];try rfl) ?_)
   (refine aZ (by simp;try rfl) ?_)
   exact bq ⟨l.length-(k+1),aa,k+1,g+1,o++[x.msg],aa,aa,cm.symm,by simp;omega,rfl,ae⟩
  ·rw[if_neg he,vS] at cm
   iterate 7 (refine aZ (by simp[hlt,hx,he];try rfl) ?_)
   refine bq (yJ false ae ?_)
   show aC _ _ _
   refine uc ?_
   (refine aZ (by simp;try rfl) ?_)
   (refine aZ (by simp[bL cg];try rfl) ?_)
   (refine aZ (by simp;try rfl) ?_)
   exact bq ⟨l.length-(k+1),aa,k+1,g,o,aa,aa,cm.symm,aa,rfl,rfl⟩
 ·have jE:k=l.length:=aa;refine eX (k_reg ?_)
  iterate 4 (refine aZ (by simp[hlt];try rfl) ?_)
  refine bq (iR false ae (wU ?_))
  show aC _ _ _
  refine k_reg ?_
  iterate 2 (refine aZ (by simp;try rfl) ?_)
  refine bq (kS ?_)
  (try dsimp only[aM,aJ])
  exact bd (by simp;try rfl) (by rw[ho,jE,ig];rfl)
end Ab
namespace Ab
open Go Go.RowKit
attribute [local irreducible] aC bo aU
open aq (Env qV kN gH jz lD fH)
theorem aoV (l:List Env)(m:bm)(hl:l.length<=1000000):bt Tryz.prog 65 [.c (gM l),.agg (oP m)] (fun x=>x=.w (.c (gM (jz l m)))):=by
 refine bZ aG Tryz.func65 rfl abR [.t 4] ah _ rfl [3,4,5,6] [3,5] ?_;refine bG abR ?_;dsimp only[V0,uV,S0];have FF:=trivial
 try refine aj ?_
 refine cF (fun n V S=>∃(k g:Nat) (o:List Env),k<=l.length/\n=l.length-k/\o=jz (l.take k) m/\o.length<=k/\
  V=[(0,.w (.c (gM l))),(1,.w (.agg (oP m))),(3,.pb 3 1 0),(4,.w (.c (.sl []))),(5,.w (.c (.own 5 g))),(6,.w (.c (iA k)))]/\S=[(3,.box 1 (oP m)),(5,.row 113 9 g (o.map rq))]) (n:=l.length) ⟨0,1,[],aa,aa,by simp[jz],ae,rfl,rfl⟩ ?_
 rintro n V L S ⟨k,g,o,hk,rfl,ho,rr,rfl,rfl⟩;by_cases hlt:k<l.length
 ·have cg:k<=1000000000:=aa
  obtain⟨x,hx⟩:∃x,l[k]=x:=⟨_,rfl⟩
  have cm:jz (l.take (k+1)) m=o++if x.msg=m then [] else [x]:=by
   rw[ho,ki hlt,hx];unfold jz;rw[fY];by_cases Ow:x.msg=m<;>simp[Ow]
  by_cases he:x.msg=m
  ·rw[if_pos he,vS] at cm;have FF:=dW @hlt @hx @he (bL cg)
   try refine aj ?_
   exact⟨l.length-(k+1),aa,k+1,g,o,aa,aa,cm.symm,aa,rfl,rfl⟩
  ·rw[if_neg he] at cm;have hne:=acA he;have FF:=dW @hlt @hx @hne (bL cg)
   try refine aj ?_
   exact⟨l.length-(k+1),aa,k+1,g+1,o++[x],aa,aa,cm.symm,by simp;omega,rfl,ae⟩
 ·have jE:k=l.length:=aa;have FF:=@hlt
  try refine aj ?_
  (try dsimp only[aM,aJ])
  exact bd (by simp;try rfl) (by rw[ho,jE,ig];rfl)
end Ab
end Go.Proofs.YtlnghiefahcnpaaGreat
