import Derived.Test.YtngblilamkkikaaGreatDoorW3
set_option maxHeartbeats 40000000
set_option maxRecDepth 100000
set_option linter.all false
namespace Go.Proofs.YtngblilamkkikaaGreatDoor
namespace Ab
open Go Go.RowKit
open aD (Env vd nH jF mC qH ib)
variable {l:List Env} {m:bQ}
abbrev si (m:bQ):List AC:=[iA m.node,iA m.handler,iA m.count,iA m.index,iA m.copy]
abbrev vA (e:Env):List AC:=[iA e.msg.node,iA e.msg.handler,iA e.msg.count,iA e.msg.index,iA e.msg.copy,iA e.nE,iA e.kind,iA e.a,iA e.b]
abbrev jr (l:List Env):AC:=.sl (l.map vA)
abbrev msgs (l:List bQ):AC:=.sl (l.map si)
theorem afg{a:bQ}(h:a≠m):¬(a.node=m.node/\a.handler=m.handler/\a.count=m.count/\a.index=m.index/\a.copy=m.copy):=fun⟨h1,h2,h3,h4,h5⟩=>h (by cases a;cases m;simp_all)
def Dd (l:List Env)(m:bQ):Int:=match l.findIdx? (fun e=>decide (e.msg=m)) with
 |some k=>k
 |none=> -1
theorem arK{k:Nat}(hk:k<l.length)(h:l[k].msg=m)(hj:∀j (hj:j<l.length),j<k->l[j].msg≠m):Dd l m=k:=by
 unfold Dd
 have:l.findIdx? (fun e=>decide (e.msg=m))=some k:=by
  rw[List.findIdx?_eq_some_iff_getElem];exact⟨hk,by simp[h],fun j iC=>by simp[hj j ab iC]⟩
 rw[this]
theorem arL(h:∀j (hj:j<l.length),l[j].msg≠m):Dd l m= -1:=by
 unfold Dd
 have:l.findIdx? (fun e=>decide (e.msg=m))=none:=by
  rw[List.findIdx?_eq_none_iff];intro x hx;obtain⟨j,hj,rfl⟩:=EI.1 hx;simp[h j hj]
 rw[this]
theorem JA(l:List Env)(m:bQ)(hl:l.length<=1000000):bu Tryz.prog 166 [.c (jr l),.agg (si m)] (fun x=>x=.w (.c (iA (Dd l m)))):=by
 refine cD Tryz.func166 aN [tz 4 6] [.t 4] [3,4,5] [3] ?_;refine k_reg ?_
 iterate 2 (refine bg (by simp;try rfl) ?_)
 refine bz (gD (k_reg ?_))
 (refine bg (by simp;try rfl) ?_)
 refine bz (vw ?_)
 refine dB (fun n V S=>∃k:Nat,k<=l.length/\n=l.length-k/\(∀j (hj:j<l.length),j<k->l[j].msg≠m)/\
  V=[(0,.w (.c (jr l))),(1,.w (.agg (si m))),(3,.pb 3 1 0),(4,.w (.c (iA 0))),(5,.w (.c (iA k)))]/\S=[(3,.box 1 (si m))]) (n:=l.length) ⟨0,ab,ab,fun j _ h=>ab,rfl,rfl⟩ ?_
 rintro n V L S ⟨k,hk,rfl,hj,rfl,rfl⟩;by_cases hlt:k<l.length
 ·have cL:k<=1000000000:=ab
  obtain⟨x,hx⟩:∃x,l[k]=x:=⟨_,rfl⟩
  refine gD (k_reg ?_)
  iterate 4 (refine bg (by simp[hlt];try rfl) ?_)
  refine bz (kO true ai (sd (vw (wV ?_))));by_cases he:x.msg=m
  ·iterate 6 (refine pJ rfl (by simp[hlt,hx];try rfl) ?_)
   refine tG ?_
   (refine bg (by simp[he];try rfl) ?_)
   refine bz (CT true ai (k_reg ?_))
   iterate 2 (refine bg (by simp;try rfl) ?_)
   refine bz (nN ?_)
   (try dsimp only[lZ,lA])
   exact jJ (by simp;try rfl) (by rw[arK hlt (by rw[hx];exact he) hj];rfl)
  ·have hne:=afg he
   iterate 6 (refine pJ rfl (by simp[hlt,hx];try rfl) ?_)
   refine tG ?_
   (refine bg (by simp[hne];try rfl) ?_)
   refine bz (CT false ai ?_)
   show aL _ _ _
   refine yF ?_
   (refine bg (by simp;try rfl) ?_)
   (refine bg (by simp[bT cL];try rfl) ?_)
   (refine bg (by simp;try rfl) ?_)
   exact bz ⟨l.length-(k+1),ab,k+1,ab,ab,fun j dV iC=>by
    by_cases gV:j=k
    ·subst gV;rw[hx];exact he
    ·exact hj j dV ab,rfl,rfl⟩
 ·refine gD (k_reg ?_)
  iterate 4 (refine bg (by simp[hlt];try rfl) ?_)
  refine bz (kO false ai (AG ?_))
  show aL _ _ _
  refine k_reg ?_
  (refine bg (by simp;try rfl) ?_)
  refine bz (nN ?_)
  (try dsimp only[lZ,lA])
  exact jJ (by simp;try rfl) (by rw[arL (fun j dV=>hj j dV ab)];rfl)
theorem arM(l:List Env)(node:Int)(hl:l.length<=1000000):bu Tryz.prog 86 [.c (jr l),.c (iA node)] (fun x=>x=.w (.c (msgs (ib l node)))):=by
 refine cD Tryz.func86 (aO [5]) [] [.t 4] [4,5,6] [5] ?_;refine k_reg ?_
 (refine bg (by simp;try rfl) ?_)
 refine bz (k_reg ?_)
 (refine bg (by simp;try rfl) ?_)
 refine bz (gD (k_reg ?_))
 (refine bg (by simp;try rfl) ?_)
 refine bz (vw ?_)
 refine dB (fun n V S=>∃(k g:Nat) (o:List bQ),k<=l.length/\n=l.length-k/\o=ib (l.take k) node/\o.length<=k/\
  V=[(0,.w (.c (jr l))),(1,.w (.c (iA node))),(4,.w (.c (.sl []))),(5,.w (.c (.own 5 g))),(6,.w (.c (iA k)))]/\S=[(5,.row 65 5 g (o.map si))]) (n:=l.length) ⟨0,1,[],ab,ab,by simp[ib],ai,rfl,rfl⟩ ?_
 rintro n V L S ⟨k,g,o,hk,rfl,ho,vB,rfl,rfl⟩;by_cases hlt:k<l.length
 ·have cL:k<=1000000000:=ab
  obtain⟨x,hx⟩:∃x,l[k]=x:=⟨_,rfl⟩
  have cM:ib (l.take (k+1)) node=o++if x.nE=node then [x.msg] else []:=by
   rw[ho,List.take_succ_eq_append_getElem hlt,hx];unfold ib;rw[qq,cU];by_cases Xj:x.nE=node<;>simp[Xj]
  refine gD (k_reg ?_)
  iterate 4 (refine bg (by simp[hlt];try rfl) ?_)
  refine bz (kO true ai (sd (vw (k_reg ?_))));by_cases he:x.nE=node
  ·rw[aj he] at cM
   iterate 7 (refine bg (by simp[hlt,hx,he];try rfl) ?_)
   refine bz (CT true ai (yF ?_))
   iterate 6 (refine bg (by simp[hlt,hx];try rfl) ?_)
   (refine bg (by simp[cQ,rowsOf,List.range,List.range.loop];try rfl) ?_)
   refine CS rfl rfl rfl ai (by first|(simp;done)|(simp;omega)) rfl (by simp;try rfl) ?_
   (refine bg (by simp;try rfl) ?_)
   refine bz ?_
   show aL _ _ _
   refine yF ?_
   (refine bg (by simp;try rfl) ?_)
   (refine bg (by simp[bT cL];try rfl) ?_)
   (refine bg (by simp;try rfl) ?_)
   exact bz ⟨l.length-(k+1),ab,k+1,g+1,o++[x.msg],ab,ab,cM.symm,by simp;omega,rfl,ai⟩
  ·rw[af he,uO] at cM
   iterate 7 (refine bg (by simp[hlt,hx,he];try rfl) ?_)
   refine bz (CT false ai ?_)
   show aL _ _ _
   refine yF ?_
   (refine bg (by simp;try rfl) ?_)
   (refine bg (by simp[bT cL];try rfl) ?_)
   (refine bg (by simp;try rfl) ?_)
   exact bz ⟨l.length-(k+1),ab,k+1,g,o,ab,ab,cM.symm,ab,rfl,rfl⟩
 ·have kQ:k=l.length:=ab;refine gD (k_reg ?_)
  iterate 4 (refine bg (by simp[hlt];try rfl) ?_)
  refine bz (kO false ai (AG ?_))
  show aL _ _ _
  refine k_reg ?_
  iterate 2 (refine bg (by simp;try rfl) ?_)
  refine bz (nN ?_)
  (try dsimp only[lZ,lA])
  exact jJ (by simp;try rfl) (by rw[ho,kQ,fx];rfl)
end Ab
namespace Ab
open Go Go.RowKit
attribute [local irreducible] aL bm aU
open aD (Env vd nH jF mC qH ib)
theorem arN (l:List Env)(m:bQ)(hl:l.length<=1000000):bu Tryz.prog 124 [.c (jr l),.agg (si m)] (fun x=>x=.w (.c (jr (mC l m)))):=by
 refine cD Tryz.func124 (aO [5]) [tz 5 6] [.t 4] [3,4,5,6] [3,5] ?_;have FF:=trivial
 try refine aJ ?_
 refine dB (fun n V S=>∃(k g:Nat) (o:List Env),k<=l.length/\n=l.length-k/\o=mC (l.take k) m/\o.length<=k/\
  V=[(0,.w (.c (jr l))),(1,.w (.agg (si m))),(3,.pb 3 1 0),(4,.w (.c (.sl []))),(5,.w (.c (.own 5 g))),(6,.w (.c (iA k)))]/\S=[(3,.box 1 (si m)),(5,.row 184 9 g (o.map vA))]) (n:=l.length) ⟨0,1,[],ab,ab,by simp[mC],ai,rfl,rfl⟩ ?_
 rintro n V L S ⟨k,g,o,hk,rfl,ho,vB,rfl,rfl⟩;by_cases hlt:k<l.length
 ·have cL:k<=1000000000:=ab
  obtain⟨x,hx⟩:∃x,l[k]=x:=⟨_,rfl⟩
  have cM:mC (l.take (k+1)) m=o++if x.msg=m then [] else [x]:=by
   rw[ho,List.take_succ_eq_append_getElem hlt,hx];unfold mC;rw[qq];by_cases Xj:x.msg=m<;>simp[Xj]
  by_cases he:x.msg=m
  ·rw[aj he,uO] at cM;have FF:=fT @hlt @hx @he (bT cL)
   try refine aJ ?_
   exact⟨l.length-(k+1),ab,k+1,g,o,ab,ab,cM.symm,ab,rfl,rfl⟩
  ·rw[af he] at cM;have hne:=afg he;have FF:=fT @hlt @hx @hne (bT cL)
   try refine aJ ?_
   exact⟨l.length-(k+1),ab,k+1,g+1,o++[x],ab,ab,cM.symm,by simp;omega,rfl,ai⟩
 ·have kQ:k=l.length:=ab;have FF:=@hlt
  try refine aJ ?_
  refine zE ?_;exact(by rw[ho,kQ,fx];rfl)
end Ab
end Go.Proofs.YtngblilamkkikaaGreatDoor
