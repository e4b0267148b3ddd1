import Derived.Test.YtkanpepkdcmpmaaGreatDoorW3
set_option maxHeartbeats 40000000
set_option maxRecDepth 100000
set_option linter.all false
namespace Go.Proofs.YtkanpepkdcmpmaaGreatDoor
namespace Ab
open Go Go.RowKit
open aD (Env wW oQ kH nI sx jd)
variable {l:List Env} {m:bR}
abbrev ng (m:bR):List AC:=[iA m.node,iA m.handler,iA m.count,iA m.index,iA m.copy]
abbrev xl (e:Env):List AC:=[iA e.msg.node,iA e.msg.handler,iA e.msg.count,iA e.msg.index,iA e.msg.copy,iA e.kW,iA e.kind,iA e.a,iA e.b]
abbrev kj (l:List Env):AC:=.sl (l.map xl)
abbrev msgs (l:List bR):AC:=.sl (l.map ng)
theorem agM{a:bR}(h:a≠m):¬(a.node=m.node/\a.handler=m.handler/\a.count=m.count/\a.index=m.index/\a.copy=m.copy):=fun⟨h1,h2,h3,h4,h5⟩=>h (by cases a;cases m;simp_all)
def EH (l:List Env)(m:bR):Int:=match l.findIdx? (fun e=>decide (e.msg=m)) with
 |some k=>k
 |none=> -1
theorem aty{k:Nat}(hk:k<l.length)(h:l[k].msg=m)(hj:∀j (hj:j<l.length),j<k->l[j].msg≠m):EH l m=k:=by
 unfold EH
 have:l.findIdx? (fun e=>decide (e.msg=m))=some k:=by
  rw[List.findIdx?_eq_some_iff_getElem];exact⟨hk,by simp[h],fun j iq=>by simp[hj j ab iq]⟩
 rw[this]
theorem atz(h:∀j (hj:j<l.length),l[j].msg≠m):EH l m= -1:=by
 unfold EH
 have:l.findIdx? (fun e=>decide (e.msg=m))=none:=by
  rw[List.findIdx?_eq_none_iff];intro x hx;obtain⟨j,hj,rfl⟩:=Gq.1 hx;simp[h j hj]
 rw[this]
theorem Ln(l:List Env)(m:bR)(hl:l.length<=1000000):bj Tryz.prog 202 [.c (kj l),.agg (ng m)] (fun x=>x=.w (.c (iA (EH l m)))):=by
 refine cI Tryz.func202 aN [tz 4 6] [.t 4] [3,4,5] [3] ?_;refine k_reg ?_
 iterate 2 (refine bl (by simp;try rfl) ?_)
 refine bG (iB (k_reg ?_))
 (refine bl (by simp;try rfl) ?_)
 refine bG (xg ?_)
 refine dA (fun n V S=>∃k:Nat,k<=l.length/\n=l.length-k/\(∀j (hj:j<l.length),j<k->l[j].msg≠m)/\
  V=[(0,.w (.c (kj l))),(1,.w (.agg (ng m))),(3,.pb 3 1 0),(4,.w (.c (iA 0))),(5,.w (.c (iA k)))]/\S=[(3,.box 1 (ng m))]) (n:=l.length) ⟨0,ab,ab,fun j _ h=>ab,rfl,rfl⟩ ?_
 rintro n V L S ⟨k,hk,rfl,hj,rfl,rfl⟩;by_cases hlt:k<l.length
 ·have cF:k<=1000000000:=ab
  obtain⟨x,hx⟩:∃x,l[k]=x:=⟨_,rfl⟩
  refine iB (k_reg ?_)
  iterate 4 (refine bl (by simp[hlt];try rfl) ?_)
  refine bG (lU true ai (tP (xg (yE ?_))));by_cases he:x.msg=m
  ·iterate 6 (refine rf rfl (by simp[hlt,hx];try rfl) ?_)
   refine vw ?_
   (refine bl (by simp[he];try rfl) ?_)
   refine bG (Ez true ai (k_reg ?_))
   iterate 2 (refine bl (by simp;try rfl) ?_)
   refine bG (oW ?_)
   (try dsimp only[lT,mD])
   exact kJ (by simp;try rfl) (by rw[aty hlt (by rw[hx];exact he) hj];rfl)
  ·have hne:=agM he
   iterate 6 (refine rf rfl (by simp[hlt,hx];try rfl) ?_)
   refine vw ?_
   (refine bl (by simp[hne];try rfl) ?_)
   refine bG (Ez false ai ?_)
   show aP _ _ _
   refine Ap ?_
   (refine bl (by simp;try rfl) ?_)
   (refine bl (by simp[bT cF];try rfl) ?_)
   (refine bl (by simp;try rfl) ?_)
   exact bG ⟨l.length-(k+1),ab,k+1,ab,ab,fun j eb iq=>by
    by_cases iW:j=k
    ·subst iW;rw[hx];exact he
    ·exact hj j eb ab,rfl,rfl⟩
 ·refine iB (k_reg ?_)
  iterate 4 (refine bl (by simp[hlt];try rfl) ?_)
  refine bG (lU false ai (Cs ?_))
  show aP _ _ _
  refine k_reg ?_
  (refine bl (by simp;try rfl) ?_)
  refine bG (oW ?_)
  (try dsimp only[lT,mD])
  exact kJ (by simp;try rfl) (by rw[atz (fun j eb=>hj j eb ab)];rfl)
theorem atA(l:List Env)(node:Int)(hl:l.length<=1000000):bj Tryz.prog 118 [.c (kj l),.c (iA node)] (fun x=>x=.w (.c (msgs (jd l node)))):=by
 refine cI Tryz.func118 (aO [5]) [] [.t 4] [4,5,6] [5] ?_;refine k_reg ?_
 (refine bl (by simp;try rfl) ?_)
 refine bG (k_reg ?_)
 (refine bl (by simp;try rfl) ?_)
 refine bG (iB (k_reg ?_))
 (refine bl (by simp;try rfl) ?_)
 refine bG (xg ?_)
 refine dA (fun n V S=>∃(k g:Nat) (o:List bR),k<=l.length/\n=l.length-k/\o=jd (l.take k) node/\o.length<=k/\
  V=[(0,.w (.c (kj l))),(1,.w (.c (iA node))),(4,.w (.c (.sl []))),(5,.w (.c (.own 5 g))),(6,.w (.c (iA k)))]/\S=[(5,.row 39 5 g (o.map ng))]) (n:=l.length) ⟨0,1,[],ab,ab,by simp[jd],ai,rfl,rfl⟩ ?_
 rintro n V L S ⟨k,g,o,hk,rfl,ho,xm,rfl,rfl⟩;by_cases hlt:k<l.length
 ·have cF:k<=1000000000:=ab
  obtain⟨x,hx⟩:∃x,l[k]=x:=⟨_,rfl⟩
  have de:jd (l.take (k+1)) node=o++if x.kW=node then [x.msg] else []:=by
   rw[ho,List.take_succ_eq_append_getElem hlt,hx];unfold jd;rw[qz,dm];by_cases YL:x.kW=node<;>simp[YL]
  refine iB (k_reg ?_)
  iterate 4 (refine bl (by simp[hlt];try rfl) ?_)
  refine bG (lU true ai (tP (xg (k_reg ?_))));by_cases he:x.kW=node
  ·rw[aj he] at de
   iterate 7 (refine bl (by simp[hlt,hx,he];try rfl) ?_)
   refine bG (Ez true ai (Ap ?_))
   iterate 6 (refine bl (by simp[hlt,hx];try rfl) ?_)
   (refine bl (by simp[dx,rowsOf,List.range,List.range.loop];try rfl) ?_)
   refine Ey rfl rfl rfl ai (by first|(simp;done)|(simp;omega)) rfl (by simp;try rfl) ?_
   (refine bl (by simp;try rfl) ?_)
   refine bG ?_
   show aP _ _ _
   refine Ap ?_
   (refine bl (by simp;try rfl) ?_)
   (refine bl (by simp[bT cF];try rfl) ?_)
   (refine bl (by simp;try rfl) ?_)
   exact bG ⟨l.length-(k+1),ab,k+1,g+1,o++[x.msg],ab,ab,de.symm,by simp;omega,rfl,ai⟩
  ·rw[af he,sb] at de
   iterate 7 (refine bl (by simp[hlt,hx,he];try rfl) ?_)
   refine bG (Ez false ai ?_)
   show aP _ _ _
   refine Ap ?_
   (refine bl (by simp;try rfl) ?_)
   (refine bl (by simp[bT cF];try rfl) ?_)
   (refine bl (by simp;try rfl) ?_)
   exact bG ⟨l.length-(k+1),ab,k+1,g,o,ab,ab,de.symm,ab,rfl,rfl⟩
 ·have kM:k=l.length:=ab;refine iB (k_reg ?_)
  iterate 4 (refine bl (by simp[hlt];try rfl) ?_)
  refine bG (lU false ai (Cs ?_))
  show aP _ _ _
  refine k_reg ?_
  iterate 2 (refine bl (by simp;try rfl) ?_)
  refine bG (oW ?_)
  (try dsimp only[lT,mD])
  exact kJ (by simp;try rfl) (by rw[ho,kM,fT];rfl)
end Ab
namespace Ab
open Go Go.RowKit
attribute [local irreducible] aP bB aW
open aD (Env wW oQ kH nI sx jd)
theorem atB (l:List Env)(m:bR)(hl:l.length<=1000000):bj Tryz.prog 160 [.c (kj l),.agg (ng m)] (fun x=>x=.w (.c (kj (nI l m)))):=by
 refine cI Tryz.func160 (aO [5]) [tz 5 6] [.t 4] [3,4,5,6] [3,5] ?_;have FF:=trivial
 try refine aG ?_
 refine dA (fun n V S=>∃(k g:Nat) (o:List Env),k<=l.length/\n=l.length-k/\o=nI (l.take k) m/\o.length<=k/\
  V=[(0,.w (.c (kj l))),(1,.w (.agg (ng m))),(3,.pb 3 1 0),(4,.w (.c (.sl []))),(5,.w (.c (.own 5 g))),(6,.w (.c (iA k)))]/\S=[(3,.box 1 (ng m)),(5,.row 208 9 g (o.map xl))]) (n:=l.length) ⟨0,1,[],ab,ab,by simp[nI],ai,rfl,rfl⟩ ?_
 rintro n V L S ⟨k,g,o,hk,rfl,ho,xm,rfl,rfl⟩;by_cases hlt:k<l.length
 ·have cF:k<=1000000000:=ab
  obtain⟨x,hx⟩:∃x,l[k]=x:=⟨_,rfl⟩
  have de:nI (l.take (k+1)) m=o++if x.msg=m then [] else [x]:=by
   rw[ho,List.take_succ_eq_append_getElem hlt,hx];unfold nI;rw[qz];by_cases YL:x.msg=m<;>simp[YL]
  by_cases he:x.msg=m
  ·rw[aj he,sb] at de;have FF:=fg @hlt @hx @he (bT cF)
   try refine aG ?_
   exact⟨l.length-(k+1),ab,k+1,g,o,ab,ab,de.symm,ab,rfl,rfl⟩
  ·rw[af he] at de;have hne:=agM he;have FF:=fg @hlt @hx @hne (bT cF)
   try refine aG ?_
   exact⟨l.length-(k+1),ab,k+1,g+1,o++[x],ab,ab,de.symm,by simp;omega,rfl,ai⟩
 ·have kM:k=l.length:=ab;have FF:=@hlt
  try refine aG ?_
  refine zE ?_;exact(by rw[ho,kM,fT];rfl)
end Ab
end Go.Proofs.YtkanpepkdcmpmaaGreatDoor
