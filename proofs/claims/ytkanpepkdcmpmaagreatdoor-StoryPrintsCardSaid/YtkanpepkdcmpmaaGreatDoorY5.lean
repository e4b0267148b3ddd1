import Derived.Test.YtkanpepkdcmpmaaGreatDoorY3
set_option maxHeartbeats 40000000
set_option maxRecDepth 100000
set_option linter.all false
namespace Go.Proofs.YtkanpepkdcmpmaaGreatDoor
namespace Ab
open Go Go.RowKit
theorem agC (a b:List Int)(ha:a.length<=1000000):aU Tryz.prog 135 [.c (ints a),.c (ints b)] (fun x=>x=.w (.c (iA (aK a b)))):=by
 refine cC Tryz.func135 aN [tz 4 8,tz 6 8] [.t 4] [4,5] [] ?_;refine k_reg ?_
 (refine bh (by simp;try rfl) ?_)
 refine bz (il (k_reg ?_))
 (refine bh (by simp;try rfl) ?_)
 refine bz (xf ?_)
 refine dv (fun n V S=>∃k:Nat,k<=a.length/\k<=b.length/\n=a.length-k/\aK (a.drop k) (b.drop k)=aK a b/\
  V=[(0,.w (.c (ints a))),(1,.w (.c (ints b))),(4,.w (.c (iA 0))),(5,.w (.c (iA k)))]/\S=[]) (n:=a.length) ⟨0,ab,ab,ab,rfl,rfl,rfl⟩ ?_
 rintro n V L S ⟨k,hka,xr,rfl,iM,rfl,rfl⟩;by_cases h1:k<a.length
 ·by_cases h2:k<b.length
  ·have cD:k<=1000000000:=ab;rw[List.drop_eq_getElem_cons h1,List.drop_eq_getElem_cons h2] at iM
   obtain⟨x,hx⟩:∃x,a[k]=x:=⟨_,rfl⟩
   obtain⟨y,hy⟩:∃y,b[k]=y:=⟨_,rfl⟩
   rw[hx,hy] at iM;simp only[aK] at iM;refine il (k_reg ?_)
   iterate 10 (refine bh (by simp[h1,h2];try rfl) ?_)
   refine bz (lJ true ai (tM (xf ?_)));refine il (yI ?_);by_cases h3:x<y
   ·rw[aq h3] at iM
    iterate 8 (refine qO rfl (by simp[h1,h2,hx,hy];try rfl) ?_)
    refine vp ?_
    (refine bh (by simp[h3];try rfl) ?_)
    refine bz (lJ true ai ?_);refine il (k_reg ?_)
    (refine bh (by simp;try rfl) ?_)
    refine bz (Am ?_)
    (try dsimp only[lI,mj])
    exact kC (by simp;try rfl) (by rw[<-iM];rfl)
   ·rw[af h3] at iM
    iterate 8 (refine qO rfl (by simp[h1,h2,hx,hy];try rfl) ?_)
    refine vp ?_
    (refine bh (by simp[h3];try rfl) ?_)
    refine bz (lJ false ai (tM ?_));refine yI ?_;by_cases h4:y<x
    ·rw[aq h4] at iM
     iterate 8 (refine qO rfl (by simp[h1,h2,hx,hy];try rfl) ?_)
     refine vp ?_
     (refine bh (by simp[h4];try rfl) ?_)
     refine bz (Eo true ai ?_);refine k_reg ?_
     (refine bh (by simp;try rfl) ?_)
     refine bz (oN ?_)
     (try dsimp only[lI,mj])
     exact kC (by simp;try rfl) (by rw[<-iM];rfl)
    ·rw[af h4] at iM
     iterate 8 (refine qO rfl (by simp[h1,h2,hx,hy];try rfl) ?_)
     refine vp ?_
     (refine bh (by simp[h4];try rfl) ?_)
     refine bz (Eo false ai ?_)
     show aM _ _ _
     refine Al ?_
     (refine bh (by simp;try rfl) ?_)
     (refine bh (by simp[bN cD];try rfl) ?_)
     (refine bh (by simp;try rfl) ?_)
     exact bz ⟨a.length-(k+1),ab,k+1,ab,ab,rfl,iM,rfl,rfl⟩
  ·refine il (k_reg ?_)
   iterate 10 (refine bh (by simp[h1,h2];try rfl) ?_)
   refine bz (lJ false ai (Cj ?_));have kF:k=b.length:=ab;have h5:¬a.length<b.length:=ab;have h6:b.length<a.length:=ab;rw[Nr _ _ (.inr (by rw[kF];simp))] at iM;rw[af bq,aq bq] at iM
   show aM _ _ _
   refine il (k_reg ?_)
   iterate 5 (refine bh (by simp[h5];try rfl) ?_)
   refine bz (lJ false ai (tM ?_));refine il (k_reg ?_)
   iterate 5 (refine bh (by simp[h6];try rfl) ?_)
   refine bz (lJ true ai ?_);refine il (k_reg ?_)
   (refine bh (by simp;try rfl) ?_)
   refine bz (Am ?_)
   (try dsimp only[lI,mj])
   exact kC (by simp;try rfl) (by rw[<-iM];rfl)
 ·refine il (k_reg ?_)
  iterate 10 (refine bh (by simp[h1];try rfl) ?_)
  refine bz (lJ false ai (Cj ?_));have kF:k=a.length:=ab;rw[Nr _ _ (.inl (by rw[kF];simp))] at iM;simp only[lU] at iM
  show aM _ _ _
  by_cases h5:a.length<b.length
  ·rw[aq ab] at iM;refine il (k_reg ?_)
   iterate 5 (refine bh (by simp[h5];try rfl) ?_)
   refine bz (lJ true ai ?_);refine il (k_reg ?_)
   (refine bh (by simp;try rfl) ?_)
   refine bz (Am ?_)
   (try dsimp only[lI,mj])
   exact kC (by simp;try rfl) (by rw[<-iM];rfl)
  ·have h6:¬b.length<a.length:=ab;rw[af ab,af ab] at iM;refine il (k_reg ?_)
   iterate 5 (refine bh (by simp[h5];try rfl) ?_)
   refine bz (lJ false ai (tM ?_));refine il (k_reg ?_)
   iterate 5 (refine bh (by simp[h6];try rfl) ?_)
   refine bz (lJ false ai (tM ?_));refine k_reg ?_
   (refine bh (by simp;try rfl) ?_)
   refine bz (oN ?_)
   (try dsimp only[lI,mj])
   exact kC (by simp;try rfl) (by rw[<-iM];rfl)
theorem SJ (a0 a1 a2 a3 a4:Int):aU Tryz.prog 48 [.agg [iA a0,iA a1,iA a2,iA a3,iA a4]] (fun x=>x=.w (.c (ints [a0,a1,a2,a3,a4]))):=by
 refine cC Tryz.func48 aN [] [.t 2] [1,2] [1] ?_;refine k_reg ?_
 iterate 2 (refine bh (by simp;try rfl) ?_)
 refine bz (k_reg ?_)
 iterate 13 (refine bh (by simp;try rfl) ?_)
 (refine bh (by simp[dt,rowsOf,List.range,List.range.loop];try rfl) ?_)
 (refine bh (by simp;try rfl) ?_)
 refine bz (oN ?_)
 (try dsimp only[lI,mj])
 exact kC (by simp;try rfl) rfl
theorem atm (a0 a1 a2 a3 a4 b0 b1 b2 b3 b4:Int):aU Tryz.prog 256 [.agg [iA a0,iA a1,iA a2,iA a3,iA a4],.agg [iA b0,iA b1,iA b2,iA b3,iA b4]] (fun x=>x=.w (.c (iA (aK [a0,a1,a2,a3,a4] [b0,b1,b2,b3,b4])))):=by
 refine cC Tryz.func256 aN [(1,3,tk 0 1 (tk 2 1 (.move 1 .nil)),[])] [.t 4] [2,3,4] [2,3] ?_;refine k_reg ?_
 iterate 3 (refine bh (by simp;try rfl) ?_)
 refine bz (yI ?_)
 iterate 2 (refine qO rfl (by simp;try rfl) ?_)
 refine Hh rfl (by simp;try rfl) (SJ a0 a1 a2 a3 a4) ?_;refine vp ?_;refine Em (by simp;try rfl) (SJ b0 b1 b2 b3 b4) ?_;refine Em (by simp;try rfl) (agC [a0,a1,a2,a3,a4] [b0,b1,b2,b3,b4] ai) ?_
 (refine bh (by simp;try rfl) ?_)
 refine bz (oN ?_);exact kC (by simp;try rfl) rfl
theorem agD (a0 a1 a2 a3 a4 a5 a6 a7:Int):aU Tryz.prog 183 [.agg [iA a0,iA a1,iA a2,iA a3,iA a4,iA a5,iA a6,iA a7]] (fun x=>x=.w (.c (ints [a0,a1,a2,a3,a4,a5,a6,a7]))):=by
 refine cC Tryz.func183 (aO [9]) [(1,10,tk 0 6 (tk 7 2 (.fork 6 9 (.move 9 .nil) (.move 6 .nil))),[9])] [.t 2] [1,2] [1,9] ?_;refine k_reg ?_
 iterate 2 (refine bh (by simp;try rfl) ?_)
 refine bz (yI ?_)
 iterate 8 (refine qO rfl (by simp;try rfl) ?_)
 refine vm ?_ ?_
 ·(refine KM rfl (by simp[dt,rowsOf,List.range,List.range.loop];try rfl) ?_)
  refine Hh rfl (by simp;try rfl) (SJ a3 a4 a5 a6 a7) ?_;refine vp ?_;refine En rfl rfl rfl ai (by first|(simp;done)|(simp;omega)) rfl (by simp;try rfl) ?_
  (refine bh (by simp;try rfl) ?_)
  refine bz (oN ?_);exact kC (by simp;try rfl) rfl
 ·refine Hh rfl (by simp;try rfl) (SJ a3 a4 a5 a6 a7) ?_
  (refine KM rfl (by simp[dt,rowsOf,List.range,List.range.loop];try rfl) ?_)
  refine vp ?_;refine En rfl rfl rfl ai (by first|(simp;done)|(simp;omega)) rfl (by simp;try rfl) ?_
  (refine bh (by simp;try rfl) ?_)
  refine bz (oN ?_);exact kC (by simp;try rfl) rfl
theorem atn (a0 a1 a2 a3 a4 a5 a6 a7 b0 b1 b2 b3 b4 b5 b6 b7:Int):aU Tryz.prog 155 [.agg [iA a0,iA a1,iA a2,iA a3,iA a4,iA a5,iA a6,iA a7],.agg [iA b0,iA b1,iA b2,iA b3,iA b4,iA b5,iA b6,iA b7]] (fun x=>x=.w (.c (iA (aK [a0,a1,a2,a3,a4,a5,a6,a7] [b0,b1,b2,b3,b4,b5,b6,b7])))):=by
 refine cC Tryz.func155 aN [(1,3,tk 0 1 (tk 2 1 (.move 1 .nil)),[])] [.t 4] [2,3,4] [2,3] ?_;refine k_reg ?_
 iterate 3 (refine bh (by simp;try rfl) ?_)
 refine bz (yI ?_)
 iterate 2 (refine qO rfl (by simp;try rfl) ?_)
 refine Hh rfl (by simp;try rfl) (agD a0 a1 a2 a3 a4 a5 a6 a7) ?_;refine vp ?_;refine Em (by simp;try rfl) (agD b0 b1 b2 b3 b4 b5 b6 b7) ?_;refine Em (by simp;try rfl) (agC [a0,a1,a2,a3,a4,a5,a6,a7] [b0,b1,b2,b3,b4,b5,b6,b7] ai) ?_
 (refine bh (by simp;try rfl) ?_)
 refine bz (oN ?_);exact kC (by simp;try rfl) rfl
end Ab
namespace Ab
open Go Go.RowKit
open aD (Env wU oH kA nw sf iU)
variable {l:List Env} {m:bQ}
abbrev mP (m:bQ):List AC:=[iA m.node,iA m.handler,iA m.count,iA m.index,iA m.copy]
abbrev xt (e:Env):List AC:=[iA e.msg.node,iA e.msg.handler,iA e.msg.count,iA e.msg.index,iA e.msg.copy,iA e.kM,iA e.kind,iA e.a,iA e.b]
abbrev jU (l:List Env):AC:=.sl (l.map xt)
abbrev msgs (l:List bQ):AC:=.sl (l.map mP)
theorem agE{a:bQ}(h:a≠m):¬(a.node=m.node/\a.handler=m.handler/\a.count=m.count/\a.index=m.index/\a.copy=m.copy):=fun⟨h1,h2,h3,h4,h5⟩=>h (by cases a;cases m;simp_all)
def Ex (l:List Env)(m:bQ):Int:=match l.findIdx? (fun e=>decide (e.msg=m)) with
 |some k=>k
 |none=> -1
theorem ato{k:Nat}(hk:k<l.length)(h:l[k].msg=m)(hj:∀j (hj:j<l.length),j<k->l[j].msg≠m):Ex l m=k:=by
 unfold Ex
 have:l.findIdx? (fun e=>decide (e.msg=m))=some k:=by
  rw[List.findIdx?_eq_some_iff_getElem];exact⟨hk,by simp[h],fun j ib=>by simp[hj j ab ib]⟩
 rw[this]
theorem atp(h:∀j (hj:j<l.length),l[j].msg≠m):Ex l m= -1:=by
 unfold Ex
 have:l.findIdx? (fun e=>decide (e.msg=m))=none:=by
  rw[List.findIdx?_eq_none_iff];intro x hx;obtain⟨j,hj,rfl⟩:=FZ.1 hx;simp[h j hj]
 rw[this]
theorem Le(l:List Env)(m:bQ)(hl:l.length<=1000000):aU Tryz.prog 202 [.c (jU l),.agg (mP m)] (fun x=>x=.w (.c (iA (Ex l m)))):=by
 refine cC Tryz.func202 aN [tz 4 6] [.t 4] [3,4,5] [3] ?_;refine k_reg ?_
 iterate 2 (refine bh (by simp;try rfl) ?_)
 refine bz (il (k_reg ?_))
 (refine bh (by simp;try rfl) ?_)
 refine bz (xf ?_)
 refine dv (fun n V S=>∃k:Nat,k<=l.length/\n=l.length-k/\(∀j (hj:j<l.length),j<k->l[j].msg≠m)/\
  V=[(0,.w (.c (jU l))),(1,.w (.agg (mP m))),(3,.pb 3 1 0),(4,.w (.c (iA 0))),(5,.w (.c (iA k)))]/\S=[(3,.box 1 (mP m))]) (n:=l.length) ⟨0,ab,ab,fun j _ h=>ab,rfl,rfl⟩ ?_
 rintro n V L S ⟨k,hk,rfl,hj,rfl,rfl⟩;by_cases hlt:k<l.length
 ·have cD:k<=1000000000:=ab
  obtain⟨x,hx⟩:∃x,l[k]=x:=⟨_,rfl⟩
  refine il (k_reg ?_)
  iterate 4 (refine bh (by simp[hlt];try rfl) ?_)
  refine bz (lJ true ai (tM (xf (yI ?_))));by_cases he:x.msg=m
  ·iterate 6 (refine qO rfl (by simp[hlt,hx];try rfl) ?_)
   refine vp ?_
   (refine bh (by simp[he];try rfl) ?_)
   refine bz (Eo true ai (k_reg ?_))
   iterate 2 (refine bh (by simp;try rfl) ?_)
   refine bz (oN ?_)
   (try dsimp only[lI,mj])
   exact kC (by simp;try rfl) (by rw[ato hlt (by rw[hx];exact he) hj];rfl)
  ·have hne:=agE he
   iterate 6 (refine qO rfl (by simp[hlt,hx];try rfl) ?_)
   refine vp ?_
   (refine bh (by simp[hne];try rfl) ?_)
   refine bz (Eo false ai ?_)
   show aM _ _ _
   refine Al ?_
   (refine bh (by simp;try rfl) ?_)
   (refine bh (by simp[bN cD];try rfl) ?_)
   (refine bh (by simp;try rfl) ?_)
   exact bz ⟨l.length-(k+1),ab,k+1,ab,ab,fun j dJ ib=>by
    by_cases iL:j=k
    ·subst iL;rw[hx];exact he
    ·exact hj j dJ ab,rfl,rfl⟩
 ·refine il (k_reg ?_)
  iterate 4 (refine bh (by simp[hlt];try rfl) ?_)
  refine bz (lJ false ai (Cj ?_))
  show aM _ _ _
  refine k_reg ?_
  (refine bh (by simp;try rfl) ?_)
  refine bz (oN ?_)
  (try dsimp only[lI,mj])
  exact kC (by simp;try rfl) (by rw[atp (fun j dJ=>hj j dJ ab)];rfl)
theorem atq(l:List Env)(node:Int)(hl:l.length<=1000000):aU Tryz.prog 118 [.c (jU l),.c (iA node)] (fun x=>x=.w (.c (msgs (iU l node)))):=by
 refine cC Tryz.func118 (aO [5]) [] [.t 4] [4,5,6] [5] ?_;refine k_reg ?_
 (refine bh (by simp;try rfl) ?_)
 refine bz (k_reg ?_)
 (refine bh (by simp;try rfl) ?_)
 refine bz (il (k_reg ?_))
 (refine bh (by simp;try rfl) ?_)
 refine bz (xf ?_)
 refine dv (fun n V S=>∃(k g:Nat) (o:List bQ),k<=l.length/\n=l.length-k/\o=iU (l.take k) node/\o.length<=k/\
  V=[(0,.w (.c (jU l))),(1,.w (.c (iA node))),(4,.w (.c (.sl []))),(5,.w (.c (.own 5 g))),(6,.w (.c (iA k)))]/\S=[(5,.row 39 5 g (o.map mP))]) (n:=l.length) ⟨0,1,[],ab,ab,by simp[iU],ai,rfl,rfl⟩ ?_
 rintro n V L S ⟨k,g,o,hk,rfl,ho,xu,rfl,rfl⟩;by_cases hlt:k<l.length
 ·have cD:k<=1000000000:=ab
  obtain⟨x,hx⟩:∃x,l[k]=x:=⟨_,rfl⟩
  have db:iU (l.take (k+1)) node=o++if x.kM=node then [x.msg] else []:=by
   rw[ho,List.take_succ_eq_append_getElem hlt,hx];unfold iU;rw[qk,de];by_cases YD:x.kM=node<;>simp[YD]
  refine il (k_reg ?_)
  iterate 4 (refine bh (by simp[hlt];try rfl) ?_)
  refine bz (lJ true ai (tM (xf (k_reg ?_))));by_cases he:x.kM=node
  ·rw[aq he] at db
   iterate 7 (refine bh (by simp[hlt,hx,he];try rfl) ?_)
   refine bz (Eo true ai (Al ?_))
   iterate 6 (refine bh (by simp[hlt,hx];try rfl) ?_)
   (refine bh (by simp[dt,rowsOf,List.range,List.range.loop];try rfl) ?_)
   refine En rfl rfl rfl ai (by first|(simp;done)|(simp;omega)) rfl (by simp;try rfl) ?_
   (refine bh (by simp;try rfl) ?_)
   refine bz ?_
   show aM _ _ _
   refine Al ?_
   (refine bh (by simp;try rfl) ?_)
   (refine bh (by simp[bN cD];try rfl) ?_)
   (refine bh (by simp;try rfl) ?_)
   exact bz ⟨l.length-(k+1),ab,k+1,g+1,o++[x.msg],ab,ab,db.symm,by simp;omega,rfl,ai⟩
  ·rw[af he,rS] at db
   iterate 7 (refine bh (by simp[hlt,hx,he];try rfl) ?_)
   refine bz (Eo false ai ?_)
   show aM _ _ _
   refine Al ?_
   (refine bh (by simp;try rfl) ?_)
   (refine bh (by simp[bN cD];try rfl) ?_)
   (refine bh (by simp;try rfl) ?_)
   exact bz ⟨l.length-(k+1),ab,k+1,g,o,ab,ab,db.symm,ab,rfl,rfl⟩
 ·have kF:k=l.length:=ab;refine il (k_reg ?_)
  iterate 4 (refine bh (by simp[hlt];try rfl) ?_)
  refine bz (lJ false ai (Cj ?_))
  show aM _ _ _
  refine k_reg ?_
  iterate 2 (refine bh (by simp;try rfl) ?_)
  refine bz (oN ?_)
  (try dsimp only[lI,mj])
  exact kC (by simp;try rfl) (by rw[ho,kF,fK];rfl)
end Ab
namespace Ab
open Go Go.RowKit
attribute [local irreducible] aM bt aX
open aD (Env wU oH kA nw sf iU)
theorem atr (l:List Env)(m:bQ)(hl:l.length<=1000000):aU Tryz.prog 160 [.c (jU l),.agg (mP m)] (fun x=>x=.w (.c (jU (nw l m)))):=by
 refine cC Tryz.func160 (aO [5]) [tz 5 6] [.t 4] [3,4,5,6] [3,5] ?_;have FF:=trivial
 try refine aF ?_
 refine dv (fun n V S=>∃(k g:Nat) (o:List Env),k<=l.length/\n=l.length-k/\o=nw (l.take k) m/\o.length<=k/\
  V=[(0,.w (.c (jU l))),(1,.w (.agg (mP m))),(3,.pb 3 1 0),(4,.w (.c (.sl []))),(5,.w (.c (.own 5 g))),(6,.w (.c (iA k)))]/\S=[(3,.box 1 (mP m)),(5,.row 208 9 g (o.map xt))]) (n:=l.length) ⟨0,1,[],ab,ab,by simp[nw],ai,rfl,rfl⟩ ?_
 rintro n V L S ⟨k,g,o,hk,rfl,ho,xu,rfl,rfl⟩;by_cases hlt:k<l.length
 ·have cD:k<=1000000000:=ab
  obtain⟨x,hx⟩:∃x,l[k]=x:=⟨_,rfl⟩
  have db:nw (l.take (k+1)) m=o++if x.msg=m then [] else [x]:=by
   rw[ho,List.take_succ_eq_append_getElem hlt,hx];unfold nw;rw[qk];by_cases YD:x.msg=m<;>simp[YD]
  by_cases he:x.msg=m
  ·rw[aq he,rS] at db;have FF:=eW @hlt @hx @he (bN cD)
   try refine aF ?_
   exact⟨l.length-(k+1),ab,k+1,g,o,ab,ab,db.symm,ab,rfl,rfl⟩
  ·rw[af he] at db;have hne:=agE he;have FF:=eW @hlt @hx @hne (bN cD)
   try refine aF ?_
   exact⟨l.length-(k+1),ab,k+1,g+1,o++[x],ab,ab,db.symm,by simp;omega,rfl,ai⟩
 ·have kF:k=l.length:=ab;have FF:=@hlt
  try refine aF ?_
  refine zE ?_;exact(by rw[ho,kF,fK];rfl)
open aD (Env wU oH kA nw sf iU)
theorem agF (a b:bQ):aU Tryz.prog 256 [.agg (mP a),.agg (mP b)] (fun x=>x=.w (.c (iA (aK a.ints b.ints)))):=atm _ _ _ _ _ _ _ _ _ _
theorem SK (l:List Env)(e:Env)(hl:l.length<=1000000):aU Tryz.prog 203 [.c (jU l),.agg (xt e)] (fun x=>x=.w (.c (jU (wU l e)))):=by
 have yL:l.length+1<=100000000:=ab;refine cC Tryz.func203 (aO [6]) [tz 2 12] [.t 4] [3,4,5,6] [3,6] ?_;have FF:=trivial
 try refine aF ?_
 refine dv (fun n V S=>∃k:Nat,k<=l.length/\n=l.length-k/\(∀j (hj:j<l.length),j<k->decide (aK l[j].msg.ints e.msg.ints<0)=true)/\
  V=[(0,.w (.c (jU l))),(1,.w (.agg (xt e))),(3,.pb 3 1 0),(4,.w (.c (.sl []))),(5,.w (.c (iA k))),(6,.u)]/\S=[(3,.box 1 (xt e)),(6,.dead 0)]) (n:=l.length) ⟨0,ab,ab,fun j _ h=>ab,rfl,rfl⟩ ?_
 rintro n V L S ⟨k,hk,rfl,hj,rfl,rfl⟩
 have done:∀(h2:∀h:k<l.length,decide (aK l[k].msg.ints e.msg.ints<0)=false),wU l e=l.take k++e::l.drop k:=fun h2=>by
  obtain⟨g1,g2⟩:=Nu (p:=fun x:Env=>decide (aK x.msg.ints e.msg.ints<0)) hk hj h2;unfold wU;rw[g1,g2]
 by_cases hlt:k<l.length
 ·have cD:k<=1000000000:=ab
  obtain⟨x,hx⟩:∃x,l[k]=x:=⟨_,rfl⟩
  by_cases he:aK x.msg.ints e.msg.ints<0
  ·have FF:=eW @hlt @hx @he (bN cD);refine bJ (agF x.msg e.msg) ?_
   exact⟨l.length-(k+1),ab,k+1,ab,ab,fun j dJ ib=>by
    by_cases iL:j=k
    ·subst iL;rw[hx];exact ft he
    ·exact hj j dJ ab,rfl,rfl⟩
  ·have FF:=eW @hlt @hx @he (BL hlt);refine XV (agF x.msg e.msg) ?_;refine zE ?_;exact(by rw[done (fun _=>by rw[hx];exact jk he)];simp[List.map_take,List.map_drop];try rfl)
 ·have FF:=eV @hlt @hk
  try refine Cm ?_
  refine zE ?_;exact(by rw[done (fun h=>absurd h hlt)];simp[List.map_take,List.map_drop];try rfl)
end Ab
namespace Ab
open Go Go.RowKit
open aD (Env wU oH kA nw sf iU)
theorem YE (l:List Env)(m:bQ):(Ex l m= -1/\oH l m=none)\/∃(k:Nat) (h:k<l.length),Ex l m=k/\oH l m=some l[k]/\l[k].msg=m:=by
 unfold Ex oH
 cases hf:l.findIdx? (fun e=>decide (e.msg=m)) with
 |none=>
  left;refine⟨rfl,?_⟩;rw[List.findIdx?_eq_none_iff] at hf;rw[List.find?_eq_none];intro x hx;simp[hf x hx]
 |some k=>
  right;rw[List.findIdx?_eq_some_iff_getElem] at hf;obtain⟨h,h1,h2⟩:=hf;refine⟨k,h,rfl,?_,by simpa using h1⟩;rw[List.find?_eq_some_iff_getElem];refine⟨h1,k,h,rfl,fun j hj=> ?_⟩;have:=h2 j hj;simpa using this
def att:Env:=⟨⟨0,0,0,0,0⟩,0,0,0,0⟩
theorem SL (l:List Env)(m:bQ)(hl:l.length<=1000000):aU Tryz.prog 159 [.c (jU l),.agg (mP m)] (fun x=>x=.bD [.agg (xt ((oH l m).getD att)),.c (bA (oH l m).isSome)]):=by
 refine cC Tryz.func159 aN [] [.cell 4 9,.t 5] [3,4,5,6] [3,4] ?_
 rcases YE l m with⟨h1,h2⟩|⟨k,hk,h1,h2,h3⟩
 ·have FF:=@h1;refine bJ (Le l m hl) ?_;refine zE ?_;exact(by rw[h2];rfl)
 ·obtain⟨x,hx⟩:∃x,l[k]=x:=⟨_,rfl⟩
  rw[hx] at h2;have FF:=jB @h1 @hk @hx;refine bJ (Le l m hl) ?_;refine zE ?_;exact(by rw[h2];rfl)
theorem atu (l:List Env)(e:Env)(hl:l.length<=1000000):aU Tryz.prog 200 [.c (jU l),.agg (xt e)] (fun x=>x=.bD [.c (jU (kA l e)),.c (iA (if(oH l e.msg).isSome then 4 else 0))]):=by
 refine cC Tryz.func200 aN [] [.t 4,.t 5] [3,4,5] [3] ?_
 rcases YE l e.msg with⟨h1,h2⟩|⟨k,hk,h1,h2,h3⟩
 ·have FF:=@h1;refine gX (Le l e.msg hl) (SK l e hl) ?_;refine zE ?_;exact(by unfold kA;rw[h2];rfl)
 ·have FF:=@h1;refine gX (Le l e.msg hl) (SK l e hl) ?_;refine zE ?_;exact(by unfold kA;rw[h2];rfl)
end Ab
end Go.Proofs.YtkanpepkdcmpmaaGreatDoor
