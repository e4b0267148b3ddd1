import Derived.Test.YtkanpepkdcmpmaaGreatDoorW3
set_option maxHeartbeats 40000000
set_option maxRecDepth 100000
set_option linter.all false
namespace Go.Proofs.YtkanpepkdcmpmaaGreatDoor
namespace Ab
open Go Go.RowKit
theorem agK (a b:List Int)(ha:a.length<=1000000):bj Tryz.prog 135 [.c (ints a),.c (ints b)] (fun x=>x=.w (.c (iA (aM a b)))):=by
 refine cI Tryz.func135 aN [tz 4 8,tz 6 8] [.t 4] [4,5] [] ?_;refine k_reg ?_
 (refine bl (by simp;try rfl) ?_)
 refine bG (iB (k_reg ?_))
 (refine bl (by simp;try rfl) ?_)
 refine bG (xg ?_)
 refine dA (fun n V S=>∃k:Nat,k<=a.length/\k<=b.length/\n=a.length-k/\aM (a.drop k) (b.drop k)=aM a b/\
  V=[(0,.w (.c (ints a))),(1,.w (.c (ints b))),(4,.w (.c (iA 0))),(5,.w (.c (iA k)))]/\S=[]) (n:=a.length) ⟨0,ab,ab,ab,rfl,rfl,rfl⟩ ?_
 rintro n V L S ⟨k,hka,xk,rfl,iX,rfl,rfl⟩;by_cases h1:k<a.length
 ·by_cases h2:k<b.length
  ·have cF:k<=1000000000:=ab;rw[List.drop_eq_getElem_cons h1,List.drop_eq_getElem_cons h2] at iX
   obtain⟨x,hx⟩:∃x,a[k]=x:=⟨_,rfl⟩
   obtain⟨y,hy⟩:∃y,b[k]=y:=⟨_,rfl⟩
   rw[hx,hy] at iX;simp only[aM] at iX;refine iB (k_reg ?_)
   iterate 10 (refine bl (by simp[h1,h2];try rfl) ?_)
   refine bG (lU true ai (tP (xg ?_)));refine iB (yE ?_);by_cases h3:x<y
   ·rw[aj h3] at iX
    iterate 8 (refine rf rfl (by simp[h1,h2,hx,hy];try rfl) ?_)
    refine vw ?_
    (refine bl (by simp[h3];try rfl) ?_)
    refine bG (lU true ai ?_);refine iB (k_reg ?_)
    (refine bl (by simp;try rfl) ?_)
    refine bG (Aq ?_)
    (try dsimp only[lT,mD])
    exact kJ (by simp;try rfl) (by rw[<-iX];rfl)
   ·rw[af h3] at iX
    iterate 8 (refine rf rfl (by simp[h1,h2,hx,hy];try rfl) ?_)
    refine vw ?_
    (refine bl (by simp[h3];try rfl) ?_)
    refine bG (lU false ai (tP ?_));refine yE ?_;by_cases h4:y<x
    ·rw[aj h4] at iX
     iterate 8 (refine rf rfl (by simp[h1,h2,hx,hy];try rfl) ?_)
     refine vw ?_
     (refine bl (by simp[h4];try rfl) ?_)
     refine bG (Ez true ai ?_);refine k_reg ?_
     (refine bl (by simp;try rfl) ?_)
     refine bG (oW ?_)
     (try dsimp only[lT,mD])
     exact kJ (by simp;try rfl) (by rw[<-iX];rfl)
    ·rw[af h4] at iX
     iterate 8 (refine rf rfl (by simp[h1,h2,hx,hy];try rfl) ?_)
     refine vw ?_
     (refine bl (by simp[h4];try rfl) ?_)
     refine bG (Ez false ai ?_)
     show aP _ _ _
     refine Ap ?_
     (refine bl (by simp;try rfl) ?_)
     (refine bl (by simp[bT cF];try rfl) ?_)
     (refine bl (by simp;try rfl) ?_)
     exact bG ⟨a.length-(k+1),ab,k+1,ab,ab,rfl,iX,rfl,rfl⟩
  ·refine iB (k_reg ?_)
   iterate 10 (refine bl (by simp[h1,h2];try rfl) ?_)
   refine bG (lU false ai (Cs ?_));have kM:k=b.length:=ab;have h5:¬a.length<b.length:=ab;have h6:b.length<a.length:=ab;rw[NB _ _ (.inr (by rw[kM];simp))] at iX;rw[af bz,aj bz] at iX
   show aP _ _ _
   refine iB (k_reg ?_)
   iterate 5 (refine bl (by simp[h5];try rfl) ?_)
   refine bG (lU false ai (tP ?_));refine iB (k_reg ?_)
   iterate 5 (refine bl (by simp[h6];try rfl) ?_)
   refine bG (lU true ai ?_);refine iB (k_reg ?_)
   (refine bl (by simp;try rfl) ?_)
   refine bG (Aq ?_)
   (try dsimp only[lT,mD])
   exact kJ (by simp;try rfl) (by rw[<-iX];rfl)
 ·refine iB (k_reg ?_)
  iterate 10 (refine bl (by simp[h1];try rfl) ?_)
  refine bG (lU false ai (Cs ?_));have kM:k=a.length:=ab;rw[NB _ _ (.inl (by rw[kM];simp))] at iX;simp only[ml] at iX
  show aP _ _ _
  by_cases h5:a.length<b.length
  ·rw[aj ab] at iX;refine iB (k_reg ?_)
   iterate 5 (refine bl (by simp[h5];try rfl) ?_)
   refine bG (lU true ai ?_);refine iB (k_reg ?_)
   (refine bl (by simp;try rfl) ?_)
   refine bG (Aq ?_)
   (try dsimp only[lT,mD])
   exact kJ (by simp;try rfl) (by rw[<-iX];rfl)
  ·have h6:¬b.length<a.length:=ab;rw[af ab,af ab] at iX;refine iB (k_reg ?_)
   iterate 5 (refine bl (by simp[h5];try rfl) ?_)
   refine bG (lU false ai (tP ?_));refine iB (k_reg ?_)
   iterate 5 (refine bl (by simp[h6];try rfl) ?_)
   refine bG (lU false ai (tP ?_));refine k_reg ?_
   (refine bl (by simp;try rfl) ?_)
   refine bG (oW ?_)
   (try dsimp only[lT,mD])
   exact kJ (by simp;try rfl) (by rw[<-iX];rfl)
theorem SV (a0 a1 a2 a3 a4:Int):bj Tryz.prog 48 [.agg [iA a0,iA a1,iA a2,iA a3,iA a4]] (fun x=>x=.w (.c (ints [a0,a1,a2,a3,a4]))):=by
 refine cI Tryz.func48 aN [] [.t 2] [1,2] [1] ?_;refine k_reg ?_
 iterate 2 (refine bl (by simp;try rfl) ?_)
 refine bG (k_reg ?_)
 iterate 13 (refine bl (by simp;try rfl) ?_)
 (refine bl (by simp[dx,rowsOf,List.range,List.range.loop];try rfl) ?_)
 (refine bl (by simp;try rfl) ?_)
 refine bG (oW ?_)
 (try dsimp only[lT,mD])
 exact kJ (by simp;try rfl) rfl
theorem atw (a0 a1 a2 a3 a4 b0 b1 b2 b3 b4:Int):bj Tryz.prog 256 [.agg [iA a0,iA a1,iA a2,iA a3,iA a4],.agg [iA b0,iA b1,iA b2,iA b3,iA b4]] (fun x=>x=.w (.c (iA (aM [a0,a1,a2,a3,a4] [b0,b1,b2,b3,b4])))):=by
 refine cI Tryz.func256 aN [(1,3,tk 0 1 (tk 2 1 (.move 1 .nil)),[])] [.t 4] [2,3,4] [2,3] ?_;refine k_reg ?_
 iterate 3 (refine bl (by simp;try rfl) ?_)
 refine bG (yE ?_)
 iterate 2 (refine rf rfl (by simp;try rfl) ?_)
 refine Ie rfl (by simp;try rfl) (SV a0 a1 a2 a3 a4) ?_;refine vw ?_;refine Ex (by simp;try rfl) (SV b0 b1 b2 b3 b4) ?_;refine Ex (by simp;try rfl) (agK [a0,a1,a2,a3,a4] [b0,b1,b2,b3,b4] ai) ?_
 (refine bl (by simp;try rfl) ?_)
 refine bG (oW ?_);exact kJ (by simp;try rfl) rfl
theorem agL (a0 a1 a2 a3 a4 a5 a6 a7:Int):bj Tryz.prog 183 [.agg [iA a0,iA a1,iA a2,iA a3,iA a4,iA a5,iA a6,iA a7]] (fun x=>x=.w (.c (ints [a0,a1,a2,a3,a4,a5,a6,a7]))):=by
 refine cI Tryz.func183 (aO [9]) [(1,10,tk 0 6 (tk 7 2 (.fork 6 9 (.move 9 .nil) (.move 6 .nil))),[9])] [.t 2] [1,2] [1,9] ?_;refine k_reg ?_
 iterate 2 (refine bl (by simp;try rfl) ?_)
 refine bG (yE ?_)
 iterate 8 (refine rf rfl (by simp;try rfl) ?_)
 refine yF ?_ ?_
 ·(refine KU rfl (by simp[dx,rowsOf,List.range,List.range.loop];try rfl) ?_)
  refine Ie rfl (by simp;try rfl) (SV a3 a4 a5 a6 a7) ?_;refine vw ?_;refine Ey rfl rfl rfl ai (by first|(simp;done)|(simp;omega)) rfl (by simp;try rfl) ?_
  (refine bl (by simp;try rfl) ?_)
  refine bG (oW ?_);exact kJ (by simp;try rfl) rfl
 ·refine Ie rfl (by simp;try rfl) (SV a3 a4 a5 a6 a7) ?_
  (refine KU rfl (by simp[dx,rowsOf,List.range,List.range.loop];try rfl) ?_)
  refine vw ?_;refine Ey rfl rfl rfl ai (by first|(simp;done)|(simp;omega)) rfl (by simp;try rfl) ?_
  (refine bl (by simp;try rfl) ?_)
  refine bG (oW ?_);exact kJ (by simp;try rfl) rfl
theorem atx (a0 a1 a2 a3 a4 a5 a6 a7 b0 b1 b2 b3 b4 b5 b6 b7:Int):bj Tryz.prog 155 [.agg [iA a0,iA a1,iA a2,iA a3,iA a4,iA a5,iA a6,iA a7],.agg [iA b0,iA b1,iA b2,iA b3,iA b4,iA b5,iA b6,iA b7]] (fun x=>x=.w (.c (iA (aM [a0,a1,a2,a3,a4,a5,a6,a7] [b0,b1,b2,b3,b4,b5,b6,b7])))):=by
 refine cI Tryz.func155 aN [(1,3,tk 0 1 (tk 2 1 (.move 1 .nil)),[])] [.t 4] [2,3,4] [2,3] ?_;refine k_reg ?_
 iterate 3 (refine bl (by simp;try rfl) ?_)
 refine bG (yE ?_)
 iterate 2 (refine rf rfl (by simp;try rfl) ?_)
 refine Ie rfl (by simp;try rfl) (agL a0 a1 a2 a3 a4 a5 a6 a7) ?_;refine vw ?_;refine Ex (by simp;try rfl) (agL b0 b1 b2 b3 b4 b5 b6 b7) ?_;refine Ex (by simp;try rfl) (agK [a0,a1,a2,a3,a4,a5,a6,a7] [b0,b1,b2,b3,b4,b5,b6,b7] ai) ?_
 (refine bl (by simp;try rfl) ?_)
 refine bG (oW ?_);exact kJ (by simp;try rfl) rfl
end Ab
end Go.Proofs.YtkanpepkdcmpmaaGreatDoor
