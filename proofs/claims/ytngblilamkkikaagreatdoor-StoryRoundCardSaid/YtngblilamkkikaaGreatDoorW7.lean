import Derived.Test.YtngblilamkkikaaGreatDoorW3
set_option maxHeartbeats 40000000
set_option maxRecDepth 100000
set_option linter.all false
namespace Go.Proofs.YtngblilamkkikaaGreatDoor
namespace Ab
open Go Go.RowKit
theorem afe (a b:List Int)(ha:a.length<=1000000):bu Tryz.prog 160 [.c (ints a),.c (ints b)] (fun x=>x=.w (.c (iA (aK a b)))):=by
 refine cD Tryz.func160 aN [tz 4 8,tz 6 8] [.t 4] [4,5] [] ?_;refine k_reg ?_
 (refine bg (by simp;try rfl) ?_)
 refine bz (gD (k_reg ?_))
 (refine bg (by simp;try rfl) ?_)
 refine bz (vw ?_)
 refine dB (fun n V S=>∃k:Nat,k<=a.length/\k<=b.length/\n=a.length-k/\aK (a.drop k) (b.drop k)=aK a b/\
  V=[(0,.w (.c (ints a))),(1,.w (.c (ints b))),(4,.w (.c (iA 0))),(5,.w (.c (iA k)))]/\S=[]) (n:=a.length) ⟨0,ab,ab,ab,rfl,rfl,rfl⟩ ?_
 rintro n V L S ⟨k,Rf,Jz,rfl,jq,rfl,rfl⟩;by_cases h1:k<a.length
 ·by_cases h2:k<b.length
  ·have cL:k<=1000000000:=ab;rw[List.drop_eq_getElem_cons h1,List.drop_eq_getElem_cons h2] at jq
   obtain⟨x,hx⟩:∃x,a[k]=x:=⟨_,rfl⟩
   obtain⟨y,hy⟩:∃y,b[k]=y:=⟨_,rfl⟩
   rw[hx,hy] at jq;simp only[aK] at jq;refine gD (k_reg ?_)
   iterate 10 (refine bg (by simp[h1,h2];try rfl) ?_)
   refine bz (kO true ai (sd (vw ?_)));refine gD (wV ?_);by_cases h3:x<y
   ·rw[aj h3] at jq
    iterate 8 (refine pJ rfl (by simp[h1,h2,hx,hy];try rfl) ?_)
    refine tG ?_
    (refine bg (by simp[h3];try rfl) ?_)
    refine bz (kO true ai ?_);refine gD (k_reg ?_)
    (refine bg (by simp;try rfl) ?_)
    refine bz (yG ?_)
    (try dsimp only[lZ,lA])
    exact jJ (by simp;try rfl) (by rw[<-jq];rfl)
   ·rw[af h3] at jq
    iterate 8 (refine pJ rfl (by simp[h1,h2,hx,hy];try rfl) ?_)
    refine tG ?_
    (refine bg (by simp[h3];try rfl) ?_)
    refine bz (kO false ai (sd ?_));refine wV ?_;by_cases h4:y<x
    ·rw[aj h4] at jq
     iterate 8 (refine pJ rfl (by simp[h1,h2,hx,hy];try rfl) ?_)
     refine tG ?_
     (refine bg (by simp[h4];try rfl) ?_)
     refine bz (CT true ai ?_);refine k_reg ?_
     (refine bg (by simp;try rfl) ?_)
     refine bz (nN ?_)
     (try dsimp only[lZ,lA])
     exact jJ (by simp;try rfl) (by rw[<-jq];rfl)
    ·rw[af h4] at jq
     iterate 8 (refine pJ rfl (by simp[h1,h2,hx,hy];try rfl) ?_)
     refine tG ?_
     (refine bg (by simp[h4];try rfl) ?_)
     refine bz (CT false ai ?_)
     show aL _ _ _
     refine yF ?_
     (refine bg (by simp;try rfl) ?_)
     (refine bg (by simp[bT cL];try rfl) ?_)
     (refine bg (by simp;try rfl) ?_)
     exact bz ⟨a.length-(k+1),ab,k+1,ab,ab,rfl,jq,rfl,rfl⟩
  ·refine gD (k_reg ?_)
   iterate 10 (refine bg (by simp[h1,h2];try rfl) ?_)
   refine bz (kO false ai (AG ?_));have kQ:k=b.length:=ab;have h5:¬a.length<b.length:=ab;have h6:b.length<a.length:=ab;rw[acn _ _ (.inr (by rw[kQ];simp))] at jq;rw[af bC,aj bC] at jq
   show aL _ _ _
   refine gD (k_reg ?_)
   iterate 5 (refine bg (by simp[h5];try rfl) ?_)
   refine bz (kO false ai (sd ?_));refine gD (k_reg ?_)
   iterate 5 (refine bg (by simp[h6];try rfl) ?_)
   refine bz (kO true ai ?_);refine gD (k_reg ?_)
   (refine bg (by simp;try rfl) ?_)
   refine bz (yG ?_)
   (try dsimp only[lZ,lA])
   exact jJ (by simp;try rfl) (by rw[<-jq];rfl)
 ·refine gD (k_reg ?_)
  iterate 10 (refine bg (by simp[h1];try rfl) ?_)
  refine bz (kO false ai (AG ?_));have kQ:k=a.length:=ab;rw[acn _ _ (.inl (by rw[kQ];simp))] at jq;simp only[nf] at jq
  show aL _ _ _
  by_cases h5:a.length<b.length
  ·rw[aj ab] at jq;refine gD (k_reg ?_)
   iterate 5 (refine bg (by simp[h5];try rfl) ?_)
   refine bz (kO true ai ?_);refine gD (k_reg ?_)
   (refine bg (by simp;try rfl) ?_)
   refine bz (yG ?_)
   (try dsimp only[lZ,lA])
   exact jJ (by simp;try rfl) (by rw[<-jq];rfl)
  ·have h6:¬b.length<a.length:=ab;rw[af ab,af ab] at jq;refine gD (k_reg ?_)
   iterate 5 (refine bg (by simp[h5];try rfl) ?_)
   refine bz (kO false ai (sd ?_));refine gD (k_reg ?_)
   iterate 5 (refine bg (by simp[h6];try rfl) ?_)
   refine bz (kO false ai (sd ?_));refine k_reg ?_
   (refine bg (by simp;try rfl) ?_)
   refine bz (nN ?_)
   (try dsimp only[lZ,lA])
   exact jJ (by simp;try rfl) (by rw[<-jq];rfl)
theorem Rg (a0 a1 a2 a3 a4:Int):bu Tryz.prog 220 [.agg [iA a0,iA a1,iA a2,iA a3,iA a4]] (fun x=>x=.w (.c (ints [a0,a1,a2,a3,a4]))):=by
 refine cD Tryz.func220 aN [] [.t 2] [1,2] [1] ?_;refine k_reg ?_
 iterate 2 (refine bg (by simp;try rfl) ?_)
 refine bz (k_reg ?_)
 iterate 13 (refine bg (by simp;try rfl) ?_)
 (refine bg (by simp[cQ,rowsOf,List.range,List.range.loop];try rfl) ?_)
 (refine bg (by simp;try rfl) ?_)
 refine bz (nN ?_)
 (try dsimp only[lZ,lA])
 exact jJ (by simp;try rfl) rfl
theorem arI (a0 a1 a2 a3 a4 b0 b1 b2 b3 b4:Int):bu Tryz.prog 225 [.agg [iA a0,iA a1,iA a2,iA a3,iA a4],.agg [iA b0,iA b1,iA b2,iA b3,iA b4]] (fun x=>x=.w (.c (iA (aK [a0,a1,a2,a3,a4] [b0,b1,b2,b3,b4])))):=by
 refine cD Tryz.func225 aN [(1,3,tk 0 1 (tk 2 1 (.move 1 .nil)),[])] [.t 4] [2,3,4] [2,3] ?_;refine k_reg ?_
 iterate 3 (refine bg (by simp;try rfl) ?_)
 refine bz (wV ?_)
 iterate 2 (refine pJ rfl (by simp;try rfl) ?_)
 refine Fz rfl (by simp;try rfl) (Rg a0 a1 a2 a3 a4) ?_;refine tG ?_;refine CQ (by simp;try rfl) (Rg b0 b1 b2 b3 b4) ?_;refine CQ (by simp;try rfl) (afe [a0,a1,a2,a3,a4] [b0,b1,b2,b3,b4] ai) ?_
 (refine bg (by simp;try rfl) ?_)
 refine bz (nN ?_);exact jJ (by simp;try rfl) rfl
theorem aff (a0 a1 a2 a3 a4 a5 a6 a7:Int):bu Tryz.prog 161 [.agg [iA a0,iA a1,iA a2,iA a3,iA a4,iA a5,iA a6,iA a7]] (fun x=>x=.w (.c (ints [a0,a1,a2,a3,a4,a5,a6,a7]))):=by
 refine cD Tryz.func161 (aO [9]) [(1,10,tk 0 6 (tk 7 2 (.fork 6 9 (.move 9 .nil) (.move 6 .nil))),[9])] [.t 2] [1,2] [1,9] ?_;refine k_reg ?_
 iterate 2 (refine bg (by simp;try rfl) ?_)
 refine bz (wV ?_)
 iterate 8 (refine pJ rfl (by simp;try rfl) ?_)
 refine wW ?_ ?_
 ·(refine Jg rfl (by simp[cQ,rowsOf,List.range,List.range.loop];try rfl) ?_)
  refine Fz rfl (by simp;try rfl) (Rg a3 a4 a5 a6 a7) ?_;refine tG ?_;refine CS rfl rfl rfl ai (by first|(simp;done)|(simp;omega)) rfl (by simp;try rfl) ?_
  (refine bg (by simp;try rfl) ?_)
  refine bz (nN ?_);exact jJ (by simp;try rfl) rfl
 ·refine Fz rfl (by simp;try rfl) (Rg a3 a4 a5 a6 a7) ?_
  (refine Jg rfl (by simp[cQ,rowsOf,List.range,List.range.loop];try rfl) ?_)
  refine tG ?_;refine CS rfl rfl rfl ai (by first|(simp;done)|(simp;omega)) rfl (by simp;try rfl) ?_
  (refine bg (by simp;try rfl) ?_)
  refine bz (nN ?_);exact jJ (by simp;try rfl) rfl
theorem arJ (a0 a1 a2 a3 a4 a5 a6 a7 b0 b1 b2 b3 b4 b5 b6 b7:Int):bu Tryz.prog 119 [.agg [iA a0,iA a1,iA a2,iA a3,iA a4,iA a5,iA a6,iA a7],.agg [iA b0,iA b1,iA b2,iA b3,iA b4,iA b5,iA b6,iA b7]] (fun x=>x=.w (.c (iA (aK [a0,a1,a2,a3,a4,a5,a6,a7] [b0,b1,b2,b3,b4,b5,b6,b7])))):=by
 refine cD Tryz.func119 aN [(1,3,tk 0 1 (tk 2 1 (.move 1 .nil)),[])] [.t 4] [2,3,4] [2,3] ?_;refine k_reg ?_
 iterate 3 (refine bg (by simp;try rfl) ?_)
 refine bz (wV ?_)
 iterate 2 (refine pJ rfl (by simp;try rfl) ?_)
 refine Fz rfl (by simp;try rfl) (aff a0 a1 a2 a3 a4 a5 a6 a7) ?_;refine tG ?_;refine CQ (by simp;try rfl) (aff b0 b1 b2 b3 b4 b5 b6 b7) ?_;refine CQ (by simp;try rfl) (afe [a0,a1,a2,a3,a4,a5,a6,a7] [b0,b1,b2,b3,b4,b5,b6,b7] ai) ?_
 (refine bg (by simp;try rfl) ?_)
 refine bz (nN ?_);exact jJ (by simp;try rfl) rfl
end Ab
end Go.Proofs.YtngblilamkkikaaGreatDoor
