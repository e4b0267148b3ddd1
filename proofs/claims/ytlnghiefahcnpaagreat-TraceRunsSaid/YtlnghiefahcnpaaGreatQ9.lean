import Derived.Test.YtlnghiefahcnpaaGreatQ7
set_option maxHeartbeats 40000000
set_option maxRecDepth 100000
set_option linter.all false
namespace Go.Proofs.YtlnghiefahcnpaaGreat
namespace Ab
open Go Go.RowKit
attribute [local irreducible] aC bo aU
open aq (eh pO nw aL)
abbrev Fs (c:aL):List AC:=[iA c.node,iA c.handler,iA c.count]
def JM (a:bf)(c:aL):Prop:=(a.q.node=c.node/\a.q.handler=c.handler/\a.q.count=c.count)/\a.q.kind=1
instance (a:bf)(c:aL):Decidable (JM a c):=inferInstanceAs (Decidable ((a.q.node=c.node/\a.q.handler=c.handler/\a.q.count=c.count)/\a.q.kind=1))
theorem aox (l:List bf)(a:bf)(c:aL):nw (l++[a]) c=if JM a c then max (nw l c) a.q.index else nw l c:=by
 unfold nw JM;rw[DR];rfl
theorem aoy (l:List bf)(c:aL): -1<=nw l c:=by
 unfold nw
 have key:∀(l:List bf) (m:Int),-1<=m→-1<=l.foldl (fun m a=>if(a.q.node=c.node/\a.q.handler=c.handler/\a.q.count=c.count)/\a.q.kind=1 then max m a.q.index else m) m:=by
  intro l
  induction l with
  |nil=>intro m h;exact h
  |cons a l ih=>
   intro m h;apply ih;dsimp only;split<;>omega
 exact key l (-1) aa
def yO (l:List bf)(c:aL)(n:Nat):List Int:=(List.range n).map fun(i:Nat)=>nk l (c.qn 1 i)
theorem aoz (l:List bf)(c:aL)(n:Nat):yO l c (n+1)=yO l c n++[nk l (c.qn 1 n)]:=by simp[yO,qA]
theorem aoA (l:List bf)(c:aL)(hl:l.length<=1000000):bt Tryz.prog 136 [.c (jU l),.agg (Fs c)] (fun x=>x=.w (.c (ints (pO l c)))):=by
 refine bZ aG Tryz.func136 rfl aah [.t 4] ah _ rfl [3,4,5,6,7,8] [3,5] ?_;refine bG aah ?_;dsimp only[V0,uV,S0];have FF:=trivial
 try refine aj ?_
 refine cF (fun n V S=>∃k:Nat,k<=l.length/\n=l.length-k/\
  V=[(0,.w (.c (jU l))),(1,.w (.agg (Fs c))),(3,.pb 3 1 0),(4,.w (.c (.sl []))),(5,.w (.c (.own 5 1))),(6,.w (.c (iA (nw (l.take k) c)))),(7,.w (.c (iA k))),(8,.u)]/\S=[(3,.box 1 (Fs c)),(5,.row 3 1 1 [])]) (n:=l.length) ⟨0,aa,aa,rfl,rfl⟩ ?_
 rintro n V L S ⟨k,hk,rfl,rfl,rfl⟩;by_cases hlt:k<l.length
 ·have cg:k<=1000000000:=aa
  obtain⟨x,hx⟩:∃x,l[k]=x:=⟨_,rfl⟩
  have hg:nw (l.take (k+1)) c=if JM x c then max (nw (l.take k) c) x.q.index else nw (l.take k) c:=by rw[ki hlt,aox,hx]
  generalize nw (l.take k) c=gv at hg⊢;by_cases h1:x.q.node=c.node/\x.q.handler=c.handler/\x.q.count=c.count
  ·obtain⟨a1,a2,a3⟩:=h1;by_cases h2:x.q.kind=1
   ·rw[if_pos ⟨⟨a1,a2,a3⟩,h2⟩] at hg;have FF:=jl @hlt @hx @a1 @a2 @a3 @h2 (bL cg)
    try refine aj ?_
    exact⟨l.length-(k+1),aa,k+1,aa,aa,by rw[hg];rfl,rfl⟩
   ·rw[if_neg (fun hh=>h2 hh.2)] at hg;have FF:=jl @hlt @hx @a1 @a2 @a3 @h2 (bL cg)
    try refine aj ?_
    exact⟨l.length-(k+1),aa,k+1,aa,aa,by rw[hg];rfl,rfl⟩
  ·rw[if_neg (fun hh=>h1 hh.1)] at hg;have FF:=dW @hlt @hx @h1 (bL cg)
   try refine aj ?_
   exact⟨l.length-(k+1),aa,k+1,aa,aa,by rw[hg];rfl,rfl⟩
 ·have jE:k=l.length:=aa;have hmg:=aoy l c;have FF:=@hlt
  try refine aj ?_
  rw[jE,ig]
  obtain⟨mm,gr⟩:∃m,nw l c=m:=⟨_,rfl⟩
  have nN:pO l c=yO l c (min (mm+1).toNat 500):=by unfold pO yO;rw[gr]
  rw[gr] at hmg⊢
  refine cF (fun n V S=>∃i:Nat,i<=min (mm+1).toNat 500/\n=min (mm+1).toNat 500-i/\
   V=[(0,.w (.c (jU l))),(1,.w (.agg (Fs c))),(3,.pb 3 1 0),(4,.w (.c (.sl []))),(5,.w (.c (.own 5 (i+1)))),(6,.w (.c (iA mm))),(7,.w (.c (iA l.length))),(8,.w (.c (iA i)))]/\S=[(3,.box 1 (Fs c)),(5,.row 3 1 (i+1) (bB (yO l c i)))]) (n:=min (mm+1).toNat 500) ⟨0,aa,aa,rfl,rfl⟩ ?_
  rintro n V L S ⟨i,hi,rfl,rfl,rfl⟩
  have iq:(yO l c i).length=i:=by simp[yO]
  have Fp:i+1<=100000000:=aa;have dI:i<=1000000000:=aa;by_cases xc:(i:Int)<=mm
  ·by_cases Ft:(i:Int)<500
   ·have FF:=eL @xc @Ft @iq @Fp (bL dI) @aq.aL.qn.eq_1
    repeat first|refine aN (CC l (c.qn 1 i) hl) ?_|refine aO (CC l (c.qn 1 i) hl) ?_|refine aP (CC l (c.qn 1 i) hl) ?_|refine aj ?_
    exact⟨min (mm+1).toNat 500-(i+1),aa,i+1,aa,rfl,rfl,by rw[aoz];simp[bB,aq.aL.qn]⟩
   ·have FF:=jk @xc @Ft
    try refine aj ?_
    (try dsimp only[aM,aJ])
    exact bd (by simp;try rfl) (by rw[nN,show min (mm+1).toNat 500=i by omega];rfl)
  ·have FF:=@xc
   try refine aj ?_
   (try dsimp only[aM,aJ])
   exact bd (by simp;try rfl) (by rw[nN,show min (mm+1).toNat 500=i by omega];rfl)
end Ab
namespace Ab
open Go Go.RowKit
def abD:aF:=⟨0,[],[],[],aR,[],[]⟩
def abE:aI:=[(4,6,(.take 0 (.take 1 (.take 2 (.take 3 (.take 4 (.take 5 .nil)))))),[])]
noncomputable def aoB:aA:=aT Tryz.prog abD 20 abE (Tryz.f109.body.getD .skip)
theorem abF:aD Tryz.prog abD 20 abE (Tryz.f109.body.getD .skip)=some aoB:=aV rfl ah
def abG:aF:=⟨0,[6],[],[],aR,[],[]⟩
def abH:aI:=[(2,12,(.take 0 (.take 1 (.take 2 (.take 3 (.take 4 (.take 5 (.take 6 (.take 7 (.take 8 (.take 9 (.take 10 (.take 11 .nil)))))))))))),[])]
noncomputable def aoC:aA:=aT Tryz.prog abG 38 abH (Tryz.f110.body.getD .skip)
theorem abI:aD Tryz.prog abG 38 abH (Tryz.f110.body.getD .skip)=some aoC:=aV rfl ah
def abJ:aF:=⟨0,[],[],[],aR,[],[]⟩
def abK:aI:=[]
noncomputable def aoD:aA:=aT Tryz.prog abJ 14 abK (Tryz.f107.body.getD .skip)
theorem abL:aD Tryz.prog abJ 14 abK (Tryz.f107.body.getD .skip)=some aoD:=aV rfl ah
def abM:aF:=⟨0,[],[],[],aR,[],[]⟩
def abN:aI:=[]
noncomputable def aoE:aA:=aT Tryz.prog abM 17 abN (Tryz.f64.body.getD .skip)
theorem abO:aD Tryz.prog abM 17 abN (Tryz.f64.body.getD .skip)=some aoE:=aV rfl ah
def abP:aF:=⟨0,[5],[],[],aR,[],[]⟩
def abQ:aI:=[(5,6,(.take 0 (.take 1 (.take 2 (.take 3 (.take 4 (.take 5 .nil)))))),[])]
noncomputable def aoF:aA:=aT Tryz.prog abP 28 abQ (Tryz.f65.body.getD .skip)
theorem abR:aD Tryz.prog abP 28 abQ (Tryz.f65.body.getD .skip)=some aoF:=aV rfl ah
def abS:aF:=⟨0,[],[],[],aR,[],[]⟩
def abT:aI:=[(7,6,(.take 0 (.take 1 (.take 3 (.take 4 (.move 2 (.take 5 .nil)))))),[])]
noncomputable def aoG:aA:=aT Tryz.prog abS 34 abT (Tryz.f66.body.getD .skip)
theorem CO:aD Tryz.prog abS 34 abT (Tryz.f66.body.getD .skip)=some aoG:=aV rfl ah
def abU:aF:=⟨0,[5],[],[],aR,[],[]⟩
def abV:aI:=[]
noncomputable def aoH:aA:=aT Tryz.prog abU 29 abV (Tryz.f34.body.getD .skip)
theorem abW:aD Tryz.prog abU 29 abV (Tryz.f34.body.getD .skip)=some aoH:=aV rfl ah
def abX:aF:=⟨0,[],[],[],aR,[],[]⟩
def abY:aI:=[]
noncomputable def aoI:aA:=aT Tryz.prog abX 26 abY (Tryz.f32.body.getD .skip)
theorem abZ:aD Tryz.prog abX 26 abY (Tryz.f32.body.getD .skip)=some aoI:=aV rfl ah
def aca:aF:=⟨0,[6],[],[],aR,[],[]⟩
def acb:aI:=[(2,10,(.take 0 (.take 1 (.take 2 (.take 3 (.take 4 (.take 5 (.take 6 (.take 7 (.take 8 (.take 9 .nil)))))))))),[]),(4,10,(.take 0 (.take 1 (.take 2 (.take 3 (.take 4 (.take 5 (.take 6 (.take 7 (.take 8 (.take 9 .nil)))))))))),[])]
noncomputable def aoJ:aA:=aT Tryz.prog aca 49 acb (Tryz.f33.body.getD .skip)
theorem acd:aD Tryz.prog aca 49 acb (Tryz.f33.body.getD .skip)=some aoJ:=aV rfl ah
def ace:aF:=⟨0,[6],[],[],aR,[],[]⟩
def acf:aI:=[(2,30,(.take 0 (.take 1 (.take 2 (.take 3 (.take 4 (.take 5 (.take 6 (.take 7 (.take 8 (.take 9 (.take 10 (.take 11 (.take 12 (.take 13 (.take 14 (.take 15 (.take 16 (.take 17 (.take 18 (.take 19 (.take 20 (.take 21 (.take 22 (.take 23 (.take 24 (.take 25 (.take 26 (.take 27 (.take 28 (.take 29 .nil)))))))))))))))))))))))))))))),[]),(4,10,(.take 0 (.take 1 (.take 2 (.take 3 (.take 4 (.take 5 (.take 6 (.take 7 (.take 8 (.take 9 .nil)))))))))),[])]
noncomputable def aoK:aA:=aT Tryz.prog ace 70 acf (Tryz.f108.body.getD .skip)
theorem acg:aD Tryz.prog ace 70 acf (Tryz.f108.body.getD .skip)=some aoK:=aV rfl ah
end Ab
namespace Ab
open Go Go.RowKit
def ach:aF:=⟨0,[],[],[],aR,[],[]⟩
def aci:aI:=[(4,8,(.take 0 (.take 1 (.take 2 (.take 3 (.take 4 (.take 5 (.take 6 (.take 7 .nil)))))))),[]),(6,8,(.take 0 (.take 1 (.take 2 (.take 3 (.take 4 (.take 5 (.take 6 (.take 7 .nil)))))))),[])]
noncomputable def aoL:aA:=aT Tryz.prog ach 46 aci (Tryz.f103.body.getD .skip)
theorem acj:aD Tryz.prog ach 46 aci (Tryz.f103.body.getD .skip)=some aoL:=aV rfl ah
def ack:aF:=⟨0,[],[],[],aR,[],[]⟩
def acm:aI:=[]
noncomputable def aoM:aA:=aT Tryz.prog ack 17 acm (Tryz.f133.body.getD .skip)
theorem acn:aD Tryz.prog ack 17 acm (Tryz.f133.body.getD .skip)=some aoM:=aV rfl ah
def aco:aF:=⟨0,[9],[],[],aR,[],[]⟩
def acp:aI:=[(1,10,(.take 0 (.take 1 (.take 2 (.take 3 (.take 4 (.take 5 (.take 7 (.take 8 (.fork 6 9 (.move 9 .nil) (.move 6 .nil)))))))))),[9])]
noncomputable def aoN:aA:=aT Tryz.prog aco 14 acp (Tryz.f104.body.getD .skip)
theorem acq:aD Tryz.prog aco 14 acp (Tryz.f104.body.getD .skip)=some aoN:=aV rfl ah
def acr:aF:=⟨0,[],[],[],aR,[],[]⟩
def acs:aI:=[(1,3,(.take 0 (.take 2 (.move 1 .nil))),[])]
noncomputable def aoO:aA:=aT Tryz.prog acr 10 acs (Tryz.f139.body.getD .skip)
theorem acu:aD Tryz.prog acr 10 acs (Tryz.f139.body.getD .skip)=some aoO:=aV rfl ah
def acv:aF:=⟨0,[],[],[],aR,[],[]⟩
def acw:aI:=[(1,3,(.take 0 (.take 2 (.move 1 .nil))),[])]
noncomputable def aoP:aA:=aT Tryz.prog acv 10 acw (Tryz.f60.body.getD .skip)
theorem acx:aD Tryz.prog acv 10 acw (Tryz.f60.body.getD .skip)=some aoP:=aV rfl ah
end Ab
namespace Ab
open Go Go.RowKit
theorem acy (a b:List Int)(ha:a.length<=1000000):bt Tryz.prog 103 [.c (ints a),.c (ints b)] (fun x=>x=.w (.c (iA (aQ a b)))):=by
 refine bZ aG Tryz.func103 rfl acj [.t 4] ah _ rfl [4,5] [] ?_;refine bG acj ?_;dsimp only[V0,uV,S0];refine k_reg ?_
 (refine aZ (by simp;try rfl) ?_)
 refine bq (eX (k_reg ?_))
 (refine aZ (by simp;try rfl) ?_)
 refine bq (rj ?_)
 refine cF (fun n V S=>∃k:Nat,k<=a.length/\k<=b.length/\n=a.length-k/\aQ (a.drop k) (b.drop k)=aQ a b/\
  V=[(0,.w (.c (ints a))),(1,.w (.c (ints b))),(4,.w (.c (iA 0))),(5,.w (.c (iA k)))]/\S=[]) (n:=a.length) ⟨0,aa,aa,aa,rfl,rfl,rfl⟩ ?_
 rintro n V L S ⟨k,hka,Mk,rfl,gF,rfl,rfl⟩;by_cases h1:k<a.length
 ·by_cases h2:k<b.length
  ·have cg:k<=1000000000:=aa;rw[List.drop_eq_getElem_cons h1,List.drop_eq_getElem_cons h2] at gF
   obtain⟨x,hx⟩:∃x,a[k]=x:=⟨_,rfl⟩
   obtain⟨y,hy⟩:∃y,b[k]=y:=⟨_,rfl⟩
   rw[hx,hy] at gF;simp only[aQ] at gF;refine eX (k_reg ?_)
   iterate 10 (refine aZ (by simp[h1,h2];try rfl) ?_)
   refine bq (iR true ae (oN (rj ?_)));refine eX (sJ ?_);by_cases h3:x<y
   ·rw[if_pos h3] at gF
    iterate 8 (refine nK rfl (by simp[h1,h2,hx,hy];try rfl) ?_)
    refine pV ?_
    (refine aZ (by simp[h3];try rfl) ?_)
    refine bq (iR true ae ?_);refine eX (k_reg ?_)
    (refine aZ (by simp;try rfl) ?_)
    refine bq (ue ?_)
    (try dsimp only[aM,aJ])
    exact bd (by simp;try rfl) (by rw[<-gF];rfl)
   ·rw[if_neg h3] at gF
    iterate 8 (refine nK rfl (by simp[h1,h2,hx,hy];try rfl) ?_)
    refine pV ?_
    (refine aZ (by simp[h3];try rfl) ?_)
    refine bq (iR false ae (oN ?_));refine sJ ?_;by_cases h4:y<x
    ·rw[if_pos h4] at gF
     iterate 8 (refine nK rfl (by simp[h1,h2,hx,hy];try rfl) ?_)
     refine pV ?_
     (refine aZ (by simp[h4];try rfl) ?_)
     refine bq (yJ true ae ?_);refine k_reg ?_
     (refine aZ (by simp;try rfl) ?_)
     refine bq (kS ?_)
     (try dsimp only[aM,aJ])
     exact bd (by simp;try rfl) (by rw[<-gF];rfl)
    ·rw[if_neg h4] at gF
     iterate 8 (refine nK rfl (by simp[h1,h2,hx,hy];try rfl) ?_)
     refine pV ?_
     (refine aZ (by simp[h4];try rfl) ?_)
     refine bq (yJ false ae ?_)
     show aC _ _ _
     refine uc ?_
     (refine aZ (by simp;try rfl) ?_)
     (refine aZ (by simp[bL cg];try rfl) ?_)
     (refine aZ (by simp;try rfl) ?_)
     exact bq ⟨a.length-(k+1),aa,k+1,aa,aa,rfl,gF,rfl,rfl⟩
  ·refine eX (k_reg ?_)
   iterate 10 (refine aZ (by simp[h1,h2];try rfl) ?_)
   refine bq (iR false ae (wU ?_));have jE:k=b.length:=aa;have h5:¬a.length<b.length:=aa;have h6:b.length<a.length:=aa;rw[Um _ _ (.inr (by rw[jE];simp))] at gF;rw[if_neg (by simp;omega),if_pos (by simp;omega)] at gF
   show aC _ _ _
   refine eX (k_reg ?_)
   iterate 5 (refine aZ (by simp[h5];try rfl) ?_)
   refine bq (iR false ae (oN ?_));refine eX (k_reg ?_)
   iterate 5 (refine aZ (by simp[h6];try rfl) ?_)
   refine bq (iR true ae ?_);refine eX (k_reg ?_)
   (refine aZ (by simp;try rfl) ?_)
   refine bq (ue ?_)
   (try dsimp only[aM,aJ])
   exact bd (by simp;try rfl) (by rw[<-gF];rfl)
 ·refine eX (k_reg ?_)
  iterate 10 (refine aZ (by simp[h1];try rfl) ?_)
  refine bq (iR false ae (wU ?_));have jE:k=a.length:=aa;rw[Um _ _ (.inl (by rw[jE];simp))] at gF;simp only[lj] at gF
  show aC _ _ _
  by_cases h5:a.length<b.length
  ·rw[if_pos aa] at gF;refine eX (k_reg ?_)
   iterate 5 (refine aZ (by simp[h5];try rfl) ?_)
   refine bq (iR true ae ?_);refine eX (k_reg ?_)
   (refine aZ (by simp;try rfl) ?_)
   refine bq (ue ?_)
   (try dsimp only[aM,aJ])
   exact bd (by simp;try rfl) (by rw[<-gF];rfl)
  ·have h6:¬b.length<a.length:=aa;rw[if_neg aa,if_neg aa] at gF;refine eX (k_reg ?_)
   iterate 5 (refine aZ (by simp[h5];try rfl) ?_)
   refine bq (iR false ae (oN ?_));refine eX (k_reg ?_)
   iterate 5 (refine aZ (by simp[h6];try rfl) ?_)
   refine bq (iR false ae (oN ?_));refine k_reg ?_
   (refine aZ (by simp;try rfl) ?_)
   refine bq (kS ?_)
   (try dsimp only[aM,aJ])
   exact bd (by simp;try rfl) (by rw[<-gF];rfl)
theorem JN (a0 a1 a2 a3 a4:Int):bt Tryz.prog 133 [.agg [iA a0,iA a1,iA a2,iA a3,iA a4]] (fun x=>x=.w (.c (ints [a0,a1,a2,a3,a4]))):=by
 refine bZ aG Tryz.func133 rfl acn [.t 2] ah _ rfl [1,2] [1] ?_;refine bG acn ?_;dsimp only[V0,uV,S0];refine k_reg ?_
 iterate 2 (refine aZ (by simp;try rfl) ?_)
 refine bq (k_reg ?_)
 iterate 13 (refine aZ (by simp;try rfl) ?_)
 (refine aZ (by simp[cp,rowsOf,List.range,List.range.loop];try rfl) ?_)
 (refine aZ (by simp;try rfl) ?_)
 refine bq (kS ?_)
 (try dsimp only[aM,aJ])
 exact bd (by simp;try rfl) rfl
theorem aoQ (a0 a1 a2 a3 a4 b0 b1 b2 b3 b4:Int):bt Tryz.prog 139 [.agg [iA a0,iA a1,iA a2,iA a3,iA a4],.agg [iA b0,iA b1,iA b2,iA b3,iA b4]] (fun x=>x=.w (.c (iA (aQ [a0,a1,a2,a3,a4] [b0,b1,b2,b3,b4])))):=by
 refine bZ aG Tryz.func139 rfl acu [.t 4] ah _ rfl [2,3,4] [2,3] ?_;refine bG acu ?_;dsimp only[V0,uV,S0];refine k_reg ?_
 iterate 3 (refine aZ (by simp;try rfl) ?_)
 refine bq (sJ ?_)
 iterate 2 (refine nK rfl (by simp;try rfl) ?_)
 refine Al rfl (by simp;try rfl) (JN a0 a1 a2 a3 a4) ?_;refine pV ?_;refine yG (by simp;try rfl) (JN b0 b1 b2 b3 b4) ?_;refine yG (by simp;try rfl) (acy [a0,a1,a2,a3,a4] [b0,b1,b2,b3,b4] ae) ?_
 (refine aZ (by simp;try rfl) ?_)
 refine bq (kS ?_);exact bd (by simp;try rfl) rfl
theorem acz (a0 a1 a2 a3 a4 a5 a6 a7:Int):bt Tryz.prog 104 [.agg [iA a0,iA a1,iA a2,iA a3,iA a4,iA a5,iA a6,iA a7]] (fun x=>x=.w (.c (ints [a0,a1,a2,a3,a4,a5,a6,a7]))):=by
 refine bZ aG Tryz.func104 rfl acq [.t 2] ah _ rfl [1,2] [1,9] ?_;refine bG acq ?_;dsimp only[V0,uV,S0];refine k_reg ?_
 iterate 2 (refine aZ (by simp;try rfl) ?_)
 refine bq (sJ ?_)
 iterate 8 (refine nK rfl (by simp;try rfl) ?_)
 refine sK ?_ ?_
 ·(refine Ff rfl (by simp[cp,rowsOf,List.range,List.range.loop];try rfl) ?_)
  refine Al rfl (by simp;try rfl) (JN a3 a4 a5 a6 a7) ?_;refine pV ?_;refine yI rfl rfl rfl ae (by first|(simp;done)|(simp;omega)) rfl (by simp;try rfl) ?_
  (refine aZ (by simp;try rfl) ?_)
  refine bq (kS ?_);exact bd (by simp;try rfl) rfl
 ·refine Al rfl (by simp;try rfl) (JN a3 a4 a5 a6 a7) ?_
  (refine Ff rfl (by simp[cp,rowsOf,List.range,List.range.loop];try rfl) ?_)
  refine pV ?_;refine yI rfl rfl rfl ae (by first|(simp;done)|(simp;omega)) rfl (by simp;try rfl) ?_
  (refine aZ (by simp;try rfl) ?_)
  refine bq (kS ?_);exact bd (by simp;try rfl) rfl
theorem aoR (a0 a1 a2 a3 a4 a5 a6 a7 b0 b1 b2 b3 b4 b5 b6 b7:Int):bt Tryz.prog 60 [.agg [iA a0,iA a1,iA a2,iA a3,iA a4,iA a5,iA a6,iA a7],.agg [iA b0,iA b1,iA b2,iA b3,iA b4,iA b5,iA b6,iA b7]] (fun x=>x=.w (.c (iA (aQ [a0,a1,a2,a3,a4,a5,a6,a7] [b0,b1,b2,b3,b4,b5,b6,b7])))):=by
 refine bZ aG Tryz.func60 rfl acx [.t 4] ah _ rfl [2,3,4] [2,3] ?_;refine bG acx ?_;dsimp only[V0,uV,S0];refine k_reg ?_
 iterate 3 (refine aZ (by simp;try rfl) ?_)
 refine bq (sJ ?_)
 iterate 2 (refine nK rfl (by simp;try rfl) ?_)
 refine Al rfl (by simp;try rfl) (acz a0 a1 a2 a3 a4 a5 a6 a7) ?_;refine pV ?_;refine yG (by simp;try rfl) (acz b0 b1 b2 b3 b4 b5 b6 b7) ?_;refine yG (by simp;try rfl) (acy [a0,a1,a2,a3,a4,a5,a6,a7] [b0,b1,b2,b3,b4,b5,b6,b7] ae) ?_
 (refine aZ (by simp;try rfl) ?_)
 refine bq (kS ?_);exact bd (by simp;try rfl) rfl
end Ab
end Go.Proofs.YtlnghiefahcnpaaGreat
