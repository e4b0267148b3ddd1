import Derived.Test.YtngblilamkkikaaGreatDoorW5
set_option maxHeartbeats 40000000
set_option maxRecDepth 100000
set_option linter.all false
namespace Go.Proofs.YtngblilamkkikaaGreatDoor
namespace Ab
open Go Go.RowKit jc
attribute [local irreducible] aL bm aU
open aD (rV yn Am sZ bq nk mB fm eo wC pj qD jC yo)
theorem agw (l:List fm)(g:Nat)(hl:l.length<=1000000):gM Tryz.prog 252 [.w (.c (.own 300 g))] [(300,.row 327 5 g (l.map FC))] (fun x S'=>x=.w (.c (iA (mB l)))/\∀p∈[(300,Slot.row 327 5 g (l.map FC))],S' p.1=p.2):=by
 refine pK Tryz.func252 (aB 400 []) [] [.t 2] [2,3,4] [] ?_;have FF:=trivial
 try refine aJ ?_
 try clear FF
 refine dB (fun n V S=>∃k:Nat,k<=l.length/\n=l.length-k/\
  V=[(0,.w (.c (.own 300 g))),(2,.w (.c (iA 0))),(3,.w (.c (iA (mB (l.take k))))),(4,.w (.c (iA k)))]/\S=[(300,.row 327 5 g (l.map FC))]) (n:=l.length) ⟨0,ab,ab,rfl,rfl⟩ ?_
 rintro n V L S ⟨k,hk,rfl,rfl,rfl⟩;by_cases hlt:k<l.length
 ·have cL:k<=1000000000:=ab
  obtain⟨x,hx⟩:∃x,l[k]=x:=⟨_,rfl⟩
  have hs:mB (l.take (k+1))=mB (l.take k)+if x.kind=3 then 1 else 0:=by
   rw[<-hx];unfold mB;rw[List.take_succ_eq_append_getElem hlt,List.countP_append];simp[List.countP_cons]
  have hs9:mB (l.take k)<=1000000000:=bh (List.countP_le_length) bC;generalize mB (l.take k)=m at hs hs9⊢;by_cases he:x.kind=3
  ·rw[aj he] at hs;have FF:=jT @hlt @hx @he (bT cL) (bT hs9)
   try refine aJ ?_
   try clear FF
   exact⟨l.length-(k+1),ab,k+1,ab,ab,by rw[hs];rfl,rfl⟩
  ·rw[af he,uP] at hs;have FF:=fT @hlt @hx @he (bT cL)
   try refine aJ ?_
   try clear FF
   exact⟨l.length-(k+1),ab,k+1,ab,ab,by rw[hs];rfl,rfl⟩
 ·have kQ:k=l.length:=ab;have FF:=@hlt
  try refine aJ ?_
  try clear FF
  refine jL ?_;exact(by rw[kQ,fx];simp[dL])
abbrev xm (o:eo):List AC:=[ints o.vars,acts o.acts,iA o.steps,bA o.spent,ints o.covered,ints o.asked]
theorem Xz {n:Nat}(l:List Int)(x:Int)(h:l.length<=n):(nk l x).length<=n+1:=by
 unfold nk;split
 ·omega
 ·have:=aG List.length (Io (p:=fun y:Int=>decide (y<x)) (l:=l));rw[List.length_append] at this;simp only[List.length_append,List.length_cons];omega
structure agx (n0:Nat)(o:eo)(st:List Int):Prop where
 spent:o.spent=false
 st:st.length<=o.steps
 acts:o.acts.length<=o.steps
 asked:o.asked.length<=o.steps
 aE:o.covered.length<=o.steps
 vars:o.vars.length=n0
def agy (p:Prog)(handler:Int)(vars names answers:List Int)(o:eo)(n:Nat)(V:List (Nat×AV))(S:List (Nat×Slot)):Prop:=
 ∃(o':eo) (st:List Int) (pc:Int) (ga gs gq:Nat) (x14 x15 x16 x17 x51:AV) (s14:Slot),n=500-o'.steps/\o'.steps<=500/\agx vars.length o' st/\pj p names answers (500-o'.steps) o' st pc=some o/\
  V=[(0,.w (.agg (cz p))),(1,.w (.c (iA handler))),(2,.w (.c (ints vars))),(3,.w (.agg (nth names 9))),(4,.w (.c (ints answers))),(5,.pb 5 1 0),(8,.pb 8 1 0),(10,.pb 10 1 0),(11,.pb 11 1 0),(12,.w (.c (iA pc))),(13,.w (.c (.own 13 gs))),(14,x14),(15,x15),(16,x16),(17,x17),(18,.w (.c (.own 18 1))),(51,x51)]/\
  S=[(5,.box 1 (cz p)),(8,.box 1 (nth names 9)),(10,.box 1 [.sl [],.sl [],iA 0,bA false,.sl [],.sl []]),(11,.box 1 [.own 18 2,.own 300 ga,iA o'.steps,bA false,ints o'.covered,.own 301 gq]),(14,s14),(18,.row 3 1 2 (bL o'.vars)),(13,.row 3 1 gs (bL st.reverse)),(300,.row 327 5 ga (o'.acts.map FC)),(301,.row 3 1 gq (bL o'.asked))]
theorem JM (r:List Int)(h:r.length+1<=1000000000):∃l,(List.map (fun n=>[iA n]) r).reverse=l/\l.length=r.length/\bt .sub (.int .i64 ((r.length:Int)+1)) (.int .i64 1)=some (.int .i64 (r.length:Int))/\(r.length:Int)<(r.length:Int)+1/\(∀z:List AC,(l++[z])[r.length]? =some z)/\(∀z w:List AC,(l++[w]).set r.length z=l++[z])/\∀w:List AC,(l++[w]).take r.length=l:=by
 have cE:((List.map (fun n=>[iA n]) r).reverse).length=r.length:=ai;generalize(List.map (fun n=>[iA n]) r).reverse=l at*;exact⟨l,rfl,cE,by rw[AH ab ab];congr 2;omega,ab,fun z=>by rw[jz ab,cE];simp,fun z w=>by rw[Lm _ _ ab,cE];simp,fun w=>by rw[sU ab,lK ab]⟩
theorem agz (r:List Int)(h:r.length+2<=1000000000):∃l,(List.map (fun n=>[iA n]) r).reverse=l/\l.length=r.length/\bt .sub (.int .i64 ((r.length:Int)+2)) (.int .i64 2)=some (.int .i64 (r.length:Int))/\bt .sub (.int .i64 ((r.length:Int)+2)) (.int .i64 1)=some (.int .i64 ((r.length:Int)+1))/\((r.length:Int)+1).toNat=r.length+1/\(0:Int)<=(r.length:Int)+1/\(r.length:Int)<(r.length:Int)+2/\(r.length:Int)+1<(r.length:Int)+2/\(r.length:Int)+1<=(r.length:Int)+2/\(∀a b:List AC,(l++[a,b])[r.length]? =some a)/\(∀a b:List AC,(l++[a,b])[r.length+1]? =some b)/\(∀z a b:List AC,(l++[a,b]).set r.length z=l++[z,b])/\(∀a b:List AC,(l++[a,b]).take (r.length+1)=l++[a])/\∀a b:List AC,(l++[a,b]).take r.length=l:=by
 have cE:((List.map (fun n=>[iA n]) r).reverse).length=r.length:=ai;generalize(List.map (fun n=>[iA n]) r).reverse=l at*;exact⟨l,rfl,cE,by rw[AH ab ab];congr 2;omega,by rw[AH ab ab];congr 2;omega,ab,ab,ab,ab,ab,fun a b=>by rw[jz ab,cE];simp,fun a b=>by rw[jz ab,cE,show r.length+1-r.length=1 by omega];rfl,fun z a b=>by rw[Lm _ _ ab,cE];simp,fun a b=>by rw[List.take_append,lK ab,cE,show r.length+1-r.length=1 by omega];rfl,fun a b=>by rw[sU ab,lK ab]⟩
theorem atx (p:Prog)(handler:Nat)(vars names answers:List Int)(o:eo)(h:wC p handler vars names answers=some o)(hh:handler<40)(hn:names.length=9)(hv:vars.length<=1000000)(ha:answers.length<=1000000)(hc:p.code.length<=1000000):
  bu Tryz.prog 222 [.agg (cz p),.c (iA handler),.c (ints vars),.agg (nth names 9),.c (ints answers)] (fun x=>x=.w (.agg (xm o))):=by
 unfold wC at h;split at h
 ·cases h
 rename_i e he
 have qM:p.entry.getD handler 0=e:=by rw[ff,he];rfl
 have XX:=aru p hh;rw[qM] at XX;have hv8:vars.length<=100000000:=ab;have iE:(handler:Int)<40:=ab;have RJ:1+handler<=42:=ab;have agA:1+handler+1<=43:=ab;refine cD Tryz.func222 ⟨0,[18,13],[(252,[300])],[],dc,[(21,[1,5])],[(2,[(11,1,300,327,5),(11,5,301,3,1)])]⟩ [tz 21 9,tm 23 10,tm 38 15,tm 53 16,tm 62 13,tm 65 8] [.cell 10 6] [5,8,10,11,12,13,14,15,16,17,18,51] [5,8,10,11,14,18,13,300,301] ?_;by_cases pP:e<0
 ·rw[aj pP] at h;cases h;have FF:=kz @XX @hh @iE @RJ @agA @pP @hv8
  try refine aJ ?_
  try clear FF
  refine zE ?_;exact(rfl)
 ·rw[af pP] at h;have FF:=kz @XX @hh @iE @RJ @agA @pP @hv8
  try refine aJ ?_
  try clear FF
  refine dB (agy p handler vars names answers o) (n:=500) ⟨⟨vars,[],0,false,[],[]⟩,[],e,1,1,1,.u,.u,.u,.u,.u,.dead 0,rfl,ai,⟨rfl,ai,ai,ai,ai,rfl⟩,h,rfl,rfl⟩ ?_;rintro n V L S ⟨o',st,pc,ga,gs,gq,x14,x15,x16,x17,x51,s14,rfl,agB,hB,Bb,rfl,rfl⟩
  have fin:∀(o2:eo) (st2:List Int) (RL:Int) (ga gs gq:Nat) (x14 x15 x16 x17 x51:AV) (s14:Slot) (V:List (Nat×AV)) (S:List (Nat×Slot)),o'.steps<500->o2.steps=o'.steps+1->agx vars.length o2 st2->pj p names answers (500-o2.steps) o2 st2 RL=some o->
    V=[(0,.w (.agg (cz p))),(1,.w (.c (iA handler))),(2,.w (.c (ints vars))),(3,.w (.agg (nth names 9))),(4,.w (.c (ints answers))),(5,.pb 5 1 0),(8,.pb 8 1 0),(10,.pb 10 1 0),(11,.pb 11 1 0),(12,.w (.c (iA RL))),(13,.w (.c (.own 13 gs))),(14,x14),(15,x15),(16,x16),(17,x17),(18,.w (.c (.own 18 1))),(51,x51)]->
    S=[(5,.box 1 (cz p)),(8,.box 1 (nth names 9)),(10,.box 1 [.sl [],.sl [],iA 0,bA false,.sl [],.sl []]),(11,.box 1 [.own 18 2,.own 300 ga,iA o2.steps,bA false,ints o2.covered,.own 301 gq]),(14,s14),(18,.row 3 1 2 (bL o2.vars)),(13,.row 3 1 gs (bL st2.reverse)),(300,.row 327 5 ga (o2.acts.map FC)),(301,.row 3 1 gq (bL o2.asked))]->
    ∃m,m<500-o'.steps/\agy p handler vars names answers o m V S:=fun o2 st2 RL ga gs gq x14 x15 x16 x17 x51 s14 V S h0 h1 h2 h3 h4 h5=>
   ⟨500-o2.steps,ab,o2,st2,RL,ga,gs,gq,x14,x15,x16,x17,x51,s14,rfl,ab,h2,h3,h4,h5⟩
  obtain⟨vs,al,sp,spent,aE,asked⟩:=o';obtain⟨rfl,cC,cK,oK,FX,jt⟩:=hB;dsimp only at*;by_cases hlt:sp<500
  ·have hf:500-sp=(500-(sp+1))+1:=ab;have ik:(sp:Int)<500:=ab;have aty:sp<=1000000000:=ab;rw[hf] at Bb
   obtain⟨r,hr,hk⟩:∃r,qD p names answers ⟨vs,al,sp,false,aE,asked⟩ st pc=some r/\(match r with
     | .stop o=>some o
     | .go o st pc=>pj p names answers (500-(sp+1)) o st pc)=some o:=by
    unfold pj at Bb;split at Bb
    ·cases Bb
    ·rename_i r hr;exact⟨_,hr,Bb⟩
    ·rename_i r1 r2 r3 hr;exact⟨_,hr,Bb⟩
   clear Bb hf;unfold qD at hr;split at hr
   ·cases hr
   rename_i MJ
   obtain⟨m,rfl⟩:∃m:Nat,pc=m:=⟨pc.toNat,ab⟩
   rw[iZ] at hr;split at hr
   ·cases hr
   rename_i op nn hop;dsimp only at hr;obtain⟨hm,Az⟩:=bG.1 hop;have hm9:m<=1000000000:=ab;have jm:(nk aE m).length<=sp+1:=Xz aE m FX;have FF:=jT @ik @hm @Az (bT aty) (bT hm9);refine bU (apJ aE m ab) ?_
   try clear FF
   generalize nk aE (m:Int)=cv at*;clear hop Az hm;by_cases h1:op=1
   ·subst h1;unfold jC at hr;rw[aj aq] at hr;cases hr;have FF:=trivial
    try refine aJ ?_
    try clear FF
    exact fin ⟨vs,al,sp+1,false,cv,asked⟩ (nn::st) ((m:Int)+1) (ga) (gs+1) (gq) _ _ _ _ _ (.box (s14.gen+1) [iA 1,iA nn]) _ _ hlt rfl ⟨rfl,by dsimp only;simp only[List.length_cons] at*;omega,by dsimp only;omega,by dsimp only;omega,jm,jt⟩ hk rfl (by simp[bL])
   by_cases h2:op=2
   ·subst h2;unfold jC at hr;rw[af aq,aj aq] at hr;split at hr
    ·cases hr
    rename_i jH;rw[bK] at hr;obtain⟨v,hv',hr⟩:=hr;cases hr
    obtain⟨i,rfl⟩:∃i:Nat,nn=i:=⟨nn.toNat,ab⟩
    rw[iZ] at hv';obtain⟨hi,Rq⟩:=bG.1 hv';have FF:=lI @hi @Rq
    try refine aJ ?_
    try clear FF
    exact fin ⟨vs,al,sp+1,false,cv,asked⟩ (v::st) ((m:Int)+1) (ga) (gs+1) (gq) _ _ _ _ _ (.box (s14.gen+1) [iA 2,iA i]) _ _ hlt rfl ⟨rfl,by dsimp only;simp only[List.length_cons] at*;omega,by dsimp only;omega,by dsimp only;omega,jm,jt⟩ hk rfl (by simp[bL])
   by_cases h4:op=4
   ·subst h4;unfold jC at hr;rw[af aq,af aq,aj aq] at hr;split at hr
    ·cases hr
    rename_i jH;rw[bK] at hr;obtain⟨v,hv',hr⟩:=hr;cases hr
    obtain⟨i,rfl⟩:∃i:Nat,nn=i:=⟨nn.toNat,ab⟩
    rw[iZ] at hv';obtain⟨hi,Rq⟩:=bG.1 hv';have eE:(i:Int)<9:=ab;have MF:i<=8:=ab;have atz:i+1<=9:=ab;have agC:=Xg names 9 i ab
    have db:names.getD i 0=v:=by rw[ff,hv'];rfl
    rw[db] at agC;have FF:=fT @eE @MF @atz @agC
    try refine aJ ?_
    try clear FF
    exact fin ⟨vs,al,sp+1,false,cv,asked⟩ (v::st) ((m:Int)+1) (ga) (gs+1) (gq) _ _ _ _ _ (.box (s14.gen+1) [iA 4,iA i]) _ _ hlt rfl ⟨rfl,by dsimp only;simp only[List.length_cons] at*;omega,by dsimp only;omega,by dsimp only;omega,jm,jt⟩ hk rfl (by simp[bL])
   by_cases h3:op=3
   ·subst h3;unfold jC at hr;rw[af aq,af aq,af aq,aj aq] at hr
    cases st with
    |nil=>cases hr
    |cons x r=>
     simp only[cY,uM];obtain⟨l,hl,cE,ki,cq,hg,fq,cM⟩:=JM r (by simp only[List.length_cons] at cC;omega);rw[hl];have fD:((x::r).length:Int)=(r.length:Int)+1:=ai;rw[fD];dsimp only at hr;split at hr
     ·cases hr
     rename_i jH;cases hr
     obtain⟨i,rfl⟩:∃i:Nat,nn=i:=⟨nn.toNat,ab⟩
     have hi:i<vs.length:=ab;rw[iZ] at hk;by_cases hd:(i:Int)<p.cZ
     ·simp only[aj hd] at hk;have FF:=xZ @hd @hi @ki @cq @hg @fq @cM @cE
      try refine aJ ?_
      try clear FF
      subst hl;exact fin ⟨vs.set i x,al++[(⟨1,i,x,0,0⟩:fm)],sp+1,false,cv,asked⟩ r ((m:Int)+1) (ga+1) (gs+1) (gq) _ _ _ _ _ (.box (s14.gen+1) [iA 3,iA i]) _ _ hlt rfl ⟨rfl,by dsimp only;simp only[List.length_cons] at*;omega,by dsimp only;simp only[List.length_append,List.length_cons,List.length_nil];omega,by dsimp only;omega,jm,by dsimp only;rw[List.length_set];exact jt⟩ hk rfl (by simp[bL,List.map_set])
     ·simp only[af hd] at hk;have FF:=xZ @hd @hi @ki @cq @hg @fq @cM @cE
      try refine aJ ?_
      try clear FF
      subst hl;exact fin ⟨vs.set i x,al,sp+1,false,cv,asked⟩ r ((m:Int)+1) (ga) (gs+1) (gq) _ _ _ _ _ (.box (s14.gen+1) [iA 3,iA i]) _ _ hlt rfl ⟨rfl,by dsimp only;simp only[List.length_cons] at*;omega,by dsimp only;omega,by dsimp only;omega,jm,by dsimp only;rw[List.length_set];exact jt⟩ hk rfl (by simp[bL,List.map_set])
   by_cases h5:op=5
   ·subst h5;unfold jC at hr;rw[af aq,af aq,af aq,af aq,aj aq] at hr
    cases st with
    |nil=>cases hr
    |cons x r=>
     simp only[cY,uM];obtain⟨l,hl,cE,ki,cq,hg,fq,cM⟩:=JM r (by simp only[List.length_cons] at cC;omega);rw[hl];have fD:((x::r).length:Int)=(r.length:Int)+1:=ai;rw[fD];dsimp only at hr;split at hr
     ·rename_i Dl;cases hr;have atA:2<=max 1 (min x 4)/\max 1 (min x 4)<=4:=ab;have FF:=kz @Dl @ki @cq @hg @fq @cM @cE;refine bU (apI answers asked.length (max 1 (min x 4)) atA ab ha) ?_
      try clear FF
      subst hl;exact fin ⟨vs,al,sp+1,false,cv,asked++[max 1 (min x 4)]⟩ (sZ answers asked.length (max 1 (min x 4))::r) ((m:Int)+1) (ga) (gs) (gq+1) _ _ _ _ _ (.box (s14.gen+1) [iA 5,iA nn]) _ _ hlt rfl ⟨rfl,by dsimp only;simp only[List.length_cons] at*;omega,by dsimp only;omega,by dsimp only;simp only[List.length_append,List.length_cons,List.length_nil];omega,jm,jt⟩ hk rfl (by simp[bL])
     ·rename_i Dl;cases hr;have FF:=kz @Dl @ki @cq @hg @fq @cM @cE
      try refine aJ ?_
      try clear FF
      subst hl;exact fin ⟨vs,al,sp+1,false,cv,asked⟩ (0::r) ((m:Int)+1) (ga) (gs) (gq) _ _ _ _ _ (.box (s14.gen+1) [iA 5,iA nn]) _ _ hlt rfl ⟨rfl,by dsimp only;simp only[List.length_cons] at*;omega,by dsimp only;omega,by dsimp only;omega,jm,jt⟩ hk rfl (by simp[bL])
   by_cases h6:op=6\/op=7\/op=8\/op=9\/op=11\/op=12\/op=13
   ·have UW:=fun(x y:Int) (hx:bq x=true) (hy:bq y=true)=>apH op y x h6 hy hx
    obtain⟨q,hq⟩:∃q:Int,q=op:=⟨_,rfl⟩
    rcases h6 with rfl|rfl|rfl|rfl|rfl|rfl|rfl
    all_goals
     unfold jC at hr;rw[af aq,af aq,af aq,af aq,af aq,aj aq] at hr
     cases st with
     |nil=>cases hr
     |cons x r'=>cases r' with
      |nil=>cases hr
      |cons y r=>
       simp only[cY,uM,List.append_assoc,List.cons_append,List.nil_append]
       have hbr:r.length+2<=sp:=by simp only[List.length_cons] at cC;omega
       obtain⟨l,hl,cE,Dm,Dn,hT,h01,se,cq,XY,zh,kj,XZ,Ya,Dp⟩:=agz r ab;rw[hl];have fD:((x::y::r).length:Int)=(r.length:Int)+2:=bC;rw[fD];dsimp only at hr;split at hr
       case isFalse=>cases hr
       rename_i dF;cases hr;rw[bO] at dF;have FF:=UD @Dm @Dn @hT @h01 @se @cq @XY @zh @kj @XZ @Ya @Dp @cE;refine bU (UW x y dF.1 dF.2) ?_
       try clear FF
       subst hl;exact fin ⟨vs,al,sp+1,false,cv,asked⟩ (Am q y x::r) ((m:Int)+1) (ga) (gs+1) (gq) _ _ _ _ _ (.box (s14.gen+1) [iA q,iA nn]) _ _ hlt rfl ⟨rfl,by dsimp only;simp only[List.length_cons] at*;omega,by dsimp only;omega,by dsimp only;omega,jm,jt⟩ (by rw[hq];exact hk) rfl (by simp[bL,hq])
   by_cases h10:op=10
   ·subst h10;unfold jC at hr;rw[af aq,af aq,af aq,af aq,af aq,af aq,aj aq] at hr
    cases st with
    |nil=>cases hr
    |cons x r=>
     simp only[cY,uM];obtain⟨l,hl,cE,ki,cq,hg,fq,cM⟩:=JM r (by simp only[List.length_cons] at cC;omega);rw[hl];have fD:((x::r).length:Int)=(r.length:Int)+1:=ai;rw[fD];dsimp only at hr;split at hr
     case isFalse=>cases hr
     rename_i dF;cases hr
     have aDn: -2147483647<=x/\x<=2147483647:=by simpa [bq] using dF
     have pP:=adJ (a:=x) ab ab;have FF:=kz @pP @ki @cq @hg @fq @cM @cE
     try refine aJ ?_
     try clear FF
     subst hl;exact fin ⟨vs,al,sp+1,false,cv,asked⟩ (-x::r) ((m:Int)+1) (ga) (gs) (gq) _ _ _ _ _ (.box (s14.gen+1) [iA 10,iA nn]) _ _ hlt rfl ⟨rfl,by dsimp only;simp only[List.length_cons] at*;omega,by dsimp only;omega,by dsimp only;omega,jm,jt⟩ hk rfl (by simp[bL])
   by_cases h14:op=14
   ·subst h14;unfold jC at hr;rw[af aq,af aq,af aq,af aq,af aq,af aq,af aq,aj aq] at hr
    cases st with
    |nil=>cases hr
    |cons x r=>
     simp only[cY,uM];obtain⟨l,hl,cE,ki,cq,hg,fq,cM⟩:=JM r (by simp only[List.length_cons] at cC;omega);rw[hl];have fD:((x::r).length:Int)=(r.length:Int)+1:=ai;rw[fD];cases hr;have FF:=gA @ki @cq @hg @fq @cM @cE;refine bU (QF (decide (x=0))) ?_
     try clear FF
     subst hl;exact fin ⟨vs,al,sp+1,false,cv,asked⟩ (yn (decide (x=0))::r) ((m:Int)+1) (ga) (gs) (gq) _ _ _ _ _ (.box (s14.gen+1) [iA 14,iA nn]) _ _ hlt rfl ⟨rfl,by dsimp only;simp only[List.length_cons] at*;omega,by dsimp only;omega,by dsimp only;omega,jm,jt⟩ hk rfl (by simp[bL])
   by_cases h15:op=15
   ·subst h15;unfold jC at hr;rw[af aq,af aq,af aq,af aq,af aq,af aq,af aq,af aq,aj aq] at hr;cases hr;have FF:=trivial
    try refine aJ ?_
    try clear FF
    exact fin ⟨vs,al,sp+1,false,cv,asked⟩ st nn (ga) (gs) (gq) _ _ _ _ _ (.box (s14.gen+1) [iA 15,iA nn]) _ _ hlt rfl ⟨rfl,by dsimp only;simp only[List.length_cons] at*;omega,by dsimp only;omega,by dsimp only;omega,jm,jt⟩ hk rfl (by simp[bL])
   by_cases h16:op=16
   ·subst h16;unfold jC at hr;rw[af aq,af aq,af aq,af aq,af aq,af aq,af aq,af aq,af aq,aj aq] at hr
    cases st with
    |nil=>cases hr
    |cons x r=>
     simp only[cY,uM];obtain⟨l,hl,cE,ki,cq,hg,fq,cM⟩:=JM r (by simp only[List.length_cons] at cC;omega);rw[hl];have fD:((x::r).length:Int)=(r.length:Int)+1:=ai;rw[fD];cases hr;by_cases hx:x=0
     ·simp only[aj hx] at hk;have FF:=kz @hx @ki @cq @hg @fq @cM @cE
      try refine aJ ?_
      try clear FF
      subst hl;exact fin ⟨vs,al,sp+1,false,cv,asked⟩ r nn (ga) (gs+1) (gq) _ _ _ _ _ (.box (s14.gen+1) [iA 16,iA nn]) _ _ hlt rfl ⟨rfl,by dsimp only;simp only[List.length_cons] at*;omega,by dsimp only;omega,by dsimp only;omega,jm,jt⟩ hk rfl (by simp[bL])
     ·simp only[af hx] at hk;have FF:=kz @hx @ki @cq @hg @fq @cM @cE
      try refine aJ ?_
      try clear FF
      subst hl;exact fin ⟨vs,al,sp+1,false,cv,asked⟩ r ((m:Int)+1) (ga) (gs+1) (gq) _ _ _ _ _ (.box (s14.gen+1) [iA 16,iA nn]) _ _ hlt rfl ⟨rfl,by dsimp only;simp only[List.length_cons] at*;omega,by dsimp only;omega,by dsimp only;omega,jm,jt⟩ hk rfl (by simp[bL])
   by_cases h17:op=17
   ·subst h17;unfold jC at hr;rw[af aq,af aq,af aq,af aq,af aq,af aq,af aq,af aq,af aq,af aq,aj aq] at hr
    cases st with
    |nil=>cases hr
    |cons x r'=>cases r' with
     |nil=>cases hr
     |cons y r''=>cases r'' with
      |nil=>cases hr
      |cons t r=>
       simp only[cY,uM,List.append_assoc,List.cons_append,List.nil_append]
       obtain⟨l,hl⟩:∃l,(List.map (fun n=>[iA n]) r).reverse=l:=⟨_,rfl⟩
       rw[hl]
       have cE:l.length=r.length:=by rw[<-hl];simp
       have fD:((x::y::t::r).length:Int)=(r.length:Int)+3:=bC;rw[fD]
       have hbr:r.length+3<=sp:=by simp only[List.length_cons] at cC;omega
       have RM:bt .sub (.int .i64 ((r.length:Int)+3)) (.int .i64 3)=some (.int .i64 (r.length:Int)):=by rw[AH ab ab];congr 2;omega
       have Dm:bt .sub (.int .i64 ((r.length:Int)+3)) (.int .i64 2)=some (.int .i64 ((r.length:Int)+1)):=by rw[AH ab ab];congr 2;omega
       have Dn:bt .sub (.int .i64 ((r.length:Int)+3)) (.int .i64 1)=some (.int .i64 ((r.length:Int)+2)):=by rw[AH ab ab];congr 2;omega
       have Dq:((r.length:Int)+1).toNat=r.length+1:=ab;have gX:((r.length:Int)+2).toNat=r.length+2:=ab;have h01:(0:Int)<=(r.length:Int)+1:=ab;have h02:(0:Int)<=(r.length:Int)+2:=ab;have se:(r.length:Int)<(r.length:Int)+3:=ab;have cq:(r.length:Int)+1<(r.length:Int)+3:=ab;have jY:(r.length:Int)+2<(r.length:Int)+3:=ab
       have zh:∀a b c:List AC,(l++[a,b,c])[r.length]? =some a:=fun a b c=>by rw[jz ab,cE];simp
       have kj:∀a b c:List AC,(l++[a,b,c])[r.length+1]? =some b:=fun a b c=>by rw[jz ab,cE,show r.length+1-r.length=1 by omega];rfl
       have kS:∀a b c:List AC,(l++[a,b,c])[r.length+2]? =some c:=fun a b c=>by rw[jz ab,cE,show r.length+2-r.length=2 by omega];rfl
       have Dp:∀a b c:List AC,(l++[a,b,c]).take r.length=l:=fun a b c=>by rw[sU ab,lK ab]
       have JN:=Xg names 9 1 ab;rw[List.drop_one] at JN;have Dr:mB al<=al.length:=List.countP_le_length;cases hr
       obtain⟨N1,hN1⟩:∃N1,names.getD 1 0=N1:=⟨_,rfl⟩
       rw[hN1] at JN;simp only[hN1] at hk;by_cases tY:0<=t
       ·by_cases MV:t<N1
        ·by_cases ht2:mB al<20
         ·have Yb:(mB al:Int)<20:=ab;simp only[aj (show 0<=t/\t<N1/\mB al<20 from⟨tY,MV,ht2⟩)] at hk;have FF:=UF @tY @MV @Yb @RM @Dm @Dn @Dq @gX @h01 @h02 @se @cq @jY @zh @kj @kS @Dp @cE @JN;refine bU (agw al ga ab) ?_
          try clear FF
          subst hl;exact fin ⟨vs,al++[(⟨3,t,nn,y,x⟩:fm)],sp+1,false,cv,asked⟩ r ((m:Int)+1) (ga+1) (gs+1) (gq) _ _ _ _ _ (.box (s14.gen+1) [iA 17,iA nn]) _ _ hlt rfl ⟨rfl,by dsimp only;simp only[List.length_cons] at*;omega,by dsimp only;simp only[List.length_append,List.length_cons,List.length_nil];omega,by dsimp only;omega,jm,jt⟩ hk rfl (by simp[bL])
         ·have Yb:¬(mB al:Int)<20:=ab;simp only[af (show¬(0<=t/\t<N1/\mB al<20) from fun hh=>ht2 hh.2.2)] at hk;have FF:=UF @tY @MV @Yb @RM @Dm @Dn @Dq @gX @h01 @h02 @se @cq @jY @zh @kj @kS @Dp @cE @JN;refine bU (agw al ga ab) ?_
          try clear FF
          subst hl;exact fin ⟨vs,al,sp+1,false,cv,asked⟩ r ((m:Int)+1) (ga) (gs+1) (gq) _ _ _ _ _ (.box (s14.gen+1) [iA 17,iA nn]) _ _ hlt rfl ⟨rfl,by dsimp only;simp only[List.length_cons] at*;omega,by dsimp only;omega,by dsimp only;omega,jm,jt⟩ hk rfl (by simp[bL])
        ·simp only[af (show¬(0<=t/\t<N1/\mB al<20) from fun hh=>MV hh.2.1)] at hk;have FF:=amu @tY @MV @RM @Dm @Dn @Dq @gX @h01 @h02 @se @cq @jY @zh @kj @kS @Dp @cE @JN
         try refine aJ ?_
         try clear FF
         subst hl;exact fin ⟨vs,al,sp+1,false,cv,asked⟩ r ((m:Int)+1) (ga) (gs+1) (gq) _ _ _ _ _ (.box (s14.gen+1) [iA 17,iA nn]) _ _ hlt rfl ⟨rfl,by dsimp only;simp only[List.length_cons] at*;omega,by dsimp only;omega,by dsimp only;omega,jm,jt⟩ hk rfl (by simp[bL])
       ·simp only[af (show¬(0<=t/\t<N1/\mB al<20) from fun hh=>tY hh.1)] at hk;have FF:=abQ @tY @RM @Dm @Dn @Dq @gX @h01 @h02 @se @cq @jY @zh @kj @kS @Dp @cE @JN
        try refine aJ ?_
        try clear FF
        subst hl;exact fin ⟨vs,al,sp+1,false,cv,asked⟩ r ((m:Int)+1) (ga) (gs+1) (gq) _ _ _ _ _ (.box (s14.gen+1) [iA 17,iA nn]) _ _ hlt rfl ⟨rfl,by dsimp only;simp only[List.length_cons] at*;omega,by dsimp only;omega,by dsimp only;omega,jm,jt⟩ hk rfl (by simp[bL])
   by_cases h18:op=18
   ·subst h18;unfold jC at hr;rw[af aq,af aq,af aq,af aq,af aq,af aq,af aq,af aq,af aq,af aq,af aq,aj aq] at hr;cases hr;have FF:=trivial
    try refine aJ ?_
    try clear FF
    exact fin ⟨vs,al++[(⟨4,nn,0,0,0⟩:fm)],sp+1,false,cv,asked⟩ st ((m:Int)+1) (ga+1) (gs) (gq) _ _ _ _ _ (.box (s14.gen+1) [iA 18,iA nn]) _ _ hlt rfl ⟨rfl,by dsimp only;simp only[List.length_cons] at*;omega,by dsimp only;simp only[List.length_append,List.length_cons,List.length_nil];omega,by dsimp only;omega,jm,jt⟩ hk rfl (by simp[bL])
   by_cases h19:op=19
   ·subst h19;unfold jC at hr;rw[af aq,af aq,af aq,af aq,af aq,af aq,af aq,af aq,af aq,af aq,af aq,af aq,aj aq] at hr;cases hr;have FF:=trivial
    try refine aJ ?_
    try clear FF
    exact fin ⟨vs,al++[(⟨5,nn,0,0,0⟩:fm)],sp+1,false,cv,asked⟩ st ((m:Int)+1) (ga+1) (gs) (gq) _ _ _ _ _ (.box (s14.gen+1) [iA 19,iA nn]) _ _ hlt rfl ⟨rfl,by dsimp only;simp only[List.length_cons] at*;omega,by dsimp only;simp only[List.length_append,List.length_cons,List.length_nil];omega,by dsimp only;omega,jm,jt⟩ hk rfl (by simp[bL])
   by_cases h20:op=20
   ·subst h20;unfold jC at hr;rw[af aq,af aq,af aq,af aq,af aq,af aq,af aq,af aq,af aq,af aq,af aq,af aq,af aq,aj aq] at hr;cases hr;have FF:=trivial
    try refine aJ ?_
    try clear FF
    exact fin ⟨vs,al++[(⟨2,0,0,0,0⟩:fm)],sp+1,false,cv,asked⟩ st ((m:Int)+1) (ga+1) (gs) (gq) _ _ _ _ _ (.box (s14.gen+1) [iA 20,iA nn]) _ _ hlt rfl ⟨rfl,by dsimp only;simp only[List.length_cons] at*;omega,by dsimp only;simp only[List.length_append,List.length_cons,List.length_nil];omega,by dsimp only;omega,jm,jt⟩ hk rfl (by simp[bL])
   by_cases h21:op=21
   ·subst h21;unfold jC at hr;rw[af aq,af aq,af aq,af aq,af aq,af aq,af aq,af aq,af aq,af aq,af aq,af aq,af aq,af aq,aj aq] at hr
    cases st with
    |nil=>cases hr
    |cons x r'=>cases r' with
     |nil=>cases hr
     |cons y r=>
      simp only[cY,uM,List.append_assoc,List.cons_append,List.nil_append]
      have hbr:r.length+2<=sp:=by simp only[List.length_cons] at cC;omega
      obtain⟨l,hl,cE,Dm,Dn,hT,h01,se,cq,XY,zh,kj,XZ,Ya,Dp⟩:=agz r ab;rw[hl];have fD:((x::y::r).length:Int)=(r.length:Int)+2:=bC;rw[fD];cases hr;have FF:=UD @Dm @Dn @hT @h01 @se @cq @XY @zh @kj @XZ @Ya @Dp @cE
      try refine aJ ?_
      try clear FF
      subst hl;exact fin ⟨vs,al++[(⟨6,y,x,0,0⟩:fm)],sp+1,false,cv,asked⟩ r ((m:Int)+1) (ga+1) (gs+1) (gq) _ _ _ _ _ (.box (s14.gen+1) [iA 21,iA nn]) _ _ hlt rfl ⟨rfl,by dsimp only;simp only[List.length_cons] at*;omega,by dsimp only;simp only[List.length_append,List.length_cons,List.length_nil];omega,by dsimp only;omega,jm,jt⟩ hk rfl (by simp[bL])
   by_cases h22:op=22
   ·subst h22;unfold jC at hr;rw[af aq,af aq,af aq,af aq,af aq,af aq,af aq,af aq,af aq,af aq,af aq,af aq,af aq,af aq,af aq,aj aq] at hr
    cases st with
    |nil=>cases hr
    |cons x r=>
     simp only[cY,uM];obtain⟨l,hl,cE,ki,cq,hg,fq,cM⟩:=JM r (by simp only[List.length_cons] at cC;omega);rw[hl];have fD:((x::r).length:Int)=(r.length:Int)+1:=ai;rw[fD];cases hr;have FF:=gA @ki @cq @hg @fq @cM @cE
     try refine aJ ?_
     try clear FF
     subst hl;exact fin ⟨vs,al++[(⟨7,x,0,0,0⟩:fm)],sp+1,false,cv,asked⟩ r ((m:Int)+1) (ga+1) (gs+1) (gq) _ _ _ _ _ (.box (s14.gen+1) [iA 22,iA nn]) _ _ hlt rfl ⟨rfl,by dsimp only;simp only[List.length_cons] at*;omega,by dsimp only;simp only[List.length_append,List.length_cons,List.length_nil];omega,by dsimp only;omega,jm,jt⟩ hk rfl (by simp[bL])
   have h6a:¬op=6:=fun e=>h6 (.inl e)
   have h7:¬op=7:=fun e=>h6 (by simp[e])
   have h8:¬op=8:=fun e=>h6 (by simp[e])
   have h9:¬op=9:=fun e=>h6 (by simp[e])
   have h11:¬op=11:=fun e=>h6 (by simp[e])
   have h12:¬op=12:=fun e=>h6 (by simp[e])
   have h13:¬op=13:=fun e=>h6 (by simp[e])
   unfold jC at hr;rw[af h1,af h2,af h4,af h3,af h5,af ab,af h10,af h14,af h15,af h16,af h17,af h18,af h19,af h20,af h21,af h22] at hr;cases hr;change some _=some o at hk;cases hk;have FF:=abS @h1 @h2 @h3 @h4 @h5 @h6a @h7 @h8 @h9 @h10 @h11 @h12 @h13 @h14 @h15 @h16 @h17 @h18 @h19 @h20 @h21 @h22
   try refine aJ ?_
   try clear FF
   refine zE ?_;exact(rfl)
  ·have hsp:sp=500:=ab;subst hsp;change some _=some o at Bb;cases Bb;have FF:=trivial
   try refine aJ ?_
   try clear FF
   refine zE ?_;exact(rfl)
end Ab
end Go.Proofs.YtngblilamkkikaaGreatDoor
