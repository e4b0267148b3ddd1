import Derived.Test.YtkanpepkdcmpmaaGreatDoorW21
set_option maxHeartbeats 40000000
set_option maxRecDepth 100000
set_option linter.all false
namespace Go.Proofs.YtkanpepkdcmpmaaGreatDoor
namespace Ab
open Go Go.RowKit mQ
attribute [local irreducible] aP bB aW
open aD (tH zV Ca uO bD ot nH gA eW yj qE sj kE zW)
theorem aiY (l:List gA)(g:Nat)(hl:l.length<=1000000):iK Tryz.prog 282 [.w (.c (.own 300 g))] [(300,.row 348 5 g (l.map Ih))] (fun x S'=>x=.w (.c (iA (nH l)))/\∀p∈[(300,Slot.row 348 5 g (l.map Ih))],S' p.1=p.2):=by
 refine rh Tryz.func282 (aB 400 []) [] [.t 2] [2,3,4] [] ?_;have FF:=trivial
 try refine aG ?_
 try clear FF
 refine dA (fun n V S=>∃k:Nat,k<=l.length/\n=l.length-k/\
  V=[(0,.w (.c (.own 300 g))),(2,.w (.c (iA 0))),(3,.w (.c (iA (nH (l.take k))))),(4,.w (.c (iA k)))]/\S=[(300,.row 348 5 g (l.map Ih))]) (n:=l.length) ⟨0,ab,ab,rfl,rfl⟩ ?_
 rintro n V L S ⟨k,hk,rfl,rfl,rfl⟩;by_cases hlt:k<l.length
 ·have cF:k<=1000000000:=ab
  obtain⟨x,hx⟩:∃x,l[k]=x:=⟨_,rfl⟩
  have hs:nH (l.take (k+1))=nH (l.take k)+if x.kind=3 then 1 else 0:=by
   rw[<-hx];unfold nH;rw[List.take_succ_eq_append_getElem hlt,List.countP_append];simp[List.countP_cons]
  have hs9:nH (l.take k)<=1000000000:=bm (List.countP_le_length) bz;generalize nH (l.take k)=m at hs hs9⊢;by_cases he:x.kind=3
  ·rw[aj he] at hs;have FF:=iF @hlt @hx @he (bT cF) (bT hs9)
   try refine aG ?_
   try clear FF
   exact⟨l.length-(k+1),ab,k+1,ab,ab,by rw[hs];rfl,rfl⟩
  ·rw[af he,qA] at hs;have FF:=fg @hlt @hx @he (bT cF)
   try refine aG ?_
   try clear FF
   exact⟨l.length-(k+1),ab,k+1,ab,ab,by rw[hs];rfl,rfl⟩
 ·have kM:k=l.length:=ab;have FF:=@hlt
  try refine aG ?_
  try clear FF
  refine kL ?_;exact(by rw[kM,fT];simp[ek])
abbrev zk (o:eW):List AC:=[ints o.vars,acts o.acts,iA o.steps,bA o.spent,ints o.covered,ints o.asked]
theorem YN {n:Nat}(l:List Int)(x:Int)(h:l.length<=n):(ot l x).length<=n+1:=by
 unfold ot;split
 ·omega
 ·have:=aF List.length (Kd (p:=fun y:Int=>decide (y<x)) (l:=l));rw[List.length_append] at this;simp only[List.length_append,List.length_cons];omega
structure aiZ (n0:Nat)(o:eW)(st:List Int):Prop where
 spent:o.spent=false
 st:st.length<=o.steps
 acts:o.acts.length<=o.steps
 asked:o.asked.length<=o.steps
 aE:o.covered.length<=o.steps
 vars:o.vars.length=n0
def aja (p:Prog)(handler:Int)(vars names answers:List Int)(o:eW)(n:Nat)(V:List (Nat×AV))(S:List (Nat×Slot)):Prop:=
 ∃(o':eW) (st:List Int) (pc:Int) (ga gs gq:Nat) (x14 x15 x16 x17 x51:AV) (s14:Slot),n=500-o'.steps/\o'.steps<=500/\aiZ vars.length o' st/\qE p names answers (500-o'.steps) o' st pc=some o/\
  V=[(0,.w (.agg (cM p))),(1,.w (.c (iA handler))),(2,.w (.c (ints vars))),(3,.w (.agg (nth names 9))),(4,.w (.c (ints answers))),(5,.pb 5 1 0),(8,.pb 8 1 0),(10,.pb 10 1 0),(11,.pb 11 1 0),(12,.w (.c (iA pc))),(13,.w (.c (.own 13 gs))),(14,x14),(15,x15),(16,x16),(17,x17),(18,.w (.c (.own 18 1))),(51,x51)]/\
  S=[(5,.box 1 (cM p)),(8,.box 1 (nth names 9)),(10,.box 1 [.sl [],.sl [],iA 0,bA false,.sl [],.sl []]),(11,.box 1 [.own 18 2,.own 300 ga,iA o'.steps,bA false,ints o'.covered,.own 301 gq]),(14,s14),(18,.row 3 1 2 (bM o'.vars)),(13,.row 3 1 gs (bM st.reverse)),(300,.row 348 5 ga (o'.acts.map Ih)),(301,.row 3 1 gq (bM o'.asked))]
theorem Ma (r:List Int)(h:r.length+1<=1000000000):∃l,(List.map (fun n=>[iA n]) r).reverse=l/\l.length=r.length/\aZ .sub (.int .i64 ((r.length:Int)+1)) (.int .i64 1)=some (.int .i64 (r.length:Int))/\(r.length:Int)<(r.length:Int)+1/\(∀z:List AC,(l++[z])[r.length]? =some z)/\(∀z w:List AC,(l++[w]).set r.length z=l++[z])/\∀w:List AC,(l++[w]).take r.length=l:=by
 have cT:((List.map (fun n=>[iA n]) r).reverse).length=r.length:=ai;generalize(List.map (fun n=>[iA n]) r).reverse=l at*;exact⟨l,rfl,cT,by rw[Ct ab ab];congr 2;omega,ab,fun z=>by rw[jc ab,cT];simp,fun z w=>by rw[Ni _ _ ab,cT];simp,fun w=>by rw[uF ab,nB ab]⟩
theorem ajb (r:List Int)(h:r.length+2<=1000000000):∃l,(List.map (fun n=>[iA n]) r).reverse=l/\l.length=r.length/\aZ .sub (.int .i64 ((r.length:Int)+2)) (.int .i64 2)=some (.int .i64 (r.length:Int))/\aZ .sub (.int .i64 ((r.length:Int)+2)) (.int .i64 1)=some (.int .i64 ((r.length:Int)+1))/\((r.length:Int)+1).toNat=r.length+1/\(0:Int)<=(r.length:Int)+1/\(r.length:Int)<(r.length:Int)+2/\(r.length:Int)+1<(r.length:Int)+2/\(r.length:Int)+1<=(r.length:Int)+2/\(∀a b:List AC,(l++[a,b])[r.length]? =some a)/\(∀a b:List AC,(l++[a,b])[r.length+1]? =some b)/\(∀z a b:List AC,(l++[a,b]).set r.length z=l++[z,b])/\(∀a b:List AC,(l++[a,b]).take (r.length+1)=l++[a])/\∀a b:List AC,(l++[a,b]).take r.length=l:=by
 have cT:((List.map (fun n=>[iA n]) r).reverse).length=r.length:=ai;generalize(List.map (fun n=>[iA n]) r).reverse=l at*;exact⟨l,rfl,cT,by rw[Ct ab ab];congr 2;omega,by rw[Ct ab ab];congr 2;omega,ab,ab,ab,ab,ab,fun a b=>by rw[jc ab,cT];simp,fun a b=>by rw[jc ab,cT,show r.length+1-r.length=1 by omega];rfl,fun z a b=>by rw[Ni _ _ ab,cT];simp,fun a b=>by rw[List.take_append,nB ab,cT,show r.length+1-r.length=1 by omega];rfl,fun a b=>by rw[uF ab,nB ab]⟩
theorem axV (p:Prog)(handler:Nat)(vars names answers:List Int)(o:eW)(h:yj p handler vars names answers=some o)(hh:handler<40)(hn:names.length=9)(hv:vars.length<=1000000)(ha:answers.length<=1000000)(hc:p.code.length<=1000000):
  bj Tryz.prog 253 [.agg (cM p),.c (iA handler),.c (ints vars),.agg (nth names 9),.c (ints answers)] (fun x=>x=.w (.agg (zk o))):=by
 unfold yj at h;split at h
 ·cases h
 rename_i e he
 have tJ:p.entry.getD handler 0=e:=by rw[fC,he];rfl
 have aaz:=axJ p hh;rw[tJ] at aaz;have hv8:vars.length<=100000000:=ab;have jz:(handler:Int)<40:=ab;have TZ:1+handler<=42:=ab;have ajc:1+handler+1<=43:=ab;refine cI Tryz.func253 ⟨0,[18,13],[(282,[300])],[],cZ,[(21,[1,5])],[(2,[(11,1,300,348,5),(11,5,301,3,1)])]⟩ [tz 21 9,tm 23 10,tm 38 15,tm 53 16,tm 62 13,tm 65 8] [.cell 10 6] [5,8,10,11,12,13,14,15,16,17,18,51] [5,8,10,11,14,18,13,300,301] ?_;by_cases ru:e<0
 ·rw[aj ru] at h;cases h;have FF:=kU @aaz @hh @jz @TZ @ajc @ru @hv8
  try refine aG ?_
  try clear FF
  refine zE ?_;exact(rfl)
 ·rw[af ru] at h;have FF:=kU @aaz @hh @jz @TZ @ajc @ru @hv8
  try refine aG ?_
  try clear FF
  refine dA (aja p handler vars names answers o) (n:=500) ⟨⟨vars,[],0,false,[],[]⟩,[],e,1,1,1,.u,.u,.u,.u,.u,.dead 0,rfl,ai,⟨rfl,ai,ai,ai,ai,rfl⟩,h,rfl,rfl⟩ ?_;rintro n V L S ⟨o',st,pc,ga,gs,gq,x14,x15,x16,x17,x51,s14,rfl,ajd,hB,CS,rfl,rfl⟩
  have fin:∀(o2:eW) (st2:List Int) (Ua:Int) (ga gs gq:Nat) (x14 x15 x16 x17 x51:AV) (s14:Slot) (V:List (Nat×AV)) (S:List (Nat×Slot)),o'.steps<500->o2.steps=o'.steps+1->aiZ vars.length o2 st2->qE p names answers (500-o2.steps) o2 st2 Ua=some o->
    V=[(0,.w (.agg (cM p))),(1,.w (.c (iA handler))),(2,.w (.c (ints vars))),(3,.w (.agg (nth names 9))),(4,.w (.c (ints answers))),(5,.pb 5 1 0),(8,.pb 8 1 0),(10,.pb 10 1 0),(11,.pb 11 1 0),(12,.w (.c (iA Ua))),(13,.w (.c (.own 13 gs))),(14,x14),(15,x15),(16,x16),(17,x17),(18,.w (.c (.own 18 1))),(51,x51)]->
    S=[(5,.box 1 (cM p)),(8,.box 1 (nth names 9)),(10,.box 1 [.sl [],.sl [],iA 0,bA false,.sl [],.sl []]),(11,.box 1 [.own 18 2,.own 300 ga,iA o2.steps,bA false,ints o2.covered,.own 301 gq]),(14,s14),(18,.row 3 1 2 (bM o2.vars)),(13,.row 3 1 gs (bM st2.reverse)),(300,.row 348 5 ga (o2.acts.map Ih)),(301,.row 3 1 gq (bM o2.asked))]->
    ∃m,m<500-o'.steps/\aja p handler vars names answers o m V S:=fun o2 st2 Ua ga gs gq x14 x15 x16 x17 x51 s14 V S h0 h1 h2 h3 h4 h5=>
   ⟨500-o2.steps,ab,o2,st2,Ua,ga,gs,gq,x14,x15,x16,x17,x51,s14,rfl,ab,h2,h3,h4,h5⟩
  obtain⟨vs,al,sp,spent,aE,asked⟩:=o';obtain⟨rfl,cY,fc,zl,hb4,kt⟩:=hB;dsimp only at*;by_cases hlt:sp<500
  ·have hf:500-sp=(500-(sp+1))+1:=ab;have jg:(sp:Int)<500:=ab;have axW:sp<=1000000000:=ab;rw[hf] at CS
   obtain⟨r,hr,hk⟩:∃r,sj p names answers ⟨vs,al,sp,false,aE,asked⟩ st pc=some r/\(match r with
     | .stop o=>some o
     | .go o st pc=>qE p names answers (500-(sp+1)) o st pc)=some o:=by
    unfold qE at CS;split at CS
    ·cases CS
    ·rename_i r hr;exact⟨_,hr,CS⟩
    ·rename_i r1 r2 r3 hr;exact⟨_,hr,CS⟩
   clear CS hf;unfold sj at hr;split at hr
   ·cases hr
   rename_i EJ
   obtain⟨m,rfl⟩:∃m:Nat,pc=m:=⟨pc.toNat,ab⟩
   rw[gF] at hr;split at hr
   ·cases hr
   rename_i op nn hop;dsimp only at hr;obtain⟨hm,Cm⟩:=bN.1 hop;have hm9:m<=1000000000:=ab;have jW:(ot aE m).length<=sp+1:=YN aE m hb4;have FF:=iF @jg @hm @Cm (bT axW) (bT hm9);refine bY (arM aE m ab) ?_
   try clear FF
   generalize ot aE (m:Int)=cv at*;clear hop Cm hm;by_cases h1:op=1
   ·subst h1;unfold kE at hr;rw[aj au] at hr;cases hr;have FF:=trivial
    try refine aG ?_
    try clear FF
    exact fin ⟨vs,al,sp+1,false,cv,asked⟩ (nn::st) ((m:Int)+1) (ga) (gs+1) (gq) _ _ _ _ _ (.box (s14.gen+1) [iA 1,iA nn]) _ _ hlt rfl ⟨rfl,by dsimp only;simp only[List.length_cons] at*;omega,by dsimp only;omega,by dsimp only;omega,jW,kt⟩ hk rfl (by simp[bM])
   by_cases h2:op=2
   ·subst h2;unfold kE at hr;rw[af au,aj au] at hr;split at hr
    ·cases hr
    rename_i kI;rw[bU] at hr;obtain⟨v,hv',hr⟩:=hr;cases hr
    obtain⟨i,rfl⟩:∃i:Nat,nn=i:=⟨nn.toNat,ab⟩
    rw[gF] at hv';obtain⟨hi,Ta⟩:=bN.1 hv';have FF:=im @hi @Ta
    try refine aG ?_
    try clear FF
    exact fin ⟨vs,al,sp+1,false,cv,asked⟩ (v::st) ((m:Int)+1) (ga) (gs+1) (gq) _ _ _ _ _ (.box (s14.gen+1) [iA 2,iA i]) _ _ hlt rfl ⟨rfl,by dsimp only;simp only[List.length_cons] at*;omega,by dsimp only;omega,by dsimp only;omega,jW,kt⟩ hk rfl (by simp[bM])
   by_cases h4:op=4
   ·subst h4;unfold kE at hr;rw[af au,af au,aj au] at hr;split at hr
    ·cases hr
    rename_i kI;rw[bU] at hr;obtain⟨v,hv',hr⟩:=hr;cases hr
    obtain⟨i,rfl⟩:∃i:Nat,nn=i:=⟨nn.toNat,ab⟩
    rw[gF] at hv';obtain⟨hi,Ta⟩:=bN.1 hv';have eS:(i:Int)<9:=ab;have Pq:i<=8:=ab;have axX:i+1<=9:=ab;have aje:=aav names 9 i ab
    have dw:names.getD i 0=v:=by rw[fC,hv'];rfl
    rw[dw] at aje;have FF:=fg @eS @Pq @axX @aje
    try refine aG ?_
    try clear FF
    exact fin ⟨vs,al,sp+1,false,cv,asked⟩ (v::st) ((m:Int)+1) (ga) (gs+1) (gq) _ _ _ _ _ (.box (s14.gen+1) [iA 4,iA i]) _ _ hlt rfl ⟨rfl,by dsimp only;simp only[List.length_cons] at*;omega,by dsimp only;omega,by dsimp only;omega,jW,kt⟩ hk rfl (by simp[bM])
   by_cases h3:op=3
   ·subst h3;unfold kE at hr;rw[af au,af au,af au,aj au] at hr
    cases st with
    |nil=>cases hr
    |cons x r=>
     simp only[dJ,wM];obtain⟨l,hl,cT,lu,cD,hg,iV,de⟩:=Ma r (by simp only[List.length_cons] at cY;omega);rw[hl];have iY:((x::r).length:Int)=(r.length:Int)+1:=ai;rw[iY];dsimp only at hr;split at hr
     ·cases hr
     rename_i kI;cases hr
     obtain⟨i,rfl⟩:∃i:Nat,nn=i:=⟨nn.toNat,ab⟩
     have hi:i<vs.length:=ab;rw[gF] at hk;by_cases hd:(i:Int)<p.dK
     ·simp only[aj hd] at hk;have FF:=wI @hd @hi @lu @cD @hg @iV @de @cT
      try refine aG ?_
      try clear FF
      subst hl;exact fin ⟨vs.set i x,al++[(⟨1,i,x,0,0⟩:gA)],sp+1,false,cv,asked⟩ r ((m:Int)+1) (ga+1) (gs+1) (gq) _ _ _ _ _ (.box (s14.gen+1) [iA 3,iA i]) _ _ hlt rfl ⟨rfl,by dsimp only;simp only[List.length_cons] at*;omega,by dsimp only;simp only[List.length_append,List.length_cons,List.length_nil];omega,by dsimp only;omega,jW,by dsimp only;rw[List.length_set];exact kt⟩ hk rfl (by simp[bM,List.map_set])
     ·simp only[af hd] at hk;have FF:=wI @hd @hi @lu @cD @hg @iV @de @cT
      try refine aG ?_
      try clear FF
      subst hl;exact fin ⟨vs.set i x,al,sp+1,false,cv,asked⟩ r ((m:Int)+1) (ga) (gs+1) (gq) _ _ _ _ _ (.box (s14.gen+1) [iA 3,iA i]) _ _ hlt rfl ⟨rfl,by dsimp only;simp only[List.length_cons] at*;omega,by dsimp only;omega,by dsimp only;omega,jW,by dsimp only;rw[List.length_set];exact kt⟩ hk rfl (by simp[bM,List.map_set])
   by_cases h5:op=5
   ·subst h5;unfold kE at hr;rw[af au,af au,af au,af au,aj au] at hr
    cases st with
    |nil=>cases hr
    |cons x r=>
     simp only[dJ,wM];obtain⟨l,hl,cT,lu,cD,hg,iV,de⟩:=Ma r (by simp only[List.length_cons] at cY;omega);rw[hl];have iY:((x::r).length:Int)=(r.length:Int)+1:=ai;rw[iY];dsimp only at hr;split at hr
     ·rename_i Fe;cases hr;have axY:2<=max 1 (min x 4)/\max 1 (min x 4)<=4:=ab;have FF:=kU @Fe @lu @cD @hg @iV @de @cT;refine bY (arL answers asked.length (max 1 (min x 4)) axY ab ha) ?_
      try clear FF
      subst hl;exact fin ⟨vs,al,sp+1,false,cv,asked++[max 1 (min x 4)]⟩ (uO answers asked.length (max 1 (min x 4))::r) ((m:Int)+1) (ga) (gs) (gq+1) _ _ _ _ _ (.box (s14.gen+1) [iA 5,iA nn]) _ _ hlt rfl ⟨rfl,by dsimp only;simp only[List.length_cons] at*;omega,by dsimp only;omega,by dsimp only;simp only[List.length_append,List.length_cons,List.length_nil];omega,jW,kt⟩ hk rfl (by simp[bM])
     ·rename_i Fe;cases hr;have FF:=kU @Fe @lu @cD @hg @iV @de @cT
      try refine aG ?_
      try clear FF
      subst hl;exact fin ⟨vs,al,sp+1,false,cv,asked⟩ (0::r) ((m:Int)+1) (ga) (gs) (gq) _ _ _ _ _ (.box (s14.gen+1) [iA 5,iA nn]) _ _ hlt rfl ⟨rfl,by dsimp only;simp only[List.length_cons] at*;omega,by dsimp only;omega,by dsimp only;omega,jW,kt⟩ hk rfl (by simp[bM])
   by_cases h6:op=6\/op=7\/op=8\/op=9\/op=11\/op=12\/op=13
   ·have WJ:=fun(x y:Int) (hx:bD x=true) (hy:bD y=true)=>arK op y x h6 hy hx
    obtain⟨q,hq⟩:∃q:Int,q=op:=⟨_,rfl⟩
    rcases h6 with rfl|rfl|rfl|rfl|rfl|rfl|rfl
    all_goals
     unfold kE at hr;rw[af au,af au,af au,af au,af au,aj au] at hr
     cases st with
     |nil=>cases hr
     |cons x r'=>cases r' with
      |nil=>cases hr
      |cons y r=>
       simp only[dJ,wM,List.append_assoc,List.cons_append,List.nil_append]
       have hbr:r.length+2<=sp:=by simp only[List.length_cons] at cY;omega
       obtain⟨l,hl,cT,Fk,Fl,hT,h01,tQ,cD,aaA,zg,fX,aaB,aaC,Fm⟩:=ajb r ab;rw[hl];have iY:((x::y::r).length:Int)=(r.length:Int)+2:=bz;rw[iY];dsimp only at hr;split at hr
       case isFalse=>cases hr
       rename_i dZ;cases hr;rw[bZ] at dZ;have FF:=Ws @Fk @Fl @hT @h01 @tQ @cD @aaA @zg @fX @aaB @aaC @Fm @cT;refine bY (WJ x y dZ.1 dZ.2) ?_
       try clear FF
       subst hl;exact fin ⟨vs,al,sp+1,false,cv,asked⟩ (Ca q y x::r) ((m:Int)+1) (ga) (gs+1) (gq) _ _ _ _ _ (.box (s14.gen+1) [iA q,iA nn]) _ _ hlt rfl ⟨rfl,by dsimp only;simp only[List.length_cons] at*;omega,by dsimp only;omega,by dsimp only;omega,jW,kt⟩ (by rw[hq];exact hk) rfl (by simp[bM,hq])
   by_cases h10:op=10
   ·subst h10;unfold kE at hr;rw[af au,af au,af au,af au,af au,af au,aj au] at hr
    cases st with
    |nil=>cases hr
    |cons x r=>
     simp only[dJ,wM];obtain⟨l,hl,cT,lu,cD,hg,iV,de⟩:=Ma r (by simp only[List.length_cons] at cY;omega);rw[hl];have iY:((x::r).length:Int)=(r.length:Int)+1:=ai;rw[iY];dsimp only at hr;split at hr
     case isFalse=>cases hr
     rename_i dZ;cases hr
     have aGN: -2147483647<=x/\x<=2147483647:=by simpa [bD] using dZ
     have ru:=afv (a:=x) ab ab;have FF:=kU @ru @lu @cD @hg @iV @de @cT
     try refine aG ?_
     try clear FF
     subst hl;exact fin ⟨vs,al,sp+1,false,cv,asked⟩ (-x::r) ((m:Int)+1) (ga) (gs) (gq) _ _ _ _ _ (.box (s14.gen+1) [iA 10,iA nn]) _ _ hlt rfl ⟨rfl,by dsimp only;simp only[List.length_cons] at*;omega,by dsimp only;omega,by dsimp only;omega,jW,kt⟩ hk rfl (by simp[bM])
   by_cases h14:op=14
   ·subst h14;unfold kE at hr;rw[af au,af au,af au,af au,af au,af au,af au,aj au] at hr
    cases st with
    |nil=>cases hr
    |cons x r=>
     simp only[dJ,wM];obtain⟨l,hl,cT,lu,cD,hg,iV,de⟩:=Ma r (by simp only[List.length_cons] at cY;omega);rw[hl];have iY:((x::r).length:Int)=(r.length:Int)+1:=ai;rw[iY];cases hr;have FF:=gR @lu @cD @hg @iV @de @cT;refine bY (Sz (decide (x=0))) ?_
     try clear FF
     subst hl;exact fin ⟨vs,al,sp+1,false,cv,asked⟩ (zV (decide (x=0))::r) ((m:Int)+1) (ga) (gs) (gq) _ _ _ _ _ (.box (s14.gen+1) [iA 14,iA nn]) _ _ hlt rfl ⟨rfl,by dsimp only;simp only[List.length_cons] at*;omega,by dsimp only;omega,by dsimp only;omega,jW,kt⟩ hk rfl (by simp[bM])
   by_cases h15:op=15
   ·subst h15;unfold kE at hr;rw[af au,af au,af au,af au,af au,af au,af au,af au,aj au] at hr;cases hr;have FF:=trivial
    try refine aG ?_
    try clear FF
    exact fin ⟨vs,al,sp+1,false,cv,asked⟩ st nn (ga) (gs) (gq) _ _ _ _ _ (.box (s14.gen+1) [iA 15,iA nn]) _ _ hlt rfl ⟨rfl,by dsimp only;simp only[List.length_cons] at*;omega,by dsimp only;omega,by dsimp only;omega,jW,kt⟩ hk rfl (by simp[bM])
   by_cases h16:op=16
   ·subst h16;unfold kE at hr;rw[af au,af au,af au,af au,af au,af au,af au,af au,af au,aj au] at hr
    cases st with
    |nil=>cases hr
    |cons x r=>
     simp only[dJ,wM];obtain⟨l,hl,cT,lu,cD,hg,iV,de⟩:=Ma r (by simp only[List.length_cons] at cY;omega);rw[hl];have iY:((x::r).length:Int)=(r.length:Int)+1:=ai;rw[iY];cases hr;by_cases hx:x=0
     ·simp only[aj hx] at hk;have FF:=kU @hx @lu @cD @hg @iV @de @cT
      try refine aG ?_
      try clear FF
      subst hl;exact fin ⟨vs,al,sp+1,false,cv,asked⟩ r nn (ga) (gs+1) (gq) _ _ _ _ _ (.box (s14.gen+1) [iA 16,iA nn]) _ _ hlt rfl ⟨rfl,by dsimp only;simp only[List.length_cons] at*;omega,by dsimp only;omega,by dsimp only;omega,jW,kt⟩ hk rfl (by simp[bM])
     ·simp only[af hx] at hk;have FF:=kU @hx @lu @cD @hg @iV @de @cT
      try refine aG ?_
      try clear FF
      subst hl;exact fin ⟨vs,al,sp+1,false,cv,asked⟩ r ((m:Int)+1) (ga) (gs+1) (gq) _ _ _ _ _ (.box (s14.gen+1) [iA 16,iA nn]) _ _ hlt rfl ⟨rfl,by dsimp only;simp only[List.length_cons] at*;omega,by dsimp only;omega,by dsimp only;omega,jW,kt⟩ hk rfl (by simp[bM])
   by_cases h17:op=17
   ·subst h17;unfold kE at hr;rw[af au,af au,af au,af au,af au,af au,af au,af au,af au,af au,aj au] at hr
    cases st with
    |nil=>cases hr
    |cons x r'=>cases r' with
     |nil=>cases hr
     |cons y r''=>cases r'' with
      |nil=>cases hr
      |cons t r=>
       simp only[dJ,wM,List.append_assoc,List.cons_append,List.nil_append]
       obtain⟨l,hl⟩:∃l,(List.map (fun n=>[iA n]) r).reverse=l:=⟨_,rfl⟩
       rw[hl]
       have cT:l.length=r.length:=by rw[<-hl];simp
       have iY:((x::y::t::r).length:Int)=(r.length:Int)+3:=bz;rw[iY]
       have hbr:r.length+3<=sp:=by simp only[List.length_cons] at cY;omega
       have Ub:aZ .sub (.int .i64 ((r.length:Int)+3)) (.int .i64 3)=some (.int .i64 (r.length:Int)):=by rw[Ct ab ab];congr 2;omega
       have Fk:aZ .sub (.int .i64 ((r.length:Int)+3)) (.int .i64 2)=some (.int .i64 ((r.length:Int)+1)):=by rw[Ct ab ab];congr 2;omega
       have Fl:aZ .sub (.int .i64 ((r.length:Int)+3)) (.int .i64 1)=some (.int .i64 ((r.length:Int)+2)):=by rw[Ct ab ab];congr 2;omega
       have rK:((r.length:Int)+1).toNat=r.length+1:=ab;have fY:((r.length:Int)+2).toNat=r.length+2:=ab;have h01:(0:Int)<=(r.length:Int)+1:=ab;have h02:(0:Int)<=(r.length:Int)+2:=ab;have tQ:(r.length:Int)<(r.length:Int)+3:=ab;have cD:(r.length:Int)+1<(r.length:Int)+3:=ab;have fb:(r.length:Int)+2<(r.length:Int)+3:=ab
       have zg:∀a b c:List AC,(l++[a,b,c])[r.length]? =some a:=fun a b c=>by rw[jc ab,cT];simp
       have fX:∀a b c:List AC,(l++[a,b,c])[r.length+1]? =some b:=fun a b c=>by rw[jc ab,cT,show r.length+1-r.length=1 by omega];rfl
       have gL:∀a b c:List AC,(l++[a,b,c])[r.length+2]? =some c:=fun a b c=>by rw[jc ab,cT,show r.length+2-r.length=2 by omega];rfl
       have Fm:∀a b c:List AC,(l++[a,b,c]).take r.length=l:=fun a b c=>by rw[uF ab,nB ab]
       have Jg:=aav names 9 1 ab;rw[List.drop_one] at Jg;have ER:nH al<=al.length:=List.countP_le_length;cases hr
       obtain⟨N1,hN1⟩:∃N1,names.getD 1 0=N1:=⟨_,rfl⟩
       rw[hN1] at Jg;simp only[hN1] at hk;by_cases Fo:0<=t
       ·by_cases Pr:t<N1
        ·by_cases ht2:nH al<20
         ·have aaD:(nH al:Int)<20:=ab;simp only[aj (show 0<=t/\t<N1/\nH al<20 from⟨Fo,Pr,ht2⟩)] at hk;have FF:=Wu @Fo @Pr @aaD @Ub @Fk @Fl @rK @fY @h01 @h02 @tQ @cD @fb @zg @fX @gL @Fm @cT @Jg;refine bY (aiY al ga ab) ?_
          try clear FF
          subst hl;exact fin ⟨vs,al++[(⟨3,t,nn,y,x⟩:gA)],sp+1,false,cv,asked⟩ r ((m:Int)+1) (ga+1) (gs+1) (gq) _ _ _ _ _ (.box (s14.gen+1) [iA 17,iA nn]) _ _ hlt rfl ⟨rfl,by dsimp only;simp only[List.length_cons] at*;omega,by dsimp only;simp only[List.length_append,List.length_cons,List.length_nil];omega,by dsimp only;omega,jW,kt⟩ hk rfl (by simp[bM])
         ·have aaD:¬(nH al:Int)<20:=ab;simp only[af (show¬(0<=t/\t<N1/\nH al<20) from fun hh=>ht2 hh.2.2)] at hk;have FF:=Wu @Fo @Pr @aaD @Ub @Fk @Fl @rK @fY @h01 @h02 @tQ @cD @fb @zg @fX @gL @Fm @cT @Jg;refine bY (aiY al ga ab) ?_
          try clear FF
          subst hl;exact fin ⟨vs,al,sp+1,false,cv,asked⟩ r ((m:Int)+1) (ga) (gs+1) (gq) _ _ _ _ _ (.box (s14.gen+1) [iA 17,iA nn]) _ _ hlt rfl ⟨rfl,by dsimp only;simp only[List.length_cons] at*;omega,by dsimp only;omega,by dsimp only;omega,jW,kt⟩ hk rfl (by simp[bM])
        ·simp only[af (show¬(0<=t/\t<N1/\nH al<20) from fun hh=>Pr hh.2.1)] at hk;have FF:=aoC @Fo @Pr @Ub @Fk @Fl @rK @fY @h01 @h02 @tQ @cD @fb @zg @fX @gL @Fm @cT @Jg
         try refine aG ?_
         try clear FF
         subst hl;exact fin ⟨vs,al,sp+1,false,cv,asked⟩ r ((m:Int)+1) (ga) (gs+1) (gq) _ _ _ _ _ (.box (s14.gen+1) [iA 17,iA nn]) _ _ hlt rfl ⟨rfl,by dsimp only;simp only[List.length_cons] at*;omega,by dsimp only;omega,by dsimp only;omega,jW,kt⟩ hk rfl (by simp[bM])
       ·simp only[af (show¬(0<=t/\t<N1/\nH al<20) from fun hh=>Fo hh.1)] at hk;have FF:=adG @Fo @Ub @Fk @Fl @rK @fY @h01 @h02 @tQ @cD @fb @zg @fX @gL @Fm @cT @Jg
        try refine aG ?_
        try clear FF
        subst hl;exact fin ⟨vs,al,sp+1,false,cv,asked⟩ r ((m:Int)+1) (ga) (gs+1) (gq) _ _ _ _ _ (.box (s14.gen+1) [iA 17,iA nn]) _ _ hlt rfl ⟨rfl,by dsimp only;simp only[List.length_cons] at*;omega,by dsimp only;omega,by dsimp only;omega,jW,kt⟩ hk rfl (by simp[bM])
   by_cases h18:op=18
   ·subst h18;unfold kE at hr;rw[af au,af au,af au,af au,af au,af au,af au,af au,af au,af au,af au,aj au] at hr;cases hr;have FF:=trivial
    try refine aG ?_
    try clear FF
    exact fin ⟨vs,al++[(⟨4,nn,0,0,0⟩:gA)],sp+1,false,cv,asked⟩ st ((m:Int)+1) (ga+1) (gs) (gq) _ _ _ _ _ (.box (s14.gen+1) [iA 18,iA nn]) _ _ hlt rfl ⟨rfl,by dsimp only;simp only[List.length_cons] at*;omega,by dsimp only;simp only[List.length_append,List.length_cons,List.length_nil];omega,by dsimp only;omega,jW,kt⟩ hk rfl (by simp[bM])
   by_cases h19:op=19
   ·subst h19;unfold kE at hr;rw[af au,af au,af au,af au,af au,af au,af au,af au,af au,af au,af au,af au,aj au] at hr;cases hr;have FF:=trivial
    try refine aG ?_
    try clear FF
    exact fin ⟨vs,al++[(⟨5,nn,0,0,0⟩:gA)],sp+1,false,cv,asked⟩ st ((m:Int)+1) (ga+1) (gs) (gq) _ _ _ _ _ (.box (s14.gen+1) [iA 19,iA nn]) _ _ hlt rfl ⟨rfl,by dsimp only;simp only[List.length_cons] at*;omega,by dsimp only;simp only[List.length_append,List.length_cons,List.length_nil];omega,by dsimp only;omega,jW,kt⟩ hk rfl (by simp[bM])
   by_cases h20:op=20
   ·subst h20;unfold kE at hr;rw[af au,af au,af au,af au,af au,af au,af au,af au,af au,af au,af au,af au,af au,aj au] at hr;cases hr;have FF:=trivial
    try refine aG ?_
    try clear FF
    exact fin ⟨vs,al++[(⟨2,0,0,0,0⟩:gA)],sp+1,false,cv,asked⟩ st ((m:Int)+1) (ga+1) (gs) (gq) _ _ _ _ _ (.box (s14.gen+1) [iA 20,iA nn]) _ _ hlt rfl ⟨rfl,by dsimp only;simp only[List.length_cons] at*;omega,by dsimp only;simp only[List.length_append,List.length_cons,List.length_nil];omega,by dsimp only;omega,jW,kt⟩ hk rfl (by simp[bM])
   by_cases h21:op=21
   ·subst h21;unfold kE at hr;rw[af au,af au,af au,af au,af au,af au,af au,af au,af au,af au,af au,af au,af au,af au,aj au] at hr
    cases st with
    |nil=>cases hr
    |cons x r'=>cases r' with
     |nil=>cases hr
     |cons y r=>
      simp only[dJ,wM,List.append_assoc,List.cons_append,List.nil_append]
      have hbr:r.length+2<=sp:=by simp only[List.length_cons] at cY;omega
      obtain⟨l,hl,cT,Fk,Fl,hT,h01,tQ,cD,aaA,zg,fX,aaB,aaC,Fm⟩:=ajb r ab;rw[hl];have iY:((x::y::r).length:Int)=(r.length:Int)+2:=bz;rw[iY];cases hr;have FF:=Ws @Fk @Fl @hT @h01 @tQ @cD @aaA @zg @fX @aaB @aaC @Fm @cT
      try refine aG ?_
      try clear FF
      subst hl;exact fin ⟨vs,al++[(⟨6,y,x,0,0⟩:gA)],sp+1,false,cv,asked⟩ r ((m:Int)+1) (ga+1) (gs+1) (gq) _ _ _ _ _ (.box (s14.gen+1) [iA 21,iA nn]) _ _ hlt rfl ⟨rfl,by dsimp only;simp only[List.length_cons] at*;omega,by dsimp only;simp only[List.length_append,List.length_cons,List.length_nil];omega,by dsimp only;omega,jW,kt⟩ hk rfl (by simp[bM])
   by_cases h22:op=22
   ·subst h22;unfold kE at hr;rw[af au,af au,af au,af au,af au,af au,af au,af au,af au,af au,af au,af au,af au,af au,af au,aj au] at hr
    cases st with
    |nil=>cases hr
    |cons x r=>
     simp only[dJ,wM];obtain⟨l,hl,cT,lu,cD,hg,iV,de⟩:=Ma r (by simp only[List.length_cons] at cY;omega);rw[hl];have iY:((x::r).length:Int)=(r.length:Int)+1:=ai;rw[iY];cases hr;have FF:=gR @lu @cD @hg @iV @de @cT
     try refine aG ?_
     try clear FF
     subst hl;exact fin ⟨vs,al++[(⟨7,x,0,0,0⟩:gA)],sp+1,false,cv,asked⟩ r ((m:Int)+1) (ga+1) (gs+1) (gq) _ _ _ _ _ (.box (s14.gen+1) [iA 22,iA nn]) _ _ hlt rfl ⟨rfl,by dsimp only;simp only[List.length_cons] at*;omega,by dsimp only;simp only[List.length_append,List.length_cons,List.length_nil];omega,by dsimp only;omega,jW,kt⟩ hk rfl (by simp[bM])
   have h6a:¬op=6:=fun e=>h6 (.inl e)
   have h7:¬op=7:=fun e=>h6 (by simp[e])
   have h8:¬op=8:=fun e=>h6 (by simp[e])
   have h9:¬op=9:=fun e=>h6 (by simp[e])
   have h11:¬op=11:=fun e=>h6 (by simp[e])
   have h12:¬op=12:=fun e=>h6 (by simp[e])
   have h13:¬op=13:=fun e=>h6 (by simp[e])
   unfold kE at hr;rw[af h1,af h2,af h4,af h3,af h5,af ab,af h10,af h14,af h15,af h16,af h17,af h18,af h19,af h20,af h21,af h22] at hr;cases hr;change some _=some o at hk;cases hk;have FF:=adI @h1 @h2 @h3 @h4 @h5 @h6a @h7 @h8 @h9 @h10 @h11 @h12 @h13 @h14 @h15 @h16 @h17 @h18 @h19 @h20 @h21 @h22
   try refine aG ?_
   try clear FF
   refine zE ?_;exact(rfl)
  ·have hsp:sp=500:=ab;subst hsp;change some _=some o at CS;cases CS;have FF:=trivial
   try refine aG ?_
   try clear FF
   refine zE ?_;exact(rfl)
end Ab
end Go.Proofs.YtkanpepkdcmpmaaGreatDoor
