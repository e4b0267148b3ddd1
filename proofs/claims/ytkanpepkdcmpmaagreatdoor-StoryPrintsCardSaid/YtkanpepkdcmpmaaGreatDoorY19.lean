import Derived.Test.YtkanpepkdcmpmaaGreatDoorY16
set_option maxHeartbeats 40000000
set_option maxRecDepth 100000
set_option linter.all false
namespace Go.Proofs.YtkanpepkdcmpmaaGreatDoor
namespace Ab
open Go Go.RowKit mG
attribute [local irreducible] aM bt aX
open aD (tD zS BR uM bu nV nu fW eP yn qw rZ kv zT)
theorem aiO (l:List fW)(g:Nat)(hl:l.length<=1000000):iB Tryz.prog 282 [.w (.c (.own 300 g))] [(300,.row 348 5 g (l.map Hu))] (fun x S'=>x=.w (.c (iA (nu l)))/\∀p∈[(300,Slot.row 348 5 g (l.map Hu))],S' p.1=p.2):=by
 refine qP Tryz.func282 (aB 400 []) [] [.t 2] [2,3,4] [] ?_;have FF:=trivial
 try refine aF ?_
 try clear FF
 refine dv (fun n V S=>∃k:Nat,k<=l.length/\n=l.length-k/\
  V=[(0,.w (.c (.own 300 g))),(2,.w (.c (iA 0))),(3,.w (.c (iA (nu (l.take k))))),(4,.w (.c (iA k)))]/\S=[(300,.row 348 5 g (l.map Hu))]) (n:=l.length) ⟨0,ab,ab,rfl,rfl⟩ ?_
 rintro n V L S ⟨k,hk,rfl,rfl,rfl⟩;by_cases hlt:k<l.length
 ·have cD:k<=1000000000:=ab
  obtain⟨x,hx⟩:∃x,l[k]=x:=⟨_,rfl⟩
  have hs:nu (l.take (k+1))=nu (l.take k)+if x.kind=3 then 1 else 0:=by
   rw[<-hx];unfold nu;rw[List.take_succ_eq_append_getElem hlt,List.countP_append];simp[List.countP_cons]
  have hs9:nu (l.take k)<=1000000000:=bj (List.countP_le_length) bq;generalize nu (l.take k)=m at hs hs9⊢;by_cases he:x.kind=3
  ·rw[aq he] at hs;have FF:=gZ @hlt @hx @he (bN cD) (bN hs9)
   try refine aF ?_
   try clear FF
   exact⟨l.length-(k+1),ab,k+1,ab,ab,by rw[hs];rfl,rfl⟩
  ·rw[af he,qm] at hs;have FF:=eW @hlt @hx @he (bN cD)
   try refine aF ?_
   try clear FF
   exact⟨l.length-(k+1),ab,k+1,ab,ab,by rw[hs];rfl,rfl⟩
 ·have kF:k=l.length:=ab;have FF:=@hlt
  try refine aF ?_
  try clear FF
  refine kE ?_;exact(by rw[kF,fK];simp[ed])
abbrev zk (o:eP):List AC:=[ints o.vars,acts o.acts,iA o.steps,bA o.spent,ints o.covered,ints o.asked]
theorem YF {n:Nat}(l:List Int)(x:Int)(h:l.length<=n):(nV l x).length<=n+1:=by
 unfold nV;split
 ·omega
 ·have:=aG List.length (JW (p:=fun y:Int=>decide (y<x)) (l:=l));rw[List.length_append] at this;simp only[List.length_append,List.length_cons];omega
structure aiP (n0:Nat)(o:eP)(st:List Int):Prop where
 spent:o.spent=false
 st:st.length<=o.steps
 acts:o.acts.length<=o.steps
 asked:o.asked.length<=o.steps
 aE:o.covered.length<=o.steps
 vars:o.vars.length=n0
def aiQ (p:Prog)(handler:Int)(vars names answers:List Int)(o:eP)(n:Nat)(V:List (Nat×AV))(S:List (Nat×Slot)):Prop:=
 ∃(o':eP) (st:List Int) (pc:Int) (ga gs gq:Nat) (x14 x15 x16 x17 x51:AV) (s14:Slot),n=500-o'.steps/\o'.steps<=500/\aiP vars.length o' st/\qw p names answers (500-o'.steps) o' st pc=some o/\
  V=[(0,.w (.agg (cI p))),(1,.w (.c (iA handler))),(2,.w (.c (ints vars))),(3,.w (.agg (nth names 9))),(4,.w (.c (ints answers))),(5,.pb 5 1 0),(8,.pb 8 1 0),(10,.pb 10 1 0),(11,.pb 11 1 0),(12,.w (.c (iA pc))),(13,.w (.c (.own 13 gs))),(14,x14),(15,x15),(16,x16),(17,x17),(18,.w (.c (.own 18 1))),(51,x51)]/\
  S=[(5,.box 1 (cI p)),(8,.box 1 (nth names 9)),(10,.box 1 [.sl [],.sl [],iA 0,bA false,.sl [],.sl []]),(11,.box 1 [.own 18 2,.own 300 ga,iA o'.steps,bA false,ints o'.covered,.own 301 gq]),(14,s14),(18,.row 3 1 2 (bH o'.vars)),(13,.row 3 1 gs (bH st.reverse)),(300,.row 348 5 ga (o'.acts.map Hu)),(301,.row 3 1 gq (bH o'.asked))]
theorem LR (r:List Int)(h:r.length+1<=1000000000):∃l,(List.map (fun n=>[iA n]) r).reverse=l/\l.length=r.length/\aW .sub (.int .i64 ((r.length:Int)+1)) (.int .i64 1)=some (.int .i64 (r.length:Int))/\(r.length:Int)<(r.length:Int)+1/\(∀z:List AC,(l++[z])[r.length]? =some z)/\(∀z w:List AC,(l++[w]).set r.length z=l++[z])/\∀w:List AC,(l++[w]).take r.length=l:=by
 have cQ:((List.map (fun n=>[iA n]) r).reverse).length=r.length:=ai;generalize(List.map (fun n=>[iA n]) r).reverse=l at*;exact⟨l,rfl,cQ,by rw[Ck ab ab];congr 2;omega,ab,fun z=>by rw[iR ab,cQ];simp,fun z w=>by rw[MV _ _ ab,cQ];simp,fun w=>by rw[uE ab,nh ab]⟩
theorem aiR (r:List Int)(h:r.length+2<=1000000000):∃l,(List.map (fun n=>[iA n]) r).reverse=l/\l.length=r.length/\aW .sub (.int .i64 ((r.length:Int)+2)) (.int .i64 2)=some (.int .i64 (r.length:Int))/\aW .sub (.int .i64 ((r.length:Int)+2)) (.int .i64 1)=some (.int .i64 ((r.length:Int)+1))/\((r.length:Int)+1).toNat=r.length+1/\(0:Int)<=(r.length:Int)+1/\(r.length:Int)<(r.length:Int)+2/\(r.length:Int)+1<(r.length:Int)+2/\(r.length:Int)+1<=(r.length:Int)+2/\(∀a b:List AC,(l++[a,b])[r.length]? =some a)/\(∀a b:List AC,(l++[a,b])[r.length+1]? =some b)/\(∀z a b:List AC,(l++[a,b]).set r.length z=l++[z,b])/\(∀a b:List AC,(l++[a,b]).take (r.length+1)=l++[a])/\∀a b:List AC,(l++[a,b]).take r.length=l:=by
 have cQ:((List.map (fun n=>[iA n]) r).reverse).length=r.length:=ai;generalize(List.map (fun n=>[iA n]) r).reverse=l at*;exact⟨l,rfl,cQ,by rw[Ck ab ab];congr 2;omega,by rw[Ck ab ab];congr 2;omega,ab,ab,ab,ab,ab,fun a b=>by rw[iR ab,cQ];simp,fun a b=>by rw[iR ab,cQ,show r.length+1-r.length=1 by omega];rfl,fun z a b=>by rw[MV _ _ ab,cQ];simp,fun a b=>by rw[List.take_append,nh ab,cQ,show r.length+1-r.length=1 by omega];rfl,fun a b=>by rw[uE ab,nh ab]⟩
theorem axO (p:Prog)(handler:Nat)(vars names answers:List Int)(o:eP)(h:yn p handler vars names answers=some o)(hh:handler<40)(hn:names.length=9)(hv:vars.length<=1000000)(ha:answers.length<=1000000)(hc:p.code.length<=1000000):
  aU Tryz.prog 253 [.agg (cI p),.c (iA handler),.c (ints vars),.agg (nth names 9),.c (ints answers)] (fun x=>x=.w (.agg (zk o))):=by
 unfold yn at h;split at h
 ·cases h
 rename_i e he
 have tG:p.entry.getD handler 0=e:=by rw[fo,he];rfl
 have aaw:=axC p hh;rw[tG] at aaw;have hv8:vars.length<=100000000:=ab;have jn:(handler:Int)<40:=ab;have TP:1+handler<=42:=ab;have aiS:1+handler+1<=43:=ab;refine cC Tryz.func253 ⟨0,[18,13],[(282,[300])],[],cU,[(21,[1,5])],[(2,[(11,1,300,348,5),(11,5,301,3,1)])]⟩ [tz 21 9,tm 23 10,tm 38 15,tm 53 16,tm 62 13,tm 65 8] [.cell 10 6] [5,8,10,11,12,13,14,15,16,17,18,51] [5,8,10,11,14,18,13,300,301] ?_;by_cases qZ:e<0
 ·rw[aq qZ] at h;cases h;have FF:=kj @aaw @hh @jn @TP @aiS @qZ @hv8
  try refine aF ?_
  try clear FF
  refine zE ?_;exact(rfl)
 ·rw[af qZ] at h;have FF:=kj @aaw @hh @jn @TP @aiS @qZ @hv8
  try refine aF ?_
  try clear FF
  refine dv (aiQ p handler vars names answers o) (n:=500) ⟨⟨vars,[],0,false,[],[]⟩,[],e,1,1,1,.u,.u,.u,.u,.u,.dead 0,rfl,ai,⟨rfl,ai,ai,ai,ai,rfl⟩,h,rfl,rfl⟩ ?_;rintro n V L S ⟨o',st,pc,ga,gs,gq,x14,x15,x16,x17,x51,s14,rfl,aiT,hB,CH,rfl,rfl⟩
  have fin:∀(o2:eP) (st2:List Int) (TQ:Int) (ga gs gq:Nat) (x14 x15 x16 x17 x51:AV) (s14:Slot) (V:List (Nat×AV)) (S:List (Nat×Slot)),o'.steps<500->o2.steps=o'.steps+1->aiP vars.length o2 st2->qw p names answers (500-o2.steps) o2 st2 TQ=some o->
    V=[(0,.w (.agg (cI p))),(1,.w (.c (iA handler))),(2,.w (.c (ints vars))),(3,.w (.agg (nth names 9))),(4,.w (.c (ints answers))),(5,.pb 5 1 0),(8,.pb 8 1 0),(10,.pb 10 1 0),(11,.pb 11 1 0),(12,.w (.c (iA TQ))),(13,.w (.c (.own 13 gs))),(14,x14),(15,x15),(16,x16),(17,x17),(18,.w (.c (.own 18 1))),(51,x51)]->
    S=[(5,.box 1 (cI p)),(8,.box 1 (nth names 9)),(10,.box 1 [.sl [],.sl [],iA 0,bA false,.sl [],.sl []]),(11,.box 1 [.own 18 2,.own 300 ga,iA o2.steps,bA false,ints o2.covered,.own 301 gq]),(14,s14),(18,.row 3 1 2 (bH o2.vars)),(13,.row 3 1 gs (bH st2.reverse)),(300,.row 348 5 ga (o2.acts.map Hu)),(301,.row 3 1 gq (bH o2.asked))]->
    ∃m,m<500-o'.steps/\aiQ p handler vars names answers o m V S:=fun o2 st2 TQ ga gs gq x14 x15 x16 x17 x51 s14 V S h0 h1 h2 h3 h4 h5=>
   ⟨500-o2.steps,ab,o2,st2,TQ,ga,gs,gq,x14,x15,x16,x17,x51,s14,rfl,ab,h2,h3,h4,h5⟩
  obtain⟨vs,al,sp,spent,aE,asked⟩:=o';obtain⟨rfl,cT,eU,zl,hb4,kg⟩:=hB;dsimp only at*;by_cases hlt:sp<500
  ·have hf:500-sp=(500-(sp+1))+1:=ab;have iX:(sp:Int)<500:=ab;have axP:sp<=1000000000:=ab;rw[hf] at CH
   obtain⟨r,hr,hk⟩:∃r,rZ p names answers ⟨vs,al,sp,false,aE,asked⟩ st pc=some r/\(match r with
     | .stop o=>some o
     | .go o st pc=>qw p names answers (500-(sp+1)) o st pc)=some o:=by
    unfold qw at CH;split at CH
    ·cases CH
    ·rename_i r hr;exact⟨_,hr,CH⟩
    ·rename_i r1 r2 r3 hr;exact⟨_,hr,CH⟩
   clear CH hf;unfold rZ at hr;split at hr
   ·cases hr
   rename_i Ez
   obtain⟨m,rfl⟩:∃m:Nat,pc=m:=⟨pc.toNat,ab⟩
   rw[fJ] at hr;split at hr
   ·cases hr
   rename_i op nn hop;dsimp only at hr;obtain⟨hm,Cc⟩:=bK.1 hop;have hm9:m<=1000000000:=ab;have jO:(nV aE m).length<=sp+1:=YF aE m hb4;have FF:=gZ @iX @hm @Cc (bN axP) (bN hm9);refine bJ (arD aE m ab) ?_
   try clear FF
   generalize nV aE (m:Int)=cv at*;clear hop Cc hm;by_cases h1:op=1
   ·subst h1;unfold kv at hr;rw[aq au] at hr;cases hr;have FF:=trivial
    try refine aF ?_
    try clear FF
    exact fin ⟨vs,al,sp+1,false,cv,asked⟩ (nn::st) ((m:Int)+1) (ga) (gs+1) (gq) _ _ _ _ _ (.box (s14.gen+1) [iA 1,iA nn]) _ _ hlt rfl ⟨rfl,by dsimp only;simp only[List.length_cons] at*;omega,by dsimp only;omega,by dsimp only;omega,jO,kg⟩ hk rfl (by simp[bH])
   by_cases h2:op=2
   ·subst h2;unfold kv at hr;rw[af au,aq au] at hr;split at hr
    ·cases hr
    rename_i kB;rw[bO] at hr;obtain⟨v,hv',hr⟩:=hr;cases hr
    obtain⟨i,rfl⟩:∃i:Nat,nn=i:=⟨nn.toNat,ab⟩
    rw[fJ] at hv';obtain⟨hi,SN⟩:=bK.1 hv';have FF:=eV @hi @SN
    try refine aF ?_
    try clear FF
    exact fin ⟨vs,al,sp+1,false,cv,asked⟩ (v::st) ((m:Int)+1) (ga) (gs+1) (gq) _ _ _ _ _ (.box (s14.gen+1) [iA 2,iA i]) _ _ hlt rfl ⟨rfl,by dsimp only;simp only[List.length_cons] at*;omega,by dsimp only;omega,by dsimp only;omega,jO,kg⟩ hk rfl (by simp[bH])
   by_cases h4:op=4
   ·subst h4;unfold kv at hr;rw[af au,af au,aq au] at hr;split at hr
    ·cases hr
    rename_i kB;rw[bO] at hr;obtain⟨v,hv',hr⟩:=hr;cases hr
    obtain⟨i,rfl⟩:∃i:Nat,nn=i:=⟨nn.toNat,ab⟩
    rw[fJ] at hv';obtain⟨hi,SN⟩:=bK.1 hv';have eN:(i:Int)<9:=ab;have Pc:i<=8:=ab;have axQ:i+1<=9:=ab;have aiU:=aas names 9 i ab
    have dp:names.getD i 0=v:=by rw[fo,hv'];rfl
    rw[dp] at aiU;have FF:=eW @eN @Pc @axQ @aiU
    try refine aF ?_
    try clear FF
    exact fin ⟨vs,al,sp+1,false,cv,asked⟩ (v::st) ((m:Int)+1) (ga) (gs+1) (gq) _ _ _ _ _ (.box (s14.gen+1) [iA 4,iA i]) _ _ hlt rfl ⟨rfl,by dsimp only;simp only[List.length_cons] at*;omega,by dsimp only;omega,by dsimp only;omega,jO,kg⟩ hk rfl (by simp[bH])
   by_cases h3:op=3
   ·subst h3;unfold kv at hr;rw[af au,af au,af au,aq au] at hr
    cases st with
    |nil=>cases hr
    |cons x r=>
     simp only[dF,wK];obtain⟨l,hl,cQ,kY,cF,hg,iK,db⟩:=LR r (by simp only[List.length_cons] at cT;omega);rw[hl];have iN:((x::r).length:Int)=(r.length:Int)+1:=ai;rw[iN];dsimp only at hr;split at hr
     ·cases hr
     rename_i kB;cases hr
     obtain⟨i,rfl⟩:∃i:Nat,nn=i:=⟨nn.toNat,ab⟩
     have hi:i<vs.length:=ab;rw[fJ] at hk;by_cases hd:(i:Int)<p.dH
     ·simp only[aq hd] at hk;have FF:=wF @hd @hi @kY @cF @hg @iK @db @cQ
      try refine aF ?_
      try clear FF
      subst hl;exact fin ⟨vs.set i x,al++[(⟨1,i,x,0,0⟩:fW)],sp+1,false,cv,asked⟩ r ((m:Int)+1) (ga+1) (gs+1) (gq) _ _ _ _ _ (.box (s14.gen+1) [iA 3,iA i]) _ _ hlt rfl ⟨rfl,by dsimp only;simp only[List.length_cons] at*;omega,by dsimp only;simp only[List.length_append,List.length_cons,List.length_nil];omega,by dsimp only;omega,jO,by dsimp only;rw[List.length_set];exact kg⟩ hk rfl (by simp[bH,List.map_set])
     ·simp only[af hd] at hk;have FF:=wF @hd @hi @kY @cF @hg @iK @db @cQ
      try refine aF ?_
      try clear FF
      subst hl;exact fin ⟨vs.set i x,al,sp+1,false,cv,asked⟩ r ((m:Int)+1) (ga) (gs+1) (gq) _ _ _ _ _ (.box (s14.gen+1) [iA 3,iA i]) _ _ hlt rfl ⟨rfl,by dsimp only;simp only[List.length_cons] at*;omega,by dsimp only;omega,by dsimp only;omega,jO,by dsimp only;rw[List.length_set];exact kg⟩ hk rfl (by simp[bH,List.map_set])
   by_cases h5:op=5
   ·subst h5;unfold kv at hr;rw[af au,af au,af au,af au,aq au] at hr
    cases st with
    |nil=>cases hr
    |cons x r=>
     simp only[dF,wK];obtain⟨l,hl,cQ,kY,cF,hg,iK,db⟩:=LR r (by simp only[List.length_cons] at cT;omega);rw[hl];have iN:((x::r).length:Int)=(r.length:Int)+1:=ai;rw[iN];dsimp only at hr;split at hr
     ·rename_i ES;cases hr;have axR:2<=max 1 (min x 4)/\max 1 (min x 4)<=4:=ab;have FF:=kj @ES @kY @cF @hg @iK @db @cQ;refine bJ (arC answers asked.length (max 1 (min x 4)) axR ab ha) ?_
      try clear FF
      subst hl;exact fin ⟨vs,al,sp+1,false,cv,asked++[max 1 (min x 4)]⟩ (uM answers asked.length (max 1 (min x 4))::r) ((m:Int)+1) (ga) (gs) (gq+1) _ _ _ _ _ (.box (s14.gen+1) [iA 5,iA nn]) _ _ hlt rfl ⟨rfl,by dsimp only;simp only[List.length_cons] at*;omega,by dsimp only;omega,by dsimp only;simp only[List.length_append,List.length_cons,List.length_nil];omega,jO,kg⟩ hk rfl (by simp[bH])
     ·rename_i ES;cases hr;have FF:=kj @ES @kY @cF @hg @iK @db @cQ
      try refine aF ?_
      try clear FF
      subst hl;exact fin ⟨vs,al,sp+1,false,cv,asked⟩ (0::r) ((m:Int)+1) (ga) (gs) (gq) _ _ _ _ _ (.box (s14.gen+1) [iA 5,iA nn]) _ _ hlt rfl ⟨rfl,by dsimp only;simp only[List.length_cons] at*;omega,by dsimp only;omega,by dsimp only;omega,jO,kg⟩ hk rfl (by simp[bH])
   by_cases h6:op=6\/op=7\/op=8\/op=9\/op=11\/op=12\/op=13
   ·have Wz:=fun(x y:Int) (hx:bu x=true) (hy:bu y=true)=>arB op y x h6 hy hx
    obtain⟨q,hq⟩:∃q:Int,q=op:=⟨_,rfl⟩
    rcases h6 with rfl|rfl|rfl|rfl|rfl|rfl|rfl
    all_goals
     unfold kv at hr;rw[af au,af au,af au,af au,af au,aq au] at hr
     cases st with
     |nil=>cases hr
     |cons x r'=>cases r' with
      |nil=>cases hr
      |cons y r=>
       simp only[dF,wK,List.append_assoc,List.cons_append,List.nil_append]
       have hbr:r.length+2<=sp:=by simp only[List.length_cons] at cT;omega
       obtain⟨l,hl,cQ,EZ,Fa,hT,h01,tN,cF,aax,zg,fQ,aay,aaz,Fb⟩:=aiR r ab;rw[hl];have iN:((x::y::r).length:Int)=(r.length:Int)+2:=bq;rw[iN];dsimp only at hr;split at hr
       case isFalse=>cases hr
       rename_i dW;cases hr;rw[bV] at dW;have FF:=Wj @EZ @Fa @hT @h01 @tN @cF @aax @zg @fQ @aay @aaz @Fb @cQ;refine bJ (Wz x y dW.1 dW.2) ?_
       try clear FF
       subst hl;exact fin ⟨vs,al,sp+1,false,cv,asked⟩ (BR q y x::r) ((m:Int)+1) (ga) (gs+1) (gq) _ _ _ _ _ (.box (s14.gen+1) [iA q,iA nn]) _ _ hlt rfl ⟨rfl,by dsimp only;simp only[List.length_cons] at*;omega,by dsimp only;omega,by dsimp only;omega,jO,kg⟩ (by rw[hq];exact hk) rfl (by simp[bH,hq])
   by_cases h10:op=10
   ·subst h10;unfold kv at hr;rw[af au,af au,af au,af au,af au,af au,aq au] at hr
    cases st with
    |nil=>cases hr
    |cons x r=>
     simp only[dF,wK];obtain⟨l,hl,cQ,kY,cF,hg,iK,db⟩:=LR r (by simp only[List.length_cons] at cT;omega);rw[hl];have iN:((x::r).length:Int)=(r.length:Int)+1:=ai;rw[iN];dsimp only at hr;split at hr
     case isFalse=>cases hr
     rename_i dW;cases hr
     have aGK: -2147483647<=x/\x<=2147483647:=by simpa [bu] using dW
     have qZ:=afm (a:=x) ab ab;have FF:=kj @qZ @kY @cF @hg @iK @db @cQ
     try refine aF ?_
     try clear FF
     subst hl;exact fin ⟨vs,al,sp+1,false,cv,asked⟩ (-x::r) ((m:Int)+1) (ga) (gs) (gq) _ _ _ _ _ (.box (s14.gen+1) [iA 10,iA nn]) _ _ hlt rfl ⟨rfl,by dsimp only;simp only[List.length_cons] at*;omega,by dsimp only;omega,by dsimp only;omega,jO,kg⟩ hk rfl (by simp[bH])
   by_cases h14:op=14
   ·subst h14;unfold kv at hr;rw[af au,af au,af au,af au,af au,af au,af au,aq au] at hr
    cases st with
    |nil=>cases hr
    |cons x r=>
     simp only[dF,wK];obtain⟨l,hl,cQ,kY,cF,hg,iK,db⟩:=LR r (by simp only[List.length_cons] at cT;omega);rw[hl];have iN:((x::r).length:Int)=(r.length:Int)+1:=ai;rw[iN];cases hr;have FF:=gI @kY @cF @hg @iK @db @cQ;refine bJ (Sl (decide (x=0))) ?_
     try clear FF
     subst hl;exact fin ⟨vs,al,sp+1,false,cv,asked⟩ (zS (decide (x=0))::r) ((m:Int)+1) (ga) (gs) (gq) _ _ _ _ _ (.box (s14.gen+1) [iA 14,iA nn]) _ _ hlt rfl ⟨rfl,by dsimp only;simp only[List.length_cons] at*;omega,by dsimp only;omega,by dsimp only;omega,jO,kg⟩ hk rfl (by simp[bH])
   by_cases h15:op=15
   ·subst h15;unfold kv at hr;rw[af au,af au,af au,af au,af au,af au,af au,af au,aq au] at hr;cases hr;have FF:=trivial
    try refine aF ?_
    try clear FF
    exact fin ⟨vs,al,sp+1,false,cv,asked⟩ st nn (ga) (gs) (gq) _ _ _ _ _ (.box (s14.gen+1) [iA 15,iA nn]) _ _ hlt rfl ⟨rfl,by dsimp only;simp only[List.length_cons] at*;omega,by dsimp only;omega,by dsimp only;omega,jO,kg⟩ hk rfl (by simp[bH])
   by_cases h16:op=16
   ·subst h16;unfold kv at hr;rw[af au,af au,af au,af au,af au,af au,af au,af au,af au,aq au] at hr
    cases st with
    |nil=>cases hr
    |cons x r=>
     simp only[dF,wK];obtain⟨l,hl,cQ,kY,cF,hg,iK,db⟩:=LR r (by simp only[List.length_cons] at cT;omega);rw[hl];have iN:((x::r).length:Int)=(r.length:Int)+1:=ai;rw[iN];cases hr;by_cases hx:x=0
     ·simp only[aq hx] at hk;have FF:=kj @hx @kY @cF @hg @iK @db @cQ
      try refine aF ?_
      try clear FF
      subst hl;exact fin ⟨vs,al,sp+1,false,cv,asked⟩ r nn (ga) (gs+1) (gq) _ _ _ _ _ (.box (s14.gen+1) [iA 16,iA nn]) _ _ hlt rfl ⟨rfl,by dsimp only;simp only[List.length_cons] at*;omega,by dsimp only;omega,by dsimp only;omega,jO,kg⟩ hk rfl (by simp[bH])
     ·simp only[af hx] at hk;have FF:=kj @hx @kY @cF @hg @iK @db @cQ
      try refine aF ?_
      try clear FF
      subst hl;exact fin ⟨vs,al,sp+1,false,cv,asked⟩ r ((m:Int)+1) (ga) (gs+1) (gq) _ _ _ _ _ (.box (s14.gen+1) [iA 16,iA nn]) _ _ hlt rfl ⟨rfl,by dsimp only;simp only[List.length_cons] at*;omega,by dsimp only;omega,by dsimp only;omega,jO,kg⟩ hk rfl (by simp[bH])
   by_cases h17:op=17
   ·subst h17;unfold kv at hr;rw[af au,af au,af au,af au,af au,af au,af au,af au,af au,af au,aq au] at hr
    cases st with
    |nil=>cases hr
    |cons x r'=>cases r' with
     |nil=>cases hr
     |cons y r''=>cases r'' with
      |nil=>cases hr
      |cons t r=>
       simp only[dF,wK,List.append_assoc,List.cons_append,List.nil_append]
       obtain⟨l,hl⟩:∃l,(List.map (fun n=>[iA n]) r).reverse=l:=⟨_,rfl⟩
       rw[hl]
       have cQ:l.length=r.length:=by rw[<-hl];simp
       have iN:((x::y::t::r).length:Int)=(r.length:Int)+3:=bq;rw[iN]
       have hbr:r.length+3<=sp:=by simp only[List.length_cons] at cT;omega
       have TR:aW .sub (.int .i64 ((r.length:Int)+3)) (.int .i64 3)=some (.int .i64 (r.length:Int)):=by rw[Ck ab ab];congr 2;omega
       have EZ:aW .sub (.int .i64 ((r.length:Int)+3)) (.int .i64 2)=some (.int .i64 ((r.length:Int)+1)):=by rw[Ck ab ab];congr 2;omega
       have Fa:aW .sub (.int .i64 ((r.length:Int)+3)) (.int .i64 1)=some (.int .i64 ((r.length:Int)+2)):=by rw[Ck ab ab];congr 2;omega
       have rz:((r.length:Int)+1).toNat=r.length+1:=ab;have fR:((r.length:Int)+2).toNat=r.length+2:=ab;have h01:(0:Int)<=(r.length:Int)+1:=ab;have h02:(0:Int)<=(r.length:Int)+2:=ab;have tN:(r.length:Int)<(r.length:Int)+3:=ab;have cF:(r.length:Int)+1<(r.length:Int)+3:=ab;have fO:(r.length:Int)+2<(r.length:Int)+3:=ab
       have zg:∀a b c:List AC,(l++[a,b,c])[r.length]? =some a:=fun a b c=>by rw[iR ab,cQ];simp
       have fQ:∀a b c:List AC,(l++[a,b,c])[r.length+1]? =some b:=fun a b c=>by rw[iR ab,cQ,show r.length+1-r.length=1 by omega];rfl
       have gE:∀a b c:List AC,(l++[a,b,c])[r.length+2]? =some c:=fun a b c=>by rw[iR ab,cQ,show r.length+2-r.length=2 by omega];rfl
       have Fb:∀a b c:List AC,(l++[a,b,c]).take r.length=l:=fun a b c=>by rw[uE ab,nh ab]
       have IY:=aas names 9 1 ab;rw[List.drop_one] at IY;have EH:nu al<=al.length:=List.countP_le_length;cases hr
       obtain⟨N1,hN1⟩:∃N1,names.getD 1 0=N1:=⟨_,rfl⟩
       rw[hN1] at IY;simp only[hN1] at hk;by_cases Fc:0<=t
       ·by_cases Pd:t<N1
        ·by_cases ht2:nu al<20
         ·have aaA:(nu al:Int)<20:=ab;simp only[aq (show 0<=t/\t<N1/\nu al<20 from⟨Fc,Pd,ht2⟩)] at hk;have FF:=Wl @Fc @Pd @aaA @TR @EZ @Fa @rz @fR @h01 @h02 @tN @cF @fO @zg @fQ @gE @Fb @cQ @IY;refine bJ (aiO al ga ab) ?_
          try clear FF
          subst hl;exact fin ⟨vs,al++[(⟨3,t,nn,y,x⟩:fW)],sp+1,false,cv,asked⟩ r ((m:Int)+1) (ga+1) (gs+1) (gq) _ _ _ _ _ (.box (s14.gen+1) [iA 17,iA nn]) _ _ hlt rfl ⟨rfl,by dsimp only;simp only[List.length_cons] at*;omega,by dsimp only;simp only[List.length_append,List.length_cons,List.length_nil];omega,by dsimp only;omega,jO,kg⟩ hk rfl (by simp[bH])
         ·have aaA:¬(nu al:Int)<20:=ab;simp only[af (show¬(0<=t/\t<N1/\nu al<20) from fun hh=>ht2 hh.2.2)] at hk;have FF:=Wl @Fc @Pd @aaA @TR @EZ @Fa @rz @fR @h01 @h02 @tN @cF @fO @zg @fQ @gE @Fb @cQ @IY;refine bJ (aiO al ga ab) ?_
          try clear FF
          subst hl;exact fin ⟨vs,al,sp+1,false,cv,asked⟩ r ((m:Int)+1) (ga) (gs+1) (gq) _ _ _ _ _ (.box (s14.gen+1) [iA 17,iA nn]) _ _ hlt rfl ⟨rfl,by dsimp only;simp only[List.length_cons] at*;omega,by dsimp only;omega,by dsimp only;omega,jO,kg⟩ hk rfl (by simp[bH])
        ·simp only[af (show¬(0<=t/\t<N1/\nu al<20) from fun hh=>Pd hh.2.1)] at hk;have FF:=aor @Fc @Pd @TR @EZ @Fa @rz @fR @h01 @h02 @tN @cF @fO @zg @fQ @gE @Fb @cQ @IY
         try refine aF ?_
         try clear FF
         subst hl;exact fin ⟨vs,al,sp+1,false,cv,asked⟩ r ((m:Int)+1) (ga) (gs+1) (gq) _ _ _ _ _ (.box (s14.gen+1) [iA 17,iA nn]) _ _ hlt rfl ⟨rfl,by dsimp only;simp only[List.length_cons] at*;omega,by dsimp only;omega,by dsimp only;omega,jO,kg⟩ hk rfl (by simp[bH])
       ·simp only[af (show¬(0<=t/\t<N1/\nu al<20) from fun hh=>Fc hh.1)] at hk;have FF:=adz @Fc @TR @EZ @Fa @rz @fR @h01 @h02 @tN @cF @fO @zg @fQ @gE @Fb @cQ @IY
        try refine aF ?_
        try clear FF
        subst hl;exact fin ⟨vs,al,sp+1,false,cv,asked⟩ r ((m:Int)+1) (ga) (gs+1) (gq) _ _ _ _ _ (.box (s14.gen+1) [iA 17,iA nn]) _ _ hlt rfl ⟨rfl,by dsimp only;simp only[List.length_cons] at*;omega,by dsimp only;omega,by dsimp only;omega,jO,kg⟩ hk rfl (by simp[bH])
   by_cases h18:op=18
   ·subst h18;unfold kv at hr;rw[af au,af au,af au,af au,af au,af au,af au,af au,af au,af au,af au,aq au] at hr;cases hr;have FF:=trivial
    try refine aF ?_
    try clear FF
    exact fin ⟨vs,al++[(⟨4,nn,0,0,0⟩:fW)],sp+1,false,cv,asked⟩ st ((m:Int)+1) (ga+1) (gs) (gq) _ _ _ _ _ (.box (s14.gen+1) [iA 18,iA nn]) _ _ hlt rfl ⟨rfl,by dsimp only;simp only[List.length_cons] at*;omega,by dsimp only;simp only[List.length_append,List.length_cons,List.length_nil];omega,by dsimp only;omega,jO,kg⟩ hk rfl (by simp[bH])
   by_cases h19:op=19
   ·subst h19;unfold kv at hr;rw[af au,af au,af au,af au,af au,af au,af au,af au,af au,af au,af au,af au,aq au] at hr;cases hr;have FF:=trivial
    try refine aF ?_
    try clear FF
    exact fin ⟨vs,al++[(⟨5,nn,0,0,0⟩:fW)],sp+1,false,cv,asked⟩ st ((m:Int)+1) (ga+1) (gs) (gq) _ _ _ _ _ (.box (s14.gen+1) [iA 19,iA nn]) _ _ hlt rfl ⟨rfl,by dsimp only;simp only[List.length_cons] at*;omega,by dsimp only;simp only[List.length_append,List.length_cons,List.length_nil];omega,by dsimp only;omega,jO,kg⟩ hk rfl (by simp[bH])
   by_cases h20:op=20
   ·subst h20;unfold kv at hr;rw[af au,af au,af au,af au,af au,af au,af au,af au,af au,af au,af au,af au,af au,aq au] at hr;cases hr;have FF:=trivial
    try refine aF ?_
    try clear FF
    exact fin ⟨vs,al++[(⟨2,0,0,0,0⟩:fW)],sp+1,false,cv,asked⟩ st ((m:Int)+1) (ga+1) (gs) (gq) _ _ _ _ _ (.box (s14.gen+1) [iA 20,iA nn]) _ _ hlt rfl ⟨rfl,by dsimp only;simp only[List.length_cons] at*;omega,by dsimp only;simp only[List.length_append,List.length_cons,List.length_nil];omega,by dsimp only;omega,jO,kg⟩ hk rfl (by simp[bH])
   by_cases h21:op=21
   ·subst h21;unfold kv at hr;rw[af au,af au,af au,af au,af au,af au,af au,af au,af au,af au,af au,af au,af au,af au,aq au] at hr
    cases st with
    |nil=>cases hr
    |cons x r'=>cases r' with
     |nil=>cases hr
     |cons y r=>
      simp only[dF,wK,List.append_assoc,List.cons_append,List.nil_append]
      have hbr:r.length+2<=sp:=by simp only[List.length_cons] at cT;omega
      obtain⟨l,hl,cQ,EZ,Fa,hT,h01,tN,cF,aax,zg,fQ,aay,aaz,Fb⟩:=aiR r ab;rw[hl];have iN:((x::y::r).length:Int)=(r.length:Int)+2:=bq;rw[iN];cases hr;have FF:=Wj @EZ @Fa @hT @h01 @tN @cF @aax @zg @fQ @aay @aaz @Fb @cQ
      try refine aF ?_
      try clear FF
      subst hl;exact fin ⟨vs,al++[(⟨6,y,x,0,0⟩:fW)],sp+1,false,cv,asked⟩ r ((m:Int)+1) (ga+1) (gs+1) (gq) _ _ _ _ _ (.box (s14.gen+1) [iA 21,iA nn]) _ _ hlt rfl ⟨rfl,by dsimp only;simp only[List.length_cons] at*;omega,by dsimp only;simp only[List.length_append,List.length_cons,List.length_nil];omega,by dsimp only;omega,jO,kg⟩ hk rfl (by simp[bH])
   by_cases h22:op=22
   ·subst h22;unfold kv at hr;rw[af au,af au,af au,af au,af au,af au,af au,af au,af au,af au,af au,af au,af au,af au,af au,aq au] at hr
    cases st with
    |nil=>cases hr
    |cons x r=>
     simp only[dF,wK];obtain⟨l,hl,cQ,kY,cF,hg,iK,db⟩:=LR r (by simp only[List.length_cons] at cT;omega);rw[hl];have iN:((x::r).length:Int)=(r.length:Int)+1:=ai;rw[iN];cases hr;have FF:=gI @kY @cF @hg @iK @db @cQ
     try refine aF ?_
     try clear FF
     subst hl;exact fin ⟨vs,al++[(⟨7,x,0,0,0⟩:fW)],sp+1,false,cv,asked⟩ r ((m:Int)+1) (ga+1) (gs+1) (gq) _ _ _ _ _ (.box (s14.gen+1) [iA 22,iA nn]) _ _ hlt rfl ⟨rfl,by dsimp only;simp only[List.length_cons] at*;omega,by dsimp only;simp only[List.length_append,List.length_cons,List.length_nil];omega,by dsimp only;omega,jO,kg⟩ hk rfl (by simp[bH])
   have h6a:¬op=6:=fun e=>h6 (.inl e)
   have h7:¬op=7:=fun e=>h6 (by simp[e])
   have h8:¬op=8:=fun e=>h6 (by simp[e])
   have h9:¬op=9:=fun e=>h6 (by simp[e])
   have h11:¬op=11:=fun e=>h6 (by simp[e])
   have h12:¬op=12:=fun e=>h6 (by simp[e])
   have h13:¬op=13:=fun e=>h6 (by simp[e])
   unfold kv at hr;rw[af h1,af h2,af h4,af h3,af h5,af ab,af h10,af h14,af h15,af h16,af h17,af h18,af h19,af h20,af h21,af h22] at hr;cases hr;change some _=some o at hk;cases hk;have FF:=adB @h1 @h2 @h3 @h4 @h5 @h6a @h7 @h8 @h9 @h10 @h11 @h12 @h13 @h14 @h15 @h16 @h17 @h18 @h19 @h20 @h21 @h22
   try refine aF ?_
   try clear FF
   refine zE ?_;exact(rfl)
  ·have hsp:sp=500:=ab;subst hsp;change some _=some o at CH;cases CH;have FF:=trivial
   try refine aF ?_
   try clear FF
   refine zE ?_;exact(rfl)
end Ab
end Go.Proofs.YtkanpepkdcmpmaaGreatDoor
