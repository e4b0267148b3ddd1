import Derived.Test.YtlnghiefahcnpaaGreatQ16
import Derived.Test.YtlnghiefahcnpaaGreatQ7
set_option maxHeartbeats 40000000
set_option maxRecDepth 100000
set_option linter.all false
namespace Go.Proofs.YtlnghiefahcnpaaGreat
namespace Ab
open Go Go.RowKit dL
attribute [local irreducible] aC bo aU
open aq (tJ tK np pN bp kv jO dF de sq mj nr eS tM)
theorem CF (l:List dF)(g:Nat)(hl:l.length<=1000000):fQ Tryz.prog 152 [.w (.c (.own 300 g))] [(300,.row 235 5 g (l.map Ao))] (fun x S'=>x=.w (.c (iA (jO l)))/\∀p∈[(300,Slot.row 235 5 g (l.map Ao))],S' p.1=p.2):=by
 refine lQ aG Tryz.func152 rfl abu [.t 2] ah _ rfl _ [2,3,4] [] ?_;refine bG abu ?_;dsimp only[VM,uV,S0,List.cons_append,List.nil_append,List.map];have FF:=trivial
 try refine aj ?_
 try clear FF
 refine cF (fun n V S=>∃k:Nat,k<=l.length/\n=l.length-k/\
  V=[(0,.w (.c (.own 300 g))),(2,.w (.c (iA 0))),(3,.w (.c (iA (jO (l.take k))))),(4,.w (.c (iA k)))]/\S=[(300,.row 235 5 g (l.map Ao))]) (n:=l.length) ⟨0,aa,aa,rfl,rfl⟩ ?_
 rintro n V L S ⟨k,hk,rfl,rfl,rfl⟩;by_cases hlt:k<l.length
 ·have cg:k<=1000000000:=aa
  obtain⟨x,hx⟩:∃x,l[k]=x:=⟨_,rfl⟩
  have hs:jO (l.take (k+1))=jO (l.take k)+if x.kind=3 then 1 else 0:=by
   rw[<-hx];unfold jO;rw[ki hlt,List.countP_append];simp[List.countP_cons]
  have wW:jO (l.take k)<=1000000000:=Nat.le_trans (List.countP_le_length) (by simp;omega);generalize jO (l.take k)=m at hs wW⊢;by_cases he:x.kind=3
  ·rw[if_pos he] at hs;have FF:=fX @hlt @hx @he (bL cg) (bL wW)
   try refine aj ?_
   try clear FF
   exact⟨l.length-(k+1),aa,k+1,aa,aa,by rw[hs];rfl,rfl⟩
  ·rw[if_neg he,qB] at hs;have FF:=dW @hlt @hx @he (bL cg)
   try refine aj ?_
   try clear FF
   exact⟨l.length-(k+1),aa,k+1,aa,aa,by rw[hs];rfl,rfl⟩
 ·have jE:k=l.length:=aa;have FF:=@hlt
  try refine aj ?_
  try clear FF
  (try dsimp only[aM,aJ])
  refine gZ (by first|(simp;done)|(simp[hl,hw,fz];try rfl)|(simp;try rfl)) ae ?_;exact(by rw[jE,ig];simp[cZ])
abbrev sO (o:de):List AC:=[ints o.vars,acts o.acts,iA o.steps,bA o.spent,ints o.covered,ints o.asked]
theorem Oe {n:Nat}(l:List Int)(x:Int)(h:l.length<=n):(kv l x).length<=n+1:=by
 unfold kv;split
 ·omega
 ·have:=kp List.length (Bf (p:=fun y:Int=>decide (y<x)) (l:=l));rw[List.length_append] at this;simp only[List.length_append,List.length_cons];omega
structure abv (n0:Nat)(o:de)(st:List Int):Prop where
 spent:o.spent=false
 st:st.length<=o.steps
 acts:o.acts.length<=o.steps
 asked:o.asked.length<=o.steps
 au:o.covered.length<=o.steps
 vars:o.vars.length=n0
def abw (p:Prog)(handler:Int)(vars names answers:List Int)(o:de)(n:Nat)(V:List (Nat×AV))(S:List (Nat×Slot)):Prop:=
 ∃(o':de) (st:List Int) (pc:Int) (ga gs gq:Nat) (x14 x15 x16 x17 x51:AV) (s14:Slot),n=500-o'.steps/\o'.steps<=500/\abv vars.length o' st/\mj p names answers (500-o'.steps) o' st pc=some o/\
  V=[(0,.w (.agg (bW p))),(1,.w (.c (iA handler))),(2,.w (.c (ints vars))),(3,.w (.agg (nth names 9))),(4,.w (.c (ints answers))),(5,.pb 5 1 0),(8,.pb 8 1 0),(10,.pb 10 1 0),(11,.pb 11 1 0),(12,.w (.c (iA pc))),(13,.w (.c (.own 13 gs))),(14,x14),(15,x15),(16,x16),(17,x17),(18,.w (.c (.own 18 1))),(51,x51)]/\
  S=[(5,.box 1 (bW p)),(8,.box 1 (nth names 9)),(10,.box 1 [.sl [],.sl [],iA 0,bA false,.sl [],.sl []]),(11,.box 1 [.own 18 2,.own 300 ga,iA o'.steps,bA false,ints o'.covered,.own 301 gq]),(14,s14),(18,.row 3 1 2 (bB o'.vars)),(13,.row 3 1 gs (bB st.reverse)),(300,.row 235 5 ga (o'.acts.map Ao)),(301,.row 3 1 gq (bB o'.asked))]
theorem aoo (p:Prog)(handler:Nat)(vars names answers:List Int)(o:de)(h:sq p handler vars names answers=some o)(hh:handler<40)(hn:names.length=9)(hv:vars.length<=1000000)(ha:answers.length<=1000000)(hc:p.code.length<=1000000):
  bt Tryz.prog 135 [.agg (bW p),.c (iA handler),.c (ints vars),.agg (nth names 9),.c (ints answers)] (fun x=>x=.w (.agg (sO o))):=by
 unfold sq at h;split at h
 ·cases h
 rename_i e he
 have pw:p.entry.getD handler 0=e:=by rw[eu,he];rfl
 have Of:=anW p hh;rw[pw] at Of;have wZ:vars.length<=100000000:=aa;have fP:(handler:Int)<40:=aa;have JC:1+handler<=42:=aa;have abx:1+handler+1<=43:=aa;refine bZ aG Tryz.func135 rfl abq [.cell 10 6] ah _ rfl [5,8,10,11,12,13,14,15,16,17,18,51] [5,8,10,11,14,18,13,300,301] ?_;refine bG abq ?_;dsimp only[V0,uV,S0];by_cases kG:e<0
 ·rw[if_pos kG] at h;cases h;have FF:=jl @Of @hh @fP @JC @abx @kG @wZ
  try refine aj ?_
  try clear FF
  (try dsimp only[aM,aJ])
  exact bd (by simp;try rfl) (rfl)
 ·rw[if_neg kG] at h;have FF:=jl @Of @hh @fP @JC @abx @kG @wZ
  try refine aj ?_
  try clear FF
  refine cF (abw p handler vars names answers o) (n:=500) ⟨⟨vars,[],0,false,[],[]⟩,[],e,1,1,1,.u,.u,.u,.u,.u,.dead 0,rfl,ae,⟨rfl,ae,ae,ae,ae,rfl⟩,h,rfl,rfl⟩ ?_;rintro n V L S ⟨o',st,pc,ga,gs,gq,x14,x15,x16,x17,x51,s14,rfl,aby,hB,wY,rfl,rfl⟩
  have fin:∀(o2:de) (dP:List Int) (JD:Int) (ga gs gq:Nat) (x14 x15 x16 x17 x51:AV) (s14:Slot) (V:List (Nat×AV)) (S:List (Nat×Slot)),o'.steps<500->o2.steps=o'.steps+1->abv vars.length o2 dP->mj p names answers (500-o2.steps) o2 dP JD=some o->
    V=[(0,.w (.agg (bW p))),(1,.w (.c (iA handler))),(2,.w (.c (ints vars))),(3,.w (.agg (nth names 9))),(4,.w (.c (ints answers))),(5,.pb 5 1 0),(8,.pb 8 1 0),(10,.pb 10 1 0),(11,.pb 11 1 0),(12,.w (.c (iA JD))),(13,.w (.c (.own 13 gs))),(14,x14),(15,x15),(16,x16),(17,x17),(18,.w (.c (.own 18 1))),(51,x51)]->
    S=[(5,.box 1 (bW p)),(8,.box 1 (nth names 9)),(10,.box 1 [.sl [],.sl [],iA 0,bA false,.sl [],.sl []]),(11,.box 1 [.own 18 2,.own 300 ga,iA o2.steps,bA false,ints o2.covered,.own 301 gq]),(14,s14),(18,.row 3 1 2 (bB o2.vars)),(13,.row 3 1 gs (bB dP.reverse)),(300,.row 235 5 ga (o2.acts.map Ao)),(301,.row 3 1 gq (bB o2.asked))]->
    ∃m,m<500-o'.steps/\abw p handler vars names answers o m V S:=fun o2 dP JD ga gs gq x14 x15 x16 x17 x51 s14 V S h0 h1 h2 h3 h4 h5=>
   ⟨500-o2.steps,aa,o2,dP,JD,ga,gs,gq,x14,x15,x16,x17,x51,s14,rfl,aa,h2,h3,h4,h5⟩
  obtain⟨vs,al,sp,spent,au,asked⟩:=o';obtain⟨rfl,bH,fq,ia,JE,eR⟩:=hB;dsimp only at*;by_cases hlt:sp<500
  ·have hf:500-sp=(500-(sp+1))+1:=aa;have gj:(sp:Int)<500:=aa;have aop:sp<=1000000000:=aa;rw[hf] at wY
   obtain⟨r,hr,hk⟩:∃r,nr p names answers ⟨vs,al,sp,false,au,asked⟩ st pc=some r/\(match r with
     | .stop o=>some o
     | .go o st pc=>mj p names answers (500-(sp+1)) o st pc)=some o:=by
    unfold mj at wY;split at wY
    ·cases wY
    ·rename_i r hr;exact⟨_,hr,wY⟩
    ·rename_i r1 r2 r3 hr;exact⟨_,hr,wY⟩
   clear wY hf;unfold nr at hr;split at hr
   ·cases hr
   rename_i Fo
   obtain⟨m,rfl⟩:∃m:Nat,pc=m:=⟨pc.toNat,aa⟩
   rw[iT] at hr;split at hr
   ·cases hr
   rename_i op nn hop;dsimp only at hr;obtain⟨hm,yA⟩:=bk.1 hop;have hm9:m<=1000000000:=aa;have eK:(kv au m).length<=sp+1:=Oe au m JE;have FF:=fX @gj @hm @yA (bL aop) (bL hm9)
   repeat first|refine aN (Oa au m aa) ?_|refine aO (Oa au m aa) ?_|refine aP (Oa au m aa) ?_|refine aj ?_
   try clear FF
   generalize kv au (m:Int)=cv at*;clear hop yA hm;by_cases h1:op=1
   ·subst h1;unfold eS at hr;rw[if_pos ai] at hr;cases hr;have FF:=trivial
    try refine aj ?_
    try clear FF
    exact fin ⟨vs,al,sp+1,false,cv,asked⟩ (nn::st) ((m:Int)+1) (ga) (gs+1) (gq) _ _ _ _ _ (.box (s14.gen+1) [iA 1,iA nn]) _ _ hlt rfl ⟨rfl,by dsimp only;simp only[List.length_cons] at*;omega,by dsimp only;omega,by dsimp only;omega,eK,eR⟩ hk rfl (by simp[bB])
   by_cases h2:op=2
   ·subst h2;unfold eS at hr;rw[if_neg ai,if_pos ai] at hr;split at hr
    ·cases hr
    rename_i jb;rw[bz] at hr;obtain⟨v,hv',hr⟩:=hr;cases hr
    obtain⟨i,rfl⟩:∃i:Nat,nn=i:=⟨nn.toNat,aa⟩
    rw[iT] at hv';obtain⟨hi,JF⟩:=bk.1 hv';have FF:=jk @hi @JF
    try refine aj ?_
    try clear FF
    exact fin ⟨vs,al,sp+1,false,cv,asked⟩ (v::st) ((m:Int)+1) (ga) (gs+1) (gq) _ _ _ _ _ (.box (s14.gen+1) [iA 2,iA i]) _ _ hlt rfl ⟨rfl,by dsimp only;simp only[List.length_cons] at*;omega,by dsimp only;omega,by dsimp only;omega,eK,eR⟩ hk rfl (by simp[bB])
   by_cases h4:op=4
   ·subst h4;unfold eS at hr;rw[if_neg ai,if_neg ai,if_pos ai] at hr;split at hr
    ·cases hr
    rename_i jb;rw[bz] at hr;obtain⟨v,hv',hr⟩:=hr;cases hr
    obtain⟨i,rfl⟩:∃i:Nat,nn=i:=⟨nn.toNat,aa⟩
    rw[iT] at hv';obtain⟨hi,JF⟩:=bk.1 hv';have dI:(i:Int)<9:=aa;have Fp:i<=8:=aa;have aoq:i+1<=9:=aa;have abz:=Od names 9 i aa
    have ez:names.getD i 0=v:=by rw[eu,hv'];rfl
    rw[ez] at abz;have FF:=dW @dI @Fp @aoq @abz
    try refine aj ?_
    try clear FF
    exact fin ⟨vs,al,sp+1,false,cv,asked⟩ (v::st) ((m:Int)+1) (ga) (gs+1) (gq) _ _ _ _ _ (.box (s14.gen+1) [iA 4,iA i]) _ _ hlt rfl ⟨rfl,by dsimp only;simp only[List.length_cons] at*;omega,by dsimp only;omega,by dsimp only;omega,eK,eR⟩ hk rfl (by simp[bB])
   by_cases h3:op=3
   ·subst h3;unfold eS at hr;rw[if_neg ai,if_neg ai,if_neg ai,if_pos ai] at hr
    cases st with
    |nil=>cases hr
    |cons x r=>
     simp only[ey,lh]
     obtain⟨l,hl⟩:∃l,(List.map (fun n=>[iA n]) r).reverse=l:=⟨_,rfl⟩
     rw[hl]
     have ba:l.length=r.length:=by rw[<-hl];simp
     have ei:((x::r).length:Int)=(r.length:Int)+1:=ae;rw[ei]
     have ik:aY .sub (.int .i64 ((r.length:Int)+1)) (.int .i64 1)=some (.int .i64 (r.length:Int)):=by rw[fJ (by simp only[List.length_cons] at bH;omega) (by simp only[List.length_cons] at bH;omega)];congr 2;omega
     have cn:(r.length:Int)<(r.length:Int)+1:=aa
     have hg:∀z:List AC,(l++[z])[r.length]? =some z:=fun z=>by rw[cD aa,ba];simp
     have gz:∀z w:List AC,(l++[w]).set r.length z=l++[z]:=fun z w=>by rw[ld _ _ aa,ba];simp
     have cm:∀w:List AC,(l++[w]).take r.length=l:=fun w=>by rw[iH aa,List.take_of_length_le aa]
     dsimp only at hr;split at hr
     ·cases hr
     rename_i jb;cases hr
     obtain⟨i,rfl⟩:∃i:Nat,nn=i:=⟨nn.toNat,aa⟩
     have hi:i<vs.length:=aa;rw[iT] at hk;by_cases hd:(i:Int)<p.cC
     ·simp only[if_pos hd] at hk;have FF:=td @hd @hi @ik @cn @hg @gz @cm @ba
      try refine aj ?_
      try clear FF
      subst hl;exact fin ⟨vs.set i x,al++[(⟨1,i,x,0,0⟩:dF)],sp+1,false,cv,asked⟩ r ((m:Int)+1) (ga+1) (gs+1) (gq) _ _ _ _ _ (.box (s14.gen+1) [iA 3,iA i]) _ _ hlt rfl ⟨rfl,by dsimp only;simp only[List.length_cons] at*;omega,by dsimp only;simp only[List.length_append,List.length_cons,List.length_nil];omega,by dsimp only;omega,eK,by dsimp only;rw[List.length_set];exact eR⟩ hk rfl (by simp[bB,List.map_set])
     ·simp only[if_neg hd] at hk;have FF:=td @hd @hi @ik @cn @hg @gz @cm @ba
      try refine aj ?_
      try clear FF
      subst hl;exact fin ⟨vs.set i x,al,sp+1,false,cv,asked⟩ r ((m:Int)+1) (ga) (gs+1) (gq) _ _ _ _ _ (.box (s14.gen+1) [iA 3,iA i]) _ _ hlt rfl ⟨rfl,by dsimp only;simp only[List.length_cons] at*;omega,by dsimp only;omega,by dsimp only;omega,eK,by dsimp only;rw[List.length_set];exact eR⟩ hk rfl (by simp[bB,List.map_set])
   by_cases h5:op=5
   ·subst h5;unfold eS at hr;rw[if_neg ai,if_neg ai,if_neg ai,if_neg ai,if_pos ai] at hr
    cases st with
    |nil=>cases hr
    |cons x r=>
     simp only[ey,lh]
     obtain⟨l,hl⟩:∃l,(List.map (fun n=>[iA n]) r).reverse=l:=⟨_,rfl⟩
     rw[hl]
     have ba:l.length=r.length:=by rw[<-hl];simp
     have ei:((x::r).length:Int)=(r.length:Int)+1:=ae;rw[ei]
     have ik:aY .sub (.int .i64 ((r.length:Int)+1)) (.int .i64 1)=some (.int .i64 (r.length:Int)):=by rw[fJ (by simp only[List.length_cons] at bH;omega) (by simp only[List.length_cons] at bH;omega)];congr 2;omega
     have cn:(r.length:Int)<(r.length:Int)+1:=aa
     have hg:∀z:List AC,(l++[z])[r.length]? =some z:=fun z=>by rw[cD aa,ba];simp
     have gz:∀z w:List AC,(l++[w]).set r.length z=l++[z]:=fun z w=>by rw[ld _ _ aa,ba];simp
     have cm:∀w:List AC,(l++[w]).take r.length=l:=fun w=>by rw[iH aa,List.take_of_length_le aa]
     dsimp only at hr;split at hr
     ·rename_i Og;cases hr;have Oh:2<=max 1 (min x 4)/\max 1 (min x 4)<=4:=aa;have FF:=jl @Og @ik @cn @hg @gz @cm @ba
      repeat first|refine aN (NZ answers asked.length (max 1 (min x 4)) Oh aa ha) ?_|refine aO (NZ answers asked.length (max 1 (min x 4)) Oh aa ha) ?_|refine aP (NZ answers asked.length (max 1 (min x 4)) Oh aa ha) ?_|refine aj ?_
      try clear FF
      subst hl;exact fin ⟨vs,al,sp+1,false,cv,asked++[max 1 (min x 4)]⟩ (pN answers asked.length (max 1 (min x 4))::r) ((m:Int)+1) (ga) (gs) (gq+1) _ _ _ _ _ (.box (s14.gen+1) [iA 5,iA nn]) _ _ hlt rfl ⟨rfl,by dsimp only;simp only[List.length_cons] at*;omega,by dsimp only;omega,by dsimp only;simp only[List.length_append,List.length_cons,List.length_nil];omega,eK,eR⟩ hk rfl (by simp[bB])
     ·rename_i Og;cases hr;have FF:=jl @Og @ik @cn @hg @gz @cm @ba
      try refine aj ?_
      try clear FF
      subst hl;exact fin ⟨vs,al,sp+1,false,cv,asked⟩ (0::r) ((m:Int)+1) (ga) (gs) (gq) _ _ _ _ _ (.box (s14.gen+1) [iA 5,iA nn]) _ _ hlt rfl ⟨rfl,by dsimp only;simp only[List.length_cons] at*;omega,by dsimp only;omega,by dsimp only;omega,eK,eR⟩ hk rfl (by simp[bB])
   by_cases h6:op=6
   ·subst h6;unfold eS at hr;rw[if_neg ai,if_neg ai,if_neg ai,if_neg ai,if_neg ai,if_pos ai] at hr
    cases st with
    |nil=>cases hr
    |cons x r'=>cases r' with
     |nil=>cases hr
     |cons y r=>
      simp only[ey,lh,List.append_assoc,List.cons_append,List.nil_append]
      obtain⟨l,hl⟩:∃l,(List.map (fun n=>[iA n]) r).reverse=l:=⟨_,rfl⟩
      rw[hl]
      have ba:l.length=r.length:=by rw[<-hl];simp
      have ei:((x::y::r).length:Int)=(r.length:Int)+2:=by simp;omega
      rw[ei]
      have yM:r.length+2<=sp:=by simp only[List.length_cons] at bH;omega
      have jV:aY .sub (.int .i64 ((r.length:Int)+2)) (.int .i64 2)=some (.int .i64 (r.length:Int)):=by rw[fJ aa aa];congr 2;omega
      have jW:aY .sub (.int .i64 ((r.length:Int)+2)) (.int .i64 1)=some (.int .i64 ((r.length:Int)+1)):=by rw[fJ aa aa];congr 2;omega
      have hT:((r.length:Int)+1).toNat=r.length+1:=aa;have h01:(0:Int)<=(r.length:Int)+1:=aa;have jg:(r.length:Int)<(r.length:Int)+2:=aa;have cn:(r.length:Int)+1<(r.length:Int)+2:=aa;have nO:(r.length:Int)+1<=(r.length:Int)+2:=aa
      have jY:∀a b:List AC,(l++[a,b])[r.length]? =some a:=fun a b=>by rw[cD aa,ba];simp
      have eP:∀a b:List AC,(l++[a,b])[r.length+1]? =some b:=fun a b=>by rw[cD aa,ba,show r.length+1-r.length=1 by omega];rfl
      have nP:∀z a b:List AC,(l++[a,b]).set r.length z=l++[z,b]:=fun z a b=>by rw[ld _ _ aa,ba];simp
      have nQ:∀a b:List AC,(l++[a,b]).take (r.length+1)=l++[a]:=fun a b=>by rw[tp,List.take_of_length_le aa,ba,show r.length+1-r.length=1 by omega];rfl
      have jZ:∀a b:List AC,(l++[a,b]).take r.length=l:=fun a b=>by rw[iH aa,List.take_of_length_le aa]
      dsimp only at hr;split at hr
      case isFalse=>cases hr
      rename_i bg;cases hr;rw[bN] at bg;have FF:=vL @jV @jW @hT @h01 @jg @cn @nO @jY @eP @nP @nQ @jZ @ba
      repeat first|refine aN (jF 6 y x ai bg.2 bg.1) ?_|refine aO (jF 6 y x ai bg.2 bg.1) ?_|refine aP (jF 6 y x ai bg.2 bg.1) ?_|refine aj ?_
      try clear FF
      subst hl;exact fin ⟨vs,al,sp+1,false,cv,asked⟩ (np 6 y x::r) ((m:Int)+1) (ga) (gs+1) (gq) _ _ _ _ _ (.box (s14.gen+1) [iA 6,iA nn]) _ _ hlt rfl ⟨rfl,by dsimp only;simp only[List.length_cons] at*;omega,by dsimp only;omega,by dsimp only;omega,eK,eR⟩ hk rfl (by simp[bB])
   by_cases h7:op=7
   ·subst h7;unfold eS at hr;rw[if_neg ai,if_neg ai,if_neg ai,if_neg ai,if_neg ai,if_pos ai] at hr
    cases st with
    |nil=>cases hr
    |cons x r'=>cases r' with
     |nil=>cases hr
     |cons y r=>
      simp only[ey,lh,List.append_assoc,List.cons_append,List.nil_append]
      obtain⟨l,hl⟩:∃l,(List.map (fun n=>[iA n]) r).reverse=l:=⟨_,rfl⟩
      rw[hl]
      have ba:l.length=r.length:=by rw[<-hl];simp
      have ei:((x::y::r).length:Int)=(r.length:Int)+2:=by simp;omega
      rw[ei]
      have yM:r.length+2<=sp:=by simp only[List.length_cons] at bH;omega
      have jV:aY .sub (.int .i64 ((r.length:Int)+2)) (.int .i64 2)=some (.int .i64 (r.length:Int)):=by rw[fJ aa aa];congr 2;omega
      have jW:aY .sub (.int .i64 ((r.length:Int)+2)) (.int .i64 1)=some (.int .i64 ((r.length:Int)+1)):=by rw[fJ aa aa];congr 2;omega
      have hT:((r.length:Int)+1).toNat=r.length+1:=aa;have h01:(0:Int)<=(r.length:Int)+1:=aa;have jg:(r.length:Int)<(r.length:Int)+2:=aa;have cn:(r.length:Int)+1<(r.length:Int)+2:=aa;have nO:(r.length:Int)+1<=(r.length:Int)+2:=aa
      have jY:∀a b:List AC,(l++[a,b])[r.length]? =some a:=fun a b=>by rw[cD aa,ba];simp
      have eP:∀a b:List AC,(l++[a,b])[r.length+1]? =some b:=fun a b=>by rw[cD aa,ba,show r.length+1-r.length=1 by omega];rfl
      have nP:∀z a b:List AC,(l++[a,b]).set r.length z=l++[z,b]:=fun z a b=>by rw[ld _ _ aa,ba];simp
      have nQ:∀a b:List AC,(l++[a,b]).take (r.length+1)=l++[a]:=fun a b=>by rw[tp,List.take_of_length_le aa,ba,show r.length+1-r.length=1 by omega];rfl
      have jZ:∀a b:List AC,(l++[a,b]).take r.length=l:=fun a b=>by rw[iH aa,List.take_of_length_le aa]
      dsimp only at hr;split at hr
      case isFalse=>cases hr
      rename_i bg;cases hr;rw[bN] at bg;have FF:=vL @jV @jW @hT @h01 @jg @cn @nO @jY @eP @nP @nQ @jZ @ba
      repeat first|refine aN (jF 7 y x ai bg.2 bg.1) ?_|refine aO (jF 7 y x ai bg.2 bg.1) ?_|refine aP (jF 7 y x ai bg.2 bg.1) ?_|refine aj ?_
      try clear FF
      subst hl;exact fin ⟨vs,al,sp+1,false,cv,asked⟩ (np 7 y x::r) ((m:Int)+1) (ga) (gs+1) (gq) _ _ _ _ _ (.box (s14.gen+1) [iA 7,iA nn]) _ _ hlt rfl ⟨rfl,by dsimp only;simp only[List.length_cons] at*;omega,by dsimp only;omega,by dsimp only;omega,eK,eR⟩ hk rfl (by simp[bB])
   by_cases h8:op=8
   ·subst h8;unfold eS at hr;rw[if_neg ai,if_neg ai,if_neg ai,if_neg ai,if_neg ai,if_pos ai] at hr
    cases st with
    |nil=>cases hr
    |cons x r'=>cases r' with
     |nil=>cases hr
     |cons y r=>
      simp only[ey,lh,List.append_assoc,List.cons_append,List.nil_append]
      obtain⟨l,hl⟩:∃l,(List.map (fun n=>[iA n]) r).reverse=l:=⟨_,rfl⟩
      rw[hl]
      have ba:l.length=r.length:=by rw[<-hl];simp
      have ei:((x::y::r).length:Int)=(r.length:Int)+2:=by simp;omega
      rw[ei]
      have yM:r.length+2<=sp:=by simp only[List.length_cons] at bH;omega
      have jV:aY .sub (.int .i64 ((r.length:Int)+2)) (.int .i64 2)=some (.int .i64 (r.length:Int)):=by rw[fJ aa aa];congr 2;omega
      have jW:aY .sub (.int .i64 ((r.length:Int)+2)) (.int .i64 1)=some (.int .i64 ((r.length:Int)+1)):=by rw[fJ aa aa];congr 2;omega
      have hT:((r.length:Int)+1).toNat=r.length+1:=aa;have h01:(0:Int)<=(r.length:Int)+1:=aa;have jg:(r.length:Int)<(r.length:Int)+2:=aa;have cn:(r.length:Int)+1<(r.length:Int)+2:=aa;have nO:(r.length:Int)+1<=(r.length:Int)+2:=aa
      have jY:∀a b:List AC,(l++[a,b])[r.length]? =some a:=fun a b=>by rw[cD aa,ba];simp
      have eP:∀a b:List AC,(l++[a,b])[r.length+1]? =some b:=fun a b=>by rw[cD aa,ba,show r.length+1-r.length=1 by omega];rfl
      have nP:∀z a b:List AC,(l++[a,b]).set r.length z=l++[z,b]:=fun z a b=>by rw[ld _ _ aa,ba];simp
      have nQ:∀a b:List AC,(l++[a,b]).take (r.length+1)=l++[a]:=fun a b=>by rw[tp,List.take_of_length_le aa,ba,show r.length+1-r.length=1 by omega];rfl
      have jZ:∀a b:List AC,(l++[a,b]).take r.length=l:=fun a b=>by rw[iH aa,List.take_of_length_le aa]
      dsimp only at hr;split at hr
      case isFalse=>cases hr
      rename_i bg;cases hr;rw[bN] at bg;have FF:=vL @jV @jW @hT @h01 @jg @cn @nO @jY @eP @nP @nQ @jZ @ba
      repeat first|refine aN (jF 8 y x ai bg.2 bg.1) ?_|refine aO (jF 8 y x ai bg.2 bg.1) ?_|refine aP (jF 8 y x ai bg.2 bg.1) ?_|refine aj ?_
      try clear FF
      subst hl;exact fin ⟨vs,al,sp+1,false,cv,asked⟩ (np 8 y x::r) ((m:Int)+1) (ga) (gs+1) (gq) _ _ _ _ _ (.box (s14.gen+1) [iA 8,iA nn]) _ _ hlt rfl ⟨rfl,by dsimp only;simp only[List.length_cons] at*;omega,by dsimp only;omega,by dsimp only;omega,eK,eR⟩ hk rfl (by simp[bB])
   by_cases h9:op=9
   ·subst h9;unfold eS at hr;rw[if_neg ai,if_neg ai,if_neg ai,if_neg ai,if_neg ai,if_pos ai] at hr
    cases st with
    |nil=>cases hr
    |cons x r'=>cases r' with
     |nil=>cases hr
     |cons y r=>
      simp only[ey,lh,List.append_assoc,List.cons_append,List.nil_append]
      obtain⟨l,hl⟩:∃l,(List.map (fun n=>[iA n]) r).reverse=l:=⟨_,rfl⟩
      rw[hl]
      have ba:l.length=r.length:=by rw[<-hl];simp
      have ei:((x::y::r).length:Int)=(r.length:Int)+2:=by simp;omega
      rw[ei]
      have yM:r.length+2<=sp:=by simp only[List.length_cons] at bH;omega
      have jV:aY .sub (.int .i64 ((r.length:Int)+2)) (.int .i64 2)=some (.int .i64 (r.length:Int)):=by rw[fJ aa aa];congr 2;omega
      have jW:aY .sub (.int .i64 ((r.length:Int)+2)) (.int .i64 1)=some (.int .i64 ((r.length:Int)+1)):=by rw[fJ aa aa];congr 2;omega
      have hT:((r.length:Int)+1).toNat=r.length+1:=aa;have h01:(0:Int)<=(r.length:Int)+1:=aa;have jg:(r.length:Int)<(r.length:Int)+2:=aa;have cn:(r.length:Int)+1<(r.length:Int)+2:=aa;have nO:(r.length:Int)+1<=(r.length:Int)+2:=aa
      have jY:∀a b:List AC,(l++[a,b])[r.length]? =some a:=fun a b=>by rw[cD aa,ba];simp
      have eP:∀a b:List AC,(l++[a,b])[r.length+1]? =some b:=fun a b=>by rw[cD aa,ba,show r.length+1-r.length=1 by omega];rfl
      have nP:∀z a b:List AC,(l++[a,b]).set r.length z=l++[z,b]:=fun z a b=>by rw[ld _ _ aa,ba];simp
      have nQ:∀a b:List AC,(l++[a,b]).take (r.length+1)=l++[a]:=fun a b=>by rw[tp,List.take_of_length_le aa,ba,show r.length+1-r.length=1 by omega];rfl
      have jZ:∀a b:List AC,(l++[a,b]).take r.length=l:=fun a b=>by rw[iH aa,List.take_of_length_le aa]
      dsimp only at hr;split at hr
      case isFalse=>cases hr
      rename_i bg;cases hr;rw[bN] at bg;have FF:=vL @jV @jW @hT @h01 @jg @cn @nO @jY @eP @nP @nQ @jZ @ba
      repeat first|refine aN (jF 9 y x ai bg.2 bg.1) ?_|refine aO (jF 9 y x ai bg.2 bg.1) ?_|refine aP (jF 9 y x ai bg.2 bg.1) ?_|refine aj ?_
      try clear FF
      subst hl;exact fin ⟨vs,al,sp+1,false,cv,asked⟩ (np 9 y x::r) ((m:Int)+1) (ga) (gs+1) (gq) _ _ _ _ _ (.box (s14.gen+1) [iA 9,iA nn]) _ _ hlt rfl ⟨rfl,by dsimp only;simp only[List.length_cons] at*;omega,by dsimp only;omega,by dsimp only;omega,eK,eR⟩ hk rfl (by simp[bB])
   by_cases h11:op=11
   ·subst h11;unfold eS at hr;rw[if_neg ai,if_neg ai,if_neg ai,if_neg ai,if_neg ai,if_pos ai] at hr
    cases st with
    |nil=>cases hr
    |cons x r'=>cases r' with
     |nil=>cases hr
     |cons y r=>
      simp only[ey,lh,List.append_assoc,List.cons_append,List.nil_append]
      obtain⟨l,hl⟩:∃l,(List.map (fun n=>[iA n]) r).reverse=l:=⟨_,rfl⟩
      rw[hl]
      have ba:l.length=r.length:=by rw[<-hl];simp
      have ei:((x::y::r).length:Int)=(r.length:Int)+2:=by simp;omega
      rw[ei]
      have yM:r.length+2<=sp:=by simp only[List.length_cons] at bH;omega
      have jV:aY .sub (.int .i64 ((r.length:Int)+2)) (.int .i64 2)=some (.int .i64 (r.length:Int)):=by rw[fJ aa aa];congr 2;omega
      have jW:aY .sub (.int .i64 ((r.length:Int)+2)) (.int .i64 1)=some (.int .i64 ((r.length:Int)+1)):=by rw[fJ aa aa];congr 2;omega
      have hT:((r.length:Int)+1).toNat=r.length+1:=aa;have h01:(0:Int)<=(r.length:Int)+1:=aa;have jg:(r.length:Int)<(r.length:Int)+2:=aa;have cn:(r.length:Int)+1<(r.length:Int)+2:=aa;have nO:(r.length:Int)+1<=(r.length:Int)+2:=aa
      have jY:∀a b:List AC,(l++[a,b])[r.length]? =some a:=fun a b=>by rw[cD aa,ba];simp
      have eP:∀a b:List AC,(l++[a,b])[r.length+1]? =some b:=fun a b=>by rw[cD aa,ba,show r.length+1-r.length=1 by omega];rfl
      have nP:∀z a b:List AC,(l++[a,b]).set r.length z=l++[z,b]:=fun z a b=>by rw[ld _ _ aa,ba];simp
      have nQ:∀a b:List AC,(l++[a,b]).take (r.length+1)=l++[a]:=fun a b=>by rw[tp,List.take_of_length_le aa,ba,show r.length+1-r.length=1 by omega];rfl
      have jZ:∀a b:List AC,(l++[a,b]).take r.length=l:=fun a b=>by rw[iH aa,List.take_of_length_le aa]
      dsimp only at hr;split at hr
      case isFalse=>cases hr
      rename_i bg;cases hr;rw[bN] at bg;have FF:=vL @jV @jW @hT @h01 @jg @cn @nO @jY @eP @nP @nQ @jZ @ba
      repeat first|refine aN (jF 11 y x ai bg.2 bg.1) ?_|refine aO (jF 11 y x ai bg.2 bg.1) ?_|refine aP (jF 11 y x ai bg.2 bg.1) ?_|refine aj ?_
      try clear FF
      subst hl;exact fin ⟨vs,al,sp+1,false,cv,asked⟩ (np 11 y x::r) ((m:Int)+1) (ga) (gs+1) (gq) _ _ _ _ _ (.box (s14.gen+1) [iA 11,iA nn]) _ _ hlt rfl ⟨rfl,by dsimp only;simp only[List.length_cons] at*;omega,by dsimp only;omega,by dsimp only;omega,eK,eR⟩ hk rfl (by simp[bB])
   by_cases h12:op=12
   ·subst h12;unfold eS at hr;rw[if_neg ai,if_neg ai,if_neg ai,if_neg ai,if_neg ai,if_pos ai] at hr
    cases st with
    |nil=>cases hr
    |cons x r'=>cases r' with
     |nil=>cases hr
     |cons y r=>
      simp only[ey,lh,List.append_assoc,List.cons_append,List.nil_append]
      obtain⟨l,hl⟩:∃l,(List.map (fun n=>[iA n]) r).reverse=l:=⟨_,rfl⟩
      rw[hl]
      have ba:l.length=r.length:=by rw[<-hl];simp
      have ei:((x::y::r).length:Int)=(r.length:Int)+2:=by simp;omega
      rw[ei]
      have yM:r.length+2<=sp:=by simp only[List.length_cons] at bH;omega
      have jV:aY .sub (.int .i64 ((r.length:Int)+2)) (.int .i64 2)=some (.int .i64 (r.length:Int)):=by rw[fJ aa aa];congr 2;omega
      have jW:aY .sub (.int .i64 ((r.length:Int)+2)) (.int .i64 1)=some (.int .i64 ((r.length:Int)+1)):=by rw[fJ aa aa];congr 2;omega
      have hT:((r.length:Int)+1).toNat=r.length+1:=aa;have h01:(0:Int)<=(r.length:Int)+1:=aa;have jg:(r.length:Int)<(r.length:Int)+2:=aa;have cn:(r.length:Int)+1<(r.length:Int)+2:=aa;have nO:(r.length:Int)+1<=(r.length:Int)+2:=aa
      have jY:∀a b:List AC,(l++[a,b])[r.length]? =some a:=fun a b=>by rw[cD aa,ba];simp
      have eP:∀a b:List AC,(l++[a,b])[r.length+1]? =some b:=fun a b=>by rw[cD aa,ba,show r.length+1-r.length=1 by omega];rfl
      have nP:∀z a b:List AC,(l++[a,b]).set r.length z=l++[z,b]:=fun z a b=>by rw[ld _ _ aa,ba];simp
      have nQ:∀a b:List AC,(l++[a,b]).take (r.length+1)=l++[a]:=fun a b=>by rw[tp,List.take_of_length_le aa,ba,show r.length+1-r.length=1 by omega];rfl
      have jZ:∀a b:List AC,(l++[a,b]).take r.length=l:=fun a b=>by rw[iH aa,List.take_of_length_le aa]
      dsimp only at hr;split at hr
      case isFalse=>cases hr
      rename_i bg;cases hr;rw[bN] at bg;have FF:=vL @jV @jW @hT @h01 @jg @cn @nO @jY @eP @nP @nQ @jZ @ba
      repeat first|refine aN (jF 12 y x ai bg.2 bg.1) ?_|refine aO (jF 12 y x ai bg.2 bg.1) ?_|refine aP (jF 12 y x ai bg.2 bg.1) ?_|refine aj ?_
      try clear FF
      subst hl;exact fin ⟨vs,al,sp+1,false,cv,asked⟩ (np 12 y x::r) ((m:Int)+1) (ga) (gs+1) (gq) _ _ _ _ _ (.box (s14.gen+1) [iA 12,iA nn]) _ _ hlt rfl ⟨rfl,by dsimp only;simp only[List.length_cons] at*;omega,by dsimp only;omega,by dsimp only;omega,eK,eR⟩ hk rfl (by simp[bB])
   by_cases h13:op=13
   ·subst h13;unfold eS at hr;rw[if_neg ai,if_neg ai,if_neg ai,if_neg ai,if_neg ai,if_pos ai] at hr
    cases st with
    |nil=>cases hr
    |cons x r'=>cases r' with
     |nil=>cases hr
     |cons y r=>
      simp only[ey,lh,List.append_assoc,List.cons_append,List.nil_append]
      obtain⟨l,hl⟩:∃l,(List.map (fun n=>[iA n]) r).reverse=l:=⟨_,rfl⟩
      rw[hl]
      have ba:l.length=r.length:=by rw[<-hl];simp
      have ei:((x::y::r).length:Int)=(r.length:Int)+2:=by simp;omega
      rw[ei]
      have yM:r.length+2<=sp:=by simp only[List.length_cons] at bH;omega
      have jV:aY .sub (.int .i64 ((r.length:Int)+2)) (.int .i64 2)=some (.int .i64 (r.length:Int)):=by rw[fJ aa aa];congr 2;omega
      have jW:aY .sub (.int .i64 ((r.length:Int)+2)) (.int .i64 1)=some (.int .i64 ((r.length:Int)+1)):=by rw[fJ aa aa];congr 2;omega
      have hT:((r.length:Int)+1).toNat=r.length+1:=aa;have h01:(0:Int)<=(r.length:Int)+1:=aa;have jg:(r.length:Int)<(r.length:Int)+2:=aa;have cn:(r.length:Int)+1<(r.length:Int)+2:=aa;have nO:(r.length:Int)+1<=(r.length:Int)+2:=aa
      have jY:∀a b:List AC,(l++[a,b])[r.length]? =some a:=fun a b=>by rw[cD aa,ba];simp
      have eP:∀a b:List AC,(l++[a,b])[r.length+1]? =some b:=fun a b=>by rw[cD aa,ba,show r.length+1-r.length=1 by omega];rfl
      have nP:∀z a b:List AC,(l++[a,b]).set r.length z=l++[z,b]:=fun z a b=>by rw[ld _ _ aa,ba];simp
      have nQ:∀a b:List AC,(l++[a,b]).take (r.length+1)=l++[a]:=fun a b=>by rw[tp,List.take_of_length_le aa,ba,show r.length+1-r.length=1 by omega];rfl
      have jZ:∀a b:List AC,(l++[a,b]).take r.length=l:=fun a b=>by rw[iH aa,List.take_of_length_le aa]
      dsimp only at hr;split at hr
      case isFalse=>cases hr
      rename_i bg;cases hr;rw[bN] at bg;have FF:=vL @jV @jW @hT @h01 @jg @cn @nO @jY @eP @nP @nQ @jZ @ba
      repeat first|refine aN (jF 13 y x ai bg.2 bg.1) ?_|refine aO (jF 13 y x ai bg.2 bg.1) ?_|refine aP (jF 13 y x ai bg.2 bg.1) ?_|refine aj ?_
      try clear FF
      subst hl;exact fin ⟨vs,al,sp+1,false,cv,asked⟩ (np 13 y x::r) ((m:Int)+1) (ga) (gs+1) (gq) _ _ _ _ _ (.box (s14.gen+1) [iA 13,iA nn]) _ _ hlt rfl ⟨rfl,by dsimp only;simp only[List.length_cons] at*;omega,by dsimp only;omega,by dsimp only;omega,eK,eR⟩ hk rfl (by simp[bB])
   by_cases h10:op=10
   ·subst h10;unfold eS at hr;rw[if_neg ai,if_neg ai,if_neg ai,if_neg ai,if_neg ai,if_neg ai,if_pos ai] at hr
    cases st with
    |nil=>cases hr
    |cons x r=>
     simp only[ey,lh]
     obtain⟨l,hl⟩:∃l,(List.map (fun n=>[iA n]) r).reverse=l:=⟨_,rfl⟩
     rw[hl]
     have ba:l.length=r.length:=by rw[<-hl];simp
     have ei:((x::r).length:Int)=(r.length:Int)+1:=ae;rw[ei]
     have ik:aY .sub (.int .i64 ((r.length:Int)+1)) (.int .i64 1)=some (.int .i64 (r.length:Int)):=by rw[fJ (by simp only[List.length_cons] at bH;omega) (by simp only[List.length_cons] at bH;omega)];congr 2;omega
     have cn:(r.length:Int)<(r.length:Int)+1:=aa
     have hg:∀z:List AC,(l++[z])[r.length]? =some z:=fun z=>by rw[cD aa,ba];simp
     have gz:∀z w:List AC,(l++[w]).set r.length z=l++[z]:=fun z w=>by rw[ld _ _ aa,ba];simp
     have cm:∀w:List AC,(l++[w]).take r.length=l:=fun w=>by rw[iH aa,List.take_of_length_le aa]
     dsimp only at hr;split at hr
     case isFalse=>cases hr
     rename_i bg;cases hr
     have axt: -2147483647<=x/\x<=2147483647:=by simpa [bp] using bg
     have kG:=YW (a:=x) aa aa;have FF:=jl @kG @ik @cn @hg @gz @cm @ba
     try refine aj ?_
     try clear FF
     subst hl;exact fin ⟨vs,al,sp+1,false,cv,asked⟩ (-x::r) ((m:Int)+1) (ga) (gs) (gq) _ _ _ _ _ (.box (s14.gen+1) [iA 10,iA nn]) _ _ hlt rfl ⟨rfl,by dsimp only;simp only[List.length_cons] at*;omega,by dsimp only;omega,by dsimp only;omega,eK,eR⟩ hk rfl (by simp[bB])
   by_cases h14:op=14
   ·subst h14;unfold eS at hr;rw[if_neg ai,if_neg ai,if_neg ai,if_neg ai,if_neg ai,if_neg ai,if_neg ai,if_pos ai] at hr
    cases st with
    |nil=>cases hr
    |cons x r=>
     simp only[ey,lh]
     obtain⟨l,hl⟩:∃l,(List.map (fun n=>[iA n]) r).reverse=l:=⟨_,rfl⟩
     rw[hl]
     have ba:l.length=r.length:=by rw[<-hl];simp
     have ei:((x::r).length:Int)=(r.length:Int)+1:=ae;rw[ei]
     have ik:aY .sub (.int .i64 ((r.length:Int)+1)) (.int .i64 1)=some (.int .i64 (r.length:Int)):=by rw[fJ (by simp only[List.length_cons] at bH;omega) (by simp only[List.length_cons] at bH;omega)];congr 2;omega
     have cn:(r.length:Int)<(r.length:Int)+1:=aa
     have hg:∀z:List AC,(l++[z])[r.length]? =some z:=fun z=>by rw[cD aa,ba];simp
     have gz:∀z w:List AC,(l++[w]).set r.length z=l++[z]:=fun z w=>by rw[ld _ _ aa,ba];simp
     have cm:∀w:List AC,(l++[w]).take r.length=l:=fun w=>by rw[iH aa,List.take_of_length_le aa]
     cases hr;have FF:=eL @ik @cn @hg @gz @cm @ba
     repeat first|refine aN (rp (decide (x=0))) ?_|refine aO (rp (decide (x=0))) ?_|refine aP (rp (decide (x=0))) ?_|refine aj ?_
     try clear FF
     subst hl;exact fin ⟨vs,al,sp+1,false,cv,asked⟩ (tK (decide (x=0))::r) ((m:Int)+1) (ga) (gs) (gq) _ _ _ _ _ (.box (s14.gen+1) [iA 14,iA nn]) _ _ hlt rfl ⟨rfl,by dsimp only;simp only[List.length_cons] at*;omega,by dsimp only;omega,by dsimp only;omega,eK,eR⟩ hk rfl (by simp[bB])
   by_cases h15:op=15
   ·subst h15;unfold eS at hr;rw[if_neg ai,if_neg ai,if_neg ai,if_neg ai,if_neg ai,if_neg ai,if_neg ai,if_neg ai,if_pos ai] at hr;cases hr;have FF:=trivial
    try refine aj ?_
    try clear FF
    exact fin ⟨vs,al,sp+1,false,cv,asked⟩ st nn (ga) (gs) (gq) _ _ _ _ _ (.box (s14.gen+1) [iA 15,iA nn]) _ _ hlt rfl ⟨rfl,by dsimp only;simp only[List.length_cons] at*;omega,by dsimp only;omega,by dsimp only;omega,eK,eR⟩ hk rfl (by simp[bB])
   by_cases h16:op=16
   ·subst h16;unfold eS at hr;rw[if_neg ai,if_neg ai,if_neg ai,if_neg ai,if_neg ai,if_neg ai,if_neg ai,if_neg ai,if_neg ai,if_pos ai] at hr
    cases st with
    |nil=>cases hr
    |cons x r=>
     simp only[ey,lh]
     obtain⟨l,hl⟩:∃l,(List.map (fun n=>[iA n]) r).reverse=l:=⟨_,rfl⟩
     rw[hl]
     have ba:l.length=r.length:=by rw[<-hl];simp
     have ei:((x::r).length:Int)=(r.length:Int)+1:=ae;rw[ei]
     have ik:aY .sub (.int .i64 ((r.length:Int)+1)) (.int .i64 1)=some (.int .i64 (r.length:Int)):=by rw[fJ (by simp only[List.length_cons] at bH;omega) (by simp only[List.length_cons] at bH;omega)];congr 2;omega
     have cn:(r.length:Int)<(r.length:Int)+1:=aa
     have hg:∀z:List AC,(l++[z])[r.length]? =some z:=fun z=>by rw[cD aa,ba];simp
     have gz:∀z w:List AC,(l++[w]).set r.length z=l++[z]:=fun z w=>by rw[ld _ _ aa,ba];simp
     have cm:∀w:List AC,(l++[w]).take r.length=l:=fun w=>by rw[iH aa,List.take_of_length_le aa]
     cases hr;by_cases hx:x=0
     ·simp only[if_pos hx] at hk;have FF:=jl @hx @ik @cn @hg @gz @cm @ba
      try refine aj ?_
      try clear FF
      subst hl;exact fin ⟨vs,al,sp+1,false,cv,asked⟩ r nn (ga) (gs+1) (gq) _ _ _ _ _ (.box (s14.gen+1) [iA 16,iA nn]) _ _ hlt rfl ⟨rfl,by dsimp only;simp only[List.length_cons] at*;omega,by dsimp only;omega,by dsimp only;omega,eK,eR⟩ hk rfl (by simp[bB])
     ·simp only[if_neg hx] at hk;have FF:=jl @hx @ik @cn @hg @gz @cm @ba
      try refine aj ?_
      try clear FF
      subst hl;exact fin ⟨vs,al,sp+1,false,cv,asked⟩ r ((m:Int)+1) (ga) (gs+1) (gq) _ _ _ _ _ (.box (s14.gen+1) [iA 16,iA nn]) _ _ hlt rfl ⟨rfl,by dsimp only;simp only[List.length_cons] at*;omega,by dsimp only;omega,by dsimp only;omega,eK,eR⟩ hk rfl (by simp[bB])
   by_cases h17:op=17
   ·subst h17;unfold eS at hr;rw[if_neg ai,if_neg ai,if_neg ai,if_neg ai,if_neg ai,if_neg ai,if_neg ai,if_neg ai,if_neg ai,if_neg ai,if_pos ai] at hr
    cases st with
    |nil=>cases hr
    |cons x r'=>cases r' with
     |nil=>cases hr
     |cons y r''=>cases r'' with
      |nil=>cases hr
      |cons t r=>
       simp only[ey,lh,List.append_assoc,List.cons_append,List.nil_append]
       obtain⟨l,hl⟩:∃l,(List.map (fun n=>[iA n]) r).reverse=l:=⟨_,rfl⟩
       rw[hl]
       have ba:l.length=r.length:=by rw[<-hl];simp
       have ei:((x::y::t::r).length:Int)=(r.length:Int)+3:=by simp;omega
       rw[ei]
       have yM:r.length+3<=sp:=by simp only[List.length_cons] at bH;omega
       have JG:aY .sub (.int .i64 ((r.length:Int)+3)) (.int .i64 3)=some (.int .i64 (r.length:Int)):=by rw[fJ aa aa];congr 2;omega
       have jV:aY .sub (.int .i64 ((r.length:Int)+3)) (.int .i64 2)=some (.int .i64 ((r.length:Int)+1)):=by rw[fJ aa aa];congr 2;omega
       have jW:aY .sub (.int .i64 ((r.length:Int)+3)) (.int .i64 1)=some (.int .i64 ((r.length:Int)+2)):=by rw[fJ aa aa];congr 2;omega
       have JH:((r.length:Int)+1).toNat=r.length+1:=aa;have ju:((r.length:Int)+2).toNat=r.length+2:=aa;have h01:(0:Int)<=(r.length:Int)+1:=aa;have h02:(0:Int)<=(r.length:Int)+2:=aa;have jg:(r.length:Int)<(r.length:Int)+3:=aa;have cn:(r.length:Int)+1<(r.length:Int)+3:=aa;have pE:(r.length:Int)+2<(r.length:Int)+3:=aa
       have jY:∀a b c:List AC,(l++[a,b,c])[r.length]? =some a:=fun a b c=>by rw[cD aa,ba];simp
       have eP:∀a b c:List AC,(l++[a,b,c])[r.length+1]? =some b:=fun a b c=>by rw[cD aa,ba,show r.length+1-r.length=1 by omega];rfl
       have qI:∀a b c:List AC,(l++[a,b,c])[r.length+2]? =some c:=fun a b c=>by rw[cD aa,ba,show r.length+2-r.length=2 by omega];rfl
       have jZ:∀a b c:List AC,(l++[a,b,c]).take r.length=l:=fun a b c=>by rw[iH aa,List.take_of_length_le aa]
       have CL:=Od names 9 1 aa;rw[List.drop_one] at CL;have rQ:jO al<=al.length:=List.countP_le_length;cases hr
       obtain⟨N1,xm⟩:∃N1,names.getD 1 0=N1:=⟨_,rfl⟩
       rw[xm] at CL;simp only[xm] at hk;by_cases yN:0<=t
       ·by_cases Fq:t<N1
        ·by_cases BL:jO al<20
         ·have Om:(jO al:Int)<20:=aa;simp only[if_pos (show 0<=t/\t<N1/\jO al<20 from⟨yN,Fq,BL⟩)] at hk;have FF:=KZ @yN @Fq @Om @JG @jV @jW @JH @ju @h01 @h02 @jg @cn @pE @jY @eP @qI @jZ @ba @CL
          repeat first|refine jS (CF al ga aa) ?_|refine jT (CF al ga aa) ?_|refine Fj (CF al ga aa) ?_|refine aj ?_
          try clear FF
          subst hl;exact fin ⟨vs,al++[(⟨3,t,nn,y,x⟩:dF)],sp+1,false,cv,asked⟩ r ((m:Int)+1) (ga+1) (gs+1) (gq) _ _ _ _ _ (.box (s14.gen+1) [iA 17,iA nn]) _ _ hlt rfl ⟨rfl,by dsimp only;simp only[List.length_cons] at*;omega,by dsimp only;simp only[List.length_append,List.length_cons,List.length_nil];omega,by dsimp only;omega,eK,eR⟩ hk rfl (by simp[bB])
         ·have Om:¬(jO al:Int)<20:=aa;simp only[if_neg (show¬(0<=t/\t<N1/\jO al<20) from fun hh=>BL hh.2.2)] at hk;have FF:=KZ @yN @Fq @Om @JG @jV @jW @JH @ju @h01 @h02 @jg @cn @pE @jY @eP @qI @jZ @ba @CL
          repeat first|refine jS (CF al ga aa) ?_|refine jT (CF al ga aa) ?_|refine Fj (CF al ga aa) ?_|refine aj ?_
          try clear FF
          subst hl;exact fin ⟨vs,al,sp+1,false,cv,asked⟩ r ((m:Int)+1) (ga) (gs+1) (gq) _ _ _ _ _ (.box (s14.gen+1) [iA 17,iA nn]) _ _ hlt rfl ⟨rfl,by dsimp only;simp only[List.length_cons] at*;omega,by dsimp only;omega,by dsimp only;omega,eK,eR⟩ hk rfl (by simp[bB])
        ·simp only[if_neg (show¬(0<=t/\t<N1/\jO al<20) from fun hh=>Fq hh.2.1)] at hk;have FF:=aip @yN @Fq @JG @jV @jW @JH @ju @h01 @h02 @jg @cn @pE @jY @eP @qI @jZ @ba @CL
         try refine aj ?_
         try clear FF
         subst hl;exact fin ⟨vs,al,sp+1,false,cv,asked⟩ r ((m:Int)+1) (ga) (gs+1) (gq) _ _ _ _ _ (.box (s14.gen+1) [iA 17,iA nn]) _ _ hlt rfl ⟨rfl,by dsimp only;simp only[List.length_cons] at*;omega,by dsimp only;omega,by dsimp only;omega,eK,eR⟩ hk rfl (by simp[bB])
       ·simp only[if_neg (show¬(0<=t/\t<N1/\jO al<20) from fun hh=>yN hh.1)] at hk;have FF:=TQ @yN @JG @jV @jW @JH @ju @h01 @h02 @jg @cn @pE @jY @eP @qI @jZ @ba @CL
        try refine aj ?_
        try clear FF
        subst hl;exact fin ⟨vs,al,sp+1,false,cv,asked⟩ r ((m:Int)+1) (ga) (gs+1) (gq) _ _ _ _ _ (.box (s14.gen+1) [iA 17,iA nn]) _ _ hlt rfl ⟨rfl,by dsimp only;simp only[List.length_cons] at*;omega,by dsimp only;omega,by dsimp only;omega,eK,eR⟩ hk rfl (by simp[bB])
   by_cases h18:op=18
   ·subst h18;unfold eS at hr;rw[if_neg ai,if_neg ai,if_neg ai,if_neg ai,if_neg ai,if_neg ai,if_neg ai,if_neg ai,if_neg ai,if_neg ai,if_neg ai,if_pos ai] at hr;cases hr;have FF:=trivial
    try refine aj ?_
    try clear FF
    exact fin ⟨vs,al++[(⟨4,nn,0,0,0⟩:dF)],sp+1,false,cv,asked⟩ st ((m:Int)+1) (ga+1) (gs) (gq) _ _ _ _ _ (.box (s14.gen+1) [iA 18,iA nn]) _ _ hlt rfl ⟨rfl,by dsimp only;simp only[List.length_cons] at*;omega,by dsimp only;simp only[List.length_append,List.length_cons,List.length_nil];omega,by dsimp only;omega,eK,eR⟩ hk rfl (by simp[bB])
   by_cases h19:op=19
   ·subst h19;unfold eS at hr;rw[if_neg ai,if_neg ai,if_neg ai,if_neg ai,if_neg ai,if_neg ai,if_neg ai,if_neg ai,if_neg ai,if_neg ai,if_neg ai,if_neg ai,if_pos ai] at hr;cases hr;have FF:=trivial
    try refine aj ?_
    try clear FF
    exact fin ⟨vs,al++[(⟨5,nn,0,0,0⟩:dF)],sp+1,false,cv,asked⟩ st ((m:Int)+1) (ga+1) (gs) (gq) _ _ _ _ _ (.box (s14.gen+1) [iA 19,iA nn]) _ _ hlt rfl ⟨rfl,by dsimp only;simp only[List.length_cons] at*;omega,by dsimp only;simp only[List.length_append,List.length_cons,List.length_nil];omega,by dsimp only;omega,eK,eR⟩ hk rfl (by simp[bB])
   by_cases h20:op=20
   ·subst h20;unfold eS at hr;rw[if_neg ai,if_neg ai,if_neg ai,if_neg ai,if_neg ai,if_neg ai,if_neg ai,if_neg ai,if_neg ai,if_neg ai,if_neg ai,if_neg ai,if_neg ai,if_pos ai] at hr;cases hr;have FF:=trivial
    try refine aj ?_
    try clear FF
    exact fin ⟨vs,al++[(⟨2,0,0,0,0⟩:dF)],sp+1,false,cv,asked⟩ st ((m:Int)+1) (ga+1) (gs) (gq) _ _ _ _ _ (.box (s14.gen+1) [iA 20,iA nn]) _ _ hlt rfl ⟨rfl,by dsimp only;simp only[List.length_cons] at*;omega,by dsimp only;simp only[List.length_append,List.length_cons,List.length_nil];omega,by dsimp only;omega,eK,eR⟩ hk rfl (by simp[bB])
   by_cases h21:op=21
   ·subst h21;unfold eS at hr;rw[if_neg ai,if_neg ai,if_neg ai,if_neg ai,if_neg ai,if_neg ai,if_neg ai,if_neg ai,if_neg ai,if_neg ai,if_neg ai,if_neg ai,if_neg ai,if_neg ai,if_pos ai] at hr
    cases st with
    |nil=>cases hr
    |cons x r'=>cases r' with
     |nil=>cases hr
     |cons y r=>
      simp only[ey,lh,List.append_assoc,List.cons_append,List.nil_append]
      obtain⟨l,hl⟩:∃l,(List.map (fun n=>[iA n]) r).reverse=l:=⟨_,rfl⟩
      rw[hl]
      have ba:l.length=r.length:=by rw[<-hl];simp
      have ei:((x::y::r).length:Int)=(r.length:Int)+2:=by simp;omega
      rw[ei]
      have yM:r.length+2<=sp:=by simp only[List.length_cons] at bH;omega
      have jV:aY .sub (.int .i64 ((r.length:Int)+2)) (.int .i64 2)=some (.int .i64 (r.length:Int)):=by rw[fJ aa aa];congr 2;omega
      have jW:aY .sub (.int .i64 ((r.length:Int)+2)) (.int .i64 1)=some (.int .i64 ((r.length:Int)+1)):=by rw[fJ aa aa];congr 2;omega
      have hT:((r.length:Int)+1).toNat=r.length+1:=aa;have h01:(0:Int)<=(r.length:Int)+1:=aa;have jg:(r.length:Int)<(r.length:Int)+2:=aa;have cn:(r.length:Int)+1<(r.length:Int)+2:=aa;have nO:(r.length:Int)+1<=(r.length:Int)+2:=aa
      have jY:∀a b:List AC,(l++[a,b])[r.length]? =some a:=fun a b=>by rw[cD aa,ba];simp
      have eP:∀a b:List AC,(l++[a,b])[r.length+1]? =some b:=fun a b=>by rw[cD aa,ba,show r.length+1-r.length=1 by omega];rfl
      have nP:∀z a b:List AC,(l++[a,b]).set r.length z=l++[z,b]:=fun z a b=>by rw[ld _ _ aa,ba];simp
      have nQ:∀a b:List AC,(l++[a,b]).take (r.length+1)=l++[a]:=fun a b=>by rw[tp,List.take_of_length_le aa,ba,show r.length+1-r.length=1 by omega];rfl
      have jZ:∀a b:List AC,(l++[a,b]).take r.length=l:=fun a b=>by rw[iH aa,List.take_of_length_le aa]
      cases hr;have FF:=vL @jV @jW @hT @h01 @jg @cn @nO @jY @eP @nP @nQ @jZ @ba
      try refine aj ?_
      try clear FF
      subst hl;exact fin ⟨vs,al++[(⟨6,y,x,0,0⟩:dF)],sp+1,false,cv,asked⟩ r ((m:Int)+1) (ga+1) (gs+1) (gq) _ _ _ _ _ (.box (s14.gen+1) [iA 21,iA nn]) _ _ hlt rfl ⟨rfl,by dsimp only;simp only[List.length_cons] at*;omega,by dsimp only;simp only[List.length_append,List.length_cons,List.length_nil];omega,by dsimp only;omega,eK,eR⟩ hk rfl (by simp[bB])
   by_cases h22:op=22
   ·subst h22;unfold eS at hr;rw[if_neg ai,if_neg ai,if_neg ai,if_neg ai,if_neg ai,if_neg ai,if_neg ai,if_neg ai,if_neg ai,if_neg ai,if_neg ai,if_neg ai,if_neg ai,if_neg ai,if_neg ai,if_pos ai] at hr
    cases st with
    |nil=>cases hr
    |cons x r=>
     simp only[ey,lh]
     obtain⟨l,hl⟩:∃l,(List.map (fun n=>[iA n]) r).reverse=l:=⟨_,rfl⟩
     rw[hl]
     have ba:l.length=r.length:=by rw[<-hl];simp
     have ei:((x::r).length:Int)=(r.length:Int)+1:=ae;rw[ei]
     have ik:aY .sub (.int .i64 ((r.length:Int)+1)) (.int .i64 1)=some (.int .i64 (r.length:Int)):=by rw[fJ (by simp only[List.length_cons] at bH;omega) (by simp only[List.length_cons] at bH;omega)];congr 2;omega
     have cn:(r.length:Int)<(r.length:Int)+1:=aa
     have hg:∀z:List AC,(l++[z])[r.length]? =some z:=fun z=>by rw[cD aa,ba];simp
     have gz:∀z w:List AC,(l++[w]).set r.length z=l++[z]:=fun z w=>by rw[ld _ _ aa,ba];simp
     have cm:∀w:List AC,(l++[w]).take r.length=l:=fun w=>by rw[iH aa,List.take_of_length_le aa]
     cases hr;have FF:=eL @ik @cn @hg @gz @cm @ba
     try refine aj ?_
     try clear FF
     subst hl;exact fin ⟨vs,al++[(⟨7,x,0,0,0⟩:dF)],sp+1,false,cv,asked⟩ r ((m:Int)+1) (ga+1) (gs+1) (gq) _ _ _ _ _ (.box (s14.gen+1) [iA 22,iA nn]) _ _ hlt rfl ⟨rfl,by dsimp only;simp only[List.length_cons] at*;omega,by dsimp only;simp only[List.length_append,List.length_cons,List.length_nil];omega,by dsimp only;omega,eK,eR⟩ hk rfl (by simp[bB])
   unfold eS at hr;rw[if_neg h1,if_neg h2,if_neg h4,if_neg h3,if_neg h5,if_neg aa,if_neg h10,if_neg h14,if_neg h15,if_neg h16,if_neg h17,if_neg h18,if_neg h19,if_neg h20,if_neg h21,if_neg h22] at hr;cases hr;change some _=some o at hk;cases hk;have FF:=TS @h1 @h2 @h3 @h4 @h5 @h6 @h7 @h8 @h9 @h10 @h11 @h12 @h13 @h14 @h15 @h16 @h17 @h18 @h19 @h20 @h21 @h22
   try refine aj ?_
   try clear FF
   (try dsimp only[aM,aJ])
   exact bd (by simp;try rfl) (rfl)
  ·have hsp:sp=500:=aa;subst hsp;change some _=some o at wY;cases wY;have FF:=trivial
   try refine aj ?_
   try clear FF
   (try dsimp only[aM,aJ])
   exact bd (by simp;try rfl) (rfl)
end Ab
end Go.Proofs.YtlnghiefahcnpaaGreat
