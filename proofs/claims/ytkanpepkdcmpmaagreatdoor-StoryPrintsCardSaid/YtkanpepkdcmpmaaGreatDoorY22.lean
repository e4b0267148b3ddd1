import Derived.Test.YtkanpepkdcmpmaaGreatDoorY14
import Derived.Test.YtkanpepkdcmpmaaGreatDoorY21
set_option maxHeartbeats 40000000
set_option maxRecDepth 100000
set_option linter.all false
namespace Go.Proofs.YtkanpepkdcmpmaaGreatDoor
namespace Ab
open Go Go.RowKit
attribute [local irreducible] aM bt aX
variable {M:Nat->Prop} {w:World}
abbrev strs (l:List aj):AC:=.sl (l.map fun s=>[sA s])
theorem zm{f:FuncId}{us:List Value}{R:AV->Prop}(h:∀w,Gl w->Calls Tryz.prog f us.toArray w fun e w'=>∃v r,e=.returned v/\R r/\(∀M:Nat->Prop,(∀b,M b->b<w.heap.size)->VI w' M r v)/\aw w w'):
  aU Tryz.prog f (us.map fun u=> .c (.v u)) R:=by
 intro M w vs hM hlen dz
 have e:vs=us:=Nb (by simpa using hlen) fun i h1 h2=>by
  have h3:=dz i (.c (.v us[i])) vs[i] (by simp[cw h2]) (cw h1);have h4:IR w M (.v us[i]) vs[i]:=CR.ir (S:=fun _=> .dead 0) (G:=fun _=>gh 0) (H:=fun _=>undef) h3.2 rfl;generalize us[i]=a at h4;generalize vs[i]=b at h4;cases h4;rfl
 subst e;refine(h w hM.2.gl).mono ?_;rintro e w' ⟨v,r,rfl,hr,hv,hb⟩;exact⟨v,r,rfl,hr,hv M hM.1,⟨hb.os,hb.tape,hb.output,hb.size,hb.block⟩⟩
theorem Fh{u:Value}(h:yv u=true):WI w M (.c (.v u)) u:=⟨rfl,(IR.v u h).tF (S:=fun _=> .dead 0) (G:=fun _=>gh 0) (H:=fun _=>undef)⟩
theorem Pj{a b:Value}(h1:yv a=true)(h2:yv b=true):VI w M (.bD [.c (.v a),.c (.v b)]) (.tuple #[a,b]):=⟨[a,b],rfl,rfl,fun j x u hx hu=>by
 match j,hx,hu with
 |0,hx,hu=>simp at hx hu;subst hx hu;exact Fh h1
 |1,hx,hu=>simp at hx hu;subst hx hu;exact Fh h2
 |j+2,hx,hu=>simp at hx⟩
theorem aaS{g:Nat}{l:List aj}(h:iE w g l)(hg:¬M g)(hl:l.length<=9223372036854775807):IR w M (strs l) (.slice (some ⟨g,0,none⟩) l.length l.length):=by
 have row:∀(i:Nat) (row:List AC),(l.map fun s=>[sA s])[i]? =some row->∃s,l[i]? =some s/\row=[sA s]:=fun i row h1=>by
  rw[fh,bO] at h1;obtain⟨s,hs,rfl⟩:=h1;exact⟨s,hs,rfl⟩
 have:=IR.sl (w:=w) (A:=M) 1 (l.map fun s=>[sA s]) (some ⟨g,0,none⟩) l.length (fun i _=>sv (l.getD i [])) ai (by simpa using hl) (fun i r h1=>by
   obtain⟨_,_,rfl⟩:=row i r h1
   rfl) (fun i r j x h1 h2=>by
   obtain⟨s,hs,rfl⟩:=row i r h1
   match j,h2 with
   |0,h2=>
    simp only[wG,aA] at h2;subst h2;rw[fo,hs];exact IR.v _ rfl
   |j+1,h2=>simp at h2) (fun i r j h1 h2=>by
   obtain⟨s,hs,rfl⟩:=row i r h1
   obtain rfl:j=0:=by simpa using h2
   exact⟨g,0,rfl,hg,by rw[fo,hs,Nat.mul_one,fu,qm];exact h.cell hs⟩)
 simpa using this
theorem Ub(s:aj)(c:UInt8)(hs:s.length<=4000000000):aU Tryz.prog 51 [.c (sA s),.c (sA [c])] (fun y=>y=.w (.c (strs (bW c s)))):=
 zm (us:=[sv s,sv [c]]) fun w hg=>(YW s c w hg hs).mono fun e w' ⟨he,hr,hb,_⟩=>⟨_,_,he,rfl,fun M hM=>⟨rfl,(aaS hr (fun h=>absurd (hM _ h) (Gi _)) (by rw[Lj];have:=Ka (a:=c) (l:=s);omega)).tF (S:=fun _=> .dead 0) (G:=fun _=>gh 0) (H:=fun _=>undef)⟩,hb⟩
theorem ayS{s:aj}{n:Nat}(h:num s=some n)(hs:s.length<=4000000000):aU Tryz.prog 181 [.c (sA s)] (fun y=>y=.bD [.c (iA n),.c (.v .nilIface)]):=
 zm (us:=[sv s]) fun w _=>(auC h w hs).mono fun e w' ⟨he,hb⟩=>⟨_,_,he,rfl,fun _ _=>Pj rfl rfl,hb⟩
theorem ayT{s:aj}(h:num s=none)(hs:s.length<=4000000000):aU Tryz.prog 181 [.c (sA s)] (fun y=>∃v er,y=.bD [.c (iA v),.c (.v er)]/\Zd s v er):=
 zm (us:=[sv s]) fun w hg=>(auD h w hg hs).mono fun e w' ⟨⟨v,er,he,hA⟩,hb⟩=>⟨_,_,he,⟨v,er,rfl,hA⟩,fun _ _=>Pj rfl (by rcases hA with⟨_,_,rfl⟩|⟨rfl,_⟩<;>rfl),hb⟩
theorem Mb(n:Int)(h:bY n):aU Tryz.prog 29 [.c (iA n)] (fun y=>y=.w (.c (sA (Lib.itoa n)))):=
 zm (us:=[I n]) fun w hg=>(EC n h w hg).mono fun e w' ⟨he,hb⟩=>⟨_,_,he,rfl,fun _ _=>Fh rfl,hb⟩
theorem Uc:aU Tryz.prog 74 [] (fun y=>y=.w (.c (strs dL))):=
 zm (us:=[]) fun w _=>(axt w).mono fun e w' ⟨he,hr,hb,_⟩=>⟨_,_,he,rfl,fun M hM=>⟨rfl,(aaS hr (fun h=>absurd (hM _ h) (Gi _)) au).tF (S:=fun _=> .dead 0) (G:=fun _=>gh 0) (H:=fun _=>undef)⟩,hb⟩
theorem Ud:aU Tryz.prog 77 [] (fun y=>y=.w (.c (strs eh))):=
 zm (us:=[]) fun w _=>(axu w).mono fun e w' ⟨he,hr,hb,_⟩=>⟨_,_,he,rfl,fun M hM=>⟨rfl,(aaS hr (fun h=>absurd (hM _ h) (Gi _)) au).tF (S:=fun _=> .dead 0) (G:=fun _=>gh 0) (H:=fun _=>undef)⟩,hb⟩
theorem Ue(a b c h:Nat):aU Tryz.prog 133 [.agg [iA a,iA b,iA c],.c (iA h)] (fun y=>y=.w (.c (bA (decide (a<12/\b<h))))):=by
 refine cC Tryz.func133 aN [] [.t 4] [2,4] [2] ?_;have hm:(0:Int)<=min (a:Int) (b:Int):=ab
 have e:decide (a<12/\b<h)=(decide ((a:Int)<12) && decide ((b:Int)<(h:Int))):=by
  rw[rR];simp;omega
 rw[e];by_cases h1:(a:Int)<12
 ·have FF:=eV @hm @h1
  try refine aF ?_
  refine zE ?_;exact(by simp[h1])
 ·have FF:=eV @hm @h1
  try refine aF ?_
  refine zE ?_;exact(by simp[h1])
def rB (o:Option (List Nat)):AV:=match o with
 |some l=> .w (.c (ints (l.map fun(n:Nat)=>(n:Int))))
 |none=> .w (.c (.v (.slice none 0 0)))
theorem Mc(s:aj)(m:Nat)(hs:s.length<=4000000000)(hm:m<=100):aU Tryz.prog 132 [.c (sA s),.c (iA m)] (fun y=>y=rB (jw s m)):=by
 refine cC Tryz.func132 ⟨0,[6],[],[],cU,[(4,[])],[]⟩ [] [.t 4] [4,5,6,8,9,10,17,18,19] [6] ?_;have FF:=trivial;refine bJ (Ub s 46 hs) ?_;have hle:=Ta 46 s;unfold jw;generalize bW 46 s=ws at hle⊢;by_cases hl:ws.length=m
 ·rw[aq hl];have FF:=@hl
  try refine aF ?_
  refine dv (fun n V S=>∃(k g:Nat) (ns:List Nat) (x8 x9 x10:AV),k<=ws.length/\n=ws.length-k/\ns.length=k/\(ws.take k).mapM num=some ns/\
   V=[(0,.w (.c (sA s))),(1,.w (.c (iA m))),(4,.w (.c (.v (.slice none 0 0)))),(5,.w (.c (strs ws))),(6,.w (.c (.own 6 g))),(8,x8),(9,x9),(10,x10),(17,.w (.c (strs ws))),(18,.w (.c (iA m))),(19,.w (.c (iA k)))]/\S=[(6,.row 3 1 g (ns.map fun(n:Nat)=>[iA (n:Int)]))]) (n:=ws.length) ⟨0,1,[],.u,.u,.u,ab,ab,rfl,ai,rfl,rfl⟩ ?_
  rintro n V L S ⟨k,g,ns,x8,x9,x10,hk,rfl,ju,Uf,rfl,rfl⟩;by_cases hlt:k<ws.length
  ·have jg:k<m:=ab;have cD:k<=1000000000:=ab
   obtain⟨x,hx⟩:∃x,ws[k]=x:=⟨_,rfl⟩
   have oI:x.length<=4000000000:=bj (hle x (hx▸bP hlt)) hs;have db:=List.take_succ_eq_append_getElem hlt
   cases hn:num x with
   |some v=>
    obtain⟨iZ,pI⟩:=(yR _ _).1 hn;have hv:¬(2147483647:Int)<(v:Int):=ab;have Zc:¬(v:Int)<0:=ab
    have hit:Lib.itoa (v:Int)=x:=by rw[Lib.itoa_nonneg];exact pI.symm
    have hI:=Mb (v:Int) ⟨ab,ab⟩;rw[hit] at hI;have FF:=kj @hlt @jg @hx @hv @Zc (bN cD) @toList_data;refine gX (ayS hn oI) hI ?_;exact⟨ws.length-(k+1),ab,k+1,g+1,ns++[v],_,_,_,ab,ab,by simp[ju],by rw[db,hx];exact auE Uf hn,rfl,ai⟩
   |none=>
    have hno:ws.mapM num=none:=mapM_none (hx▸bP hlt) hn;rw[hno];have FF:=jB @hlt @jg @hx
    try refine aF ?_
    refine aeT ai (ayT hn oI) ?_;rintro y ⟨v,er,rfl,hA⟩
    rcases hA with⟨te,pe,rfl⟩|⟨rfl,h0|⟨h0,h1⟩|⟨h0,h1,h2⟩⟩
    ·have FF:=trivial
     try refine aF ?_
     refine zE ?_;exact(rfl)
    ·have FF:=@h0
     try refine aF ?_
     refine zE ?_;exact(rfl)
    ·have Cw:¬v<0:=ab;have FF:=eV @Cw @h1
     try refine aF ?_
     refine zE ?_;exact(rfl)
    ·have Cw:¬v<0:=ab;have oF:¬(2147483647:Int)<v:=ab
     have h3:¬Lib.itoa v=x:=by simpa using h2
     have FF:=eW @Cw @oF @h3 @toList_data;refine bJ (Mb v ⟨ab,ab⟩) ?_;refine zE ?_;exact(rfl)
  ·have kF:k=ws.length:=ab;rw[kF,fK] at Uf;rw[Uf];have jg:¬k<m:=ab;have FF:=eV @hlt @jg
   try refine aF ?_
   refine zE ?_;exact(by simp[rB];try rfl)
 ·have ij:¬(ws.length:Int)=(m:Int):=ab;rw[af hl];have FF:=@ij
  try refine aF ?_
  refine zE ?_;exact(rfl)
theorem ayU(s:aj)(ws:List aj)(h:bW 32 s=ws)(kk:Nat)(hk:zh dL (ws.getD 0 []) 8=kk):gY s=if kk=0\/ws.length≠(if kk=7 then 2 else 3) then none
 else match jw (ws.getD 1 []) 1 with
  |some [nd]=>
   if 12<=nd then none
   else if kk=3\/kk=5\/kk=6 then
    match jw (ws.getD 2 []) 5 with
    |some [a,b,c,d,e]=>if a<12/\b<40 then some ⟨kk,nd,0,⟨a,b,c,d,e⟩⟩ else none
    |_=>none
   else if kk=7 then some ⟨7,nd,0,⟨0,0,0,0,0⟩⟩
   else match jw (ws.getD 2 []) 1 with
    |some [r]=>some ⟨kk,nd,r,⟨0,0,0,0,0⟩⟩
    |_=>none
  |_=>none:=by
 subst h hk;rfl
abbrev ayV:List AC:=[iA 0,iA 0,iA 0,iA 0,iA 0,iA 0,iA 0,iA 0]
def ajE (b:Bool):Int:=if b then 0 else 8
def rD (s:aj):AV:=.bD [.agg (gG ((gY s).getD oT)),.c (iA (ajE (gY s).isSome))]
theorem aaT(s:aj)(hs:s.length<=4000000000):aU Tryz.prog 76 [.c (sA s)] (fun y=>y=rD s):=by
 refine cC Tryz.func76 aN [tz 29 16] [.cell 2 8,.t 3] [2,3,4,5,6,7,8,9,10,11,14,15,16,64] [2,5] ?_;have FF:=trivial;refine gX (Ub s 32 hs) Uc ?_;have hle:=Ta 32 s
 have hne:0<(bW 32 s).length:=by rw[Lj];omega
 have HR:=ayU s;generalize bW 32 s=ws at hle hne HR⊢;have HR:=HR ws rfl
 obtain⟨w0,CM⟩:∃x,ws[0]=x:=⟨_,rfl⟩
 rw[show ws.getD 0 []=w0 by rw[<-CM];simp[List.getD,hne]] at HR
 refine dv (fun n V S=>∃(k g:Nat) (x6 x7:AV),k<=8/\n=8-k/\
  V=[(0,.w (.c (sA s))),(2,.pb 2 1 0),(3,.w (.c (iA 0))),(4,.w (.c (strs ws))),(5,.pb 5 1 0),(6,x6),(7,x7),(8,.u),(9,.u),(10,.u),(11,.u),(14,.w (.c (strs dL))),(15,.w (.c (iA 8))),(16,.w (.c (iA k))),(64,.u)]/\S=[(2,.box 1 ayV),(5,.box 1 [iA (zh dL w0 k),iA 0,iA 0,iA 0,iA 0,iA 0,iA 0,iA 0])]) (n:=8) ⟨0,1,.u,.u,ab,ab,rfl,rfl⟩ ?_
 rintro n V L S ⟨k,g,x6,x7,hk,rfl,rfl,rfl⟩;by_cases hlt:k<8
 ·have Je:(k:Int)<8:=ab;have cD:k<=1000000000:=ab;have eb:k<dL.length:=hlt;have lf:=TI dL w0 k;rw[show dL.getD k []=dL[k] by simp[List.getD,eb]] at lf
  obtain⟨x,hx⟩:∃x,dL[k]=x:=⟨_,rfl⟩
  rw[hx] at lf;by_cases h0:0<k
  ·by_cases he:w0=x
   ·rw[aq ⟨h0,he⟩] at lf;have FF:=oy @Je @eb @hx @CM @hne @h0 @he (bN cD) @toList_data
    try refine aF ?_
    exact⟨8-(k+1),ab,k+1,g,_,_,ab,rfl,rfl,by rw[lf]⟩
   ·rw[af (fun h=>he h.2)] at lf;have FF:=oy @Je @eb @hx @CM @hne @h0 @he (bN cD) @toList_data
    try refine aF ?_
    exact⟨8-(k+1),ab,k+1,g,_,_,ab,rfl,rfl,by rw[lf]⟩
  ·rw[af (fun h=>h0 h.1)] at lf;have FF:=wF @Je @eb @hx @CM @hne @h0 (bN cD) @toList_data
   try refine aF ?_
   exact⟨8-(k+1),ab,k+1,g,_,_,ab,rfl,rfl,by rw[lf]⟩
 ·obtain rfl:k=8:=ab;have HR:=HR _ rfl;have CN:=aiK dL w0 8;generalize zh dL w0 8=kk at HR CN⊢;by_cases h0:kk=0
  ·subst h0;rw[aq (.inl rfl)] at HR;have FF:=trivial
   try refine aF ?_
   refine zE ?_;exact(by unfold rD;rw[HR];rfl)
  ·by_cases h7:kk=7
   ·subst h7;by_cases hl:ws.length=2
    ·obtain⟨y,hy⟩:∃y,ws[1]=y:=⟨_,rfl⟩
     have IQ:y.length<=4000000000:=bj (hle y (hy▸bP _)) hs;rw[af (by simp[hl]),show ws.getD 1 []=y by simp[List.getD,hl,hy]] at HR;have hC:=Mc y 1 IQ ab
     cases hd:jw y 1 with
     |none=>
      rw[hd] at HR hC;dsimp only[rB] at hC;have FF:=eV @hl @hy;refine bJ hC ?_;refine zE ?_;exact(by unfold rD;rw[HR];rfl)
     |some l=>
      rw[hd] at HR hC;dsimp only[rB] at hC;obtain⟨nd,rfl⟩:=MU.1 (IW hd);dsimp only[ints,List.map] at HR hC;by_cases h12:12<=nd
      ·have zn:(12:Int)<=(nd:Int):=ab;rw[aq h12] at HR;have FF:=jB @hl @hy @zn;refine bJ hC ?_;refine zE ?_;exact(by unfold rD;rw[HR];rfl)
      ·have zn:¬(12:Int)<=(nd:Int):=ab;rw[af h12,af au,aq rfl] at HR;have FF:=jB @hl @hy @zn;refine bJ hC ?_;refine zE ?_;exact(by unfold rD;rw[HR];rfl)
    ·rw[aq (.inr (by simpa using hl))] at HR;have ij:¬(ws.length:Int)=2:=ab;have FF:=@ij
     try refine aF ?_
     refine zE ?_;exact(by unfold rD;rw[HR];rfl)
   ·have i7:¬(kk:Int)=7:=ab;by_cases hl:ws.length=3
    ·obtain⟨y,hy⟩:∃y,ws[1]=y:=⟨_,rfl⟩
     obtain⟨z,hz⟩:∃z,ws[2]=z:=⟨_,rfl⟩
     have IQ:y.length<=4000000000:=bj (hle y (hy▸bP _)) hs;have qI:z.length<=4000000000:=bj (hle z (hz▸bP _)) hs;rw[af (by simp[hl,h0,h7]),show ws.getD 1 []=y by simp[List.getD,hl,hy],show ws.getD 2 []=z by simp[List.getD,hl,hz]] at HR;have hC:=Mc y 1 IQ ab;have Fi:=Mc z 5 qI ab;have dC:=Mc z 1 qI ab
     cases hd:jw y 1 with
     |none=>
      rw[hd] at HR hC;dsimp only[rB] at hC;have FF:=eW @hl @hy @h0 @i7;refine bJ hC ?_;refine zE ?_;exact(by unfold rD;rw[HR];rfl)
     |some l=>
      rw[hd] at HR hC;dsimp only[rB] at hC;obtain⟨nd,rfl⟩:=MU.1 (IW hd);dsimp only[ints,List.map] at HR hC;by_cases h12:12<=nd
      ·have zn:(12:Int)<=(nd:Int):=ab;rw[aq h12] at HR;have FF:=gZ @hl @hy @h0 @i7 @zn;refine bJ hC ?_;refine zE ?_;exact(by unfold rD;rw[HR];rfl)
      ·have zn:¬(12:Int)<=(nd:Int):=ab;rw[af h12] at HR;by_cases hm:kk=3\/kk=5\/kk=6
       ·rw[aq hm] at HR
        cases Jf:jw z 5 with
        |none=>
         rw[Jf] at HR Fi;dsimp only[rB] at Fi
         rcases hm with rfl|rfl|rfl
         all_goals
          have FF:=eW @hl @hy @hz @zn;refine gX hC Fi ?_;refine zE ?_;exact(by unfold rD;rw[HR];rfl)
        |some l5=>
         rw[Jf] at HR Fi;dsimp only[rB] at Fi
         obtain⟨a,b,c,d,e,rfl⟩:∃a b c d e,l5=[a,b,c,d,e]:=by
          match l5,IW Jf with
          |[a,b,c,d,e],_=>exact⟨a,b,c,d,e,rfl⟩
         dsimp only[ints,List.map] at HR Fi;by_cases hw:a<12/\b<40
         ·have Jg:=ft hw;rw[aq hw] at HR
          rcases hm with rfl|rfl|rfl
          all_goals
           have FF:=gZ @hl @hy @hz @zn @Jg;refine yK hC Fi (Ue a b c 40) ?_;refine zE ?_;exact(by unfold rD;rw[HR];rfl)
         ·have Jg:=jk hw;rw[af hw] at HR
          rcases hm with rfl|rfl|rfl
          all_goals
           have FF:=gZ @hl @hy @hz @zn @Jg;refine yK hC Fi (Ue a b c 40) ?_;refine zE ?_;exact(by unfold rD;rw[HR];rfl)
       ·rw[af hm,af h7] at HR
        have h3:¬kk=3:=fun h=>hm (.inl h)
        have h5:¬kk=5:=fun h=>hm (.inr (.inl h))
        have h6:¬kk=6:=fun h=>hm (.inr (.inr h))
        have i3:¬(kk:Int)=3:=ab;have i5:¬(kk:Int)=5:=ab;have i6:¬(kk:Int)=6:=ab
        cases jx:jw z 1 with
        |none=>
         rw[jx] at HR dC;dsimp only[rB] at dC;have FF:=oy @hl @hy @hz @h0 @zn @i3 @i5 @i6 @i7;refine gX hC dC ?_;refine zE ?_;exact(by unfold rD;rw[HR];rfl)
        |some l1=>
         rw[jx] at HR dC;dsimp only[rB] at dC;obtain⟨r,rfl⟩:=MU.1 (IW jx);dsimp only[ints,List.map] at HR dC;have FF:=oy @hl @hy @hz @h0 @zn @i3 @i5 @i6 @i7;refine gX hC dC ?_;refine zE ?_;exact(by unfold rD;rw[HR];rfl)
    ·rw[aq (.inr (by simpa [h7] using hl))] at HR;have ij:¬(ws.length:Int)=3:=ab;have FF:=jB @h0 @i7 @ij
     try refine aF ?_
     refine zE ?_;exact(by unfold rD;rw[HR];rfl)
def Bc (s:aj):AV:=.bD [.agg (let q:=(jW s).getD oU;[iA q.node,iA q.handler,iA q.count,iA q.kind,iA q.index]),.c (iA (ajE (jW s).isSome))]
theorem ayW(s:aj)(ws:List aj)(h:bW 32 s=ws)(kk:Nat)(hk:zh eh (ws.getD 0 []) 4=kk):jW s=if kk=0\/ws.length≠3 then none
 else match jw (ws.getD 1 []) 3,jw (ws.getD 2 []) 1 with
  |some [a,b,c],some [i]=>if a<12/\b<41 then some ⟨a,b,c,kk,i⟩ else none
  |_,_=>none:=by
 subst h hk;rfl
theorem aaU(s:aj)(hs:s.length<=4000000000):aU Tryz.prog 78 [.c (sA s)] (fun y=>y=Bc s):=by
 refine cC Tryz.func78 aN [(11,7,tk 0 3 (tk 4 3 (.move 3 .nil)),[]),(14,15,tk 0 14 (.move 14 .nil),[5])] [.cell 2 5,.t 3] [2,3,4,5,6,7,8,9,12,13,14] [2,5] ?_;have FF:=trivial;refine gX (Ub s 32 hs) Ud ?_;have hle:=Ta 32 s
 have hne:0<(bW 32 s).length:=by rw[Lj];omega
 have HR:=ayW s;generalize bW 32 s=ws at hle hne HR⊢;have HR:=HR ws rfl
 obtain⟨w0,CM⟩:∃x,ws[0]=x:=⟨_,rfl⟩
 rw[show ws.getD 0 []=w0 by rw[<-CM];simp[List.getD,hne]] at HR
 refine dv (fun n V S=>∃(k:Nat) (x6 x7:AV),k<=4/\n=4-k/\
  V=[(0,.w (.c (sA s))),(2,.pb 2 1 0),(3,.w (.c (iA 0))),(4,.w (.c (strs ws))),(5,.pb 5 1 0),(6,x6),(7,x7),(8,.u),(9,.u),(12,.w (.c (strs eh))),(13,.w (.c (iA 4))),(14,.w (.c (iA k)))]/\S=[(2,.box 1 [iA 0,iA 0,iA 0,iA 0,iA 0]),(5,.box 1 [iA 0,iA 0,iA 0,iA (zh eh w0 k),iA 0])]) (n:=4) ⟨0,.u,.u,ab,ab,rfl,rfl⟩ ?_
 rintro n V L S ⟨k,x6,x7,hk,rfl,rfl,rfl⟩;by_cases hlt:k<4
 ·have Je:(k:Int)<4:=ab;have cD:k<=1000000000:=ab;have eb:k<eh.length:=hlt;have lf:=TI eh w0 k;rw[show eh.getD k []=eh[k] by simp[List.getD,eb]] at lf
  obtain⟨x,hx⟩:∃x,eh[k]=x:=⟨_,rfl⟩
  rw[hx] at lf;by_cases h0:0<k
  ·by_cases he:w0=x
   ·rw[aq ⟨h0,he⟩] at lf;have FF:=oy @Je @eb @hx @CM @hne @h0 @he (bN cD) @toList_data
    try refine aF ?_
    exact⟨4-(k+1),ab,k+1,_,_,ab,rfl,rfl,by rw[lf]⟩
   ·rw[af (fun h=>he h.2)] at lf;have FF:=oy @Je @eb @hx @CM @hne @h0 @he (bN cD) @toList_data
    try refine aF ?_
    exact⟨4-(k+1),ab,k+1,_,_,ab,rfl,rfl,by rw[lf]⟩
  ·rw[af (fun h=>h0 h.1)] at lf;have FF:=wF @Je @eb @hx @CM @hne @h0 (bN cD) @toList_data
   try refine aF ?_
   exact⟨4-(k+1),ab,k+1,_,_,ab,rfl,rfl,by rw[lf]⟩
 ·obtain rfl:k=4:=ab;have HR:=HR _ rfl;generalize zh eh w0 4=kk at HR⊢;by_cases h0:kk=0
  ·subst h0;rw[aq (.inl rfl)] at HR;have FF:=trivial
   try refine aF ?_
   refine zE ?_;exact(by unfold Bc;rw[HR];rfl)
  ·by_cases hl:ws.length=3
   ·obtain⟨y,hy⟩:∃y,ws[1]=y:=⟨_,rfl⟩
    obtain⟨z,hz⟩:∃z,ws[2]=z:=⟨_,rfl⟩
    have IQ:y.length<=4000000000:=bj (hle y (hy▸bP _)) hs;have qI:z.length<=4000000000:=bj (hle z (hz▸bP _)) hs;rw[af (by simp[hl,h0]),show ws.getD 1 []=y by simp[List.getD,hl,hy],show ws.getD 2 []=z by simp[List.getD,hl,hz]] at HR;have hC:=Mc y 3 IQ ab;have dC:=Mc z 1 qI ab
    cases hd:jw y 3 with
    |none=>
     rw[hd] at HR hC;dsimp only[rB] at hC
     cases jx:jw z 1 with
     |none=>
      rw[jx] at HR dC;dsimp only[rB] at dC;have FF:=eW @hl @hy @hz @h0;refine gX hC dC ?_;refine zE ?_;exact(by unfold Bc;rw[HR];rfl)
     |some l1=>
      rw[jx] at HR dC;dsimp only[rB] at dC;obtain⟨i,rfl⟩:=MU.1 (IW jx);dsimp only[ints,List.map] at HR dC;have FF:=eW @hl @hy @hz @h0;refine gX hC dC ?_;refine zE ?_;exact(by unfold Bc;rw[HR];rfl)
    |some l=>
     rw[hd] at HR hC;dsimp only[rB] at hC
     obtain⟨a,b,c,rfl⟩:∃a b c,l=[a,b,c]:=by
      match l,IW hd with
      |[a,b,c],_=>exact⟨a,b,c,rfl⟩
     dsimp only[ints,List.map] at hC
     cases jx:jw z 1 with
     |none=>
      rw[jx] at HR dC;dsimp only[rB] at dC;have FF:=eW @hl @hy @hz @h0;refine gX hC dC ?_;refine zE ?_;exact(by unfold Bc;rw[HR];rfl)
     |some l1=>
      rw[jx] at HR dC;dsimp only[rB] at dC;obtain⟨i,rfl⟩:=MU.1 (IW jx);dsimp only[ints,List.map] at HR dC;by_cases hw:a<12/\b<41
      ·have Jg:=ft hw;rw[aq hw] at HR;have FF:=gZ @hl @hy @hz @h0 @Jg;refine yK hC dC (Ue a b c 41) ?_;refine zE ?_;exact(by unfold Bc;rw[HR];rfl)
      ·have Jg:=jk hw;rw[af hw] at HR;have FF:=gZ @hl @hy @hz @h0 @Jg;refine yK hC dC (Ue a b c 41) ?_;refine zE ?_;exact(by unfold Bc;rw[HR];rfl)
   ·rw[aq (.inr hl)] at HR;have ij:¬(ws.length:Int)=3:=ab;have FF:=eV @h0 @ij
    try refine aF ?_
    refine zE ?_;exact(by unfold Bc;rw[HR];rfl)
end Ab
end Go.Proofs.YtkanpepkdcmpmaaGreatDoor
