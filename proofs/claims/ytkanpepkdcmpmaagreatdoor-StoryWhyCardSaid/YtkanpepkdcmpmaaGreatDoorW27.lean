import Derived.Test.YtkanpepkdcmpmaaGreatDoorW18
import Derived.Test.YtkanpepkdcmpmaaGreatDoorW26
set_option maxHeartbeats 40000000
set_option maxRecDepth 100000
set_option linter.all false
namespace Go.Proofs.YtkanpepkdcmpmaaGreatDoor
namespace Ab
open Go Go.RowKit
attribute [local irreducible] aP bB aW
variable {M:Nat->Prop} {w:World}
abbrev strs (l:List aq):AC:=.sl (l.map fun s=>[sA s])
theorem zm{f:FuncId}{us:List Value}{R:AV->Prop}(h:∀w,Gl w->Calls Tryz.prog f us.toArray w fun e w'=>∃v r,e=.returned v/\R r/\(∀M:Nat->Prop,(∀b,M b->b<w.heap.size)->VI w' M r v)/\aw w w'):
  bj Tryz.prog f (us.map fun u=> .c (.v u)) R:=by
 intro M w vs hM hlen dV
 have e:vs=us:=Nq (by simpa using hlen) fun i h1 h2=>by
  have h3:=dV i (.c (.v us[i])) vs[i] (by simp[cz h2]) (cz h1);have h4:IR w M (.v us[i]) vs[i]:=CR.ir (S:=fun _=> .dead 0) (G:=fun _=>gh 0) (H:=fun _=>undef) h3.2 rfl;generalize us[i]=a at h4;generalize vs[i]=b at h4;cases h4;rfl
 subst e;refine(h w hM.2.gl).mono ?_;rintro e w' ⟨v,r,rfl,hr,hv,hb⟩;exact⟨v,r,rfl,hr,hv M hM.1,⟨hb.os,hb.tape,hb.output,hb.size,hb.block⟩⟩
theorem Jm{u:Value}(h:yq u=true):WI w M (.c (.v u)) u:=⟨rfl,(IR.v u h).uY (S:=fun _=> .dead 0) (G:=fun _=>gh 0) (H:=fun _=>undef)⟩
theorem Py{a b:Value}(h1:yq a=true)(h2:yq b=true):VI w M (.bP [.c (.v a),.c (.v b)]) (.tuple #[a,b]):=⟨[a,b],rfl,rfl,fun j x u hx hu=>by
 match j,hx,hu with
 |0,hx,hu=>simp at hx hu;subst hx hu;exact Jm h1
 |1,hx,hu=>simp at hx hu;subst hx hu;exact Jm h2
 |j+2,hx,hu=>simp at hx⟩
theorem aaV{g:Nat}{l:List aq}(h:gX w g l)(hg:¬M g)(hl:l.length<=9223372036854775807):IR w M (strs l) (.slice (some ⟨g,0,none⟩) l.length l.length):=by
 have row:∀(i:Nat) (row:List AC),(l.map fun s=>[sA s])[i]? =some row->∃s,l[i]? =some s/\row=[sA s]:=fun i row h1=>by
  rw[fD,bU] at h1;obtain⟨s,hs,rfl⟩:=h1;exact⟨s,hs,rfl⟩
 have:=IR.sl (w:=w) (A:=M) 1 (l.map fun s=>[sA s]) (some ⟨g,0,none⟩) l.length (fun i _=>sv (l.getD i [])) ai (by simpa using hl) (fun i r h1=>by
   obtain⟨_,_,rfl⟩:=row i r h1
   rfl) (fun i r j x h1 h2=>by
   obtain⟨s,hs,rfl⟩:=row i r h1
   match j,h2 with
   |0,h2=>
    simp only[ye,aA] at h2;subst h2;rw[fC,hs];exact IR.v _ rfl
   |j+1,h2=>simp at h2) (fun i r j h1 h2=>by
   obtain⟨s,hs,rfl⟩:=row i r h1
   obtain rfl:j=0:=by simpa using h2
   exact⟨g,0,rfl,hg,by rw[fC,hs,Nat.mul_one,eP,qA];exact h.cell hs⟩)
 simpa using this
theorem Ul(s:aq)(c:UInt8)(hs:s.length<=4000000000):bj Tryz.prog 51 [.c (sA s),.c (sA [c])] (fun y=>y=.w (.c (strs (cg c s)))):=
 zm (us:=[sv s,sv [c]]) fun w hg=>(Ze s c w hg hs).mono fun e w' ⟨he,hr,hb,_⟩=>⟨_,_,he,rfl,fun M hM=>⟨rfl,(aaV hr (fun h=>absurd (hM _ h) (Gy _)) (by rw[Ls];have:=Kg (a:=c) (l:=s);omega)).uY (S:=fun _=> .dead 0) (G:=fun _=>gh 0) (H:=fun _=>undef)⟩,hb⟩
theorem ayY{s:aq}{n:Nat}(h:num s=some n)(hs:s.length<=4000000000):bj Tryz.prog 181 [.c (sA s)] (fun y=>y=.bP [.c (iA n),.c (.v .nilIface)]):=
 zm (us:=[sv s]) fun w _=>(awt h w hs).mono fun e w' ⟨he,hb⟩=>⟨_,_,he,rfl,fun _ _=>Py rfl rfl,hb⟩
theorem ayZ{s:aq}(h:num s=none)(hs:s.length<=4000000000):bj Tryz.prog 181 [.c (sA s)] (fun y=>∃v er,y=.bP [.c (iA v),.c (.v er)]/\aae s v er):=
 zm (us:=[sv s]) fun w hg=>(awu h w hg hs).mono fun e w' ⟨⟨v,er,he,hA⟩,hb⟩=>⟨_,_,he,⟨v,er,rfl,hA⟩,fun _ _=>Py rfl (by rcases hA with⟨_,_,rfl⟩|⟨rfl,_⟩<;>rfl),hb⟩
theorem aaW(n:Int)(h:cJ n):bj Tryz.prog 29 [.c (iA n)] (fun y=>y=.w (.c (sA (Lib.itoa n)))):=
 zm (us:=[I n]) fun w hg=>(yR n h w hg).mono fun e w' ⟨he,hb⟩=>⟨_,_,he,rfl,fun _ _=>Jm rfl,hb⟩
theorem aza:bj Tryz.prog 74 [] (fun y=>y=.w (.c (strs dR))):=
 zm (us:=[]) fun w _=>(aiR w).mono fun e w' ⟨he,hr,hb,_⟩=>⟨_,_,he,rfl,fun M hM=>⟨rfl,(aaV hr (fun h=>absurd (hM _ h) (Gy _)) au).uY (S:=fun _=> .dead 0) (G:=fun _=>gh 0) (H:=fun _=>undef)⟩,hb⟩
theorem azb:bj Tryz.prog 77 [] (fun y=>y=.w (.c (strs ew))):=
 zm (us:=[]) fun w _=>(aan w).mono fun e w' ⟨he,hr,hb,_⟩=>⟨_,_,he,rfl,fun M hM=>⟨rfl,(aaV hr (fun h=>absurd (hM _ h) (Gy _)) au).uY (S:=fun _=> .dead 0) (G:=fun _=>gh 0) (H:=fun _=>undef)⟩,hb⟩
theorem Um(a b c h:Nat):bj Tryz.prog 133 [.agg [iA a,iA b,iA c],.c (iA h)] (fun y=>y=.w (.c (bA (decide (a<12/\b<h))))):=by
 refine cI Tryz.func133 aN [] [.t 4] [2,4] [2] ?_;have hm:(0:Int)<=min (a:Int) (b:Int):=ab
 have e:decide (a<12/\b<h)=(decide ((a:Int)<12) && decide ((b:Int)<(h:Int))):=by
  rw[rZ];simp;omega
 rw[e];by_cases h1:(a:Int)<12
 ·have FF:=im @hm @h1
  try refine aG ?_
  refine zE ?_;exact(by simp[h1])
 ·have FF:=im @hm @h1
  try refine aG ?_
  refine zE ?_;exact(by simp[h1])
def rM (o:Option (List Nat)):AV:=match o with
 |some l=> .w (.c (ints (l.map fun(n:Nat)=>(n:Int))))
 |none=> .w (.c (.v (.slice none 0 0)))
theorem Mj(s:aq)(m:Nat)(hs:s.length<=4000000000)(hm:m<=100):bj Tryz.prog 132 [.c (sA s),.c (iA m)] (fun y=>y=rM (jG s m)):=by
 refine cI Tryz.func132 ⟨0,[6],[],[],cZ,[(4,[])],[]⟩ [] [.t 4] [4,5,6,8,9,10,17,18,19] [6] ?_;have FF:=trivial;refine bY (Ul s 46 hs) ?_;have hle:=TG 46 s;unfold jG;generalize cg 46 s=ws at hle⊢;by_cases hl:ws.length=m
 ·rw[aj hl];have FF:=@hl
  try refine aG ?_
  refine dA (fun n V S=>∃(k g:Nat) (ns:List Nat) (x8 x9 x10:AV),k<=ws.length/\n=ws.length-k/\ns.length=k/\(ws.take k).mapM num=some ns/\
   V=[(0,.w (.c (sA s))),(1,.w (.c (iA m))),(4,.w (.c (.v (.slice none 0 0)))),(5,.w (.c (strs ws))),(6,.w (.c (.own 6 g))),(8,x8),(9,x9),(10,x10),(17,.w (.c (strs ws))),(18,.w (.c (iA m))),(19,.w (.c (iA k)))]/\S=[(6,.row 3 1 g (ns.map fun(n:Nat)=>[iA (n:Int)]))]) (n:=ws.length) ⟨0,1,[],.u,.u,.u,ab,ab,rfl,ai,rfl,rfl⟩ ?_
  rintro n V L S ⟨k,g,ns,x8,x9,x10,hk,rfl,jF,Un,rfl,rfl⟩;by_cases hlt:k<ws.length
  ·have jr:k<m:=ab;have cF:k<=1000000000:=ab
   obtain⟨x,hx⟩:∃x,ws[k]=x:=⟨_,rfl⟩
   have qP:x.length<=4000000000:=bm (hle x (hx▸bW hlt)) hs;have de:=List.take_succ_eq_append_getElem hlt
   cases hn:num x with
   |some v=>
    obtain⟨ji,pQ⟩:=(yQ _ _).1 hn;have hv:¬(2147483647:Int)<(v:Int):=ab;have hv0:¬(v:Int)<0:=ab
    have hit:Lib.itoa (v:Int)=x:=by rw[Lib.itoa_nonneg];exact pQ.symm
    have hI:=aaW (v:Int) ⟨ab,ab⟩;rw[hit] at hI;have FF:=kU @hlt @jr @hx @hv @hv0 (bT cF) @toList_data;refine kg (ayY hn qP) hI ?_;exact⟨ws.length-(k+1),ab,k+1,g+1,ns++[v],_,_,_,ab,ab,by simp[jF],by rw[de,hx];exact awv Un hn,rfl,ai⟩
   |none=>
    have hno:ws.mapM num=none:=mapM_none (hx▸bW hlt) hn;rw[hno];have FF:=kT @hlt @jr @hx
    try refine aG ?_
    refine afc ai (ayZ hn qP) ?_;rintro y ⟨v,er,rfl,hA⟩
    rcases hA with⟨te,pe,rfl⟩|⟨rfl,h0|⟨h0,h1⟩|⟨h0,h1,h2⟩⟩
    ·have FF:=trivial
     try refine aG ?_
     refine zE ?_;exact(rfl)
    ·have FF:=@h0
     try refine aG ?_
     refine zE ?_;exact(rfl)
    ·have CF:¬v<0:=ab;have FF:=im @CF @h1
     try refine aG ?_
     refine zE ?_;exact(rfl)
    ·have CF:¬v<0:=ab;have oO:¬(2147483647:Int)<v:=ab
     have h3:¬Lib.itoa v=x:=by simpa using h2
     have FF:=fg @CF @oO @h3 @toList_data;refine bY (aaW v ⟨ab,ab⟩) ?_;refine zE ?_;exact(rfl)
  ·have kM:k=ws.length:=ab;rw[kM,fT] at Un;rw[Un];have jr:¬k<m:=ab;have FF:=im @hlt @jr
   try refine aG ?_
   refine zE ?_;exact(by simp[rM];try rfl)
 ·have iy:¬(ws.length:Int)=(m:Int):=ab;rw[af hl];have FF:=@iy
  try refine aG ?_
  refine zE ?_;exact(rfl)
theorem azc(s:aq)(ws:List aq)(h:cg 32 s=ws)(kk:Nat)(hk:zh dR (ws.getD 0 []) 8=kk):il s=if kk=0\/ws.length≠(if kk=7 then 2 else 3) then none
 else match jG (ws.getD 1 []) 1 with
  |some [nd]=>
   if 12<=nd then none
   else if kk=3\/kk=5\/kk=6 then
    match jG (ws.getD 2 []) 5 with
    |some [a,b,c,d,e]=>if a<12/\b<40 then some ⟨kk,nd,0,⟨a,b,c,d,e⟩⟩ else none
    |_=>none
   else if kk=7 then some ⟨7,nd,0,⟨0,0,0,0,0⟩⟩
   else match jG (ws.getD 2 []) 1 with
    |some [r]=>some ⟨kk,nd,r,⟨0,0,0,0,0⟩⟩
    |_=>none
  |_=>none:=by
 subst h hk;rfl
abbrev azd:List AC:=[iA 0,iA 0,iA 0,iA 0,iA 0,iA 0,iA 0,iA 0]
def ajO (b:Bool):Int:=if b then 0 else 8
def sU (s:aq):AV:=.bP [.agg (iP ((il s).getD pR)),.c (iA (ajO (il s).isSome))]
theorem ajP(s:aq)(hs:s.length<=4000000000):bj Tryz.prog 76 [.c (sA s)] (fun y=>y=sU s):=by
 refine cI Tryz.func76 aN [tz 29 16] [.cell 2 8,.t 3] [2,3,4,5,6,7,8,9,10,11,14,15,16,64] [2,5] ?_;have FF:=trivial;refine kg (Ul s 32 hs) aza ?_;have hle:=TG 32 s
 have hne:0<(cg 32 s).length:=by rw[Ls];omega
 have HR:=azc s;generalize cg 32 s=ws at hle hne HR⊢;have HR:=HR ws rfl
 obtain⟨w0,CV⟩:∃x,ws[0]=x:=⟨_,rfl⟩
 rw[show ws.getD 0 []=w0 by rw[<-CV];simp[List.getD,hne]] at HR
 refine dA (fun n V S=>∃(k g:Nat) (x6 x7:AV),k<=8/\n=8-k/\
  V=[(0,.w (.c (sA s))),(2,.pb 2 1 0),(3,.w (.c (iA 0))),(4,.w (.c (strs ws))),(5,.pb 5 1 0),(6,x6),(7,x7),(8,.u),(9,.u),(10,.u),(11,.u),(14,.w (.c (strs dR))),(15,.w (.c (iA 8))),(16,.w (.c (iA k))),(64,.u)]/\S=[(2,.box 1 azd),(5,.box 1 [iA (zh dR w0 k),iA 0,iA 0,iA 0,iA 0,iA 0,iA 0,iA 0])]) (n:=8) ⟨0,1,.u,.u,ab,ab,rfl,rfl⟩ ?_
 rintro n V L S ⟨k,g,x6,x7,hk,rfl,rfl,rfl⟩;by_cases hlt:k<8
 ·have Jn:(k:Int)<8:=ab;have cF:k<=1000000000:=ab;have ei:k<dR.length:=hlt;have ly:=TT dR w0 k;rw[show dR.getD k []=dR[k] by simp[List.getD,ei]] at ly
  obtain⟨x,hx⟩:∃x,dR[k]=x:=⟨_,rfl⟩
  rw[hx] at ly;by_cases h0:0<k
  ·by_cases he:w0=x
   ·rw[aj ⟨h0,he⟩] at ly;have FF:=oH @Jn @ei @hx @CV @hne @h0 @he (bT cF) @toList_data
    try refine aG ?_
    exact⟨8-(k+1),ab,k+1,g,_,_,ab,rfl,rfl,by rw[ly]⟩
   ·rw[af (fun h=>he h.2)] at ly;have FF:=oH @Jn @ei @hx @CV @hne @h0 @he (bT cF) @toList_data
    try refine aG ?_
    exact⟨8-(k+1),ab,k+1,g,_,_,ab,rfl,rfl,by rw[ly]⟩
  ·rw[af (fun h=>h0 h.1)] at ly;have FF:=wI @Jn @ei @hx @CV @hne @h0 (bT cF) @toList_data
   try refine aG ?_
   exact⟨8-(k+1),ab,k+1,g,_,_,ab,rfl,rfl,by rw[ly]⟩
 ·obtain rfl:k=8:=ab;have HR:=HR _ rfl;have CW:=aiS dR w0 8;generalize zh dR w0 8=kk at HR CW⊢;by_cases h0:kk=0
  ·subst h0;rw[aj (.inl rfl)] at HR;have FF:=trivial
   try refine aG ?_
   refine zE ?_;exact(by unfold sU;rw[HR];rfl)
  ·by_cases h7:kk=7
   ·subst h7;by_cases hl:ws.length=2
    ·obtain⟨y,hy⟩:∃y,ws[1]=y:=⟨_,rfl⟩
     have Jb:y.length<=4000000000:=bm (hle y (hy▸bW _)) hs;rw[af (by simp[hl]),show ws.getD 1 []=y by simp[List.getD,hl,hy]] at HR;have hC:=Mj y 1 Jb ab
     cases hd:jG y 1 with
     |none=>
      rw[hd] at HR hC;dsimp only[rM] at hC;have FF:=im @hl @hy;refine bY hC ?_;refine zE ?_;exact(by unfold sU;rw[HR];rfl)
     |some l=>
      rw[hd] at HR hC;dsimp only[rM] at hC;obtain⟨nd,rfl⟩:=Nh.1 (Je hd);dsimp only[ints,List.map] at HR hC;by_cases h12:12<=nd
      ·have zn:(12:Int)<=(nd:Int):=ab;rw[aj h12] at HR;have FF:=kT @hl @hy @zn;refine bY hC ?_;refine zE ?_;exact(by unfold sU;rw[HR];rfl)
      ·have zn:¬(12:Int)<=(nd:Int):=ab;rw[af h12,af au,aj rfl] at HR;have FF:=kT @hl @hy @zn;refine bY hC ?_;refine zE ?_;exact(by unfold sU;rw[HR];rfl)
    ·rw[aj (.inr (by simpa using hl))] at HR;have iy:¬(ws.length:Int)=2:=ab;have FF:=@iy
     try refine aG ?_
     refine zE ?_;exact(by unfold sU;rw[HR];rfl)
   ·have i7:¬(kk:Int)=7:=ab;by_cases hl:ws.length=3
    ·obtain⟨y,hy⟩:∃y,ws[1]=y:=⟨_,rfl⟩
     obtain⟨z,hz⟩:∃z,ws[2]=z:=⟨_,rfl⟩
     have Jb:y.length<=4000000000:=bm (hle y (hy▸bW _)) hs;have qU:z.length<=4000000000:=bm (hle z (hz▸bW _)) hs;rw[af (by simp[hl,h0,h7]),show ws.getD 1 []=y by simp[List.getD,hl,hy],show ws.getD 2 []=z by simp[List.getD,hl,hz]] at HR;have hC:=Mj y 1 Jb ab;have Fv:=Mj z 5 qU ab;have dF:=Mj z 1 qU ab
     cases hd:jG y 1 with
     |none=>
      rw[hd] at HR hC;dsimp only[rM] at hC;have FF:=fg @hl @hy @h0 @i7;refine bY hC ?_;refine zE ?_;exact(by unfold sU;rw[HR];rfl)
     |some l=>
      rw[hd] at HR hC;dsimp only[rM] at hC;obtain⟨nd,rfl⟩:=Nh.1 (Je hd);dsimp only[ints,List.map] at HR hC;by_cases h12:12<=nd
      ·have zn:(12:Int)<=(nd:Int):=ab;rw[aj h12] at HR;have FF:=iF @hl @hy @h0 @i7 @zn;refine bY hC ?_;refine zE ?_;exact(by unfold sU;rw[HR];rfl)
      ·have zn:¬(12:Int)<=(nd:Int):=ab;rw[af h12] at HR;by_cases hm:kk=3\/kk=5\/kk=6
       ·rw[aj hm] at HR
        cases Jo:jG z 5 with
        |none=>
         rw[Jo] at HR Fv;dsimp only[rM] at Fv
         rcases hm with rfl|rfl|rfl
         all_goals
          have FF:=fg @hl @hy @hz @zn;refine kg hC Fv ?_;refine zE ?_;exact(by unfold sU;rw[HR];rfl)
        |some l5=>
         rw[Jo] at HR Fv;dsimp only[rM] at Fv
         obtain⟨a,b,c,d,e,rfl⟩:∃a b c d e,l5=[a,b,c,d,e]:=by
          match l5,Je Jo with
          |[a,b,c,d,e],_=>exact⟨a,b,c,d,e,rfl⟩
         dsimp only[ints,List.map] at HR Fv;by_cases hw:a<12/\b<40
         ·have Jp:=fF hw;rw[aj hw] at HR
          rcases hm with rfl|rfl|rfl
          all_goals
           have FF:=iF @hl @hy @hz @zn @Jp;refine yK hC Fv (Um a b c 40) ?_;refine zE ?_;exact(by unfold sU;rw[HR];rfl)
         ·have Jp:=jw hw;rw[af hw] at HR
          rcases hm with rfl|rfl|rfl
          all_goals
           have FF:=iF @hl @hy @hz @zn @Jp;refine yK hC Fv (Um a b c 40) ?_;refine zE ?_;exact(by unfold sU;rw[HR];rfl)
       ·rw[af hm,af h7] at HR
        have h3:¬kk=3:=fun h=>hm (.inl h)
        have h5:¬kk=5:=fun h=>hm (.inr (.inl h))
        have h6:¬kk=6:=fun h=>hm (.inr (.inr h))
        have i3:¬(kk:Int)=3:=ab;have i5:¬(kk:Int)=5:=ab;have i6:¬(kk:Int)=6:=ab
        cases jH:jG z 1 with
        |none=>
         rw[jH] at HR dF;dsimp only[rM] at dF;have FF:=oH @hl @hy @hz @h0 @zn @i3 @i5 @i6 @i7;refine kg hC dF ?_;refine zE ?_;exact(by unfold sU;rw[HR];rfl)
        |some l1=>
         rw[jH] at HR dF;dsimp only[rM] at dF;obtain⟨r,rfl⟩:=Nh.1 (Je jH);dsimp only[ints,List.map] at HR dF;have FF:=oH @hl @hy @hz @h0 @zn @i3 @i5 @i6 @i7;refine kg hC dF ?_;refine zE ?_;exact(by unfold sU;rw[HR];rfl)
    ·rw[aj (.inr (by simpa [h7] using hl))] at HR;have iy:¬(ws.length:Int)=3:=ab;have FF:=kT @h0 @i7 @iy
     try refine aG ?_
     refine zE ?_;exact(by unfold sU;rw[HR];rfl)
def CX (s:aq):AV:=.bP [.agg (let q:=(kp s).getD pS;[iA q.node,iA q.handler,iA q.count,iA q.kind,iA q.index]),.c (iA (ajO (kp s).isSome))]
theorem aze(s:aq)(ws:List aq)(h:cg 32 s=ws)(kk:Nat)(hk:zh ew (ws.getD 0 []) 4=kk):kp s=if kk=0\/ws.length≠3 then none
 else match jG (ws.getD 1 []) 3,jG (ws.getD 2 []) 1 with
  |some [a,b,c],some [i]=>if a<12/\b<41 then some ⟨a,b,c,kk,i⟩ else none
  |_,_=>none:=by
 subst h hk;rfl
theorem ajQ(s:aq)(hs:s.length<=4000000000):bj Tryz.prog 78 [.c (sA s)] (fun y=>y=CX s):=by
 refine cI Tryz.func78 aN [(11,7,tk 0 3 (tk 4 3 (.move 3 .nil)),[]),(14,15,tk 0 14 (.move 14 .nil),[5])] [.cell 2 5,.t 3] [2,3,4,5,6,7,8,9,12,13,14] [2,5] ?_;have FF:=trivial;refine kg (Ul s 32 hs) azb ?_;have hle:=TG 32 s
 have hne:0<(cg 32 s).length:=by rw[Ls];omega
 have HR:=aze s;generalize cg 32 s=ws at hle hne HR⊢;have HR:=HR ws rfl
 obtain⟨w0,CV⟩:∃x,ws[0]=x:=⟨_,rfl⟩
 rw[show ws.getD 0 []=w0 by rw[<-CV];simp[List.getD,hne]] at HR
 refine dA (fun n V S=>∃(k:Nat) (x6 x7:AV),k<=4/\n=4-k/\
  V=[(0,.w (.c (sA s))),(2,.pb 2 1 0),(3,.w (.c (iA 0))),(4,.w (.c (strs ws))),(5,.pb 5 1 0),(6,x6),(7,x7),(8,.u),(9,.u),(12,.w (.c (strs ew))),(13,.w (.c (iA 4))),(14,.w (.c (iA k)))]/\S=[(2,.box 1 [iA 0,iA 0,iA 0,iA 0,iA 0]),(5,.box 1 [iA 0,iA 0,iA 0,iA (zh ew w0 k),iA 0])]) (n:=4) ⟨0,.u,.u,ab,ab,rfl,rfl⟩ ?_
 rintro n V L S ⟨k,x6,x7,hk,rfl,rfl,rfl⟩;by_cases hlt:k<4
 ·have Jn:(k:Int)<4:=ab;have cF:k<=1000000000:=ab;have ei:k<ew.length:=hlt;have ly:=TT ew w0 k;rw[show ew.getD k []=ew[k] by simp[List.getD,ei]] at ly
  obtain⟨x,hx⟩:∃x,ew[k]=x:=⟨_,rfl⟩
  rw[hx] at ly;by_cases h0:0<k
  ·by_cases he:w0=x
   ·rw[aj ⟨h0,he⟩] at ly;have FF:=oH @Jn @ei @hx @CV @hne @h0 @he (bT cF) @toList_data
    try refine aG ?_
    exact⟨4-(k+1),ab,k+1,_,_,ab,rfl,rfl,by rw[ly]⟩
   ·rw[af (fun h=>he h.2)] at ly;have FF:=oH @Jn @ei @hx @CV @hne @h0 @he (bT cF) @toList_data
    try refine aG ?_
    exact⟨4-(k+1),ab,k+1,_,_,ab,rfl,rfl,by rw[ly]⟩
  ·rw[af (fun h=>h0 h.1)] at ly;have FF:=wI @Jn @ei @hx @CV @hne @h0 (bT cF) @toList_data
   try refine aG ?_
   exact⟨4-(k+1),ab,k+1,_,_,ab,rfl,rfl,by rw[ly]⟩
 ·obtain rfl:k=4:=ab;have HR:=HR _ rfl;generalize zh ew w0 4=kk at HR⊢;by_cases h0:kk=0
  ·subst h0;rw[aj (.inl rfl)] at HR;have FF:=trivial
   try refine aG ?_
   refine zE ?_;exact(by unfold CX;rw[HR];rfl)
  ·by_cases hl:ws.length=3
   ·obtain⟨y,hy⟩:∃y,ws[1]=y:=⟨_,rfl⟩
    obtain⟨z,hz⟩:∃z,ws[2]=z:=⟨_,rfl⟩
    have Jb:y.length<=4000000000:=bm (hle y (hy▸bW _)) hs;have qU:z.length<=4000000000:=bm (hle z (hz▸bW _)) hs;rw[af (by simp[hl,h0]),show ws.getD 1 []=y by simp[List.getD,hl,hy],show ws.getD 2 []=z by simp[List.getD,hl,hz]] at HR;have hC:=Mj y 3 Jb ab;have dF:=Mj z 1 qU ab
    cases hd:jG y 3 with
    |none=>
     rw[hd] at HR hC;dsimp only[rM] at hC
     cases jH:jG z 1 with
     |none=>
      rw[jH] at HR dF;dsimp only[rM] at dF;have FF:=fg @hl @hy @hz @h0;refine kg hC dF ?_;refine zE ?_;exact(by unfold CX;rw[HR];rfl)
     |some l1=>
      rw[jH] at HR dF;dsimp only[rM] at dF;obtain⟨i,rfl⟩:=Nh.1 (Je jH);dsimp only[ints,List.map] at HR dF;have FF:=fg @hl @hy @hz @h0;refine kg hC dF ?_;refine zE ?_;exact(by unfold CX;rw[HR];rfl)
    |some l=>
     rw[hd] at HR hC;dsimp only[rM] at hC
     obtain⟨a,b,c,rfl⟩:∃a b c,l=[a,b,c]:=by
      match l,Je hd with
      |[a,b,c],_=>exact⟨a,b,c,rfl⟩
     dsimp only[ints,List.map] at hC
     cases jH:jG z 1 with
     |none=>
      rw[jH] at HR dF;dsimp only[rM] at dF;have FF:=fg @hl @hy @hz @h0;refine kg hC dF ?_;refine zE ?_;exact(by unfold CX;rw[HR];rfl)
     |some l1=>
      rw[jH] at HR dF;dsimp only[rM] at dF;obtain⟨i,rfl⟩:=Nh.1 (Je jH);dsimp only[ints,List.map] at HR dF;by_cases hw:a<12/\b<41
      ·have Jp:=fF hw;rw[aj hw] at HR;have FF:=iF @hl @hy @hz @h0 @Jp;refine yK hC dF (Um a b c 41) ?_;refine zE ?_;exact(by unfold CX;rw[HR];rfl)
      ·have Jp:=jw hw;rw[af hw] at HR;have FF:=iF @hl @hy @hz @h0 @Jp;refine yK hC dF (Um a b c 41) ?_;refine zE ?_;exact(by unfold CX;rw[HR];rfl)
   ·rw[aj (.inr hl)] at HR;have iy:¬(ws.length:Int)=3:=ab;have FF:=im @h0 @iy
    try refine aG ?_
    refine zE ?_;exact(by unfold CX;rw[HR];rfl)
end Ab
end Go.Proofs.YtkanpepkdcmpmaaGreatDoor
