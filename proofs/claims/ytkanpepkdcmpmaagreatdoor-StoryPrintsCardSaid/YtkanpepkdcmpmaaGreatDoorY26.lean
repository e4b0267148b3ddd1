import Derived.Test.YtkanpepkdcmpmaaGreatDoorY25
set_option maxHeartbeats 40000000
set_option maxRecDepth 100000
set_option linter.all false
namespace Go.Proofs.YtkanpepkdcmpmaaGreatDoor
namespace Ab
open Go Go.RowKit
attribute [local irreducible] aM bt aX
variable {T:aj} {l:List Int}
theorem abw{a m:Ev}(h:a≠m):¬(a.kind=m.kind/\a.node=m.node/\a.arg=m.arg/\a.msg.node=m.msg.node/\a.msg.handler=m.msg.handler/\a.msg.count=m.msg.count/\a.msg.index=m.msg.index/\a.msg.copy=m.msg.copy):=fun⟨h1,h2,h3,h4,h5,h6,h7,h8⟩=>h (by obtain⟨_,_,_,⟨_,_,_,_,_⟩⟩:=a;obtain⟨_,_,_,⟨_,_,_,_,_⟩⟩:=m;simp_all)
theorem azz{a m:Qn}(h:a≠m):¬(a.node=m.node/\a.handler=m.handler/\a.count=m.count/\a.kind=m.kind/\a.index=m.index):=fun⟨h1,h2,h3,h4,h5⟩=>h (by cases a;cases m;simp_all)
abbrev Uw (q:Qn):List AC:=[iA q.node,iA q.handler,iA q.count,iA q.kind,iA q.index]
theorem akA(l:List Int)(h31:∀n∈l,bY n)(hl:l.length<=100000):aU Tryz.prog 75 [.c (ints l)] (fun y=>y=.w (.c (sA (bI 46 (l.map Lib.itoa))))):=by
 intro M w vs hM hlen dz
 match vs,hlen,dz with
 |[v],_,dz=>
  refine(azw l h31 hl v w hM.2.gl (ayB (CR.ir (S:=fun _=> .dead 0) (G:=fun _=>gh 0) (H:=fun _=>undef) (dz 0 _ v rfl rfl).2 rfl))).mono ?_;rintro e w' ⟨rfl,hb⟩;exact⟨_,_,rfl,rfl,Fh rfl,⟨hb.os,hb.tape,hb.output,hb.size,hb.block⟩⟩
theorem akB(h31:∀n∈l,bY n):(bI 46 (l.map Lib.itoa)).length<=21*l.length:=by
 have:=Bf 46 20 (l.map Lib.itoa) (fun a ha=>by
  obtain⟨n,hn,rfl⟩:=dm.1 ha
  exact iP n (h31 n hn))
 simpa using this
theorem azA(e:Ev)(hT:CZ e=T)(hl:T.length<=4000000000):
  (aU Tryz.prog 76 [.c (sA T)] (fun y=>y=.bD [.agg (gG oT),.c (iA 8)])/\ei e=[])\/
  (∃x:Ev,x≠e/\aU Tryz.prog 76 [.c (sA T)] (fun y=>y=.bD [.agg (gG x),.c (iA 0)])/\ei e=[])\/
  (aU Tryz.prog 76 [.c (sA T)] (fun y=>y=.bD [.agg (gG e),.c (iA 0)])/\ei e=T):=by
 have hB:=azx e;have hP:=aaT T hl;unfold rD at hP;rw[hT] at hB
 cases h:gY T with
 |none=>
  rw[h] at hP hB;exact .inl ⟨hP,by rw[<-hB,af (fun h=>by cases h)]⟩
 |some x=>
  rw[h] at hP hB;by_cases hx:x=e
  ·subst hx;exact .inr (.inr ⟨hP,by rw[<-hB,aq rfl]⟩)
  ·exact .inr (.inl ⟨x,hx,hP,by rw[<-hB,af (fun h=>hx (dX h))]⟩)
theorem azB(q:Qn)(hT:Jk q=T)(hl:T.length<=4000000000):
  (aU Tryz.prog 78 [.c (sA T)] (fun y=>y=.bD [.agg (Uw oU),.c (iA 8)])/\gQ q=[])\/
  (∃x:Qn,x≠q/\aU Tryz.prog 78 [.c (sA T)] (fun y=>y=.bD [.agg (Uw x),.c (iA 0)])/\gQ q=[])\/
  (aU Tryz.prog 78 [.c (sA T)] (fun y=>y=.bD [.agg (Uw q),.c (iA 0)])/\gQ q=T):=by
 have hB:=azy q;have hP:=aaU T hl;unfold Bc at hP;rw[hT] at hB
 cases h:jW T with
 |none=>
  rw[h] at hP hB;exact .inl ⟨hP,by rw[<-hB,af (fun h=>by cases h)]⟩
 |some x=>
  rw[h] at hP hB;by_cases hx:x=q
  ·subst hx;exact .inr (.inr ⟨hP,by rw[<-hB,aq rfl]⟩)
  ·exact .inr (.inl ⟨x,hx,hP,by rw[<-hB,af (fun h=>hx (dX h))]⟩)
theorem Bg{a b:aj}{n m:Nat}(ha:a.length<=n)(hb:b.length<=m)(h:n+m<=1000000000):∃c:aj,a++b=c/\c.length<=n+m/\aW .add (.string ⟨⟨a⟩⟩) (.string ⟨⟨b⟩⟩)=some (.string ⟨⟨c⟩⟩):=
 ⟨_,rfl,by simp;omega,afn ab⟩
theorem azC(e:Ev)(bU:∀x∈e.ints,bY x):aU Tryz.prog 30 [.agg (gG e)] (fun y=>y=.w (.c (sA (ei e)))):=by
 have hB:=fun T hT hl=>azA e (T:=T) hT hl
 have rG:(e.kind<1\/7<e.kind)->ei e=[]:=fun hk=>by
  unfold ei
  rw[af (fun hw=>by
   obtain⟨_,_,h⟩:=(Fk e).1 hw
   rcases h with⟨h,_⟩|⟨h,_⟩|⟨h,_⟩<;>omega)]
 obtain⟨k,n,a,⟨m0,m1,m2,m3,m4⟩⟩:=e;have hn:bY n:=bU n (by simp[Ev.ints]);have ha:bY a:=bU a (by simp[Ev.ints])
 have hm:∀x∈[m0,m1,m2,m3,m4],bY x:=fun x hx=>bU x (jC _ (jC _ (jC _ hx)))
 refine cC Tryz.func30 aN [(4,9,tk 1 2 (tk 6 2 (.move 0 (tk 3 1 (.fork 4 8 (tk 5 1 (.move 8 .nil)) (.move 4 (tk 5 1 .nil)))))),[])] [.t 2] [1,2,3,4,5,6,28] [1,3,5] ?_;by_cases h1:k<1
 ·have FF:=@h1
  try refine aF ?_
  refine zE ?_;exact(by rw[rG (.inl h1)];rfl)
 by_cases h7:7<k
 ·have FF:=eV @h1 @h7
  try refine aF ?_
  refine zE ?_;exact(by rw[rG (.inr h7)];rfl)
 obtain⟨j,rfl⟩:∃j:Nat,k=j:=⟨k.toNat,ab⟩
 have dJ:j<dL.length:=by show j<8;omega
 have CI:(j:Int)<8:=ab
 obtain⟨x,hx⟩:∃x,dL[j]=x:=⟨_,rfl⟩
 have oI:x.length<=7:=by
  have:∀y∈dL,y.length<=7:=au;exact this _ (hx▸bP dJ)
 have Pz:dL.getD j []=x:=by simp[List.getD,dJ,hx]
 obtain⟨ti,Jl⟩:∃t,Lib.itoa n=t:=⟨_,rfl⟩
 have Im:=iP n hn;have hI:=Mb n hn;rw[Jl] at Im hI;obtain⟨p1,e1,l1,s1⟩:=Bg oI (b:=[32]) (m:=1) ai ab;obtain⟨p2,e2,l2,s2⟩:=Bg l1 Im ab;have FF:=eV @h1 @h7
 try refine aF ?_
 have FF:=gZ @CI @dJ @hx @s1 @s2;apply Bb
 ·(repeat' first|refine qQ Uc ?_|refine qQ hI ?_|refine qR Uc ?_|refine qR hI ?_|refine tO ?_|refine xi ?_|refine xh ?_|refine bz ?_|refine vm ?_ ?_|refine Ao ?_ ?_ ?_|refine tP ?_|refine xj ?_|refine qU Uc ?_|refine qU hI ?_|refine xl ?_|refine xm ?_|refine xn ?_|refine xk ?_|refine xg ?_|fail)<;>exact⟨rfl,rfl⟩
 intro L;by_cases hA:j=3\/j=5\/j=6
 ·obtain⟨td,PA⟩:∃t,bI 46 ([m0,m1,m2,m3,m4].map Lib.itoa)=t:=⟨_,rfl⟩
  have ez:=akB hm;have hD:=akA [m0,m1,m2,m3,m4] hm ai;rw[PA] at hD ez;have ez:td.length<=105:=ez;obtain⟨p3,e3,l3,s3⟩:=Bg (a:=[32]) (n:=1) ai ez ab;obtain⟨p4,e4,l4,s4⟩:=Bg l2 l3 ab
  have hB:=hB p4 (by
   unfold CZ;simp only[fJ,bQ.ints]
   rw[Pz,Jl,PA,aq ab,e1,e2,e3,e4]) ab
  rcases hA with rfl|rfl|rfl
  all_goals
   rcases hB with⟨hP,hX⟩|⟨z,hz,hP,hX⟩|⟨hP,hX⟩
   ·have FF:=eV @s3 @s4;refine gX hD hP ?_;refine zE ?_;exact(by rw[hX];rfl)
   ·have hz:=abw hz;simp only[Int.cast_ofNat_Int] at hz;have FF:=jB @s3 @s4 @hz;refine gX hD hP ?_;refine zE ?_;exact(by rw[hX];rfl)
   ·have FF:=eV @s3 @s4;refine gX hD hP ?_;refine zE ?_;exact(by rw[hX];rfl)
 by_cases h7:j=7
 ·have hB:=hB p2 (by
   unfold CZ;simp only[fJ]
   rw[Pz,Jl,af ab,aq ab,e1,e2]) ab
  subst h7
  rcases hB with⟨hP,hX⟩|⟨z,hz,hP,hX⟩|⟨hP,hX⟩
  ·have FF:=trivial;refine bJ hP ?_;refine zE ?_;exact(by rw[hX];rfl)
  ·have hz:=abw hz;simp only[Int.cast_ofNat_Int] at hz;have FF:=@hz;refine bJ hP ?_;refine zE ?_;exact(by rw[hX];rfl)
  ·have FF:=trivial;refine bJ hP ?_;refine zE ?_;exact(by rw[hX];rfl)
 ·obtain⟨ta,og⟩:∃t,Lib.itoa a=t:=⟨_,rfl⟩
  have uU:=iP a ha;have hJ:=Mb a ha;rw[og] at uU hJ;obtain⟨p3,e3,l3,s3⟩:=Bg (a:=[32]) (n:=1) ai uU ab;obtain⟨p4,e4,l4,s4⟩:=Bg l2 l3 ab
  have hB:=hB p4 (by
   unfold CZ;simp only[fJ]
   rw[Pz,Jl,og,af ab,af ab,e1,e2,e3,e4]) ab
  have Ux:j=1\/j=2\/j=4:=ab
  rcases Ux with rfl|rfl|rfl
  all_goals
   rcases hB with⟨hP,hX⟩|⟨z,hz,hP,hX⟩|⟨hP,hX⟩
   ·have FF:=eV @s3 @s4;refine gX hJ hP ?_;refine zE ?_;exact(by rw[hX];rfl)
   ·have hz:=abw hz;simp only[Int.cast_ofNat_Int] at hz;have FF:=jB @s3 @s4 @hz;refine gX hJ hP ?_;refine zE ?_;exact(by rw[hX];rfl)
   ·have FF:=eV @s3 @s4;refine gX hJ hP ?_;refine zE ?_;exact(by rw[hX];rfl)
theorem azD(q:Qn)(bU:∀x∈q.ints,bY x):aU Tryz.prog 31 [.agg (Uw q)] (fun y=>y=.w (.c (sA (gQ q)))):=by
 have hB:=fun T hT hl=>azB q (T:=T) hT hl
 have rG:(q.kind<1\/3<q.kind)->gQ q=[]:=fun hk=>by
  unfold gQ
  rw[af (fun hw=>by
   obtain⟨h,_⟩:=(Fl q).1 hw
   omega)]
 obtain⟨m0,m1,m2,k,n⟩:=q;have hn:bY n:=bU n (by simp[Qn.ints])
 have hm:∀x∈[m0,m1,m2],bY x:=fun x hx=>bU x (by simp[Qn.ints] at hx⊢;rcases hx with h|h|h<;>simp[h])
 refine cC Tryz.func31 aN [(3,22,tk 1 2 (tk 6 9 (tk 19 2 (.fork 0 15 (tk 3 1 (.fork 4 15 (tk 5 1 (.move 15 (.move 16 (tk 17 2 (.move 21 .nil))))) (.fork 4 16 (tk 5 1 (.move 16 (tk 17 2 (.move 21 .nil)))) (.fork 4 21 (tk 5 1 (tk 17 2 (.move 21 .nil))) (.move 4 (tk 5 1 (tk 17 2 .nil))))))) (.move 0 (tk 3 1 (.fork 4 16 (tk 5 1 (.move 16 (tk 17 2 (.move 21 .nil)))) (.fork 4 21 (tk 5 1 (tk 17 2 (.move 21 .nil))) (.move 4 (tk 5 1 (tk 17 2 .nil)))))))))),[])] [.t 2] [1,2,3,4,5] [1,4] ?_;by_cases h1:k<1
 ·have FF:=@h1
  try refine aF ?_
  refine zE ?_;exact(by rw[rG (.inl h1)];rfl)
 by_cases h3:3<k
 ·have FF:=eV @h1 @h3
  try refine aF ?_
  refine zE ?_;exact(by rw[rG (.inr h3)];rfl)
 obtain⟨j,rfl⟩:∃j:Nat,k=j:=⟨k.toNat,ab⟩
 have dJ:j<eh.length:=by show j<4;omega
 have CI:(j:Int)<4:=ab
 obtain⟨x,hx⟩:∃x,eh[j]=x:=⟨_,rfl⟩
 have oI:x.length<=7:=by
  have:∀y∈eh,y.length<=7:=au;exact this _ (hx▸bP dJ)
 have Pz:eh.getD j []=x:=by simp[List.getD,dJ,hx]
 obtain⟨ti,Jl⟩:∃t,Lib.itoa n=t:=⟨_,rfl⟩
 have Im:=iP n hn;have hI:=Mb n hn;rw[Jl] at Im hI
 obtain⟨td,PA⟩:∃t,bI 46 ([m0,m1,m2].map Lib.itoa)=t:=⟨_,rfl⟩
 have ez:=akB hm;have hD:=akA [m0,m1,m2] hm ai;rw[PA] at hD ez;have ez:td.length<=63:=ez;obtain⟨p1,e1,l1,s1⟩:=Bg oI (b:=[32]) (m:=1) ai ab;obtain⟨p2,e2,l2,s2⟩:=Bg l1 ez ab;obtain⟨p3,e3,l3,s3⟩:=Bg l2 (b:=[32]) (m:=1) ai ab;obtain⟨p4,e4,l4,s4⟩:=Bg l3 Im ab
 have hB:=hB p4 (by
  unfold Jk;simp only[fJ]
  rw[Pz,Jl,PA,e1,e2,e3,e4]) ab
 have FF:=eV @h1 @h3
 try refine aF ?_
 have FF:=kj @CI @dJ @hx @s1 @s2 @s3 @s4;apply Bb
 ·(repeat' first|refine qQ Ud ?_|refine qQ hI ?_|refine qQ hD ?_|refine qR Ud ?_|refine qR hI ?_|refine qR hD ?_|refine tO ?_|refine xi ?_|refine xh ?_|refine bz ?_|refine vm ?_ ?_|refine Ao ?_ ?_ ?_|refine tP ?_|refine xj ?_|refine qU Ud ?_|refine qU hI ?_|refine qU hD ?_|refine xl ?_|refine xm ?_|refine xn ?_|refine xk ?_|refine xg ?_|fail)<;>exact⟨rfl,rfl⟩
 intro L
 rcases hB with⟨hP,hX⟩|⟨z,hz,hP,hX⟩|⟨hP,hX⟩
 ·have FF:=trivial;refine bJ hP ?_;refine zE ?_;exact(by rw[hX];rfl)
 ·have hz:=azz hz;have FF:=@hz;refine bJ hP ?_;refine zE ?_;exact(by rw[hX];rfl)
 ·have FF:=trivial;refine bJ hP ?_;refine zE ?_;exact(by rw[hX];rfl)
theorem akC{f:FuncId}(h:aU Tryz.prog f [.agg (l.map iA)] (fun y=>y=.w (.c (sA T))))(w:World)(hg:Gl w):Calls Tryz.prog f #[.agg (l.map I).toArray] w fun r w'=>r=.returned (sv T)/\aw w w':=by
 refine(h (fun _=>False) w [.agg (l.map I).toArray] ⟨fun b hb=>hb.elim,Kv hg⟩ rfl (fun i x u hx hu=> ?_)).mono ?_
 ·match i,hx,hu with
  |0,hx,hu=>
   simp only[wG,aA] at hx hu;subst hx hu;refine⟨by simp[AW.inl,AW.cells],_,rfl,ai,fun j x u hx hu=> ?_⟩;rw[fh,bO] at hx hu;obtain⟨n,hn,rfl⟩:=hx;obtain⟨n',wY,rfl⟩:=hu;rw[hn] at wY;cases wY;exact(IR.v _ rfl).tF
  |i+1,hx,hu=>simp at hx
 ·rintro e w' ⟨v,r,rfl,rfl,hv,hF⟩;have hv:IR w' (fun _=>False) (sA T) v:=CR.ir (S:=fun _=> .dead 0) (G:=fun _=>gh 0) (H:=fun _=>undef) hv.2 rfl;cases hv;exact⟨rfl,hF.below⟩
end Ab
section
open Go.RowKit
theorem azE (e:Ev)(bU:∀x∈e.ints,bY x)(w:World)(hg:Gl w):Calls Tryz.prog 30 #[.agg (iH e)] w fun r w'=>r=.returned (sv (ei e))/\aw w w':=Ab.akC (l:=e.ints) (Ab.azC e bU) w hg
end
section
open Go.RowKit
theorem azF (q:Qn)(bU:∀x∈q.ints,bY x)(w:World)(hg:Gl w):Calls Tryz.prog 31 #[.agg (pQ q)] w fun r w'=>r=.returned (sv (gQ q))/\aw w w':=Ab.akC (l:=q.ints) (Ab.azD q bU) w hg
end
end Go.Proofs.YtkanpepkdcmpmaaGreatDoor
