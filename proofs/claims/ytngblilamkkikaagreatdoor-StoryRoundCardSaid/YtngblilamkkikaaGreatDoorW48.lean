import Derived.Test.YtngblilamkkikaaGreatDoorW17
import Derived.Test.YtngblilamkkikaaGreatDoorW16
import Derived.Test.YtngblilamkkikaaGreatDoorW30
set_option maxHeartbeats 40000000
set_option maxRecDepth 100000
set_option linter.all false
namespace Go.Proofs.YtngblilamkkikaaGreatDoor
namespace Ab
open Go Go.RowKit
attribute [local irreducible] aL bm aU
open aD (et bE Env Rr gW dX wH MR enabled lU)
theorem Yx {c:et}(hc:gW c){k j:Nat}(hk:k<=30)(hj:j<=900){w:bE}(h:dX c k j w){e:Ev}(he:e∈enabled w){l:List aI}(cE:l.length<=1000000){w':bE}{s:az}(hx:lU w e l=some (some (w',s))):
  bu Tryz.prog 38 [.agg (gF w),.agg (kR e),.c (mJ l)] (fun x=>x=.cg [.agg (gF w'),.agg (mK s),.c (iA 0)]):=by
 have hst:w.steps<5000:=by
  rcases Ag w.steps 5000 with h1|h1
  ·exact h1
  ·exfalso;unfold lU at hx;rw[aj h1] at hx;cases hx
 unfold lU at hx;rw[af ab,aj he] at hx;simp only[bK,aC,jb] at hx;obtain⟨⟨w2,r⟩,hx,rfl,rfl⟩:=hx;obtain⟨_,_,e1,e2,e3⟩:=MR hc ab h he l;rw[hx] at e1;simp only[aC,jb] at e1;obtain⟨rfl,rfl⟩:=e1;dsimp only;have hns:=e3.RD;have h12:=hc.AU
 have n1:w.nodes.length<=1000000:=by rw[h.nodes];omega
 have n2:w.next.length<=1000000:=by rw[h.next];omega
 have n3:w.bB.length<=1000000:=by rw[h.bB];omega
 have n4:w.traces.length<=1000000:=by rw[h.traces];omega
 have agB:¬(5000:Int)<=(w.steps:Int):=ab;have hC:=aug w (.dead 0) (.dead 0) (.dead 0) (.dead 0) n1 n2 n3 n4;have hE:=atZ hc ab ab h he cE hx (0+1+1) (0+1+1) (0+1+1) (0+1+1);have hl:=zi r;have hw:=MW r;have hd:=MX r
 have nM:=fun(D:List Nat)=>Yc D r
 have ob1:w.aX.length<=1000000:=by have:=h.sx;omega
 have Ds:w2.aX.length<=1000000:=by have:=e2.sx;omega
 refine cD Tryz.func38 ⟨0,[],[(89,[601,602,603,604]),(88,[601,602,603,604])],[],dc,[(48,[10])],[(9,[(12,10,610,65,5)])]⟩ [(6,11,tk 0 1 (tk 2 2 (.uX 1 8 9 (.uX 4 8 9 (tk 5 3 (.fork 8 9 (.move 9 (.move 10 .nil)) (.move 8 (.move 10 .nil)))) (.fork 4 9 (tk 5 3 (.move 9 (.move 10 .nil))) (.move 4 (tk 5 3 (.move 10 .nil)))) (.fork 4 8 (tk 5 3 (.move 8 (.move 10 .nil))) (.move 4 (tk 5 3 (.move 10 .nil))))) (.fork 1 9 (.fork 4 9 (tk 5 3 (.move 9 (.move 10 .nil))) (.move 4 (tk 5 3 (.move 10 .nil)))) (.move 1 (.move 4 (tk 5 3 (.move 10 .nil))))) (.fork 1 8 (.fork 4 8 (tk 5 3 (.move 8 (.move 10 .nil))) (.move 4 (tk 5 3 (.move 10 .nil)))) (.move 1 (.move 4 (tk 5 3 (.move 10 .nil))))))),[10,601,602,603,604,610]),tm 12 8,(13,3,tk 0 2 (.move 2 .nil),[610,601,602,603,604,6])] [.cell 6 16,.cell 7 11,.t 8] [3,4,6,7,8,9,10,11,12,13] [3,4,6,7,10,11,12,610,601,602,603,604] ?_;have FF:=@agB;refine bU (auf hc hk h e he) ?_;have FF:=fT @hl @hw @hd @nM;apply Dg
 ·(repeat' first|refine tM hC ?_|refine tM hE ?_|refine tN hC ?_|refine tN hE ?_|refine vx ?_|refine yK ?_|refine yJ ?_|refine bz ?_|refine wW ?_ ?_|refine CV ?_ ?_ ?_|refine vy ?_|refine yL ?_|refine tO rfl hC ?_|refine tO rfl hE ?_|refine yN ?_|refine yO ?_|refine yP ?_|refine yM ?_|refine yI ?_|fail)<;>exact⟨rfl,rfl⟩
 intro L;have aun:w.steps<=1000000000:=ab;have FF:=kz @hl @hw @hd @nM (bT aun) @Rl @gP
 try refine aJ ?_
 refine dB (fun m V S=>∃(i:Nat),i<=r.sent.length/\m=r.sent.length-i/\
  V=[(0,.w (.agg (gF w))),(1,.w (.agg (kR e))),(2,.w (.c (mJ l))),(3,.pb 3 1 0),(4,.pb 4 1 0),(6,.pb 6 1 0),(7,.pb 7 1 0),(8,.w (.c (iA 0))),(9,.w (.c (bA true))),(10,.pb 10 1 0),(11,.pb 11 1 0),(12,.pb 12 1 0),(13,.w (.c (iA i)))]/\
  S=[(3,.box 1 (gF w)),(4,.box 1 (kR e)),(6,.box 1 [.sl [],.sl [],.sl [],.sl [],iA 0,iA 0,iA 0,iA 0,.sl [],.sl [],.sl [],.sl [],.sl [],.sl [],.sl [],iA 0]),(7,.box 1 [iA 0,iA 0,iA 0,iA 0,iA 0,iA 0,iA 0,iA 0,.sl [],bA false,.sl []]),
   (10,.box 1 (wO w2.c (jr w2.bD) (aX w2.aX) (eU w2.covered) ((w.steps+1:Nat):Int) 2 2 2 2)),(11,.box 1 (rX r)),(12,.box 1 (kR e++[asks r.asks,bA (decide (w.aX.length<w2.aX.length)),.own 610 (i+1)])),(610,.row 65 5 (i+1) ((r.sent.take i).map fun e=>si e.msg)),
   (601,.row 169 52 2 (w2.nodes.map aS)),(602,.row 3 1 2 (bL w2.next)),(603,.row 273 1 2 (w2.bB.map nu)),(604,.row 71 1 2 (w2.traces.map vC))]) (n:=r.sent.length) ⟨0,ab,ab,rfl,ai⟩ ?_
 rintro m V L S ⟨i,hi,rfl,rfl,rfl⟩;by_cases hlt:i<r.sent.length
 ·have eE:i<=1000000000:=ab
  obtain⟨x,mL⟩:∃x,r.sent[i]=x:=⟨_,rfl⟩
  have Dv:r.sent.take (i+1)=r.sent.take i++[x]:=by rw[List.take_succ_eq_append_getElem hlt,mL]
  have ll:(r.sent.take i).length<=100000000:=by rw[dS];omega
  have FF:=kz @hlt @mL @hl @JB @gP @ll (bT eE)
  try refine aJ ?_
  exact⟨r.sent.length-(i+1),ab,i+1,ab,ab,rfl,by rw[Dv,cU,List.map_take];rfl⟩
 ·obtain rfl:i=r.sent.length:=ab;rw[fx];have FF:=fT @hlt @hl @JB @gP
  try refine aJ ?_
  refine zE ?_;exact ai
open aD (et bE Env Rr gW dX enabled lU Dk EZ EY AZ kh FW XS yv agS agT)
theorem auo {c:et}(hc:gW c){k j:Nat}(hk:k<=30)(hj:j<=900){w:bE}(h:dX c k j w)(hst:w.steps=k){e:Ev}(he:e∈enabled w){cs:List az}(hx:EZ 256 w e=some cs):
  bu Tryz.prog 37 [.agg (gF w),.agg (kR e)] (fun x=>x=.w (.c (FP cs))):=by
 obtain⟨w1,s1,f1,f2,f3,f4,f5⟩:=Dk hc ab h hst he [];unfold EZ at hx;rw[f1] at hx;dsimp only at hx;have hS:=Yx hc hk hj h he (l:=[]) ai f1;refine cD Tryz.func37 ⟨0,[8],[(39,[703])],[(12,[703])],dc,[],[]⟩ [tz 7 16] [.t 4] [2,3,4,5,6,7,8,9,10,11,12] [2,3,5,6,11,12,8,703] ?_;have FF:=trivial;refine bU hS ?_
 have hv0:=FW 4 s1.asks (fun a ha=>by
  obtain⟨_,q1,q2,_⟩:=(f4.asks a ha).1;have:=f4.lG a ha
  omega)
 refine dB (fun m V S=>∃(s:az) (out:List az) (f g g7:Nat) (x9 x10 x11 x12:AV) (s11 s12:Slot),AZ c k w e s/\EY w e f out s=some cs/\256<=f+kh 4 s.asks/\out.length<=kh 4 s.asks/\m=256-kh 4 s.asks/\
  V=[(0,.w (.agg (gF w))),(1,.w (.agg (kR e))),(2,.pb 2 1 0),(3,.pb 3 1 0),(4,.w (.c (.sl []))),(5,.pb 5 1 0),(6,.pb 6 1 0),(7,.w (.c (iA 0))),(8,.w (.c (.own 8 g))),(9,x9),(10,x10),(11,x11),(12,x12)]/\
  S=[(2,.box 1 (gF w)),(3,.box 1 (kR e)),(5,.box 1 (gF w1)),(6,.box 1 (mK s)),(11,s11),(12,s12),(8,.row 84 11 g (out.map mK)),(703,.dead g7)]) (n:=256-kh 4 s1.asks)
  ⟨s1,[],256,1,0,.u,.u,.u,.u,.dead 0,.dead 0,⟨f4,f5,[],w1,f1⟩,hx,ab,ai,rfl,rfl,rfl⟩ ?_
 rintro m V L S ⟨s,out,f,g,g7,x9,x10,x11,x12,s11,s12,hch,xq,hf,vB,rfl,rfl,rfl⟩;have RH:=hch.RG;have hv:kh 4 s.asks<256:=FW 4 _ RH;have AP:=hch.1.AQ;have JV:out.length<=100000000:=ab
 obtain⟨f,rfl⟩:∃f',f=f'+1:=⟨f-1,ab⟩
 unfold EY at xq
 obtain⟨z,hz⟩:∃z:Int,z=(s.asks.length:Int)-1:=⟨_,rfl⟩
 have ki:bt .sub (.int .i64 (s.asks.length:Int)) (.int .i64 1)=some (.int .i64 z):=by rw[AH ab ab,hz]
 have FF:=lI @JV @ki
 try refine aJ ?_
 refine dB (fun m V S=>∃(i:Nat) (z:Int),z=(i:Int)-1/\i<=s.asks.length/\m=i/\(∀j (hj:j<s.asks.length),i<=j->s.asks[j].n+1=s.asks[j].arity)/\
  V=[(0,.w (.agg (gF w))),(1,.w (.agg (kR e))),(2,.pb 2 1 0),(3,.pb 3 1 0),(4,.w (.c (.sl []))),(5,.pb 5 1 0),(6,.pb 6 1 0),(7,.w (.c (iA 0))),(8,.w (.c (.own 8 (g+1)))),(9,.w (.c (iA z))),(10,x10),(11,x11),(12,x12)]/\
  S=[(2,.box 1 (gF w)),(3,.box 1 (kR e)),(5,.box 1 (gF w1)),(6,.box 1 (mK s)),(11,s11),(12,s12),(8,.row 84 11 (g+1) ((out++[s]).map mK)),(703,.dead g7)]) (n:=s.asks.length)
  ⟨s.asks.length,z,hz,ab,rfl,fun j hj xr=>ab,rfl,by rw[cU];rfl⟩ ?_
 rintro m V L S ⟨i,z,hz,hi,hm,kH,rfl,rfl⟩
 rcases i with _|i
 ·have dY:¬(0:Int)<=z:=ab;have dE:z<0:=ab
  rw[agS (fun a ha=>by
   obtain⟨j,hj,rfl⟩:=EI.1 ha
   exact kH j hj ab)] at xq
  simp only[aC] at xq;have FF:=lI @dY @dE
  try refine aJ ?_
  refine zE ?_;exact(by rw[<-xq];show dL _=.w (.c (.sl ((out++[s]).map mK)));rw[cU];rfl)
 ·obtain rfl:z=(i:Int):=ab;have hlt:i<s.asks.length:=ab;have dY:(0:Int)<=(i:Int):=ab;have dE:¬(i:Int)<0:=ab;have eE:i<=1000000000:=ab;have wK:=(hch.1.asks _ (cA hlt)).1;have hfw:=hch.1.lG _ (cA hlt);have hdg:=RH _ (cA hlt)
  obtain⟨a,Gc⟩:∃a,s.asks[i]=a:=⟨_,rfl⟩
  rw[Gc] at wK hfw hdg
  obtain⟨nn,jH⟩:∃nn:Int,a.n+1=nn:=⟨_,rfl⟩
  have kC:bt .add (.int .i64 a.n) (.int .i64 1)=some (.int .i64 nn):=by rw[oC ab ab,jH]
  by_cases hne:nn=a.arity
  ·have hsb:bt .sub (.int .i64 (i:Int)) (.int .i64 1)=some (.int .i64 ((i:Int)-1)):=AH ab ab;have FF:=kz @dY @dE @hlt @Gc @kC @hne @hsb
   try refine aJ ?_
   exact⟨i,ab,i,(i:Int)-1,rfl,ab,rfl,fun j hj xr=>by
    rcases Ag i j with h1|h1
    ·exact kH j hj ab
    ·obtain rfl:j=i:=ab
     rw[Gc,jH,hne],rfl,by rw[cU];rfl⟩
  ·have ju:=agT hlt (by rw[Gc,jH];exact hne) (fun j hj xr=>kH j hj ab)
   obtain⟨la,xt⟩:∃la:List aI,(s.asks.take i).map fE++[⟨a.qn,nn⟩]=la:=⟨_,rfl⟩
   rw[Gc,jH,xt] at ju;rw[ju] at xq;dsimp only at xq
   have aup:la.length<=1000000:=by rw[<-xt,List.length_append,dy,dS,List.length_singleton];omega
   obtain⟨w2,t,e1,e2,e3,e4,e5⟩:=Dk hc ab h hst he la;have hg:=XS hc ab h he hch ju e1;rw[e1] at xq;dsimp only at xq;have JW:=Yx hc hk hj h he aup e1
   obtain⟨i1,AL⟩:∃i1,i+1=i1:=⟨_,rfl⟩
   have ahc:bt .add (.int .i64 (i:Int)) (.int .i64 1)=some (.int .i64 (i1:Int)):=by rw[bT eE,AL]
   have ahd:i1<=s.asks.length:=ab;have sg:min i1 s.asks.length=i1:=ab;have Ax:i<i1:=ab;have hq:fE a=⟨a.qn,a.n⟩:=rfl;have FF:=Py @dY @dE @hlt @Gc @kC @hne @ahc @ahd @sg @Ax @hq;refine bU (aul s (.dead g7) ab) ?_
   have fq:((s.asks.map (FL∘fE)).take i1).set i [iA a.qn.node,iA a.qn.handler,iA a.qn.count,iA a.qn.kind,iA a.qn.index,iA nn]=la.map FL:=by
    rw[<-xt,cU,List.map_map,<-AL,List.take_succ_eq_append_getElem (by simpa using hlt),Lm _ _ bC,List.map_take,show i-(List.take i (s.asks.map (FL∘fE))).length=0 by simp;omega];rfl
   rw[fq];have FF:=Py @dY @dE @hlt @Gc @kC @hne @ahc @ahd @sg @Ax @hq;refine bU JW ?_;exact⟨256-kh 4 t.asks,ab,t,out++[s],f,g+1,_,_,_,_,_,_,_,⟨e4,e5,la,w2,e1⟩,xq,ab,by rw[List.length_append];simp;omega,rfl,rfl,by rw[cU];rfl⟩
open aD (et bE Env Rr gW dX enabled lU Dk EZ XU mD XI walk yw config Ym Ar)
variable {c:et} {l:List Int} {run:List az} {wf:bE}
theorem avs(hc:gW c)(hl:∀x∈l,zo x)(cE:l.length<=9223372036854775807)(hx:walk 256 c l=some (run,wf)):
  bu Tryz.prog 11 [.agg (zb c),.c (ints l)] (fun x=>x=.cg [.c (FP run),.agg (gF wf)]):=by
 have h12:=hc.AU;have h3:=hc.eV;unfold walk at hx;refine cD Tryz.func11 (aO [7]) [(11,14,tk 0 4 (.uX 4 10 11 (.uX 5 10 11 (tk 6 4 (.fork 10 11 (.move 11 (.move 12 (.move 13 .nil))) (.move 10 (.move 12 (.move 13 .nil))))) (.fork 5 11 (tk 6 4 (.move 11 (.move 12 (.move 13 .nil)))) (.move 5 (tk 6 4 (.move 12 (.move 13 .nil))))) (.fork 5 10 (tk 6 4 (.move 10 (.move 12 (.move 13 .nil)))) (.move 5 (tk 6 4 (.move 12 (.move 13 .nil)))))) (.fork 4 11 (.fork 5 11 (tk 6 4 (.move 11 (.move 12 (.move 13 .nil)))) (.move 5 (tk 6 4 (.move 12 (.move 13 .nil))))) (.move 4 (.move 5 (tk 6 4 (.move 12 (.move 13 .nil)))))) (.fork 4 10 (.fork 5 10 (tk 6 4 (.move 10 (.move 12 (.move 13 .nil)))) (.move 5 (tk 6 4 (.move 12 (.move 13 .nil))))) (.move 4 (.move 5 (tk 6 4 (.move 12 (.move 13 .nil))))))),[7,13,14]),tz 9 8,tz 14 3] [.t 4,.cell 5 16] [2,4,5,6,7,8,9,10,11,12,13,14] [2,5,6,12,13,14,7] ?_;have FF:=trivial;refine bU (auj c ab ab) ?_
 refine dB (fun m V S=>∃(i:Nat) (w:bE) (Dy:List az) (g:Nat) (x9 x10 x11 x12 x13 x14:AV) (s12 s13 s14:Slot),i<=l.length/\i<=30/\m=30-i/\dX c i (2*i) w/\w.steps=i/\yw 256 ((l.take 30).drop i) w Dy=some (run,wf)/\Dy.length<=i/\
  V=[(0,.w (.agg (zb c))),(1,.w (.c (ints l))),(2,.pb 2 1 0),(4,.w (.c (.sl []))),(5,.pb 5 1 0),(6,.pb 6 1 0),(7,.w (.c (.own 7 g))),(8,.w (.c (iA i))),(9,x9),(10,x10),(11,x11),(12,x12),(13,x13),(14,x14)]/\
  S=[(2,.box 1 (zb c)),(5,.box 1 [.sl [],.sl [],.sl [],.sl [],iA 0,iA 0,iA 0,iA 0,.sl [],.sl [],.sl [],.sl [],.sl [],.sl [],.sl [],iA 0]),(6,.box 1 (gF w)),(12,s12),(13,s13),(14,s14),(7,.row 84 11 g (Dy.map mK))]) (n:=30)
  ⟨0,mD c,[],1,.u,.u,.u,.u,.u,.u,.dead 0,.dead 0,.dead 0,ab,ab,rfl,XI hc,rfl,hx,ai,rfl,rfl⟩ ?_
 rintro m V L S ⟨i,w,Dy,g,x9,x10,x11,x12,x13,x14,s12,s13,s14,hi,aDx,rfl,h,hst,hw,RY,rfl,rfl⟩
 have stop:yw 256 [] w Dy=some (run,wf)->Dy=run/\w=wf:=fun h=>by
  unfold yw at h;simpa using h
 by_cases hlt:i<l.length
 ·by_cases aDy:i<30
  ·have RZ:((i:Int)<30):=ab;have eE:i<=1000000000:=ab
   obtain⟨x,mL⟩:∃x,l[i]=x:=⟨_,rfl⟩
   have avt:zo x:=hl x (mL▸cA hlt)
   have avu:(l.take 30).drop i=x::(l.take 30).drop (i+1):=by
    rw[List.drop_eq_getElem_cons (by rw[dS];omega),List.getElem_take,mL]
   rw[avu] at hw;unfold yw at hw;dsimp only at hw;have hA:=YB x 1000000 avt ab;have hE:=agY hc ab h;have tw:aD.around x 1000000<1000000:=oZ _ aq
   have hch:=fun(e:Ev) (he:e∈enabled w)=>XU hc (show i<5000 by omega) h hst he
   have YH:=fun(e:Ev) (he:e∈enabled w) (cs:List az) hx=>auo hc (show i<=30 by omega) (show 2*i<=900 by omega) h hst he (cs:=cs) hx
   have oM:=fun(e:Ev) (he:e∈enabled w) (l:List aI) (cE:l.length<=1000000) (w2:bE) (t:az) hx=>Yx hc (show i<=30 by omega) (show 2*i<=900 by omega) h he (l:=l) cE (w':=w2) (s:=t) hx
   have zp:=fun(e:Ev) (he:e∈enabled w) (l:List aI)=>Dk hc (show i<5000 by omega) h hst he l
   generalize aD.around x 1000000=n at hw hA tw;generalize enabled w=es at hw hE hch YH oM zp
   rcases es with _|⟨e0,es⟩
   ·rw[show([]:List Ev)[n%([]:List Ev).length]? =none from rfl] at hw;simp only[aC,jb] at hw;obtain⟨rfl,rfl⟩:=hw;have FF:=na @hlt @RZ @mL;refine oE hA hE ?_;refine zE ?_;exact(rfl)
   ·obtain⟨el,Bi⟩:∃el,(e0::es).length=el:=⟨_,rfl⟩
    obtain⟨q1,Dt⟩:∃q1,n%el=q1:=⟨_,rfl⟩
    have ahn:0<el:=by rw[<-Bi];simp
    have Sa:q1<(e0::es).length:=by rw[Bi,<-Dt];exact oZ _ ahn
    have avv:=rm Dt ahn
    have avw:q1<el:=by rw[<-Bi];exact Sa
    generalize e0::es=es at hw hE hch YH oM zp Bi Sa
    obtain⟨e,xu⟩:∃e,es[q1]=e:=⟨_,rfl⟩
    have Sb:e∈es:=xu▸cA Sa;rw[Bi,Dt,cy Sa,xu] at hw;dsimp only at hw;obtain⟨cs,c1,c2,c3,c4⟩:=hch e Sb;have hCA:=YH e Sb cs c1;rw[c1] at hw;dsimp only at hw
    obtain⟨cl,dp⟩:∃cl,cs.length=cl:=⟨_,rfl⟩
    have aho:0<cl:=by rw[<-dp];exact Cf.2 c2
    obtain⟨q2,zj⟩:∃q2,n/50=q2:=⟨_,rfl⟩
    obtain⟨q3,YI⟩:∃q3,q2%cl=q3:=⟨_,rfl⟩
    have YJ:q3<cs.length:=by rw[dp,<-YI];exact oZ _ aho
    have avx:=rm YI aho
    have avy:q3<cl:=by rw[<-dp];exact YJ
    have avz:bt .quo (.int .i64 (n:Int)) (.int .i64 50)=some (.int .i64 (q2:Int)):=rp (b:=50) zj ab ab
    obtain⟨s,Nn⟩:∃s,cs[q3]=s:=⟨_,rfl⟩
    obtain⟨sy,ahp,_⟩:=c4 s (Nn▸cA YJ);rw[dp,zj,YI,cy YJ,Nn] at hw;dsimp only at hw;have AP:=sy.AQ;obtain⟨w2,t,e1,e2,e3,_,_⟩:=zp e Sb (Ar s);rw[ahp,e1] at hw;dsimp only at hw;have Sc:=aum s ab
    have hAl:(Ar s).length<=1000000:=by show(s.asks.map _).length<=_;rw[dy];omega
    have Np:=oM e Sb (Ar s) hAl w2 t e1;have avA:el≠0:=ab;have YK:Dy.length<=100000000:=ab;rw[<-ahp] at Np;have FF:=UE @hlt @RZ @mL @Bi @avA @avv @avw @xu @dp @avy @avz @avx @Nn @YK;refine FA hA hE hCA ?_;have FF:=na @hlt @Nn @YK;apply Dg
    ·(repeat' first|refine wZ Sc ?_|refine wZ Np ?_|refine xa Sc ?_|refine xa Np ?_|refine vx ?_|refine yK ?_|refine yJ ?_|refine bz ?_|refine wW ?_ ?_|refine CV ?_ ?_ ?_|refine vy ?_|refine yL ?_|refine xc Sc ?_|refine xc Np ?_|refine yN ?_|refine yO ?_|refine yP ?_|refine yM ?_|refine yI ?_|fail)<;>exact⟨rfl,rfl⟩
    intro L;have FF:=fT @hlt @Nn @YK (bT eE);refine oE Sc Np ?_;exact⟨30-(i+1),ab,i+1,w2,Dy++[s],_,_,_,_,_,_,_,_,_,_,ab,ab,rfl,e2,e3,hw,by simp;omega,rfl,by rw[cU];rfl⟩
  ·have RZ:¬((i:Int)<30):=ab;rw[sV (by rw[dS];omega)] at hw;obtain⟨rfl,rfl⟩:=stop hw;have FF:=lI @hlt @RZ
   try refine aJ ?_
   refine zE ?_;exact(rfl)
 ·rw[sV (by rw[dS];omega)] at hw;obtain⟨rfl,rfl⟩:=stop hw;have FF:=@hlt
  try refine aJ ?_
  refine zE ?_;exact(rfl)
theorem avB{l2:List Int}(hl:∀x∈l,zo x)(cE:l.length<=9223372036854775807)(jY:∀x∈l2,zo x)(hx:config l=some c)(hr:walk 256 c (l2.take 20)=some (run,wf)):
  bu Tryz.prog 4 [.c (ints l),.c (ints l2)] (fun x=>x=.w (.c (FP run))):=by
 have hc:gW c:=by
  obtain⟨c',h1,h2⟩:=Ym l;rw[hx] at h1;cases h1;exact h2
 have hb:∀x∈l2.take 20,zo x:=fun x hx=>jY x (uH hx)
 have fB:(l2.take 20).length<=9223372036854775807:=by rw[dS];omega
 refine cD Tryz.func4 aN [] [.t 4] [4,5,6] [6] ?_;have FF:=trivial;refine FA (avl l c hx hl cE) (aev l2 20 ab) (avs hc hb fB hr) ?_;refine zE ?_;exact(rfl)
end Ab
end Go.Proofs.YtngblilamkkikaaGreatDoor
