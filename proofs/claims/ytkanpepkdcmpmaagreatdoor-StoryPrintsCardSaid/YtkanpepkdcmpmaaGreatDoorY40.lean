import Derived.Test.YtkanpepkdcmpmaaGreatDoorY30
import Derived.Test.YtkanpepkdcmpmaaGreatDoorY28
import Derived.Test.YtkanpepkdcmpmaaGreatDoorY39
set_option maxHeartbeats 40000000
set_option maxRecDepth 100000
set_option linter.all false
namespace Go.Proofs.YtkanpepkdcmpmaaGreatDoor
namespace Ab
open Go Go.RowKit
attribute [local irreducible] aM bt aX
open aD (eQ bG Env Rr iO eK yu Pm enabled mK)
theorem ace {c:eQ}(hc:iO c){k j:Nat}(hk:k<=30)(hj:j<=900){w:bG}(h:eK c k j w){e:Ev}(he:e∈enabled w){l:List aL}(cQ:l.length<=1000000){w':bG}{s:ay}(hx:mK w e l=some (some (w',s))):
  aU Tryz.prog 62 [.agg (im w),.agg (gG e),.c (nL l)] (fun x=>x=.bD [.agg (im w'),.agg (kJ s),.c (iA 0)]):=by
 have hst:w.steps<5000:=by
  rcases BK w.steps 5000 with h1|h1
  ·exact h1
  ·exfalso;unfold mK at hx;rw[aq h1] at hx;cases hx
 unfold mK at hx;rw[af ab,aq he] at hx;simp only[bO,aA,jE] at hx;obtain⟨⟨w2,r⟩,hx,rfl,rfl⟩:=hx;obtain⟨_,_,e1,e2,e3⟩:=Pm hc ab h he l;rw[hx] at e1;simp only[aA,jE] at e1;obtain⟨rfl,rfl⟩:=e1;dsimp only;have Uf:=e3.Un;have h12:=hc.CP
 have n1:w.nodes.length<=1000000:=by rw[h.nodes];omega
 have n2:w.next.length<=1000000:=by rw[h.next];omega
 have n3:w.bC.length<=1000000:=by rw[h.bC];omega
 have n4:w.traces.length<=1000000:=by rw[h.traces];omega
 have aiT:¬(5000:Int)<=(w.steps:Int):=ab;have hC:=azH w (.dead 0) (.dead 0) (.dead 0) (.dead 0) n1 n2 n3 n4;have hE:=aAj hc ab ab h he cQ hx (0+1+1) (0+1+1) (0+1+1) (0+1+1);have hl:=Bh r;have hw:=PB r;have hd:=PC r
 have oM:=fun(D:List Nat)=>abx D r
 have ob1:w.aJ.length<=1000000:=by have:=h.um;omega
 have Fo:w2.aJ.length<=1000000:=by have:=e2.um;omega
 refine cC Tryz.func62 ⟨0,[],[(121,[601,602,603,604]),(120,[601,602,603,604])],[],cU,[(48,[10])],[(9,[(12,10,610,39,5)])]⟩ [(6,11,tk 0 1 (tk 2 2 (.wQ 1 8 9 (.wQ 4 8 9 (tk 5 3 (.fork 8 9 (.move 9 (.move 10 .nil)) (.move 8 (.move 10 .nil)))) (.fork 4 9 (tk 5 3 (.move 9 (.move 10 .nil))) (.move 4 (tk 5 3 (.move 10 .nil)))) (.fork 4 8 (tk 5 3 (.move 8 (.move 10 .nil))) (.move 4 (tk 5 3 (.move 10 .nil))))) (.fork 1 9 (.fork 4 9 (tk 5 3 (.move 9 (.move 10 .nil))) (.move 4 (tk 5 3 (.move 10 .nil)))) (.move 1 (.move 4 (tk 5 3 (.move 10 .nil))))) (.fork 1 8 (.fork 4 8 (tk 5 3 (.move 8 (.move 10 .nil))) (.move 4 (tk 5 3 (.move 10 .nil)))) (.move 1 (.move 4 (tk 5 3 (.move 10 .nil))))))),[10,601,602,603,604,610]),tm 12 8,(13,3,tk 0 2 (.move 2 .nil),[610,601,602,603,604,6])] [.cell 6 16,.cell 7 11,.t 8] [3,4,6,7,8,9,10,11,12,13] [3,4,6,7,10,11,12,610,601,602,603,604] ?_;have FF:=@aiT;refine bJ (azR hc hk h e he) ?_;have FF:=eW @hl @hw @hd @oM;apply Bb
 ·(repeat' first|refine vz hC ?_|refine vz hE ?_|refine vA hC ?_|refine vA hE ?_|refine tO ?_|refine xi ?_|refine xh ?_|refine bz ?_|refine vm ?_ ?_|refine Ao ?_ ?_ ?_|refine tP ?_|refine xj ?_|refine vB rfl hC ?_|refine vB rfl hE ?_|refine xl ?_|refine xm ?_|refine xn ?_|refine xk ?_|refine xg ?_|fail)<;>exact⟨rfl,rfl⟩
 intro L;have aCs:w.steps<=1000000000:=ab;have FF:=kj @hl @hw @hd @oM (bN aCs) @TY @iG
 try refine aF ?_
 refine dv (fun m V S=>∃(i:Nat),i<=r.sent.length/\m=r.sent.length-i/\
  V=[(0,.w (.agg (im w))),(1,.w (.agg (gG e))),(2,.w (.c (nL l))),(3,.pb 3 1 0),(4,.pb 4 1 0),(6,.pb 6 1 0),(7,.pb 7 1 0),(8,.w (.c (iA 0))),(9,.w (.c (bA true))),(10,.pb 10 1 0),(11,.pb 11 1 0),(12,.pb 12 1 0),(13,.w (.c (iA i)))]/\
  S=[(3,.box 1 (im w)),(4,.box 1 (gG e)),(6,.box 1 [.sl [],.sl [],.sl [],.sl [],iA 0,iA 0,iA 0,iA 0,.sl [],.sl [],.sl [],.sl [],.sl [],.sl [],.sl [],iA 0]),(7,.box 1 [iA 0,iA 0,iA 0,iA 0,iA 0,iA 0,iA 0,iA 0,.sl [],bA false,.sl []]),
   (10,.box 1 (wO w2.c (jU w2.bE) (aJ w2.aJ) (fF w2.covered) ((w.steps+1:Nat):Int) 2 2 2 2)),(11,.box 1 (rX r)),(12,.box 1 (gG e++[asks r.asks,bA (decide (w.aJ.length<w2.aJ.length)),.own 610 (i+1)])),(610,.row 39 5 (i+1) ((r.sent.take i).map fun e=>mP e.msg)),
   (601,.row 193 52 2 (w2.nodes.map aR)),(602,.row 3 1 2 (bH w2.next)),(603,.row 300 1 2 (w2.bC.map ot)),(604,.row 79 1 2 (w2.traces.map xK))]) (n:=r.sent.length) ⟨0,ab,ab,rfl,ai⟩ ?_
 rintro m V L S ⟨i,hi,rfl,rfl,rfl⟩;by_cases hlt:i<r.sent.length
 ·have eN:i<=1000000000:=ab
  obtain⟨x,lL⟩:∃x,r.sent[i]=x:=⟨_,rfl⟩
  have pM:r.sent.take (i+1)=r.sent.take i++[x]:=by rw[List.take_succ_eq_append_getElem hlt,lL]
  have kt:(r.sent.take i).length<=100000000:=by rw[dN];omega
  have FF:=kj @hlt @lL @hl @LU @iG @kt (bN eN)
  try refine aF ?_
  exact⟨r.sent.length-(i+1),ab,i+1,ab,ab,rfl,by rw[pM,de,List.map_take];rfl⟩
 ·obtain rfl:i=r.sent.length:=ab;rw[fK];have FF:=eW @hlt @hl @LU @iG
  try refine aF ?_
  refine zE ?_;exact ai
open aD (eQ bG Env Rr iO eK enabled mK Fj Gu Gt CT lh Jj abf zY ake akf)
theorem aCt {c:eQ}(hc:iO c){k j:Nat}(hk:k<=30)(hj:j<=900){w:bG}(h:eK c k j w)(hst:w.steps=k){e:Ev}(he:e∈enabled w){cs:List ay}(hx:Gu 256 w e=some cs):
  aU Tryz.prog 61 [.agg (im w),.agg (gG e)] (fun x=>x=.w (.c (CK cs))):=by
 obtain⟨w1,s1,f1,f2,f3,f4,f5⟩:=Fj hc ab h hst he [];unfold Gu at hx;rw[f1] at hx;dsimp only at hx;have hS:=ace hc hk hj h he (l:=[]) ai f1;refine cC Tryz.func61 ⟨0,[8],[(63,[703])],[(12,[703])],cU,[],[]⟩ [tz 7 16] [.t 4] [2,3,4,5,6,7,8,9,10,11,12] [2,3,5,6,11,12,8,703] ?_;have FF:=trivial;refine bJ hS ?_
 have Zc:=Jj 4 s1.asks (fun a ha=>by
  obtain⟨_,q1,q2,_⟩:=(f4.asks a ha).1;have:=f4.sG a ha
  omega)
 refine dv (fun m V S=>∃(s:ay) (out:List ay) (f g g7:Nat) (x9 x10 x11 x12:AV) (s11 s12:Slot),CT c k w e s/\Gt w e f out s=some cs/\256<=f+lh 4 s.asks/\out.length<=lh 4 s.asks/\m=256-lh 4 s.asks/\
  V=[(0,.w (.agg (im w))),(1,.w (.agg (gG e))),(2,.pb 2 1 0),(3,.pb 3 1 0),(4,.w (.c (.sl []))),(5,.pb 5 1 0),(6,.pb 6 1 0),(7,.w (.c (iA 0))),(8,.w (.c (.own 8 g))),(9,x9),(10,x10),(11,x11),(12,x12)]/\
  S=[(2,.box 1 (im w)),(3,.box 1 (gG e)),(5,.box 1 (im w1)),(6,.box 1 (kJ s)),(11,s11),(12,s12),(8,.row 45 11 g (out.map kJ)),(703,.dead g7)]) (n:=256-lh 4 s1.asks)
  ⟨s1,[],256,1,0,.u,.u,.u,.u,.dead 0,.dead 0,⟨f4,f5,[],w1,f1⟩,hx,ab,ai,rfl,rfl,rfl⟩ ?_
 rintro m V L S ⟨s,out,f,g,g7,x9,x10,x11,x12,s11,s12,hch,zB,hf,xu,rfl,rfl,rfl⟩;have Ur:=hch.Uq;have hv:lh 4 s.asks<256:=Jj 4 _ Ur;have Cn:=hch.1.Co;have Mr:out.length<=100000000:=ab
 obtain⟨f,rfl⟩:∃f',f=f'+1:=⟨f-1,ab⟩
 unfold Gt at zB
 obtain⟨z,hz⟩:∃z:Int,z=(s.asks.length:Int)-1:=⟨_,rfl⟩
 have kY:aW .sub (.int .i64 (s.asks.length:Int)) (.int .i64 1)=some (.int .i64 z):=by rw[Ck ab ab,hz]
 have FF:=eV @Mr @kY
 try refine aF ?_
 refine dv (fun m V S=>∃(i:Nat) (z:Int),z=(i:Int)-1/\i<=s.asks.length/\m=i/\(∀j (hj:j<s.asks.length),i<=j->s.asks[j].n+1=s.asks[j].arity)/\
  V=[(0,.w (.agg (im w))),(1,.w (.agg (gG e))),(2,.pb 2 1 0),(3,.pb 3 1 0),(4,.w (.c (.sl []))),(5,.pb 5 1 0),(6,.pb 6 1 0),(7,.w (.c (iA 0))),(8,.w (.c (.own 8 (g+1)))),(9,.w (.c (iA z))),(10,x10),(11,x11),(12,x12)]/\
  S=[(2,.box 1 (im w)),(3,.box 1 (gG e)),(5,.box 1 (im w1)),(6,.box 1 (kJ s)),(11,s11),(12,s12),(8,.row 45 11 (g+1) ((out++[s]).map kJ)),(703,.dead g7)]) (n:=s.asks.length)
  ⟨s.asks.length,z,hz,ab,rfl,fun j hj yU=>ab,rfl,by rw[de];rfl⟩ ?_
 rintro m V L S ⟨i,z,hz,hi,hm,lB,rfl,rfl⟩
 rcases i with _|i
 ·have eZ:¬(0:Int)<=z:=ab;have cL:z<0:=ab
  rw[ake (fun a ha=>by
   obtain⟨j,hj,rfl⟩:=FZ.1 ha
   exact lB j hj ab)] at zB
  simp only[aA] at zB;have FF:=eV @eZ @cL
  try refine aF ?_
  refine zE ?_;exact(by rw[<-zB];show ed _=.w (.c (.sl ((out++[s]).map kJ)));rw[de];rfl)
 ·obtain rfl:z=(i:Int):=ab;have hlt:i<s.asks.length:=ab;have eZ:(0:Int)<=(i:Int):=ab;have cL:¬(i:Int)<0:=ab;have eN:i<=1000000000:=ab;have yy:=(hch.1.asks _ (bP hlt)).1;have hfw:=hch.1.sG _ (bP hlt);have hdg:=Ur _ (bP hlt)
  obtain⟨a,JD⟩:∃a,s.asks[i]=a:=⟨_,rfl⟩
  rw[JD] at yy hfw hdg
  obtain⟨nn,kB⟩:∃nn:Int,a.n+1=nn:=⟨_,rfl⟩
  have lv:aW .add (.int .i64 a.n) (.int .i64 1)=some (.int .i64 nn):=by rw[oO ab ab,kB]
  by_cases hne:nn=a.arity
  ·have hsb:aW .sub (.int .i64 (i:Int)) (.int .i64 1)=some (.int .i64 ((i:Int)-1)):=Ck ab ab;have FF:=kj @eZ @cL @hlt @JD @lv @hne @hsb
   try refine aF ?_
   exact⟨i,ab,i,(i:Int)-1,rfl,ab,rfl,fun j hj yU=>by
    rcases BK i j with h1|h1
    ·exact lB j hj ab
    ·obtain rfl:j=i:=ab
     rw[JD,kB,hne],rfl,by rw[de];rfl⟩
  ·have jX:=akf hlt (by rw[JD,kB];exact hne) (fun j hj yU=>lB j hj ab)
   obtain⟨la,uh⟩:∃la:List aL,(s.asks.take i).map gH++[⟨a.qn,nn⟩]=la:=⟨_,rfl⟩
   rw[JD,kB,uh] at jX;rw[jX] at zB;dsimp only at zB
   have aCu:la.length<=1000000:=by rw[<-uh,List.length_append,dE,dN,List.length_singleton];omega
   obtain⟨w2,t,e1,e2,e3,e4,e5⟩:=Fj hc ab h hst he la;have hg:=abf hc ab h he hch jX e1;rw[e1] at zB;dsimp only at zB;have hS2:=ace hc hk hj h he aCu e1
   obtain⟨i1,CJ⟩:∃i1,i+1=i1:=⟨_,rfl⟩
   have ami:aW .add (.int .i64 (i:Int)) (.int .i64 1)=some (.int .i64 (i1:Int)):=by rw[bN eN,CJ]
   have amj:i1<=s.asks.length:=ab;have tR:min i1 s.asks.length=i1:=ab;have Ac:i<i1:=ab;have hq:gH a=⟨a.qn,a.n⟩:=rfl;have FF:=MS @eZ @cL @hlt @JD @lv @hne @ami @amj @tR @Ac @hq;refine bJ (azM s (.dead g7) ab) ?_
   have iK:((s.asks.map (IZ∘gH)).take i1).set i [iA a.qn.node,iA a.qn.handler,iA a.qn.count,iA a.qn.kind,iA a.qn.index,iA nn]=la.map IZ:=by
    rw[<-uh,de,List.map_map,<-CJ,List.take_succ_eq_append_getElem (by simpa using hlt),MV _ _ bq,List.map_take,show i-(List.take i (s.asks.map (IZ∘gH))).length=0 by simp;omega];rfl
   rw[iK];have FF:=MS @eZ @cL @hlt @JD @lv @hne @ami @amj @tR @Ac @hq;refine bJ hS2 ?_;exact⟨256-lh 4 t.asks,ab,t,out++[s],f,g+1,_,_,_,_,_,_,_,⟨e4,e5,la,w2,e1⟩,zB,ab,by rw[List.length_append];simp;omega,rfl,rfl,by rw[de];rfl⟩
open aD (eQ bG Env Rr iO eK enabled mK Fj Gu abg ny aaW walk zZ config abk BW)
variable {c:eQ} {l:List Int} {run:List ay} {wf:bG}
theorem aCv(hc:iO c)(hl:∀x∈l,zz x)(cQ:l.length<=9223372036854775807)(hx:walk 256 c l=some (run,wf)):
  aU Tryz.prog 23 [.agg (Ba c),.c (ints l)] (fun x=>x=.bD [.c (CK run),.agg (im wf)]):=by
 have h12:=hc.CP;have h3:=hc.fB;unfold walk at hx;refine cC Tryz.func23 (aO [7]) [(11,14,tk 0 4 (.wQ 4 10 11 (.wQ 5 10 11 (tk 6 4 (.fork 10 11 (.move 11 (.move 12 (.move 13 .nil))) (.move 10 (.move 12 (.move 13 .nil))))) (.fork 5 11 (tk 6 4 (.move 11 (.move 12 (.move 13 .nil)))) (.move 5 (tk 6 4 (.move 12 (.move 13 .nil))))) (.fork 5 10 (tk 6 4 (.move 10 (.move 12 (.move 13 .nil)))) (.move 5 (tk 6 4 (.move 12 (.move 13 .nil)))))) (.fork 4 11 (.fork 5 11 (tk 6 4 (.move 11 (.move 12 (.move 13 .nil)))) (.move 5 (tk 6 4 (.move 12 (.move 13 .nil))))) (.move 4 (.move 5 (tk 6 4 (.move 12 (.move 13 .nil)))))) (.fork 4 10 (.fork 5 10 (tk 6 4 (.move 10 (.move 12 (.move 13 .nil)))) (.move 5 (tk 6 4 (.move 12 (.move 13 .nil))))) (.move 4 (.move 5 (tk 6 4 (.move 12 (.move 13 .nil))))))),[7,13,14]),tz 9 8,tz 14 3] [.t 4,.cell 5 16] [2,4,5,6,7,8,9,10,11,12,13,14] [2,5,6,12,13,14,7] ?_;have FF:=trivial;refine bJ (azK c ab ab) ?_
 refine dv (fun m V S=>∃(i:Nat) (w:bG) (Fz:List ay) (g:Nat) (x9 x10 x11 x12 x13 x14:AV) (s12 s13 s14:Slot),i<=l.length/\i<=30/\m=30-i/\eK c i (2*i) w/\w.steps=i/\zZ 256 ((l.take 30).drop i) w Fz=some (run,wf)/\Fz.length<=i/\
  V=[(0,.w (.agg (Ba c))),(1,.w (.c (ints l))),(2,.pb 2 1 0),(4,.w (.c (.sl []))),(5,.pb 5 1 0),(6,.pb 6 1 0),(7,.w (.c (.own 7 g))),(8,.w (.c (iA i))),(9,x9),(10,x10),(11,x11),(12,x12),(13,x13),(14,x14)]/\
  S=[(2,.box 1 (Ba c)),(5,.box 1 [.sl [],.sl [],.sl [],.sl [],iA 0,iA 0,iA 0,iA 0,.sl [],.sl [],.sl [],.sl [],.sl [],.sl [],.sl [],iA 0]),(6,.box 1 (im w)),(12,s12),(13,s13),(14,s14),(7,.row 45 11 g (Fz.map kJ))]) (n:=30)
  ⟨0,ny c,[],1,.u,.u,.u,.u,.u,.u,.dead 0,.dead 0,.dead 0,ab,ab,rfl,aaW hc,rfl,hx,ai,rfl,rfl⟩ ?_
 rintro m V L S ⟨i,w,Fz,g,x9,x10,x11,x12,x13,x14,s12,s13,s14,hi,aGY,rfl,h,hst,hw,hr0,rfl,rfl⟩
 have stop:zZ 256 [] w Fz=some (run,wf)->Fz=run/\w=wf:=fun h=>by
  unfold zZ at h;simpa using h
 by_cases hlt:i<l.length
 ·by_cases aGZ:i<30
  ·have Ve:((i:Int)<30):=ab;have eN:i<=1000000000:=ab
   obtain⟨x,lL⟩:∃x,l[i]=x:=⟨_,rfl⟩
   have aCw:zz x:=hl x (lL▸bP hlt)
   have aCx:(l.take 30).drop i=x::(l.take 30).drop (i+1):=by
    rw[List.drop_eq_getElem_cons (by rw[dN];omega),List.getElem_take,lL]
   rw[aCx] at hw;unfold zZ at hw;dsimp only at hw;have hA:=Vc x 1000000 aCw ab;have hE:=akJ hc ab h;have uU:aD.around x 1000000<1000000:=oD _ au
   have hch:=fun(e:Ev) (he:e∈enabled w)=>abg hc (show i<5000 by omega) h hst he
   have Qh:=fun(e:Ev) (he:e∈enabled w) (cs:List ay) hx=>aCt hc (show i<=30 by omega) (show 2*i<=900 by omega) h hst he (cs:=cs) hx
   have lM:=fun(e:Ev) (he:e∈enabled w) (l:List aL) (cQ:l.length<=1000000) (w2:bG) (t:ay) hx=>ace hc (show i<=30 by omega) (show 2*i<=900 by omega) h he (l:=l) cQ (w':=w2) (s:=t) hx
   have AK:=fun(e:Ev) (he:e∈enabled w) (l:List aL)=>Fj hc (show i<5000 by omega) h hst he l
   generalize aD.around x 1000000=n at hw hA uU;generalize enabled w=es at hw hE hch Qh lM AK
   rcases es with _|⟨e0,es⟩
   ·rw[show([]:List Ev)[n%([]:List Ev).length]? =none from rfl] at hw;simp only[aA,jE] at hw;obtain⟨rfl,rfl⟩:=hw;have FF:=jB @hlt @Ve @lL;refine gX hA hE ?_;refine zE ?_;exact(rfl)
   ·obtain⟨el,rH⟩:∃el,(e0::es).length=el:=⟨_,rfl⟩
    obtain⟨q1,EF⟩:∃q1,n%el=q1:=⟨_,rfl⟩
    have amk:0<el:=by rw[<-rH];simp
    have Vf:q1<(e0::es).length:=by rw[rH,<-EF];exact oD _ amk
    have aCy:=kh EF amk
    have aCz:q1<el:=by rw[<-rH];exact Vf
    generalize e0::es=es at hw hE hch Qh lM AK rH Vf
    obtain⟨e,Vg⟩:∃e,es[q1]=e:=⟨_,rfl⟩
    have Vh:e∈es:=Vg▸bP Vf;rw[rH,EF,cw Vf,Vg] at hw;dsimp only at hw;obtain⟨cs,c1,c2,c3,c4⟩:=hch e Vh;have hCA:=Qh e Vh cs c1;rw[c1] at hw;dsimp only at hw
    obtain⟨cl,dB⟩:∃cl,cs.length=cl:=⟨_,rfl⟩
    have aml:0<cl:=by rw[<-dB];exact Dy.2 c2
    obtain⟨q2,AP⟩:∃q2,n/50=q2:=⟨_,rfl⟩
    obtain⟨q3,hq3⟩:∃q3,q2%cl=q3:=⟨_,rfl⟩
    have acf:q3<cs.length:=by rw[dB,<-hq3];exact oD _ aml
    have aCA:=kh hq3 aml
    have aCB:q3<cl:=by rw[<-dB];exact acf
    have aCC:aW .quo (.int .i64 (n:Int)) (.int .i64 50)=some (.int .i64 (q2:Int)):=kK (b:=50) AP ab ab
    obtain⟨s,Qi⟩:∃s,cs[q3]=s:=⟨_,rfl⟩
    obtain⟨pO,amm,_⟩:=c4 s (Qi▸bP acf);rw[dB,AP,hq3,cw acf,Qi] at hw;dsimp only at hw;have Cn:=pO.Co;obtain⟨w2,t,e1,e2,e3,_,_⟩:=AK e Vh (BW s);rw[amm,e1] at hw;dsimp only at hw;have JE:=azN s ab
    have Qj:(BW s).length<=1000000:=by show(s.asks.map _).length<=_;rw[dE];omega
    have Qk:=lM e Vh (BW s) Qj w2 t e1;have aCD:el≠0:=ab;have acg:Fz.length<=100000000:=ab;rw[<-amm] at Qk;have FF:=Wk @hlt @Ve @lL @rH @aCD @aCy @aCz @Vg @dB @aCB @aCC @aCA @Qi @acg;refine yK hA hE hCA ?_;have FF:=jB @hlt @Qi @acg;apply Bb
    ·(repeat' first|refine qQ JE ?_|refine qQ Qk ?_|refine qR JE ?_|refine qR Qk ?_|refine tO ?_|refine xi ?_|refine xh ?_|refine bz ?_|refine vm ?_ ?_|refine Ao ?_ ?_ ?_|refine tP ?_|refine xj ?_|refine qU JE ?_|refine qU Qk ?_|refine xl ?_|refine xm ?_|refine xn ?_|refine xk ?_|refine xg ?_|fail)<;>exact⟨rfl,rfl⟩
    intro L;have FF:=eW @hlt @Qi @acg (bN eN);refine gX JE Qk ?_;exact⟨30-(i+1),ab,i+1,w2,Fz++[s],_,_,_,_,_,_,_,_,_,_,ab,ab,rfl,e2,e3,hw,by simp;omega,rfl,by rw[de];rfl⟩
  ·have Ve:¬((i:Int)<30):=ab;rw[uF (by rw[dN];omega)] at hw;obtain⟨rfl,rfl⟩:=stop hw;have FF:=eV @hlt @Ve
   try refine aF ?_
   refine zE ?_;exact(rfl)
 ·rw[uF (by rw[dN];omega)] at hw;obtain⟨rfl,rfl⟩:=stop hw;have FF:=@hlt
  try refine aF ?_
  refine zE ?_;exact(rfl)
theorem aCE{l2:List Int}(hl:∀x∈l,zz x)(cQ:l.length<=9223372036854775807)(fO:∀x∈l2,zz x)(hx:config l=some c)(hr:walk 256 c (l2.take 20)=some (run,wf)):
  aU Tryz.prog 7 [.c (ints l),.c (ints l2)] (fun x=>x=.w (.c (CK run))):=by
 have hc:iO c:=by
  obtain⟨c',h1,h2⟩:=abk l;rw[hx] at h1;cases h1;exact h2
 have hb:∀x∈l2.take 20,zz x:=fun x hx=>fO x (tu hx)
 have fc:(l2.take 20).length<=9223372036854775807:=by rw[dN];omega
 refine cC Tryz.func7 aN [] [.t 4] [4,5,6] [6] ?_;have FF:=trivial;refine yK (aCl l c hx hl cQ) (afZ l2 20 ab) (aCv hc hb fc hr) ?_;refine zE ?_;exact(rfl)
end Ab
end Go.Proofs.YtkanpepkdcmpmaaGreatDoor
