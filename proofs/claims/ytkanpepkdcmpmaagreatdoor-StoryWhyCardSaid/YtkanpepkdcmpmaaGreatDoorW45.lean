import Derived.Test.YtkanpepkdcmpmaaGreatDoorW35
import Derived.Test.YtkanpepkdcmpmaaGreatDoorW33
import Derived.Test.YtkanpepkdcmpmaaGreatDoorW44
set_option maxHeartbeats 40000000
set_option maxRecDepth 100000
set_option linter.all false
namespace Go.Proofs.YtkanpepkdcmpmaaGreatDoor
namespace Ab
open Go Go.RowKit
attribute [local irreducible] aP bB aW
open aD (eX bL Env Rr iZ eO yo PB enabled mW)
theorem acm {c:eX}(hc:iZ c){k j:Nat}(hk:k<=30)(hj:j<=900){w:bL}(h:eO c k j w){e:Ev}(he:e∈enabled w){l:List aL}(cT:l.length<=1000000){w':bL}{s:az}(hx:mW w e l=some (some (w',s))):
  bj Tryz.prog 62 [.agg (iD w),.agg (iP e),.c (nV l)] (fun x=>x=.bP [.agg (iD w'),.agg (kQ s),.c (iA 0)]):=by
 have hst:w.steps<5000:=by
  rcases BS w.steps 5000 with h1|h1
  ·exact h1
  ·exfalso;unfold mW at hx;rw[aj h1] at hx;cases hx
 unfold mW at hx;rw[af ab,aj he] at hx;simp only[bU,aA,jM] at hx;obtain⟨⟨w2,r⟩,hx,rfl,rfl⟩:=hx;obtain⟨_,_,e1,e2,e3⟩:=PB hc ab h he l;rw[hx] at e1;simp only[aA,jM] at e1;obtain⟨rfl,rfl⟩:=e1;dsimp only;have Un:=e3.Uv;have h12:=hc.CZ
 have n1:w.nodes.length<=1000000:=by rw[h.nodes];omega
 have n2:w.next.length<=1000000:=by rw[h.next];omega
 have n3:w.bH.length<=1000000:=by rw[h.bH];omega
 have n4:w.traces.length<=1000000:=by rw[h.traces];omega
 have ajd:¬(5000:Int)<=(w.steps:Int):=ab;have hC:=azN w (.dead 0) (.dead 0) (.dead 0) (.dead 0) n1 n2 n3 n4;have hE:=aAp hc ab ab h he cT hx (0+1+1) (0+1+1) (0+1+1) (0+1+1);have hl:=Bn r;have hw:=PN r;have hd:=PO r
 have oV:=fun(D:List Nat)=>abE D r
 have ob1:w.aK.length<=1000000:=by have:=h.uo;omega
 have FC:w2.aK.length<=1000000:=by have:=e2.uo;omega
 refine cI Tryz.func62 ⟨0,[],[(121,[601,602,603,604]),(120,[601,602,603,604])],[],cZ,[(48,[10])],[(9,[(12,10,610,39,5)])]⟩ [(6,11,tk 0 1 (tk 2 2 (.wR 1 8 9 (.wR 4 8 9 (tk 5 3 (.fork 8 9 (.move 9 (.move 10 .nil)) (.move 8 (.move 10 .nil)))) (.fork 4 9 (tk 5 3 (.move 9 (.move 10 .nil))) (.move 4 (tk 5 3 (.move 10 .nil)))) (.fork 4 8 (tk 5 3 (.move 8 (.move 10 .nil))) (.move 4 (tk 5 3 (.move 10 .nil))))) (.fork 1 9 (.fork 4 9 (tk 5 3 (.move 9 (.move 10 .nil))) (.move 4 (tk 5 3 (.move 10 .nil)))) (.move 1 (.move 4 (tk 5 3 (.move 10 .nil))))) (.fork 1 8 (.fork 4 8 (tk 5 3 (.move 8 (.move 10 .nil))) (.move 4 (tk 5 3 (.move 10 .nil)))) (.move 1 (.move 4 (tk 5 3 (.move 10 .nil))))))),[10,601,602,603,604,610]),tm 12 8,(13,3,tk 0 2 (.move 2 .nil),[610,601,602,603,604,6])] [.cell 6 16,.cell 7 11,.t 8] [3,4,6,7,8,9,10,11,12,13] [3,4,6,7,10,11,12,610,601,602,603,604] ?_;have FF:=@ajd;refine bY (azX hc hk h e he) ?_;have FF:=fg @hl @hw @hd @oV;apply Fu
 ·(repeat' first|refine vB hC ?_|refine vB hE ?_|refine vC hC ?_|refine vC hE ?_|refine xh ?_|refine Aw ?_|refine Av ?_|refine bG ?_|refine yF ?_ ?_|refine EB ?_ ?_ ?_|refine xi ?_|refine Ax ?_|refine vD rfl hC ?_|refine vD rfl hE ?_|refine Az ?_|refine AA ?_|refine AB ?_|refine Ay ?_|refine Au ?_|fail)<;>exact⟨rfl,rfl⟩
 intro L;have aCy:w.steps<=1000000000:=ab;have FF:=kU @hl @hw @hd @oV (bT aCy) @Ui @iO
 try refine aG ?_
 refine dA (fun m V S=>∃(i:Nat),i<=r.sent.length/\m=r.sent.length-i/\
  V=[(0,.w (.agg (iD w))),(1,.w (.agg (iP e))),(2,.w (.c (nV l))),(3,.pb 3 1 0),(4,.pb 4 1 0),(6,.pb 6 1 0),(7,.pb 7 1 0),(8,.w (.c (iA 0))),(9,.w (.c (bA true))),(10,.pb 10 1 0),(11,.pb 11 1 0),(12,.pb 12 1 0),(13,.w (.c (iA i)))]/\
  S=[(3,.box 1 (iD w)),(4,.box 1 (iP e)),(6,.box 1 [.sl [],.sl [],.sl [],.sl [],iA 0,iA 0,iA 0,iA 0,.sl [],.sl [],.sl [],.sl [],.sl [],.sl [],.sl [],iA 0]),(7,.box 1 [iA 0,iA 0,iA 0,iA 0,iA 0,iA 0,iA 0,iA 0,.sl [],bA false,.sl []]),
   (10,.box 1 (wO w2.c (kj w2.bI) (aK w2.aK) (fR w2.covered) ((w.steps+1:Nat):Int) 2 2 2 2)),(11,.box 1 (rX r)),(12,.box 1 (iP e++[asks r.asks,bA (decide (w.aK.length<w2.aK.length)),.own 610 (i+1)])),(610,.row 39 5 (i+1) ((r.sent.take i).map fun e=>ng e.msg)),
   (601,.row 193 52 2 (w2.nodes.map aS)),(602,.row 3 1 2 (bM w2.next)),(603,.row 300 1 2 (w2.bH.map oD)),(604,.row 79 1 2 (w2.traces.map xC))]) (n:=r.sent.length) ⟨0,ab,ab,rfl,ai⟩ ?_
 rintro m V L S ⟨i,hi,rfl,rfl,rfl⟩;by_cases hlt:i<r.sent.length
 ·have eS:i<=1000000000:=ab
  obtain⟨x,lW⟩:∃x,r.sent[i]=x:=⟨_,rfl⟩
  have pW:r.sent.take (i+1)=r.sent.take i++[x]:=by rw[List.take_succ_eq_append_getElem hlt,lW]
  have kD:(r.sent.take i).length<=100000000:=by rw[dN];omega
  have FF:=kU @hlt @lW @hl @Mc @iO @kD (bT eS)
  try refine aG ?_
  exact⟨r.sent.length-(i+1),ab,i+1,ab,ab,rfl,by rw[pW,dm,List.map_take];rfl⟩
 ·obtain rfl:i=r.sent.length:=ab;rw[fT];have FF:=fg @hlt @hl @Mc @iO
  try refine aG ?_
  refine zE ?_;exact ai
open aD (eX bL Env Rr iZ eO enabled mW Fw GL GK Dc lA Js abh Ac akq akr)
theorem aCz {c:eX}(hc:iZ c){k j:Nat}(hk:k<=30)(hj:j<=900){w:bL}(h:eO c k j w)(hst:w.steps=k){e:Ev}(he:e∈enabled w){cs:List az}(hx:GL 256 w e=some cs):
  bj Tryz.prog 61 [.agg (iD w),.agg (iP e)] (fun x=>x=.w (.c (CU cs))):=by
 obtain⟨w1,s1,f1,f2,f3,f4,f5⟩:=Fw hc ab h hst he [];unfold GL at hx;rw[f1] at hx;dsimp only at hx;have hS:=acm hc hk hj h he (l:=[]) ai f1;refine cI Tryz.func61 ⟨0,[8],[(63,[703])],[(12,[703])],cZ,[],[]⟩ [tz 7 16] [.t 4] [2,3,4,5,6,7,8,9,10,11,12] [2,3,5,6,11,12,8,703] ?_;have FF:=trivial;refine bY hS ?_
 have hv0:=Js 4 s1.asks (fun a ha=>by
  obtain⟨_,q1,q2,_⟩:=(f4.asks a ha).1;have:=f4.mI a ha
  omega)
 refine dA (fun m V S=>∃(s:az) (out:List az) (f g g7:Nat) (x9 x10 x11 x12:AV) (s11 s12:Slot),Dc c k w e s/\GK w e f out s=some cs/\256<=f+lA 4 s.asks/\out.length<=lA 4 s.asks/\m=256-lA 4 s.asks/\
  V=[(0,.w (.agg (iD w))),(1,.w (.agg (iP e))),(2,.pb 2 1 0),(3,.pb 3 1 0),(4,.w (.c (.sl []))),(5,.pb 5 1 0),(6,.pb 6 1 0),(7,.w (.c (iA 0))),(8,.w (.c (.own 8 g))),(9,x9),(10,x10),(11,x11),(12,x12)]/\
  S=[(2,.box 1 (iD w)),(3,.box 1 (iP e)),(5,.box 1 (iD w1)),(6,.box 1 (kQ s)),(11,s11),(12,s12),(8,.row 45 11 g (out.map kQ)),(703,.dead g7)]) (n:=256-lA 4 s1.asks)
  ⟨s1,[],256,1,0,.u,.u,.u,.u,.dead 0,.dead 0,⟨f4,f5,[],w1,f1⟩,hx,ab,ai,rfl,rfl,rfl⟩ ?_
 rintro m V L S ⟨s,out,f,g,g7,x9,x10,x11,x12,s11,s12,hch,zD,hf,xm,rfl,rfl,rfl⟩;have Uz:=hch.Uy;have hv:lA 4 s.asks<256:=Js 4 _ Uz;have Cw:=hch.1.Cx;have ME:out.length<=100000000:=ab
 obtain⟨f,rfl⟩:∃f',f=f'+1:=⟨f-1,ab⟩
 unfold GK at zD
 obtain⟨z,hz⟩:∃z:Int,z=(s.asks.length:Int)-1:=⟨_,rfl⟩
 have lu:aZ .sub (.int .i64 (s.asks.length:Int)) (.int .i64 1)=some (.int .i64 z):=by rw[Ct ab ab,hz]
 have FF:=im @ME @lu
 try refine aG ?_
 refine dA (fun m V S=>∃(i:Nat) (z:Int),z=(i:Int)-1/\i<=s.asks.length/\m=i/\(∀j (hj:j<s.asks.length),i<=j->s.asks[j].n+1=s.asks[j].arity)/\
  V=[(0,.w (.agg (iD w))),(1,.w (.agg (iP e))),(2,.pb 2 1 0),(3,.pb 3 1 0),(4,.w (.c (.sl []))),(5,.pb 5 1 0),(6,.pb 6 1 0),(7,.w (.c (iA 0))),(8,.w (.c (.own 8 (g+1)))),(9,.w (.c (iA z))),(10,x10),(11,x11),(12,x12)]/\
  S=[(2,.box 1 (iD w)),(3,.box 1 (iP e)),(5,.box 1 (iD w1)),(6,.box 1 (kQ s)),(11,s11),(12,s12),(8,.row 45 11 (g+1) ((out++[s]).map kQ)),(703,.dead g7)]) (n:=s.asks.length)
  ⟨s.asks.length,z,hz,ab,rfl,fun j hj yU=>ab,rfl,by rw[dm];rfl⟩ ?_
 rintro m V L S ⟨i,z,hz,hi,hm,lM,rfl,rfl⟩
 rcases i with _|i
 ·have fk:¬(0:Int)<=z:=ab;have cQ:z<0:=ab
  rw[akq (fun a ha=>by
   obtain⟨j,hj,rfl⟩:=Gq.1 ha
   exact lM j hj ab)] at zD
  simp only[aA] at zD;have FF:=im @fk @cQ
  try refine aG ?_
  refine zE ?_;exact(by rw[<-zD];show ek _=.w (.c (.sl ((out++[s]).map kQ)));rw[dm];rfl)
 ·obtain rfl:z=(i:Int):=ab;have hlt:i<s.asks.length:=ab;have fk:(0:Int)<=(i:Int):=ab;have cQ:¬(i:Int)<0:=ab;have eS:i<=1000000000:=ab;have yu:=(hch.1.asks _ (bW hlt)).1;have hfw:=hch.1.mI _ (bW hlt);have hdg:=Uz _ (bW hlt)
  obtain⟨a,JN⟩:∃a,s.asks[i]=a:=⟨_,rfl⟩
  rw[JN] at yu hfw hdg
  obtain⟨nn,kI⟩:∃nn:Int,a.n+1=nn:=⟨_,rfl⟩
  have lH:aZ .add (.int .i64 a.n) (.int .i64 1)=some (.int .i64 nn):=by rw[oX ab ab,kI]
  by_cases hne:nn=a.arity
  ·have hsb:aZ .sub (.int .i64 (i:Int)) (.int .i64 1)=some (.int .i64 ((i:Int)-1)):=Ct ab ab;have FF:=kU @fk @cQ @hlt @JN @lH @hne @hsb
   try refine aG ?_
   exact⟨i,ab,i,(i:Int)-1,rfl,ab,rfl,fun j hj yU=>by
    rcases BS i j with h1|h1
    ·exact lM j hj ab
    ·obtain rfl:j=i:=ab
     rw[JN,kI,hne],rfl,by rw[dm];rfl⟩
  ·have kr:=akr hlt (by rw[JN,kI];exact hne) (fun j hj yU=>lM j hj ab)
   obtain⟨la,uh⟩:∃la:List aL,(s.asks.take i).map gP++[⟨a.qn,nn⟩]=la:=⟨_,rfl⟩
   rw[JN,kI,uh] at kr;rw[kr] at zD;dsimp only at zD
   have aCA:la.length<=1000000:=by rw[<-uh,List.length_append,dI,dN,List.length_singleton];omega
   obtain⟨w2,t,e1,e2,e3,e4,e5⟩:=Fw hc ab h hst he la;have hg:=abh hc ab h he hch kr e1;rw[e1] at zD;dsimp only at zD;have hS2:=acm hc hk hj h he aCA e1
   obtain⟨i1,CT⟩:∃i1,i+1=i1:=⟨_,rfl⟩
   have amu:aZ .add (.int .i64 (i:Int)) (.int .i64 1)=some (.int .i64 (i1:Int)):=by rw[bT eS,CT]
   have amv:i1<=s.asks.length:=ab;have tT:min i1 s.asks.length=i1:=ab;have Af:i<i1:=ab;have hq:gP a=⟨a.qn,a.n⟩:=rfl;have FF:=Nf @fk @cQ @hlt @JN @lH @hne @amu @amv @tT @Af @hq;refine bY (azS s (.dead g7) ab) ?_
   have iV:((s.asks.map (Jh∘gP)).take i1).set i [iA a.qn.node,iA a.qn.handler,iA a.qn.count,iA a.qn.kind,iA a.qn.index,iA nn]=la.map Jh:=by
    rw[<-uh,dm,List.map_map,<-CT,List.take_succ_eq_append_getElem (by simpa using hlt),Ni _ _ bz,List.map_take,show i-(List.take i (s.asks.map (Jh∘gP))).length=0 by simp;omega];rfl
   rw[iV];have FF:=Nf @fk @cQ @hlt @JN @lH @hne @amu @amv @tT @Af @hq;refine bY hS2 ?_;exact⟨256-lA 4 t.asks,ab,t,out++[s],f,g+1,_,_,_,_,_,_,_,⟨e4,e5,la,w2,e1⟩,zD,ab,by rw[List.length_append];simp;omega,rfl,rfl,by rw[dm];rfl⟩
open aD (eX bL Env Rr iZ eO enabled mW Fw GL abj nJ aaY walk Ad config abm Cf)
variable {c:eX} {l:List Int} {run:List az} {wf:bL}
theorem aCB(hc:iZ c)(hl:∀x∈l,zB x)(cT:l.length<=9223372036854775807)(hx:walk 256 c l=some (run,wf)):
  bj Tryz.prog 23 [.agg (Bl c),.c (ints l)] (fun x=>x=.bP [.c (CU run),.agg (iD wf)]):=by
 have h12:=hc.CZ;have h3:=hc.fM;unfold walk at hx;refine cI Tryz.func23 (aO [7]) [(11,14,tk 0 4 (.wR 4 10 11 (.wR 5 10 11 (tk 6 4 (.fork 10 11 (.move 11 (.move 12 (.move 13 .nil))) (.move 10 (.move 12 (.move 13 .nil))))) (.fork 5 11 (tk 6 4 (.move 11 (.move 12 (.move 13 .nil)))) (.move 5 (tk 6 4 (.move 12 (.move 13 .nil))))) (.fork 5 10 (tk 6 4 (.move 10 (.move 12 (.move 13 .nil)))) (.move 5 (tk 6 4 (.move 12 (.move 13 .nil)))))) (.fork 4 11 (.fork 5 11 (tk 6 4 (.move 11 (.move 12 (.move 13 .nil)))) (.move 5 (tk 6 4 (.move 12 (.move 13 .nil))))) (.move 4 (.move 5 (tk 6 4 (.move 12 (.move 13 .nil)))))) (.fork 4 10 (.fork 5 10 (tk 6 4 (.move 10 (.move 12 (.move 13 .nil)))) (.move 5 (tk 6 4 (.move 12 (.move 13 .nil))))) (.move 4 (.move 5 (tk 6 4 (.move 12 (.move 13 .nil))))))),[7,13,14]),tz 9 8,tz 14 3] [.t 4,.cell 5 16] [2,4,5,6,7,8,9,10,11,12,13,14] [2,5,6,12,13,14,7] ?_;have FF:=trivial;refine bY (azQ c ab ab) ?_
 refine dA (fun m V S=>∃(i:Nat) (w:bL) (FO:List az) (g:Nat) (x9 x10 x11 x12 x13 x14:AV) (s12 s13 s14:Slot),i<=l.length/\i<=30/\m=30-i/\eO c i (2*i) w/\w.steps=i/\Ad 256 ((l.take 30).drop i) w FO=some (run,wf)/\FO.length<=i/\
  V=[(0,.w (.agg (Bl c))),(1,.w (.c (ints l))),(2,.pb 2 1 0),(4,.w (.c (.sl []))),(5,.pb 5 1 0),(6,.pb 6 1 0),(7,.w (.c (.own 7 g))),(8,.w (.c (iA i))),(9,x9),(10,x10),(11,x11),(12,x12),(13,x13),(14,x14)]/\
  S=[(2,.box 1 (Bl c)),(5,.box 1 [.sl [],.sl [],.sl [],.sl [],iA 0,iA 0,iA 0,iA 0,.sl [],.sl [],.sl [],.sl [],.sl [],.sl [],.sl [],iA 0]),(6,.box 1 (iD w)),(12,s12),(13,s13),(14,s14),(7,.row 45 11 g (FO.map kQ))]) (n:=30)
  ⟨0,nJ c,[],1,.u,.u,.u,.u,.u,.u,.dead 0,.dead 0,.dead 0,ab,ab,rfl,aaY hc,rfl,hx,ai,rfl,rfl⟩ ?_
 rintro m V L S ⟨i,w,FO,g,x9,x10,x11,x12,x13,x14,s12,s13,s14,hi,aHb,rfl,h,hst,hw,hr0,rfl,rfl⟩
 have stop:Ad 256 [] w FO=some (run,wf)->FO=run/\w=wf:=fun h=>by
  unfold Ad at h;simpa using h
 by_cases hlt:i<l.length
 ·by_cases aHc:i<30
  ·have Vp:((i:Int)<30):=ab;have eS:i<=1000000000:=ab
   obtain⟨x,lW⟩:∃x,l[i]=x:=⟨_,rfl⟩
   have aCC:zB x:=hl x (lW▸bW hlt)
   have aCD:(l.take 30).drop i=x::(l.take 30).drop (i+1):=by
    rw[List.drop_eq_getElem_cons (by rw[dN];omega),List.getElem_take,lW]
   rw[aCD] at hw;unfold Ad at hw;dsimp only at hw;have hA:=Vn x 1000000 aCC ab;have hE:=akV hc ab h;have xd:aD.around x 1000000<1000000:=oM _ au
   have hch:=fun(e:Ev) (he:e∈enabled w)=>abj hc (show i<5000 by omega) h hst he
   have Qu:=fun(e:Ev) (he:e∈enabled w) (cs:List az) hx=>aCz hc (show i<=30 by omega) (show 2*i<=900 by omega) h hst he (cs:=cs) hx
   have lX:=fun(e:Ev) (he:e∈enabled w) (l:List aL) (cT:l.length<=1000000) (w2:bL) (t:az) hx=>acm hc (show i<=30 by omega) (show 2*i<=900 by omega) h he (l:=l) cT (w':=w2) (s:=t) hx
   have Ba:=fun(e:Ev) (he:e∈enabled w) (l:List aL)=>Fw hc (show i<5000 by omega) h hst he l
   generalize aD.around x 1000000=n at hw hA xd;generalize enabled w=es at hw hE hch Qu lX Ba
   rcases es with _|⟨e0,es⟩
   ·rw[show([]:List Ev)[n%([]:List Ev).length]? =none from rfl] at hw;simp only[aA,jM] at hw;obtain⟨rfl,rfl⟩:=hw;have FF:=kT @hlt @Vp @lW;refine kg hA hE ?_;refine zE ?_;exact(rfl)
   ·obtain⟨el,rP⟩:∃el,(e0::es).length=el:=⟨_,rfl⟩
    obtain⟨q1,EO⟩:∃q1,n%el=q1:=⟨_,rfl⟩
    have amw:0<el:=by rw[<-rP];simp
    have Vq:q1<(e0::es).length:=by rw[rP,<-EO];exact oM _ amw
    have aCE:=kv EO amw
    have aCF:q1<el:=by rw[<-rP];exact Vq
    generalize e0::es=es at hw hE hch Qu lX Ba rP Vq
    obtain⟨e,xI⟩:∃e,es[q1]=e:=⟨_,rfl⟩
    have Vr:e∈es:=xI▸bW Vq;rw[rP,EO,cz Vq,xI] at hw;dsimp only at hw;obtain⟨cs,c1,c2,c3,c4⟩:=hch e Vr;have hCA:=Qu e Vr cs c1;rw[c1] at hw;dsimp only at hw
    obtain⟨cl,dE⟩:∃cl,cs.length=cl:=⟨_,rfl⟩
    have amx:0<cl:=by rw[<-dE];exact DI.2 c2
    obtain⟨q2,Be⟩:∃q2,n/50=q2:=⟨_,rfl⟩
    obtain⟨q3,hq3⟩:∃q3,q2%cl=q3:=⟨_,rfl⟩
    have acn:q3<cs.length:=by rw[dE,<-hq3];exact oM _ amx
    have aCG:=kv hq3 amx
    have aCH:q3<cl:=by rw[<-dE];exact acn
    have aCI:aZ .quo (.int .i64 (n:Int)) (.int .i64 50)=some (.int .i64 (q2:Int)):=kS (b:=50) Be ab ab
    obtain⟨s,Qv⟩:∃s,cs[q3]=s:=⟨_,rfl⟩
    obtain⟨pY,amy,_⟩:=c4 s (Qv▸bW acn);rw[dE,Be,hq3,cz acn,Qv] at hw;dsimp only at hw;have Cw:=pY.Cx;obtain⟨w2,t,e1,e2,e3,_,_⟩:=Ba e Vr (Cf s);rw[amy,e1] at hw;dsimp only at hw;have JO:=azT s ab
    have Qw:(Cf s).length<=1000000:=by show(s.asks.map _).length<=_;rw[dI];omega
    have Qx:=lX e Vr (Cf s) Qw w2 t e1;have aCJ:el≠0:=ab;have aco:FO.length<=100000000:=ab;rw[<-amy] at Qx;have FF:=Wt @hlt @Vp @lW @rP @aCJ @aCE @aCF @xI @dE @aCH @aCI @aCG @Qv @aco;refine yK hA hE hCA ?_;have FF:=kT @hlt @Qv @aco;apply Fu
    ·(repeat' first|refine yH JO ?_|refine yH Qx ?_|refine yI JO ?_|refine yI Qx ?_|refine xh ?_|refine Aw ?_|refine Av ?_|refine bG ?_|refine yF ?_ ?_|refine EB ?_ ?_ ?_|refine xi ?_|refine Ax ?_|refine yJ JO ?_|refine yJ Qx ?_|refine Az ?_|refine AA ?_|refine AB ?_|refine Ay ?_|refine Au ?_|fail)<;>exact⟨rfl,rfl⟩
    intro L;have FF:=fg @hlt @Qv @aco (bT eS);refine kg JO Qx ?_;exact⟨30-(i+1),ab,i+1,w2,FO++[s],_,_,_,_,_,_,_,_,_,_,ab,ab,rfl,e2,e3,hw,by simp;omega,rfl,by rw[dm];rfl⟩
  ·have Vp:¬((i:Int)<30):=ab;rw[uG (by rw[dN];omega)] at hw;obtain⟨rfl,rfl⟩:=stop hw;have FF:=im @hlt @Vp
   try refine aG ?_
   refine zE ?_;exact(rfl)
 ·rw[uG (by rw[dN];omega)] at hw;obtain⟨rfl,rfl⟩:=stop hw;have FF:=@hlt
  try refine aG ?_
  refine zE ?_;exact(rfl)
theorem aCK{l2:List Int}(hl:∀x∈l,zB x)(cT:l.length<=9223372036854775807)(fb:∀x∈l2,zB x)(hx:config l=some c)(hr:walk 256 c (l2.take 20)=some (run,wf)):
  bj Tryz.prog 7 [.c (ints l),.c (ints l2)] (fun x=>x=.w (.c (CU run))):=by
 have hc:iZ c:=by
  obtain⟨c',h1,h2⟩:=abm l;rw[hx] at h1;cases h1;exact h2
 have hb:∀x∈l2.take 20,zB x:=fun x hx=>fb x (tC hx)
 have fq:(l2.take 20).length<=9223372036854775807:=by rw[dN];omega
 refine cI Tryz.func7 aN [] [.t 4] [4,5,6] [6] ?_;have FF:=trivial;refine yK (aCr l c hx hl cT) (agi l2 20 ab) (aCB hc hb fq hr) ?_;refine zE ?_;exact(rfl)
end Ab
end Go.Proofs.YtkanpepkdcmpmaaGreatDoor
