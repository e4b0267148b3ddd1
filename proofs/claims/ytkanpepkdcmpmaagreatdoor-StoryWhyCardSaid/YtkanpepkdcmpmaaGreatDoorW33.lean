import Derived.Test.YtkanpepkdcmpmaaGreatDoorW28
set_option maxHeartbeats 40000000
set_option maxRecDepth 100000
set_option linter.all false
namespace Go.Proofs.YtkanpepkdcmpmaaGreatDoor
namespace Ab
open Go Go.RowKit
attribute [local irreducible] aP bB aW
open aD (eX qF Ob pE bL Env aU Rr iZ eO bV jd ig Ce sy enabled xE zq pZ Dd Bm mV mr)
variable {c:eX} {j k:Nat} {w:bL}
theorem FE(w:bL)(n:Nat)(s:aD.Node)(o:List Ev)(m:bR):ig w n s o m=(if s.ed<w.c.tI then bV (if s.dropped<w.c.qH then bV (if s.up then bV o ⟨3,n,0,m⟩ else o) ⟨5,n,0,m⟩ else(if s.up then bV o ⟨3,n,0,m⟩ else o)) ⟨6,n,0,m⟩ else(if s.dropped<w.c.qH then bV (if s.up then bV o ⟨3,n,0,m⟩ else o) ⟨5,n,0,m⟩ else(if s.up then bV o ⟨3,n,0,m⟩ else o))):=rfl
theorem akV(hc:iZ c)(hk:k<=30)(h:eO c k j w):bj Tryz.prog 60 [.agg (iD w)] (fun x=>x=.w (.c (evs (enabled w)))):=by
 have aGS:=hc.CZ;have jF:=h.nodes;have qP:=h.next
 have cS:w.bI.length<=15030:=by have:=h.vY;omega
 have akW:∀s∈w.nodes,s.timers.length<=8:=fun s hs=>(h.node s hs).vH
 have nj:=h.node;have qd:=h.cfg
 have aGT:w.c.first.length=w.nodes.length:=by rw[qd,jF]
 have hE:∀n,(sy w 0 [] (w.nodes.take n)).length<=12*(3*15030+74):=fun n=>by
  have h1:=aD.abk hc qd (w.nodes.take n) 0 [] (fun s hs=>akW s (tC hs))
  have h2:(w.nodes.take n).length<=12:=by rw[dN];omega
  have h3:(w.nodes.take n).length*(3*w.bI.length+74)<=12*(3*15030+74):=og h2 ab;simp only[List.length_nil] at h1;omega
 refine cI Tryz.func60 aN [] [.t 2] [1,2,3,4,5,6,7,8,9,10] [1,5] ?_;have FF:=trivial
 try refine aG ?_
 try clear FF
 refine dA (fun m V S=>∃(n:Nat) (s5:Slot) (x5 x6 x7 x8 x9 x10:AV),n<=w.nodes.length/\m=w.nodes.length-n/\
  V=[(0,.w (.agg (iD w))),(1,.pb 1 1 0),(2,.w (.c (.sl []))),(3,.w (.c (evs (sy w 0 [] (w.nodes.take n))))),(4,.w (.c (iA n))),(5,x5),(6,x6),(7,x7),(8,x8),(9,x9),(10,x10)]/\
  S=[(1,.box 1 (iD w)),(5,s5)]) (n:=w.nodes.length) ⟨0,.dead 0,.u,.u,.u,.u,.u,.u,ab,ab,rfl,rfl⟩ ?_
 rintro m V L S ⟨n,s5,x5,x6,x7,x8,x9,x10,hn,rfl,rfl,rfl⟩;by_cases hlt:n<w.nodes.length
 ·have rq:n<=1000000000:=ab;have iX:n<w.next.length:=ab;have hlf:n<w.c.first.length:=ab;have Ja:=hE n;have nW:=aD.akp w w.nodes 0 n [] hlt;generalize sy w 0 [] (w.nodes.take n)=out at Ja nW⊢
  obtain⟨s,hs⟩:∃s,w.nodes[n]=s:=⟨_,rfl⟩
  have hsm:s∈w.nodes:=hs▸bW hlt;have ht8:=akW s hsm;have ou:=(nj s hsm).nc;rw[hs,eP] at nW
  obtain⟨nx,kr⟩:∃nx,w.next[n]=nx:=⟨_,rfl⟩
  have akX:w.next.getD n 0=nx:=by rw[fC,cz iX,kr];rfl
  obtain⟨fv,hfv⟩:∃fv,w.c.first[n]=fv:=⟨_,rfl⟩
  have azU:w.c.first.getD n 0=fv:=by rw[fC,cz hlf,hfv];rfl
  have hto:(jd w.bI n).length<=15030:=by
   have:(jd w.bI n).length<=w.bI.length:=by unfold jd;rw[dI];exact oc _ _
   omega
  have hms:(jd w.bI n).length<=15030:=hto;have abG:=atA w.bI n ab
  obtain⟨ms,abH⟩:∃ms,jd w.bI n=ms:=⟨_,rfl⟩
  rw[abH] at hms abG;rw[aD.akm] at nW;by_cases gC:s.up=true
  ·have e1:xE w n s out=out:=by unfold xE;rw[aj gC]
   have e2:zq w n s out=ms.foldl (ig w n s) out:=by unfold zq;rw[abH]
   rw[e1,e2] at nW;have FF:=kT @hlt @hs @gC;refine bY abG ?_
   try clear FF
   refine dA (fun m V S=>∃i:Nat,i<=ms.length/\m=ms.length-i/\V=[(0,.w (.agg (iD w))),(1,.pb 1 1 0),(2,.w (.c (.sl []))),(3,.w (.c (evs ((ms.take i).foldl (ig w n s) out)))),(4,.w (.c (iA n))),(5,.pb 5 (s5.gen+1) 0),(6,x6),(7,x7),(8,.w (.c (msgs ms))),(9,.w (.c (iA i))),(10,x10)]/\S=[(1,.box 1 (iD w)),(5,.box (s5.gen+1) (aS s))]) (n:=ms.length) ⟨0,ab,ab,rfl,rfl⟩ ?_;rintro m V L S ⟨i,hi,rfl,rfl,rfl⟩;by_cases jr:i<ms.length
   ·have eS:i<=1000000000:=ab
    obtain⟨mm,kX⟩:∃mm,ms[i]=mm:=⟨_,rfl⟩
    have hst:=aD.PD (ig w n s) ms out i jr;have xm:=aD.Mk (f:=ig w n s) (m:=3) (fun o x=>aD.UA w n s o x) (ms.take i) out;rw[kX] at hst;rw[dN] at xm;generalize(ms.take i).foldl (ig w n s) out=o at hst xm⊢;have ho0:o.length<=999990:=ab;have rE:=aD.PA o ⟨3,n,0,mm⟩;have yV:=aD.PA (bV o ⟨3,n,0,mm⟩) ⟨5,n,0,mm⟩;by_cases hd:s.dropped<w.c.qH
    ·by_cases hb:s.ed<w.c.tI
     ·have hm:ig w n s o mm=(bV (bV (bV o ⟨3,n,0,mm⟩) ⟨5,n,0,mm⟩) ⟨6,n,0,mm⟩):=by rw[FE];simp[gC,hd,hb]
      have FF:=gR @jr @kX @gC @hd @hb (bT eS);refine yK (rN o ⟨3,n,0,mm⟩ ab) (rN (bV o ⟨3,n,0,mm⟩) ⟨5,n,0,mm⟩ ab) (rN (bV (bV o ⟨3,n,0,mm⟩) ⟨5,n,0,mm⟩) ⟨6,n,0,mm⟩ ab) ?_
      try clear FF
      exact⟨ms.length-(i+1),ab,i+1,ab,ab,by rw[hst,hm];rfl,rfl⟩
     ·have hm:ig w n s o mm=(bV (bV o ⟨3,n,0,mm⟩) ⟨5,n,0,mm⟩):=by rw[FE];simp[gC,hd,hb]
      have FF:=gR @jr @kX @gC @hd @hb (bT eS);refine kg (rN o ⟨3,n,0,mm⟩ ab) (rN (bV o ⟨3,n,0,mm⟩) ⟨5,n,0,mm⟩ ab) ?_
      try clear FF
      exact⟨ms.length-(i+1),ab,i+1,ab,ab,by rw[hst,hm];rfl,rfl⟩
    ·by_cases hb:s.ed<w.c.tI
     ·have hm:ig w n s o mm=(bV (bV o ⟨3,n,0,mm⟩) ⟨6,n,0,mm⟩):=by rw[FE];simp[gC,hd,hb]
      have FF:=gR @jr @kX @gC @hd @hb (bT eS);refine kg (rN o ⟨3,n,0,mm⟩ ab) (rN (bV o ⟨3,n,0,mm⟩) ⟨6,n,0,mm⟩ ab) ?_
      try clear FF
      exact⟨ms.length-(i+1),ab,i+1,ab,ab,by rw[hst,hm];rfl,rfl⟩
     ·have hm:ig w n s o mm=(bV o ⟨3,n,0,mm⟩):=by rw[FE];simp[gC,hd,hb]
      have FF:=gR @jr @kX @gC @hd @hb (bT eS);refine bY (rN o ⟨3,n,0,mm⟩ ab) ?_
      try clear FF
      exact⟨ms.length-(i+1),ab,i+1,ab,ab,by rw[hst,hm];rfl,rfl⟩
   obtain rfl:i=ms.length:=ab;rw[fT];have xm:=aD.Mk (f:=ig w n s) (m:=3) (fun o x=>aD.UA w n s o x) ms out;generalize ms.foldl (ig w n s) out=o2 at nW xm⊢;have ug:o2.length<=999990:=ab;have azV:=aD.akn w n s o2;have c40:=ajJ s;have nX:(s.waiting<0/\0<=nx)\/(s.waiting<0/\¬0<=nx)\/¬s.waiting<0:=ab
   rcases nX with hw|hw|hw
   case' inl=>
    obtain⟨pH,jA⟩:=hw
    have e3:pZ w n s o2=bV o2 ⟨2,n,nx,⟨0,0,0,0,0⟩⟩:=by unfold pZ;rw[akX,aj ⟨gC,pH,jA⟩];rfl
    have FF:=gR @jr @gC @pH @jA @iX @kr;refine bY (rN o2 ⟨2,n,nx,⟨0,0,0,0,0⟩⟩ ab) ?_
    try clear FF
    rw[<-e3];clear pH jA
   case' inr.inl=>
    obtain⟨pH,jA⟩:=hw
    have e3:pZ w n s o2=o2:=by unfold pZ;rw[akX,af (fun hh=>jA hh.2.2)]
    have FF:=gR @jr @gC @pH @jA @iX @kr
    try refine aG ?_
    try clear FF
    rw[show evs o2=evs (pZ w n s o2) by rw[e3]];clear pH jA
   case' inr.inr=>
    have e3:pZ w n s o2=o2:=by unfold pZ;rw[af (fun hh=>hw hh.2.1)]
    have FF:=kT @jr @gC @hw
    try refine aG ?_
    try clear FF
    rw[show evs o2=evs (pZ w n s o2) by rw[e3]];clear hw
   all_goals
    clear e3;generalize pZ w n s o2=o3 at azV nW⊢
    have e4:Dd n s o3=s.timers.foldl (fun o t=>bV o ⟨4,n,t,⟨0,0,0,0,0⟩⟩) o3:=by unfold Dd;rw[aj gC];rfl
    rw[e4] at nW;refine dA (fun m V S=>∃i:Nat,i<=s.timers.length/\m=s.timers.length-i/\V=[(0,.w (.agg (iD w))),(1,.pb 1 1 0),(2,.w (.c (.sl []))),(3,.w (.c (evs ((s.timers.take i).foldl (fun o t=>bV o ⟨4,n,t,⟨0,0,0,0,0⟩⟩) o3)))),(4,.w (.c (iA n))),(5,.pb 5 (s5.gen+1) 0),(6,x6),(7,x7),(8,.w (.c (msgs ms))),(9,.w (.c (iA ms.length))),(10,.w (.c (iA i)))]/\S=[(1,.box 1 (iD w)),(5,.box (s5.gen+1) (aS s))]) (n:=s.timers.length) ⟨0,ab,ab,rfl,rfl⟩ ?_;rintro m V L S ⟨i,hi,rfl,rfl,rfl⟩;by_cases Jy:i<s.timers.length
    ·have eS:i<=1000000000:=ab
     obtain⟨tt,MD⟩:∃tt,s.timers[i]=tt:=⟨_,rfl⟩
     have hst:=aD.PD (fun o t=>bV o ⟨4,n,t,⟨0,0,0,0,0⟩⟩) s.timers o3 i Jy;have akY:=aD.Mo (fun t=>⟨4,n,t,⟨0,0,0,0,0⟩⟩) (s.timers.take i) o3;rw[MD] at hst;rw[dN] at akY;generalize(s.timers.take i).foldl (fun o t=>bV o ⟨4,n,t,⟨0,0,0,0,0⟩⟩) o3=o at hst akY⊢;have FF:=fg @Jy @MD @gC (bT eS);refine bY (rN o ⟨4,n,tt,⟨0,0,0,0,0⟩⟩ ab) ?_
     try clear FF
     exact⟨s.timers.length-(i+1),ab,i+1,ab,ab,by rw[hst];rfl,rfl⟩
    obtain rfl:i=s.timers.length:=ab;rw[fT];have azW:=aD.Mo (fun t=>⟨4,n,t,⟨0,0,0,0,0⟩⟩) s.timers o3;generalize s.timers.foldl (fun o t=>bV o ⟨4,n,t,⟨0,0,0,0,0⟩⟩) o3=o4 at nW azW⊢
    obtain⟨c4,UG⟩:∃c4,s.counts.getD 40 0=c4:=⟨_,rfl⟩
    rw[UG] at c40;by_cases vf:c4<w.c.ym
    ·have e5:Bm w n s o4=bV o4 ⟨7,n,0,⟨0,0,0,0,0⟩⟩:=by unfold Bm;rw[UG,aj ⟨gC,vf⟩];rfl
     have FF:=iF @Jy @gC @c40 @vf (bT rq);refine bY (rN o4 ⟨7,n,0,⟨0,0,0,0,0⟩⟩ ab) ?_
     try clear FF
     exact⟨w.nodes.length-(n+1),ab,n+1,_,_,_,_,_,_,_,ab,ab,by rw[nW,e5];rfl,rfl⟩
    ·have e5:Bm w n s o4=o4:=by unfold Bm;rw[UG,af (fun hh=>vf hh.2)]
     have FF:=iF @Jy @gC @c40 @vf (bT rq)
     try refine aG ?_
     try clear FF
     exact⟨w.nodes.length-(n+1),ab,n+1,_,_,_,_,_,_,_,ab,ab,by rw[nW,e5];rfl,rfl⟩
  ·have sZ:s.up=false:=by simpa using gC
   have uZ:=aD.ako hc qd n s
   have e1:xE w n s out=(mr w n s).foldl (fun o v=>bV o ⟨1,n,v,⟨0,0,0,0,0⟩⟩) out:=by unfold xE;rw[af gC];rfl
   have e3:∀o,pZ w n s o=o:=fun o=>by unfold pZ;rw[af (fun hh=>gC hh.1)]
   have e4:∀o,Dd n s o=o:=fun o=>by unfold Dd;rw[af gC]
   have e5:∀o,Bm w n s o=o:=fun o=>by unfold Bm;rw[af (fun hh=>gC hh.1)]
   have e2:∀o,zq w n s o=ms.foldl (ig w n s) o:=fun o=>by unfold zq;rw[abH]
   rw[e1,e5,e4,e3,e2] at nW;have yP:s.version<0\/(¬s.version<0/\w.c.qG.length=0)\/(¬s.version<0/\¬w.c.qG.length=0):=ab
   rcases yP with hv|hv|hv
   case' inl=>
    have dV:mr w n s=[fv]:=by unfold mr;rw[aj hv,azU]
    have FF:=gR @hlt @hs @sZ @hv @hlf @hfv
    try refine aG ?_
    try clear FF
    rw[show AC.sl [[iA fv]]=ints (mr w n s) by rw[dV];rfl];clear hv
   case' inr.inl=>
    obtain⟨ji,hr⟩:=hv
    have dV:mr w n s=[s.version]:=by unfold mr;rw[af ji,aj hr]
    have Eo:w.c.qG=[]:=yb hr;have FF:=iF @hlt @hs @sZ @ji @hr
    try refine aG ?_
    try clear FF
    rw[show AC.sl [[iA s.version]]=ints (mr w n s) by rw[dV];rfl];clear ji hr Eo
   case' inr.inr=>
    obtain⟨ji,hr⟩:=hv
    have dV:mr w n s=w.c.qG:=by unfold mr;rw[af ji,af hr]
    have Eo:¬w.c.qG=[]:=fun hh=>hr (by rw[hh];rfl)
    have FF:=gR @hlt @hs @sZ @ji @hr @Eo
    try refine aG ?_
    try clear FF
    rw[show(6,AV.w (AW.c (ints w.c.qG)))=(6,AV.w (AW.c (ints (mr w n s)))) by rw[dV]];clear ji hr Eo
   all_goals
    clear dV;generalize mr w n s=vs at uZ nW⊢;refine dA (fun m V S=>∃i:Nat,i<=vs.length/\m=vs.length-i/\V=[(0,.w (.agg (iD w))),(1,.pb 1 1 0),(2,.w (.c (.sl []))),(3,.w (.c (evs ((vs.take i).foldl (fun o v=>bV o ⟨1,n,v,⟨0,0,0,0,0⟩⟩) out)))),(4,.w (.c (iA n))),(5,.pb 5 (s5.gen+1) 0),(6,.w (.c (ints vs))),(7,.w (.c (iA i))),(8,x8),(9,x9),(10,x10)]/\S=[(1,.box 1 (iD w)),(5,.box (s5.gen+1) (aS s))]) (n:=vs.length) ⟨0,ab,ab,rfl,rfl⟩ ?_;rintro m V L S ⟨i,hi,rfl,rfl,rfl⟩;by_cases hlv:i<vs.length
    ·have eS:i<=1000000000:=ab
     obtain⟨vv,hvv⟩:∃vv,vs[i]=vv:=⟨_,rfl⟩
     have hst:=aD.PD (fun o v=>bV o ⟨1,n,v,⟨0,0,0,0,0⟩⟩) vs out i hlv;have ME:=aD.Mo (fun v=>⟨1,n,v,⟨0,0,0,0,0⟩⟩) (vs.take i) out;rw[hvv] at hst;rw[dN] at ME;generalize(vs.take i).foldl (fun o v=>bV o ⟨1,n,v,⟨0,0,0,0,0⟩⟩) out=o at hst ME⊢;have FF:=kT @hlv @hvv (bT eS);refine bY (rN o ⟨1,n,vv,⟨0,0,0,0,0⟩⟩ ab) ?_
     try clear FF
     exact⟨vs.length-(i+1),ab,i+1,ab,ab,by rw[hst];rfl,rfl⟩
    obtain rfl:i=vs.length:=ab;rw[fT];have ME:=aD.Mo (fun v=>⟨1,n,v,⟨0,0,0,0,0⟩⟩) vs out;generalize vs.foldl (fun o v=>bV o ⟨1,n,v,⟨0,0,0,0,0⟩⟩) out=o1 at nW ME⊢;have FF:=im @hlv @sZ;refine bY abG ?_
    try clear FF
    refine dA (fun m V S=>∃i:Nat,i<=ms.length/\m=ms.length-i/\V=[(0,.w (.agg (iD w))),(1,.pb 1 1 0),(2,.w (.c (.sl []))),(3,.w (.c (evs ((ms.take i).foldl (ig w n s) o1)))),(4,.w (.c (iA n))),(5,.pb 5 (s5.gen+1) 0),(6,.w (.c (ints vs))),(7,.w (.c (iA vs.length))),(8,.w (.c (msgs ms))),(9,.w (.c (iA i))),(10,x10)]/\S=[(1,.box 1 (iD w)),(5,.box (s5.gen+1) (aS s))]) (n:=ms.length) ⟨0,ab,ab,rfl,rfl⟩ ?_;rintro m V L S ⟨i,hi,rfl,rfl,rfl⟩;by_cases jr:i<ms.length
    ·have eS:i<=1000000000:=ab
     obtain⟨mm,kX⟩:∃mm,ms[i]=mm:=⟨_,rfl⟩
     have hst:=aD.PD (ig w n s) ms o1 i jr;have xm:=aD.Mk (f:=ig w n s) (m:=3) (fun o x=>aD.UA w n s o x) (ms.take i) o1;rw[kX] at hst;rw[dN] at xm;generalize(ms.take i).foldl (ig w n s) o1=o at hst xm⊢;have ho0:o.length<=999990:=ab;have yV:=aD.PA o ⟨5,n,0,mm⟩;by_cases hd:s.dropped<w.c.qH
     ·by_cases hb:s.ed<w.c.tI
      ·have hm:ig w n s o mm=(bV (bV o ⟨5,n,0,mm⟩) ⟨6,n,0,mm⟩):=by rw[FE];simp[sZ,hd,hb]
       have FF:=gR @jr @kX @sZ @hd @hb (bT eS);refine kg (rN o ⟨5,n,0,mm⟩ ab) (rN (bV o ⟨5,n,0,mm⟩) ⟨6,n,0,mm⟩ ab) ?_
       try clear FF
       exact⟨ms.length-(i+1),ab,i+1,ab,ab,by rw[hst,hm];rfl,rfl⟩
      ·have hm:ig w n s o mm=(bV o ⟨5,n,0,mm⟩):=by rw[FE];simp[sZ,hd,hb]
       have FF:=gR @jr @kX @sZ @hd @hb (bT eS);refine bY (rN o ⟨5,n,0,mm⟩ ab) ?_
       try clear FF
       exact⟨ms.length-(i+1),ab,i+1,ab,ab,by rw[hst,hm];rfl,rfl⟩
     ·by_cases hb:s.ed<w.c.tI
      ·have hm:ig w n s o mm=(bV o ⟨6,n,0,mm⟩):=by rw[FE];simp[sZ,hd,hb]
       have FF:=gR @jr @kX @sZ @hd @hb (bT eS);refine bY (rN o ⟨6,n,0,mm⟩ ab) ?_
       try clear FF
       exact⟨ms.length-(i+1),ab,i+1,ab,ab,by rw[hst,hm];rfl,rfl⟩
      ·have hm:ig w n s o mm=o:=by rw[FE];simp[sZ,hd,hb]
       have FF:=gR @jr @kX @sZ @hd @hb (bT eS)
       try refine aG ?_
       try clear FF
       exact⟨ms.length-(i+1),ab,i+1,ab,ab,by rw[hst,hm];rfl,rfl⟩
    obtain rfl:i=ms.length:=ab;rw[fT];generalize ms.foldl (ig w n s) o1=o2 at nW⊢;have FF:=im @jr @sZ
    try refine aG ?_
    try clear FF
    refine dA (fun m V S=>m=0/\V=[(0,.w (.agg (iD w))),(1,.pb 1 1 0),(2,.w (.c (.sl []))),(3,.w (.c (evs o2))),(4,.w (.c (iA n))),(5,.pb 5 (s5.gen+1) 0),(6,.w (.c (ints vs))),(7,.w (.c (iA vs.length))),(8,.w (.c (msgs ms))),(9,.w (.c (iA ms.length))),(10,.w (.c (iA 0)))]/\S=[(1,.box 1 (iD w)),(5,.box (s5.gen+1) (aS s))]) (n:=0) ⟨rfl,rfl,rfl⟩ ?_;rintro m V L S ⟨rfl,rfl,rfl⟩;by_cases Jy:0<s.timers.length
    ·have FF:=kT @Jy @sZ (bT rq)
     try refine aG ?_
     try clear FF
     exact⟨w.nodes.length-(n+1),ab,n+1,_,_,_,_,_,_,_,ab,ab,by rw[nW];rfl,rfl⟩
    ·have Fo:s.timers=[]:=yb ab;have FF:=fg @Jy @Fo @sZ (bT rq)
     try refine aG ?_
     try clear FF
     exact⟨w.nodes.length-(n+1),ab,n+1,_,_,_,_,_,_,_,ab,ab,by rw[nW];rfl,rfl⟩
 ·have hne:n=w.nodes.length:=ab;have FF:=@hlt
  try refine aG ?_
  try clear FF
  refine zE ?_;exact(by rw[hne,fT];rfl)
theorem azX(hc:iZ c)(hk:k<=30)(h:eO c k j w)(e:Ev)(he:e∈enabled w):bj Tryz.prog 119 [.agg (iD w),.agg (iP e)] (fun x=>x=.w (.c (bA true))):=by
 have hlen:(enabled w).length<=1000000:=by
  have h1:=aD.abk hc h.cfg w.nodes 0 [] (fun s hs=>(h.node s hs).vH)
  have h2:w.nodes.length<=12:=by rw[h.nodes];exact hc.CZ.2
  have cS:w.bI.length<=15030:=by have:=h.vY;omega
  have h3:w.nodes.length*(3*w.bI.length+74)<=12*(3*15030+74):=og h2 ab;simp only[List.length_nil] at h1
  show(sy w 0 [] w.nodes).length<=_
  omega
 have hE:=akV hc hk h
 obtain⟨l,hl⟩:∃l,enabled w=l:=⟨_,rfl⟩
 rw[hl] at hE hlen he;refine cI Tryz.func119 aN [tz 5 5] [.t 4] [2,3,4,5,6] [2,3] ?_;have FF:=trivial;refine bY hE ?_
 try clear FF
 refine dA (fun n V S=>∃k:Nat,k<=l.length/\n=l.length-k/\(∀j (hj:j<l.length),j<k->l[j]≠e)/\
  V=[(0,.w (.agg (iD w))),(1,.w (.agg (iP e))),(2,.pb 2 1 0),(3,.pb 3 1 0),(4,.w (.c (bA false))),(5,.w (.c (evs l))),(6,.w (.c (iA k)))]/\S=[(2,.box 1 (iD w)),(3,.box 1 (iP e))]) (n:=l.length) ⟨0,ab,ab,fun j _ h=>ab,rfl,rfl⟩ ?_
 rintro n V L S ⟨k,hk,rfl,hj,rfl,rfl⟩;by_cases hlt:k<l.length
 ·have cF:k<=1000000000:=ab
  obtain⟨x,hx⟩:∃x,l[k]=x:=⟨_,rfl⟩
  by_cases lW:x=e
  ·subst lW;have FF:=im @hlt @hx
   try refine aG ?_
   try clear FF
   refine zE ?_;exact(rfl)
  ·have hne:=akv lW;have FF:=fg @hlt @hx @hne (bT cF)
   try refine aG ?_
   try clear FF
   exact⟨l.length-(k+1),ab,k+1,ab,ab,fun j eb iq=>by
    by_cases iW:j=k
    ·subst iW;rw[hx];exact lW
    ·exact hj j eb ab,rfl,rfl⟩
 ·exfalso;obtain⟨j,eb,iW⟩:=Gq.1 he;exact hj j eb ab iW
end Ab
end Go.Proofs.YtkanpepkdcmpmaaGreatDoor
