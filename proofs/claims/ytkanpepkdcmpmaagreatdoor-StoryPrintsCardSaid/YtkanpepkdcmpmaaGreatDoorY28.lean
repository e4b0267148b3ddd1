import Derived.Test.YtkanpepkdcmpmaaGreatDoorY23
set_option maxHeartbeats 40000000
set_option maxRecDepth 100000
set_option linter.all false
namespace Go.Proofs.YtkanpepkdcmpmaaGreatDoor
namespace Ab
open Go Go.RowKit
attribute [local irreducible] aM bt aX
open aD (eQ qx Ob pq bG Env aT Rr iO eK bR iU gU BV sg enabled xN zq pP CU Be mJ lY)
variable {c:eQ} {j k:Nat} {w:bG}
theorem Fp(w:bG)(n:Nat)(s:aD.Node)(o:List Ev)(m:bQ):gU w n s o m=(if s.dY<w.c.tE then bR (if s.dropped<w.c.qz then bR (if s.up then bR o ⟨3,n,0,m⟩ else o) ⟨5,n,0,m⟩ else(if s.up then bR o ⟨3,n,0,m⟩ else o)) ⟨6,n,0,m⟩ else(if s.dropped<w.c.qz then bR (if s.up then bR o ⟨3,n,0,m⟩ else o) ⟨5,n,0,m⟩ else(if s.up then bR o ⟨3,n,0,m⟩ else o))):=rfl
theorem akJ(hc:iO c)(hk:k<=30)(h:eK c k j w):aU Tryz.prog 60 [.agg (im w)] (fun x=>x=.w (.c (evs (enabled w)))):=by
 have aGP:=hc.CP;have ju:=h.nodes;have oI:=h.next
 have cM:w.bE.length<=15030:=by have:=h.vW;omega
 have akK:∀s∈w.nodes,s.timers.length<=8:=fun s hs=>(h.node s hs).vE
 have mU:=h.node;have pR:=h.cfg
 have aGQ:w.c.first.length=w.nodes.length:=by rw[pR,ju]
 have hE:∀n,(sg w 0 [] (w.nodes.take n)).length<=12*(3*15030+74):=fun n=>by
  have h1:=aD.abh hc pR (w.nodes.take n) 0 [] (fun s hs=>akK s (tu hs))
  have h2:(w.nodes.take n).length<=12:=by rw[dN];omega
  have h3:(w.nodes.take n).length*(3*w.bE.length+74)<=12*(3*15030+74):=nR h2 ab;simp only[List.length_nil] at h1;omega
 refine cC Tryz.func60 aN [] [.t 2] [1,2,3,4,5,6,7,8,9,10] [1,5] ?_;have FF:=trivial
 try refine aF ?_
 try clear FF
 refine dv (fun m V S=>∃(n:Nat) (s5:Slot) (x5 x6 x7 x8 x9 x10:AV),n<=w.nodes.length/\m=w.nodes.length-n/\
  V=[(0,.w (.agg (im w))),(1,.pb 1 1 0),(2,.w (.c (.sl []))),(3,.w (.c (evs (sg w 0 [] (w.nodes.take n))))),(4,.w (.c (iA n))),(5,x5),(6,x6),(7,x7),(8,x8),(9,x9),(10,x10)]/\
  S=[(1,.box 1 (im w)),(5,s5)]) (n:=w.nodes.length) ⟨0,.dead 0,.u,.u,.u,.u,.u,.u,ab,ab,rfl,rfl⟩ ?_
 rintro m V L S ⟨n,s5,x5,x6,x7,x8,x9,x10,hn,rfl,rfl,rfl⟩;by_cases hlt:n<w.nodes.length
 ·have qY:n<=1000000000:=ab;have iM:n<w.next.length:=ab;have hlf:n<w.c.first.length:=ab;have IP:=hE n;have nM:=aD.akd w w.nodes 0 n [] hlt;generalize sg w 0 [] (w.nodes.take n)=out at IP nM⊢
  obtain⟨s,hs⟩:∃s,w.nodes[n]=s:=⟨_,rfl⟩
  have hsm:s∈w.nodes:=hs▸bP hlt;have ht8:=akK s hsm;have nW:=(mU s hsm).nc;rw[hs,fu] at nM
  obtain⟨nx,jX⟩:∃nx,w.next[n]=nx:=⟨_,rfl⟩
  have akL:w.next.getD n 0=nx:=by rw[fo,cw iM,jX];rfl
  obtain⟨fv,hfv⟩:∃fv,w.c.first[n]=fv:=⟨_,rfl⟩
  have azO:w.c.first.getD n 0=fv:=by rw[fo,cw hlf,hfv];rfl
  have hto:(iU w.bE n).length<=15030:=by
   have:(iU w.bE n).length<=w.bE.length:=by unfold iU;rw[dE];exact nQ _ _
   omega
  have hms:(iU w.bE n).length<=15030:=hto;have abz:=atq w.bE n ab
  obtain⟨ms,abA⟩:∃ms,iU w.bE n=ms:=⟨_,rfl⟩
  rw[abA] at hms abz;rw[aD.aka] at nM;by_cases fY:s.up=true
  ·have e1:xN w n s out=out:=by unfold xN;rw[aq fY]
   have e2:zq w n s out=ms.foldl (gU w n s) out:=by unfold zq;rw[abA]
   rw[e1,e2] at nM;have FF:=jB @hlt @hs @fY;refine bJ abz ?_
   try clear FF
   refine dv (fun m V S=>∃i:Nat,i<=ms.length/\m=ms.length-i/\V=[(0,.w (.agg (im w))),(1,.pb 1 1 0),(2,.w (.c (.sl []))),(3,.w (.c (evs ((ms.take i).foldl (gU w n s) out)))),(4,.w (.c (iA n))),(5,.pb 5 (s5.gen+1) 0),(6,x6),(7,x7),(8,.w (.c (msgs ms))),(9,.w (.c (iA i))),(10,x10)]/\S=[(1,.box 1 (im w)),(5,.box (s5.gen+1) (aR s))]) (n:=ms.length) ⟨0,ab,ab,rfl,rfl⟩ ?_;rintro m V L S ⟨i,hi,rfl,rfl,rfl⟩;by_cases jg:i<ms.length
   ·have eN:i<=1000000000:=ab
    obtain⟨mm,kN⟩:∃mm,ms[i]=mm:=⟨_,rfl⟩
    have hst:=aD.Po (gU w n s) ms out i jg;have xu:=aD.Md (f:=gU w n s) (m:=3) (fun o x=>aD.Us w n s o x) (ms.take i) out;rw[kN] at hst;rw[dN] at xu;generalize(ms.take i).foldl (gU w n s) out=o at hst xu⊢;have ho0:o.length<=999990:=ab;have rm:=aD.Pl o ⟨3,n,0,mm⟩;have yV:=aD.Pl (bR o ⟨3,n,0,mm⟩) ⟨5,n,0,mm⟩;by_cases hd:s.dropped<w.c.qz
    ·by_cases hb:s.dY<w.c.tE
     ·have hm:gU w n s o mm=(bR (bR (bR o ⟨3,n,0,mm⟩) ⟨5,n,0,mm⟩) ⟨6,n,0,mm⟩):=by rw[Fp];simp[fY,hd,hb]
      have FF:=gI @jg @kN @fY @hd @hb (bN eN);refine yK (rE o ⟨3,n,0,mm⟩ ab) (rE (bR o ⟨3,n,0,mm⟩) ⟨5,n,0,mm⟩ ab) (rE (bR (bR o ⟨3,n,0,mm⟩) ⟨5,n,0,mm⟩) ⟨6,n,0,mm⟩ ab) ?_
      try clear FF
      exact⟨ms.length-(i+1),ab,i+1,ab,ab,by rw[hst,hm];rfl,rfl⟩
     ·have hm:gU w n s o mm=(bR (bR o ⟨3,n,0,mm⟩) ⟨5,n,0,mm⟩):=by rw[Fp];simp[fY,hd,hb]
      have FF:=gI @jg @kN @fY @hd @hb (bN eN);refine gX (rE o ⟨3,n,0,mm⟩ ab) (rE (bR o ⟨3,n,0,mm⟩) ⟨5,n,0,mm⟩ ab) ?_
      try clear FF
      exact⟨ms.length-(i+1),ab,i+1,ab,ab,by rw[hst,hm];rfl,rfl⟩
    ·by_cases hb:s.dY<w.c.tE
     ·have hm:gU w n s o mm=(bR (bR o ⟨3,n,0,mm⟩) ⟨6,n,0,mm⟩):=by rw[Fp];simp[fY,hd,hb]
      have FF:=gI @jg @kN @fY @hd @hb (bN eN);refine gX (rE o ⟨3,n,0,mm⟩ ab) (rE (bR o ⟨3,n,0,mm⟩) ⟨6,n,0,mm⟩ ab) ?_
      try clear FF
      exact⟨ms.length-(i+1),ab,i+1,ab,ab,by rw[hst,hm];rfl,rfl⟩
     ·have hm:gU w n s o mm=(bR o ⟨3,n,0,mm⟩):=by rw[Fp];simp[fY,hd,hb]
      have FF:=gI @jg @kN @fY @hd @hb (bN eN);refine bJ (rE o ⟨3,n,0,mm⟩ ab) ?_
      try clear FF
      exact⟨ms.length-(i+1),ab,i+1,ab,ab,by rw[hst,hm];rfl,rfl⟩
   obtain rfl:i=ms.length:=ab;rw[fK];have xu:=aD.Md (f:=gU w n s) (m:=3) (fun o x=>aD.Us w n s o x) ms out;generalize ms.foldl (gU w n s) out=o2 at nM xu⊢;have ug:o2.length<=999990:=ab;have azP:=aD.akb w n s o2;have c40:=ajz s;have nN:(s.waiting<0/\0<=nx)\/(s.waiting<0/\¬0<=nx)\/¬s.waiting<0:=ab
   rcases nN with hw|hw|hw
   case' inl=>
    obtain⟨py,jo⟩:=hw
    have e3:pP w n s o2=bR o2 ⟨2,n,nx,⟨0,0,0,0,0⟩⟩:=by unfold pP;rw[akL,aq ⟨fY,py,jo⟩];rfl
    have FF:=gI @jg @fY @py @jo @iM @jX;refine bJ (rE o2 ⟨2,n,nx,⟨0,0,0,0,0⟩⟩ ab) ?_
    try clear FF
    rw[<-e3];clear py jo
   case' inr.inl=>
    obtain⟨py,jo⟩:=hw
    have e3:pP w n s o2=o2:=by unfold pP;rw[akL,af (fun hh=>jo hh.2.2)]
    have FF:=gI @jg @fY @py @jo @iM @jX
    try refine aF ?_
    try clear FF
    rw[show evs o2=evs (pP w n s o2) by rw[e3]];clear py jo
   case' inr.inr=>
    have e3:pP w n s o2=o2:=by unfold pP;rw[af (fun hh=>hw hh.2.1)]
    have FF:=jB @jg @fY @hw
    try refine aF ?_
    try clear FF
    rw[show evs o2=evs (pP w n s o2) by rw[e3]];clear hw
   all_goals
    clear e3;generalize pP w n s o2=o3 at azP nM⊢
    have e4:CU n s o3=s.timers.foldl (fun o t=>bR o ⟨4,n,t,⟨0,0,0,0,0⟩⟩) o3:=by unfold CU;rw[aq fY];rfl
    rw[e4] at nM;refine dv (fun m V S=>∃i:Nat,i<=s.timers.length/\m=s.timers.length-i/\V=[(0,.w (.agg (im w))),(1,.pb 1 1 0),(2,.w (.c (.sl []))),(3,.w (.c (evs ((s.timers.take i).foldl (fun o t=>bR o ⟨4,n,t,⟨0,0,0,0,0⟩⟩) o3)))),(4,.w (.c (iA n))),(5,.pb 5 (s5.gen+1) 0),(6,x6),(7,x7),(8,.w (.c (msgs ms))),(9,.w (.c (iA ms.length))),(10,.w (.c (iA i)))]/\S=[(1,.box 1 (im w)),(5,.box (s5.gen+1) (aR s))]) (n:=s.timers.length) ⟨0,ab,ab,rfl,rfl⟩ ?_;rintro m V L S ⟨i,hi,rfl,rfl,rfl⟩;by_cases Jn:i<s.timers.length
    ·have eN:i<=1000000000:=ab
     obtain⟨tt,Mq⟩:∃tt,s.timers[i]=tt:=⟨_,rfl⟩
     have hst:=aD.Po (fun o t=>bR o ⟨4,n,t,⟨0,0,0,0,0⟩⟩) s.timers o3 i Jn;have akM:=aD.Mh (fun t=>⟨4,n,t,⟨0,0,0,0,0⟩⟩) (s.timers.take i) o3;rw[Mq] at hst;rw[dN] at akM;generalize(s.timers.take i).foldl (fun o t=>bR o ⟨4,n,t,⟨0,0,0,0,0⟩⟩) o3=o at hst akM⊢;have FF:=eW @Jn @Mq @fY (bN eN);refine bJ (rE o ⟨4,n,tt,⟨0,0,0,0,0⟩⟩ ab) ?_
     try clear FF
     exact⟨s.timers.length-(i+1),ab,i+1,ab,ab,by rw[hst];rfl,rfl⟩
    obtain rfl:i=s.timers.length:=ab;rw[fK];have azQ:=aD.Mh (fun t=>⟨4,n,t,⟨0,0,0,0,0⟩⟩) s.timers o3;generalize s.timers.foldl (fun o t=>bR o ⟨4,n,t,⟨0,0,0,0,0⟩⟩) o3=o4 at nM azQ⊢
    obtain⟨c4,hc4⟩:∃c4,s.counts.getD 40 0=c4:=⟨_,rfl⟩
    rw[hc4] at c40;by_cases uX:c4<w.c.yr
    ·have e5:Be w n s o4=bR o4 ⟨7,n,0,⟨0,0,0,0,0⟩⟩:=by unfold Be;rw[hc4,aq ⟨fY,uX⟩];rfl
     have FF:=gZ @Jn @fY @c40 @uX (bN qY);refine bJ (rE o4 ⟨7,n,0,⟨0,0,0,0,0⟩⟩ ab) ?_
     try clear FF
     exact⟨w.nodes.length-(n+1),ab,n+1,_,_,_,_,_,_,_,ab,ab,by rw[nM,e5];rfl,rfl⟩
    ·have e5:Be w n s o4=o4:=by unfold Be;rw[hc4,af (fun hh=>uX hh.2)]
     have FF:=gZ @Jn @fY @c40 @uX (bN qY)
     try refine aF ?_
     try clear FF
     exact⟨w.nodes.length-(n+1),ab,n+1,_,_,_,_,_,_,_,ab,ab,by rw[nM,e5];rfl,rfl⟩
  ·have sU:s.up=false:=by simpa using fY
   have uW:=aD.akc hc pR n s
   have e1:xN w n s out=(lY w n s).foldl (fun o v=>bR o ⟨1,n,v,⟨0,0,0,0,0⟩⟩) out:=by unfold xN;rw[af fY];rfl
   have e3:∀o,pP w n s o=o:=fun o=>by unfold pP;rw[af (fun hh=>fY hh.1)]
   have e4:∀o,CU n s o=o:=fun o=>by unfold CU;rw[af fY]
   have e5:∀o,Be w n s o=o:=fun o=>by unfold Be;rw[af (fun hh=>fY hh.1)]
   have e2:∀o,zq w n s o=ms.foldl (gU w n s) o:=fun o=>by unfold zq;rw[abA]
   rw[e1,e5,e4,e3,e2] at nM;have yQ:s.version<0\/(¬s.version<0/\w.c.qy.length=0)\/(¬s.version<0/\¬w.c.qy.length=0):=ab
   rcases yQ with hv|hv|hv
   case' inl=>
    have dz:lY w n s=[fv]:=by unfold lY;rw[aq hv,azO]
    have FF:=gI @hlt @hs @sU @hv @hlf @hfv
    try refine aF ?_
    try clear FF
    rw[show AC.sl [[iA fv]]=ints (lY w n s) by rw[dz];rfl];clear hv
   case' inr.inl=>
    obtain⟨iZ,hr⟩:=hv
    have dz:lY w n s=[s.version]:=by unfold lY;rw[af iZ,aq hr]
    have Ef:w.c.qy=[]:=yh hr;have FF:=gZ @hlt @hs @sU @iZ @hr
    try refine aF ?_
    try clear FF
    rw[show AC.sl [[iA s.version]]=ints (lY w n s) by rw[dz];rfl];clear iZ hr Ef
   case' inr.inr=>
    obtain⟨iZ,hr⟩:=hv
    have dz:lY w n s=w.c.qy:=by unfold lY;rw[af iZ,af hr]
    have Ef:¬w.c.qy=[]:=fun hh=>hr (by rw[hh];rfl)
    have FF:=gI @hlt @hs @sU @iZ @hr @Ef
    try refine aF ?_
    try clear FF
    rw[show(6,AV.w (AW.c (ints w.c.qy)))=(6,AV.w (AW.c (ints (lY w n s)))) by rw[dz]];clear iZ hr Ef
   all_goals
    clear dz;generalize lY w n s=vs at uW nM⊢;refine dv (fun m V S=>∃i:Nat,i<=vs.length/\m=vs.length-i/\V=[(0,.w (.agg (im w))),(1,.pb 1 1 0),(2,.w (.c (.sl []))),(3,.w (.c (evs ((vs.take i).foldl (fun o v=>bR o ⟨1,n,v,⟨0,0,0,0,0⟩⟩) out)))),(4,.w (.c (iA n))),(5,.pb 5 (s5.gen+1) 0),(6,.w (.c (ints vs))),(7,.w (.c (iA i))),(8,x8),(9,x9),(10,x10)]/\S=[(1,.box 1 (im w)),(5,.box (s5.gen+1) (aR s))]) (n:=vs.length) ⟨0,ab,ab,rfl,rfl⟩ ?_;rintro m V L S ⟨i,hi,rfl,rfl,rfl⟩;by_cases hlv:i<vs.length
    ·have eN:i<=1000000000:=ab
     obtain⟨vv,hvv⟩:∃vv,vs[i]=vv:=⟨_,rfl⟩
     have hst:=aD.Po (fun o v=>bR o ⟨1,n,v,⟨0,0,0,0,0⟩⟩) vs out i hlv;have Mr:=aD.Mh (fun v=>⟨1,n,v,⟨0,0,0,0,0⟩⟩) (vs.take i) out;rw[hvv] at hst;rw[dN] at Mr;generalize(vs.take i).foldl (fun o v=>bR o ⟨1,n,v,⟨0,0,0,0,0⟩⟩) out=o at hst Mr⊢;have FF:=jB @hlv @hvv (bN eN);refine bJ (rE o ⟨1,n,vv,⟨0,0,0,0,0⟩⟩ ab) ?_
     try clear FF
     exact⟨vs.length-(i+1),ab,i+1,ab,ab,by rw[hst];rfl,rfl⟩
    obtain rfl:i=vs.length:=ab;rw[fK];have Mr:=aD.Mh (fun v=>⟨1,n,v,⟨0,0,0,0,0⟩⟩) vs out;generalize vs.foldl (fun o v=>bR o ⟨1,n,v,⟨0,0,0,0,0⟩⟩) out=o1 at nM Mr⊢;have FF:=eV @hlv @sU;refine bJ abz ?_
    try clear FF
    refine dv (fun m V S=>∃i:Nat,i<=ms.length/\m=ms.length-i/\V=[(0,.w (.agg (im w))),(1,.pb 1 1 0),(2,.w (.c (.sl []))),(3,.w (.c (evs ((ms.take i).foldl (gU w n s) o1)))),(4,.w (.c (iA n))),(5,.pb 5 (s5.gen+1) 0),(6,.w (.c (ints vs))),(7,.w (.c (iA vs.length))),(8,.w (.c (msgs ms))),(9,.w (.c (iA i))),(10,x10)]/\S=[(1,.box 1 (im w)),(5,.box (s5.gen+1) (aR s))]) (n:=ms.length) ⟨0,ab,ab,rfl,rfl⟩ ?_;rintro m V L S ⟨i,hi,rfl,rfl,rfl⟩;by_cases jg:i<ms.length
    ·have eN:i<=1000000000:=ab
     obtain⟨mm,kN⟩:∃mm,ms[i]=mm:=⟨_,rfl⟩
     have hst:=aD.Po (gU w n s) ms o1 i jg;have xu:=aD.Md (f:=gU w n s) (m:=3) (fun o x=>aD.Us w n s o x) (ms.take i) o1;rw[kN] at hst;rw[dN] at xu;generalize(ms.take i).foldl (gU w n s) o1=o at hst xu⊢;have ho0:o.length<=999990:=ab;have yV:=aD.Pl o ⟨5,n,0,mm⟩;by_cases hd:s.dropped<w.c.qz
     ·by_cases hb:s.dY<w.c.tE
      ·have hm:gU w n s o mm=(bR (bR o ⟨5,n,0,mm⟩) ⟨6,n,0,mm⟩):=by rw[Fp];simp[sU,hd,hb]
       have FF:=gI @jg @kN @sU @hd @hb (bN eN);refine gX (rE o ⟨5,n,0,mm⟩ ab) (rE (bR o ⟨5,n,0,mm⟩) ⟨6,n,0,mm⟩ ab) ?_
       try clear FF
       exact⟨ms.length-(i+1),ab,i+1,ab,ab,by rw[hst,hm];rfl,rfl⟩
      ·have hm:gU w n s o mm=(bR o ⟨5,n,0,mm⟩):=by rw[Fp];simp[sU,hd,hb]
       have FF:=gI @jg @kN @sU @hd @hb (bN eN);refine bJ (rE o ⟨5,n,0,mm⟩ ab) ?_
       try clear FF
       exact⟨ms.length-(i+1),ab,i+1,ab,ab,by rw[hst,hm];rfl,rfl⟩
     ·by_cases hb:s.dY<w.c.tE
      ·have hm:gU w n s o mm=(bR o ⟨6,n,0,mm⟩):=by rw[Fp];simp[sU,hd,hb]
       have FF:=gI @jg @kN @sU @hd @hb (bN eN);refine bJ (rE o ⟨6,n,0,mm⟩ ab) ?_
       try clear FF
       exact⟨ms.length-(i+1),ab,i+1,ab,ab,by rw[hst,hm];rfl,rfl⟩
      ·have hm:gU w n s o mm=o:=by rw[Fp];simp[sU,hd,hb]
       have FF:=gI @jg @kN @sU @hd @hb (bN eN)
       try refine aF ?_
       try clear FF
       exact⟨ms.length-(i+1),ab,i+1,ab,ab,by rw[hst,hm];rfl,rfl⟩
    obtain rfl:i=ms.length:=ab;rw[fK];generalize ms.foldl (gU w n s) o1=o2 at nM⊢;have FF:=eV @jg @sU
    try refine aF ?_
    try clear FF
    refine dv (fun m V S=>m=0/\V=[(0,.w (.agg (im w))),(1,.pb 1 1 0),(2,.w (.c (.sl []))),(3,.w (.c (evs o2))),(4,.w (.c (iA n))),(5,.pb 5 (s5.gen+1) 0),(6,.w (.c (ints vs))),(7,.w (.c (iA vs.length))),(8,.w (.c (msgs ms))),(9,.w (.c (iA ms.length))),(10,.w (.c (iA 0)))]/\S=[(1,.box 1 (im w)),(5,.box (s5.gen+1) (aR s))]) (n:=0) ⟨rfl,rfl,rfl⟩ ?_;rintro m V L S ⟨rfl,rfl,rfl⟩;by_cases Jn:0<s.timers.length
    ·have FF:=jB @Jn @sU (bN qY)
     try refine aF ?_
     try clear FF
     exact⟨w.nodes.length-(n+1),ab,n+1,_,_,_,_,_,_,_,ab,ab,by rw[nM];rfl,rfl⟩
    ·have Fc:s.timers=[]:=yh ab;have FF:=eW @Jn @Fc @sU (bN qY)
     try refine aF ?_
     try clear FF
     exact⟨w.nodes.length-(n+1),ab,n+1,_,_,_,_,_,_,_,ab,ab,by rw[nM];rfl,rfl⟩
 ·have hne:n=w.nodes.length:=ab;have FF:=@hlt
  try refine aF ?_
  try clear FF
  refine zE ?_;exact(by rw[hne,fK];rfl)
theorem azR(hc:iO c)(hk:k<=30)(h:eK c k j w)(e:Ev)(he:e∈enabled w):aU Tryz.prog 119 [.agg (im w),.agg (gG e)] (fun x=>x=.w (.c (bA true))):=by
 have hlen:(enabled w).length<=1000000:=by
  have h1:=aD.abh hc h.cfg w.nodes 0 [] (fun s hs=>(h.node s hs).vE)
  have h2:w.nodes.length<=12:=by rw[h.nodes];exact hc.CP.2
  have cM:w.bE.length<=15030:=by have:=h.vW;omega
  have h3:w.nodes.length*(3*w.bE.length+74)<=12*(3*15030+74):=nR h2 ab;simp only[List.length_nil] at h1
  show(sg w 0 [] w.nodes).length<=_
  omega
 have hE:=akJ hc hk h
 obtain⟨l,hl⟩:∃l,enabled w=l:=⟨_,rfl⟩
 rw[hl] at hE hlen he;refine cC Tryz.func119 aN [tz 5 5] [.t 4] [2,3,4,5,6] [2,3] ?_;have FF:=trivial;refine bJ hE ?_
 try clear FF
 refine dv (fun n V S=>∃k:Nat,k<=l.length/\n=l.length-k/\(∀j (hj:j<l.length),j<k->l[j]≠e)/\
  V=[(0,.w (.agg (im w))),(1,.w (.agg (gG e))),(2,.pb 2 1 0),(3,.pb 3 1 0),(4,.w (.c (bA false))),(5,.w (.c (evs l))),(6,.w (.c (iA k)))]/\S=[(2,.box 1 (im w)),(3,.box 1 (gG e))]) (n:=l.length) ⟨0,ab,ab,fun j _ h=>ab,rfl,rfl⟩ ?_
 rintro n V L S ⟨k,hk,rfl,hj,rfl,rfl⟩;by_cases hlt:k<l.length
 ·have cD:k<=1000000000:=ab
  obtain⟨x,hx⟩:∃x,l[k]=x:=⟨_,rfl⟩
  by_cases lL:x=e
  ·subst lL;have FF:=eV @hlt @hx
   try refine aF ?_
   try clear FF
   refine zE ?_;exact(rfl)
  ·have hne:=aki lL;have FF:=eW @hlt @hx @hne (bN cD)
   try refine aF ?_
   try clear FF
   exact⟨l.length-(k+1),ab,k+1,ab,ab,fun j dJ ib=>by
    by_cases iL:j=k
    ·subst iL;rw[hx];exact lL
    ·exact hj j dJ ab,rfl,rfl⟩
 ·exfalso;obtain⟨j,dJ,iL⟩:=FZ.1 he;exact hj j dJ ab iL
end Ab
end Go.Proofs.YtkanpepkdcmpmaaGreatDoor
