import Derived.Test.YtngblilamkkikaaGreatDoorW12
set_option maxHeartbeats 40000000
set_option maxRecDepth 100000
set_option linter.all false
namespace Go.Proofs.YtngblilamkkikaaGreatDoor
namespace Ab
open Go Go.RowKit
attribute [local irreducible] aL bm aU
open aD (et pk Ob om bE Env aT Rr gW dX bJ ib fV Aq qI enabled vF xl oJ Ba zg lT lq)
variable {c:et} {j k:Nat} {w:bE}
theorem Dw(w:bE)(n:Nat)(s:aD.Node)(o:List Ev)(m:bQ):fV w n s o m=(if s.dJ<w.c.rW then bJ (if s.dropped<w.c.pq then bJ (if s.up then bJ o ⟨3,n,0,m⟩ else o) ⟨5,n,0,m⟩ else(if s.up then bJ o ⟨3,n,0,m⟩ else o)) ⟨6,n,0,m⟩ else(if s.dropped<w.c.pq then bJ (if s.up then bJ o ⟨3,n,0,m⟩ else o) ⟨5,n,0,m⟩ else(if s.up then bJ o ⟨3,n,0,m⟩ else o))):=rfl
theorem agY(hc:gW c)(hk:k<=30)(h:dX c k j w):bu Tryz.prog 36 [.agg (gF w)] (fun x=>x=.w (.c (evs (enabled w)))):=by
 have aDr:=hc.AU;have jP:=h.nodes;have tu:=h.next
 have cH:w.bD.length<=15030:=by have:=h.tW;omega
 have agZ:∀s∈w.nodes,s.timers.length<=8:=fun s hs=>(h.node s hs).tV
 have mf:=h.node;have oL:=h.cfg
 have aDs:w.c.first.length=w.nodes.length:=by rw[oL,jP]
 have hE:∀n,(qI w 0 [] (w.nodes.take n)).length<=12*(3*15030+74):=fun n=>by
  have h1:=aD.XV hc oL (w.nodes.take n) 0 [] (fun s hs=>agZ s (uH hs))
  have h2:(w.nodes.take n).length<=12:=by rw[dS];omega
  have h3:(w.nodes.take n).length*(3*w.bD.length+74)<=12*(3*15030+74):=oY h2 ab;simp only[List.length_nil] at h1;omega
 refine cD Tryz.func36 aN [] [.t 2] [1,2,3,4,5,6,7,8,9,10] [1,5] ?_;have FF:=trivial
 try refine aJ ?_
 try clear FF
 refine dB (fun m V S=>∃(n:Nat) (s5:Slot) (x5 x6 x7 x8 x9 x10:AV),n<=w.nodes.length/\m=w.nodes.length-n/\
  V=[(0,.w (.agg (gF w))),(1,.pb 1 1 0),(2,.w (.c (.sl []))),(3,.w (.c (evs (qI w 0 [] (w.nodes.take n))))),(4,.w (.c (iA n))),(5,x5),(6,x6),(7,x7),(8,x8),(9,x9),(10,x10)]/\
  S=[(1,.box 1 (gF w)),(5,s5)]) (n:=w.nodes.length) ⟨0,.dead 0,.u,.u,.u,.u,.u,.u,ab,ab,rfl,rfl⟩ ?_
 rintro m V L S ⟨n,s5,x5,x6,x7,x8,x9,x10,hn,rfl,rfl,rfl⟩;by_cases hlt:n<w.nodes.length
 ·have pO:n<=1000000000:=ab;have jq:n<w.next.length:=ab;have hlf:n<w.c.first.length:=ab;have FU:=hE n;have pR:=aD.agt w w.nodes 0 n [] hlt;generalize qI w 0 [] (w.nodes.take n)=out at FU pR⊢
  obtain⟨s,hs⟩:∃s,w.nodes[n]=s:=⟨_,rfl⟩
  have hsm:s∈w.nodes:=hs▸cA hlt;have ht8:=agZ s hsm;have np:=(mf s hsm).nc;rw[hs,eM] at pR
  obtain⟨nx,ju⟩:∃nx,w.next[n]=nx:=⟨_,rfl⟩
  have aha:w.next.getD n 0=nx:=by rw[ff,cy jq,ju];rfl
  obtain⟨fv,hfv⟩:∃fv,w.c.first[n]=fv:=⟨_,rfl⟩
  have auc:w.c.first.getD n 0=fv:=by rw[ff,cy hlf,hfv];rfl
  have hto:(ib w.bD n).length<=15030:=by
   have:(ib w.bD n).length<=w.bD.length:=by unfold ib;rw[dy];exact nb _ _
   omega
  have hms:(ib w.bD n).length<=15030:=hto;have Yt:=arM w.bD n ab
  obtain⟨ms,Yu⟩:∃ms,ib w.bD n=ms:=⟨_,rfl⟩
  rw[Yu] at hms Yt;rw[aD.agq] at pR;by_cases ft:s.up=true
  ·have e1:vF w n s out=out:=by unfold vF;rw[aj ft]
   have e2:xl w n s out=ms.foldl (fV w n s) out:=by unfold xl;rw[Yu]
   rw[e1,e2] at pR;have FF:=na @hlt @hs @ft;refine bU Yt ?_
   try clear FF
   refine dB (fun m V S=>∃i:Nat,i<=ms.length/\m=ms.length-i/\V=[(0,.w (.agg (gF w))),(1,.pb 1 1 0),(2,.w (.c (.sl []))),(3,.w (.c (evs ((ms.take i).foldl (fV w n s) out)))),(4,.w (.c (iA n))),(5,.pb 5 (s5.gen+1) 0),(6,x6),(7,x7),(8,.w (.c (msgs ms))),(9,.w (.c (iA i))),(10,x10)]/\S=[(1,.box 1 (gF w)),(5,.box (s5.gen+1) (aS s))]) (n:=ms.length) ⟨0,ab,ab,rfl,rfl⟩ ?_;rintro m V L S ⟨i,hi,rfl,rfl,rfl⟩;by_cases mM:i<ms.length
   ·have eE:i<=1000000000:=ab
    obtain⟨mm,mu⟩:∃mm,ms[i]=mm:=⟨_,rfl⟩
    have hst:=aD.MU (fV w n s) ms out i mM;have vB:=aD.JI (f:=fV w n s) (m:=3) (fun o x=>aD.RI w n s o x) (ms.take i) out;rw[mu] at hst;rw[dS] at vB;generalize(ms.take i).foldl (fV w n s) out=o at hst vB⊢;have ho0:o.length<=999990:=ab;have pS:=aD.MQ o ⟨3,n,0,mm⟩;have xp:=aD.MQ (bJ o ⟨3,n,0,mm⟩) ⟨5,n,0,mm⟩;by_cases hd:s.dropped<w.c.pq
    ·by_cases hb:s.dJ<w.c.rW
     ·have hm:fV w n s o mm=(bJ (bJ (bJ o ⟨3,n,0,mm⟩) ⟨5,n,0,mm⟩) ⟨6,n,0,mm⟩):=by rw[Dw];simp[ft,hd,hb]
      have FF:=gA @mM @mu @ft @hd @hb (bT eE);refine FA (pQ o ⟨3,n,0,mm⟩ ab) (pQ (bJ o ⟨3,n,0,mm⟩) ⟨5,n,0,mm⟩ ab) (pQ (bJ (bJ o ⟨3,n,0,mm⟩) ⟨5,n,0,mm⟩) ⟨6,n,0,mm⟩ ab) ?_
      try clear FF
      exact⟨ms.length-(i+1),ab,i+1,ab,ab,by rw[hst,hm];rfl,rfl⟩
     ·have hm:fV w n s o mm=(bJ (bJ o ⟨3,n,0,mm⟩) ⟨5,n,0,mm⟩):=by rw[Dw];simp[ft,hd,hb]
      have FF:=gA @mM @mu @ft @hd @hb (bT eE);refine oE (pQ o ⟨3,n,0,mm⟩ ab) (pQ (bJ o ⟨3,n,0,mm⟩) ⟨5,n,0,mm⟩ ab) ?_
      try clear FF
      exact⟨ms.length-(i+1),ab,i+1,ab,ab,by rw[hst,hm];rfl,rfl⟩
    ·by_cases hb:s.dJ<w.c.rW
     ·have hm:fV w n s o mm=(bJ (bJ o ⟨3,n,0,mm⟩) ⟨6,n,0,mm⟩):=by rw[Dw];simp[ft,hd,hb]
      have FF:=gA @mM @mu @ft @hd @hb (bT eE);refine oE (pQ o ⟨3,n,0,mm⟩ ab) (pQ (bJ o ⟨3,n,0,mm⟩) ⟨6,n,0,mm⟩ ab) ?_
      try clear FF
      exact⟨ms.length-(i+1),ab,i+1,ab,ab,by rw[hst,hm];rfl,rfl⟩
     ·have hm:fV w n s o mm=(bJ o ⟨3,n,0,mm⟩):=by rw[Dw];simp[ft,hd,hb]
      have FF:=gA @mM @mu @ft @hd @hb (bT eE);refine bU (pQ o ⟨3,n,0,mm⟩ ab) ?_
      try clear FF
      exact⟨ms.length-(i+1),ab,i+1,ab,ab,by rw[hst,hm];rfl,rfl⟩
   obtain rfl:i=ms.length:=ab;rw[fx];have vB:=aD.JI (f:=fV w n s) (m:=3) (fun o x=>aD.RI w n s o x) ms out;generalize ms.foldl (fV w n s) out=o2 at pR vB⊢;have Be:o2.length<=999990:=ab;have aud:=aD.agr w n s o2;have c40:=afF s;have ri:(s.waiting<0/\0<=nx)\/(s.waiting<0/\¬0<=nx)\/¬s.waiting<0:=ab
   rcases ri with hw|hw|hw
   case' inl=>
    obtain⟨ou,iF⟩:=hw
    have e3:oJ w n s o2=bJ o2 ⟨2,n,nx,⟨0,0,0,0,0⟩⟩:=by unfold oJ;rw[aha,aj ⟨ft,ou,iF⟩];rfl
    have FF:=gA @mM @ft @ou @iF @jq @ju;refine bU (pQ o2 ⟨2,n,nx,⟨0,0,0,0,0⟩⟩ ab) ?_
    try clear FF
    rw[<-e3];clear ou iF
   case' inr.inl=>
    obtain⟨ou,iF⟩:=hw
    have e3:oJ w n s o2=o2:=by unfold oJ;rw[aha,af (fun hh=>iF hh.2.2)]
    have FF:=gA @mM @ft @ou @iF @jq @ju
    try refine aJ ?_
    try clear FF
    rw[show evs o2=evs (oJ w n s o2) by rw[e3]];clear ou iF
   case' inr.inr=>
    have e3:oJ w n s o2=o2:=by unfold oJ;rw[af (fun hh=>hw hh.2.1)]
    have FF:=na @mM @ft @hw
    try refine aJ ?_
    try clear FF
    rw[show evs o2=evs (oJ w n s o2) by rw[e3]];clear hw
   all_goals
    clear e3;generalize oJ w n s o2=o3 at aud pR⊢
    have e4:Ba n s o3=s.timers.foldl (fun o t=>bJ o ⟨4,n,t,⟨0,0,0,0,0⟩⟩) o3:=by unfold Ba;rw[aj ft];rfl
    rw[e4] at pR;refine dB (fun m V S=>∃i:Nat,i<=s.timers.length/\m=s.timers.length-i/\V=[(0,.w (.agg (gF w))),(1,.pb 1 1 0),(2,.w (.c (.sl []))),(3,.w (.c (evs ((s.timers.take i).foldl (fun o t=>bJ o ⟨4,n,t,⟨0,0,0,0,0⟩⟩) o3)))),(4,.w (.c (iA n))),(5,.pb 5 (s5.gen+1) 0),(6,x6),(7,x7),(8,.w (.c (msgs ms))),(9,.w (.c (iA ms.length))),(10,.w (.c (iA i)))]/\S=[(1,.box 1 (gF w)),(5,.box (s5.gen+1) (aS s))]) (n:=s.timers.length) ⟨0,ab,ab,rfl,rfl⟩ ?_;rintro m V L S ⟨i,hi,rfl,rfl,rfl⟩;by_cases Ga:i<s.timers.length
    ·have eE:i<=1000000000:=ab
     obtain⟨tt,JU⟩:∃tt,s.timers[i]=tt:=⟨_,rfl⟩
     have hst:=aD.MU (fun o t=>bJ o ⟨4,n,t,⟨0,0,0,0,0⟩⟩) s.timers o3 i Ga;have ahb:=aD.JL (fun t=>⟨4,n,t,⟨0,0,0,0,0⟩⟩) (s.timers.take i) o3;rw[JU] at hst;rw[dS] at ahb;generalize(s.timers.take i).foldl (fun o t=>bJ o ⟨4,n,t,⟨0,0,0,0,0⟩⟩) o3=o at hst ahb⊢;have FF:=fT @Ga @JU @ft (bT eE);refine bU (pQ o ⟨4,n,tt,⟨0,0,0,0,0⟩⟩ ab) ?_
     try clear FF
     exact⟨s.timers.length-(i+1),ab,i+1,ab,ab,by rw[hst];rfl,rfl⟩
    obtain rfl:i=s.timers.length:=ab;rw[fx];have aue:=aD.JL (fun t=>⟨4,n,t,⟨0,0,0,0,0⟩⟩) s.timers o3;generalize s.timers.foldl (fun o t=>bJ o ⟨4,n,t,⟨0,0,0,0,0⟩⟩) o3=o4 at pR aue⊢
    obtain⟨c4,RU⟩:∃c4,s.counts.getD 40 0=c4:=⟨_,rfl⟩
    rw[RU] at c40;by_cases tB:c4<w.c.wF
    ·have e5:zg w n s o4=bJ o4 ⟨7,n,0,⟨0,0,0,0,0⟩⟩:=by unfold zg;rw[RU,aj ⟨ft,tB⟩];rfl
     have FF:=jT @Ga @ft @c40 @tB (bT pO);refine bU (pQ o4 ⟨7,n,0,⟨0,0,0,0,0⟩⟩ ab) ?_
     try clear FF
     exact⟨w.nodes.length-(n+1),ab,n+1,_,_,_,_,_,_,_,ab,ab,by rw[pR,e5];rfl,rfl⟩
    ·have e5:zg w n s o4=o4:=by unfold zg;rw[RU,af (fun hh=>tB hh.2)]
     have FF:=jT @Ga @ft @c40 @tB (bT pO)
     try refine aJ ?_
     try clear FF
     exact⟨w.nodes.length-(n+1),ab,n+1,_,_,_,_,_,_,_,ab,ab,by rw[pR,e5];rfl,rfl⟩
  ·have rj:s.up=false:=by simpa using ft
   have tA:=aD.ags hc oL n s
   have e1:vF w n s out=(lq w n s).foldl (fun o v=>bJ o ⟨1,n,v,⟨0,0,0,0,0⟩⟩) out:=by unfold vF;rw[af ft];rfl
   have e3:∀o,oJ w n s o=o:=fun o=>by unfold oJ;rw[af (fun hh=>ft hh.1)]
   have e4:∀o,Ba n s o=o:=fun o=>by unfold Ba;rw[af ft]
   have e5:∀o,zg w n s o=o:=fun o=>by unfold zg;rw[af (fun hh=>ft hh.1)]
   have e2:∀o,xl w n s o=ms.foldl (fV w n s) o:=fun o=>by unfold xl;rw[Yu]
   rw[e1,e5,e4,e3,e2] at pR;have xh:s.version<0\/(¬s.version<0/\w.c.po.length=0)\/(¬s.version<0/\¬w.c.po.length=0):=ab
   rcases xh with hv|hv|hv
   case' inl=>
    have jI:lq w n s=[fv]:=by unfold lq;rw[aj hv,auc]
    have FF:=gA @hlt @hs @rj @hv @hlf @hfv
    try refine aJ ?_
    try clear FF
    rw[show AC.sl [[iA fv]]=ints (lq w n s) by rw[jI];rfl];clear hv
   case' inr.inl=>
    obtain⟨iO,hr⟩:=hv
    have jI:lq w n s=[s.version]:=by unfold lq;rw[af iO,aj hr]
    have CJ:w.c.po=[]:=ya hr;have FF:=jT @hlt @hs @rj @iO @hr
    try refine aJ ?_
    try clear FF
    rw[show AC.sl [[iA s.version]]=ints (lq w n s) by rw[jI];rfl];clear iO hr CJ
   case' inr.inr=>
    obtain⟨iO,hr⟩:=hv
    have jI:lq w n s=w.c.po:=by unfold lq;rw[af iO,af hr]
    have CJ:¬w.c.po=[]:=fun hh=>hr (by rw[hh];rfl)
    have FF:=gA @hlt @hs @rj @iO @hr @CJ
    try refine aJ ?_
    try clear FF
    rw[show(6,AV.w (AW.c (ints w.c.po)))=(6,AV.w (AW.c (ints (lq w n s)))) by rw[jI]];clear iO hr CJ
   all_goals
    clear jI;generalize lq w n s=vs at tA pR⊢;refine dB (fun m V S=>∃i:Nat,i<=vs.length/\m=vs.length-i/\V=[(0,.w (.agg (gF w))),(1,.pb 1 1 0),(2,.w (.c (.sl []))),(3,.w (.c (evs ((vs.take i).foldl (fun o v=>bJ o ⟨1,n,v,⟨0,0,0,0,0⟩⟩) out)))),(4,.w (.c (iA n))),(5,.pb 5 (s5.gen+1) 0),(6,.w (.c (ints vs))),(7,.w (.c (iA i))),(8,x8),(9,x9),(10,x10)]/\S=[(1,.box 1 (gF w)),(5,.box (s5.gen+1) (aS s))]) (n:=vs.length) ⟨0,ab,ab,rfl,rfl⟩ ?_;rintro m V L S ⟨i,hi,rfl,rfl,rfl⟩;by_cases Yv:i<vs.length
    ·have eE:i<=1000000000:=ab
     obtain⟨vv,hvv⟩:∃vv,vs[i]=vv:=⟨_,rfl⟩
     have hst:=aD.MU (fun o v=>bJ o ⟨1,n,v,⟨0,0,0,0,0⟩⟩) vs out i Yv;have JV:=aD.JL (fun v=>⟨1,n,v,⟨0,0,0,0,0⟩⟩) (vs.take i) out;rw[hvv] at hst;rw[dS] at JV;generalize(vs.take i).foldl (fun o v=>bJ o ⟨1,n,v,⟨0,0,0,0,0⟩⟩) out=o at hst JV⊢;have FF:=na @Yv @hvv (bT eE);refine bU (pQ o ⟨1,n,vv,⟨0,0,0,0,0⟩⟩ ab) ?_
     try clear FF
     exact⟨vs.length-(i+1),ab,i+1,ab,ab,by rw[hst];rfl,rfl⟩
    obtain rfl:i=vs.length:=ab;rw[fx];have JV:=aD.JL (fun v=>⟨1,n,v,⟨0,0,0,0,0⟩⟩) vs out;generalize vs.foldl (fun o v=>bJ o ⟨1,n,v,⟨0,0,0,0,0⟩⟩) out=o1 at pR JV⊢;have FF:=lI @Yv @rj;refine bU Yt ?_
    try clear FF
    refine dB (fun m V S=>∃i:Nat,i<=ms.length/\m=ms.length-i/\V=[(0,.w (.agg (gF w))),(1,.pb 1 1 0),(2,.w (.c (.sl []))),(3,.w (.c (evs ((ms.take i).foldl (fV w n s) o1)))),(4,.w (.c (iA n))),(5,.pb 5 (s5.gen+1) 0),(6,.w (.c (ints vs))),(7,.w (.c (iA vs.length))),(8,.w (.c (msgs ms))),(9,.w (.c (iA i))),(10,x10)]/\S=[(1,.box 1 (gF w)),(5,.box (s5.gen+1) (aS s))]) (n:=ms.length) ⟨0,ab,ab,rfl,rfl⟩ ?_;rintro m V L S ⟨i,hi,rfl,rfl,rfl⟩;by_cases mM:i<ms.length
    ·have eE:i<=1000000000:=ab
     obtain⟨mm,mu⟩:∃mm,ms[i]=mm:=⟨_,rfl⟩
     have hst:=aD.MU (fV w n s) ms o1 i mM;have vB:=aD.JI (f:=fV w n s) (m:=3) (fun o x=>aD.RI w n s o x) (ms.take i) o1;rw[mu] at hst;rw[dS] at vB;generalize(ms.take i).foldl (fV w n s) o1=o at hst vB⊢;have ho0:o.length<=999990:=ab;have xp:=aD.MQ o ⟨5,n,0,mm⟩;by_cases hd:s.dropped<w.c.pq
     ·by_cases hb:s.dJ<w.c.rW
      ·have hm:fV w n s o mm=(bJ (bJ o ⟨5,n,0,mm⟩) ⟨6,n,0,mm⟩):=by rw[Dw];simp[rj,hd,hb]
       have FF:=gA @mM @mu @rj @hd @hb (bT eE);refine oE (pQ o ⟨5,n,0,mm⟩ ab) (pQ (bJ o ⟨5,n,0,mm⟩) ⟨6,n,0,mm⟩ ab) ?_
       try clear FF
       exact⟨ms.length-(i+1),ab,i+1,ab,ab,by rw[hst,hm];rfl,rfl⟩
      ·have hm:fV w n s o mm=(bJ o ⟨5,n,0,mm⟩):=by rw[Dw];simp[rj,hd,hb]
       have FF:=gA @mM @mu @rj @hd @hb (bT eE);refine bU (pQ o ⟨5,n,0,mm⟩ ab) ?_
       try clear FF
       exact⟨ms.length-(i+1),ab,i+1,ab,ab,by rw[hst,hm];rfl,rfl⟩
     ·by_cases hb:s.dJ<w.c.rW
      ·have hm:fV w n s o mm=(bJ o ⟨6,n,0,mm⟩):=by rw[Dw];simp[rj,hd,hb]
       have FF:=gA @mM @mu @rj @hd @hb (bT eE);refine bU (pQ o ⟨6,n,0,mm⟩ ab) ?_
       try clear FF
       exact⟨ms.length-(i+1),ab,i+1,ab,ab,by rw[hst,hm];rfl,rfl⟩
      ·have hm:fV w n s o mm=o:=by rw[Dw];simp[rj,hd,hb]
       have FF:=gA @mM @mu @rj @hd @hb (bT eE)
       try refine aJ ?_
       try clear FF
       exact⟨ms.length-(i+1),ab,i+1,ab,ab,by rw[hst,hm];rfl,rfl⟩
    obtain rfl:i=ms.length:=ab;rw[fx];generalize ms.foldl (fV w n s) o1=o2 at pR⊢;have FF:=lI @mM @rj
    try refine aJ ?_
    try clear FF
    refine dB (fun m V S=>m=0/\V=[(0,.w (.agg (gF w))),(1,.pb 1 1 0),(2,.w (.c (.sl []))),(3,.w (.c (evs o2))),(4,.w (.c (iA n))),(5,.pb 5 (s5.gen+1) 0),(6,.w (.c (ints vs))),(7,.w (.c (iA vs.length))),(8,.w (.c (msgs ms))),(9,.w (.c (iA ms.length))),(10,.w (.c (iA 0)))]/\S=[(1,.box 1 (gF w)),(5,.box (s5.gen+1) (aS s))]) (n:=0) ⟨rfl,rfl,rfl⟩ ?_;rintro m V L S ⟨rfl,rfl,rfl⟩;by_cases Ga:0<s.timers.length
    ·have FF:=na @Ga @rj (bT pO)
     try refine aJ ?_
     try clear FF
     exact⟨w.nodes.length-(n+1),ab,n+1,_,_,_,_,_,_,_,ab,ab,by rw[pR];rfl,rfl⟩
    ·have tY:s.timers=[]:=ya ab;have FF:=fT @Ga @tY @rj (bT pO)
     try refine aJ ?_
     try clear FF
     exact⟨w.nodes.length-(n+1),ab,n+1,_,_,_,_,_,_,_,ab,ab,by rw[pR];rfl,rfl⟩
 ·have hne:n=w.nodes.length:=ab;have FF:=@hlt
  try refine aJ ?_
  try clear FF
  refine zE ?_;exact(by rw[hne,fx];rfl)
theorem auf(hc:gW c)(hk:k<=30)(h:dX c k j w)(e:Ev)(he:e∈enabled w):bu Tryz.prog 87 [.agg (gF w),.agg (kR e)] (fun x=>x=.w (.c (bA true))):=by
 have hlen:(enabled w).length<=1000000:=by
  have h1:=aD.XV hc h.cfg w.nodes 0 [] (fun s hs=>(h.node s hs).tV)
  have h2:w.nodes.length<=12:=by rw[h.nodes];exact hc.AU.2
  have cH:w.bD.length<=15030:=by have:=h.tW;omega
  have h3:w.nodes.length*(3*w.bD.length+74)<=12*(3*15030+74):=oY h2 ab;simp only[List.length_nil] at h1
  show(qI w 0 [] w.nodes).length<=_
  omega
 have hE:=agY hc hk h
 obtain⟨l,hl⟩:∃l,enabled w=l:=⟨_,rfl⟩
 rw[hl] at hE hlen he;refine cD Tryz.func87 aN [tz 5 5] [.t 4] [2,3,4,5,6] [2,3] ?_;have FF:=trivial;refine bU hE ?_
 try clear FF
 refine dB (fun n V S=>∃k:Nat,k<=l.length/\n=l.length-k/\(∀j (hj:j<l.length),j<k->l[j]≠e)/\
  V=[(0,.w (.agg (gF w))),(1,.w (.agg (kR e))),(2,.pb 2 1 0),(3,.pb 3 1 0),(4,.w (.c (bA false))),(5,.w (.c (evs l))),(6,.w (.c (iA k)))]/\S=[(2,.box 1 (gF w)),(3,.box 1 (kR e))]) (n:=l.length) ⟨0,ab,ab,fun j _ h=>ab,rfl,rfl⟩ ?_
 rintro n V L S ⟨k,hk,rfl,hj,rfl,rfl⟩;by_cases hlt:k<l.length
 ·have cL:k<=1000000000:=ab
  obtain⟨x,hx⟩:∃x,l[k]=x:=⟨_,rfl⟩
  by_cases mL:x=e
  ·subst mL;have FF:=lI @hlt @hx
   try refine aJ ?_
   try clear FF
   refine zE ?_;exact(rfl)
  ·have hne:=agv mL;have FF:=fT @hlt @hx @hne (bT cL)
   try refine aJ ?_
   try clear FF
   exact⟨l.length-(k+1),ab,k+1,ab,ab,fun j dV iC=>by
    by_cases gV:j=k
    ·subst gV;rw[hx];exact mL
    ·exact hj j dV ab,rfl,rfl⟩
 ·exfalso;obtain⟨j,dV,gV⟩:=EI.1 he;exact hj j dV ab gV
end Ab
end Go.Proofs.YtngblilamkkikaaGreatDoor
