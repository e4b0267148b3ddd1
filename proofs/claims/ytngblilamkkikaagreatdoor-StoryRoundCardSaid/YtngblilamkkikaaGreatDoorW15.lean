import Derived.Test.YtngblilamkkikaaGreatDoorW12
import Derived.Test.YtngblilamkkikaaGreatDoorW13
set_option maxHeartbeats 40000000
set_option maxRecDepth 100000
set_option linter.all false
namespace Go.Proofs.YtngblilamkkikaaGreatDoor
namespace Ab
open Go Go.RowKit
open aD (et pk Ob om bE Env aT Rr)
abbrev rX (r:Rr):List AC:=rC r.s (asks r.asks) (jr r.sent) r.qE r.value (ints r.bB) r.fy (xm r.out) (ints r.covered)
abbrev wX (w:bE)(g1 g2 g3 g4:Nat):List AC:=wO w.c (jr w.bD) (aX w.aX) (eU w.covered) w.steps g1 g2 g3 g4
abbrev wT (w:bE)(g1 g2 g3 g4:Nat):List (Nat×Slot):=asE w.nodes w.next w.bB w.traces g1 g2 g3 g4
theorem zi (r:Rr):(rX r).length=67:=Rj _ _ _ _ _ _ _ _ _ rfl
theorem agD {D:List Nat}:∀{cs:List AC},cs.all inl=true->cs.all (kL D)=true
 |[],_=>rfl
 |c::cs,h=>by
  simp only[Af,bO] at h;rw[Af,agD h.2,Bool.and_true]
  cases c with
  |own s g=>cases h.1
  |cB s g=>cases h.1
  |part s g i=>cases h.1
  |cls f bP=>cases h.1
  |fc f bP=>rfl
  |v x=>rfl
  |sl es=>rfl
theorem RN (r:Rr):(rX r).all inl=true:=by
 unfold rX;rw[dW];simp
theorem agE (st:St)(r:Rr):st.jo (rX r)=some (rX r):=JE (RN r)
theorem MW (r:Rr):(rX r).take 67=rX r:=lK (by rw[zi];exact cI _)
theorem MX (r:Rr):(rX r).drop 67=[]:=sV (by rw[zi];exact cI _)
theorem agF (r:Rr)(s g:Nat)(es:List (List AC)):(rX r).map (lx s g es)=rX r:=tQ (RN r)
theorem Yc (D:List Nat)(r:Rr):(rX r).all (kL D)=true:=agD (RN r)
end Ab
namespace Ab
open Go Go.RowKit
attribute [local irreducible] aL bm aU
open aD (et pk Ob om bE Env aT Rr vf bJ qJ wG Cv yu yr jF RA RB)
theorem agG (w w':bE)(n:Nat)(g1 g2 g3 g4:Nat)(h:Cv w n=some w')(dp:∀s,w.nodes[n]? =some s->s.aY.cells.length<=1000000/\s.aY.pending.length<=1000000/\s.eO.length<=1000000)(ll:∀t,w.traces[n]? =some t->t.length<=1000000):
  gM Tryz.prog 127 [.w (.agg (wX w g1 g2 g3 g4)),.w (.c (iA n))] (wT w g1 g2 g3 g4)
  (fun x S'=>x=.w (.agg (wX w' g1 g2 g3 g4))/\∀p∈wT w' g1 g2 g3 g4,S' p.1=p.2):=by
 unfold Cv at h;split at h
 case h_2=>cases h
 rename_i s t hs ht;rw[bK] at h;obtain⟨v,hv,rfl⟩:=h;obtain⟨b1,b2,b3⟩:=dp s hs;have aDo:=ll t ht;obtain⟨hn,eF⟩:=bG.1 hs;obtain⟨yW,JO⟩:=bG.1 ht;have cq:t.length<=100000000:=ab;have jY:t.length+1<=100000000:=ab;refine pK Tryz.func127 ⟨0,[5],[],[(1000024,[5])],dc,[],[]⟩ [(2,18,tk 0 9 (tk 10 5 (.move 9 (.move 15 (.move 16 (.move 17 .nil))))),[5])] [.cell 4 16] [2,4,5] [2,4,5] ?_;have FF:=gA @hn @eF @yW @JO @cq @jY;refine bU (afd s v hv b1 b2 b3) ?_
 try clear FF
 refine jL ?_;exact(by simp[dL,List.map_set,vC])
structure agH (w:bE)(n:Nat)(r:Rr):Prop where
 bD:w.bD.length+r.sent.length<=1000000
 aE:w.covered.length+r.covered.length<=1000000
 fail:∀f,w.bB[n]? =some f->f.length+r.bB.length<=1000000
 trace:∀t,w.traces[n]? =some t->t.length<=1000000
 aX:w.aX.length<=1000000
 node:r.s.aY.cells.length<=1000000/\r.s.aY.pending.length<=1000000/\r.s.eO.length<=1000000
theorem agI (w w':bE)(n:Nat)(r:Rr)(waiting:Int)(g1 g2 g3 g4:Nat)(h:yu w n r waiting=some w')(hb:agH w n r):
  gM Tryz.prog 121 [.w (.agg (wX w g1 g2 g3 g4)),.w (.c (iA n)),.w (.agg (rX r)),.w (.c (iA waiting))] (wT w g1 g2 g3 g4)
  (fun x S'=>x=.w (.agg (wX w' g1 g2 g3 g4))/\∀p∈wT w' g1 g2 g3 g4,S' p.1=p.2):=by
 obtain⟨kT,JP,nr,hbt,IJ,Bc⟩:=hb;unfold yu at h;split at h
 case isFalse=>cases h
 rename_i hn;split at h
 ·cases h
 rename_i fl cH;have nr:=nr fl cH;obtain⟨AJ,MY⟩:=bG.1 cH
 have fq:w.bB.set n fl=w.bB:=by rw[<-MY];exact List.set_getElem_self AJ
 have hlen:=zi r
 obtain⟨Ds,pz⟩:∃Ds,Ds=(if r.qE then w.aX++[(⟨true,waiting,n,r.s.eC,r.value⟩:Ob)] else w.aX):=⟨_,rfl⟩
 rw[<-pz] at h;refine pK Tryz.func121 ⟨0,[12,14],[(127,[601,602,603,604])],[(10,[12]),(1000086,[14])],dc,[],[]⟩ [(5,12,tk 0 7 (.move 7 (tk 8 4 .nil)),[]),(9,13,tk 0 3 (tk 4 8 (.fork 3 12 (.move 12 .nil) (.move 3 .nil))),[12,14]),(14,20,tk 0 9 (tk 10 8 (.fork 9 18 (.move 18 (.move 19 .nil)) (.move 9 (.move 19 .nil)))),[12,14]),tz 18 11] [.cell 8 16] [4,6,8,9,10,12,13,14,15] [4,6,8,12,14] ?_;have FF:=jT @hn @afl @hlen @gP @Xv
 try refine aJ ?_
 try clear FF
 refine dB (fun m V S=>∃(i:Nat) (x10:AV),i<=r.sent.length/\m=r.sent.length-i/\
  V=[(0,.w (.agg (wX w g1 g2 g3 g4))),(1,.w (.c (iA n))),(2,.w (.agg (rX r))),(3,.w (.c (iA waiting))),(4,.pb 4 1 0),(6,.pb 6 1 0),(8,.pb 8 1 0),(9,.w (.c (iA i))),(10,x10),(12,.u),(13,.u),(14,.u),(15,.u)]/\
  S=[(601,.row 169 52 g1 ((w.nodes.map aS).set n (aS r.s))),(602,.row 3 1 g2 (bL w.next)),(603,.row 273 1 g3 (w.bB.map nu)),(604,.row 71 1 g4 (w.traces.map vC)),(4,.box 1 (wO w.c (jr ((r.sent.take i).foldl jF w.bD)) (aX w.aX) (eU w.covered) w.steps g1 g2 g3 g4)),(6,.box 1 (rX r)),(8,.box 1 [.sl [],.sl [],.sl [],.sl [],iA 0,iA 0,iA 0,iA 0,.sl [],.sl [],.sl [],.sl [],.sl [],.sl [],.sl [],iA 0]),(12,.dead 0),(14,.dead 0)]) (n:=r.sent.length) ⟨0,.u,ab,ab,rfl,rfl⟩ ?_
 rintro m V L S ⟨i,x10,hi,rfl,rfl,rfl⟩;by_cases hlt:i<r.sent.length
 ·have eE:i<=1000000000:=by have:=kT;omega
  have hfb:=RA (r.sent.take i) w.bD;have Yd:=aD.MU jF r.sent w.bD i hlt;generalize(r.sent.take i).foldl jF w.bD=fi at hfb Yd⊢
  have RO:fi.length<=1000000:=by rw[dS] at hfb;omega
  obtain⟨e,he⟩:∃e,r.sent[i]=e:=⟨_,rfl⟩
  rw[he] at Yd;have FF:=gA @hlt @he @JB @hlen @gP (bT eE);refine bU (arP fi e RO) ?_
  try clear FF
  exact⟨r.sent.length-(i+1),ab,i+1,_,ab,ab,rfl,by rw[Yd]⟩
 obtain rfl:i=r.sent.length:=ab;rw[fx];generalize r.sent.foldl jF w.bD=fi at h⊢;by_cases FY:r.qE=true
 case' pos=>
  rw[aj FY] at pz;have JQ:w.aX.length<=100000000:=ab;have Be:w.aX.length+1<=100000000:=ab;have FF:=EC @hlt @JB @hlen @gP @afH @FY @asD @afG @JQ @Be
  try refine aJ ?_
  try clear FF
  have FF:=lI @JQ @Be;apply Dg
  ·(repeat' first|refine vx ?_|refine yK ?_|refine yJ ?_|refine bz ?_|refine wW ?_ ?_|refine CV ?_ ?_ ?_|refine vy ?_|refine yL ?_|refine yN ?_|refine yO ?_|refine yP ?_|refine yM ?_|refine yI ?_|fail)<;>exact⟨rfl,rfl⟩
  intro L
  try clear FF
  have FF:=na @JQ @Be @agF
  try refine aJ ?_
  try clear FF
  rw[show w.aX.map MH++[[AC.v (Value.bool true),iA waiting,iA n,iA r.s.eC,iA r.value]]=Ds.map MH by rw[pz,cU];rfl]
 case' neg=>
  have atB:r.qE=false:=by simpa using FY
  rw[af FY] at pz;have FF:=gA @hlt @JB @hlen @gP @afH @atB
  try refine aJ ?_
  try clear FF
  rw[show aX w.aX=aX Ds by rw[pz]]
 all_goals
  clear pz
  refine dB (fun m V S=>∃(i:Nat) (y10 y12 y14:AV) (t12 t14:Slot) (q:List om),i<=r.bB.length/\m=r.bB.length-i/\q=fl++(r.bB.take i).map (fun k=>(⟨r.fy,k⟩:om))/\
   V=[(0,.w (.agg (wX w g1 g2 g3 g4))),(1,.w (.c (iA n))),(2,.w (.agg (rX r))),(3,.w (.c (iA waiting))),(4,.pb 4 1 0),(6,.pb 6 1 0),(8,.pb 8 1 0),(9,.w (.c (iA r.sent.length))),(10,y10),(12,y12),(13,.w (.c (iA i))),(14,y14),(15,.u)]/\
   S=[(601,.row 169 52 g1 ((w.nodes.map aS).set n (aS r.s))),(602,.row 3 1 g2 (bL w.next)),(603,.row 273 1 g3 ((w.bB.map nu).set n (nu q))),(604,.row 71 1 g4 (w.traces.map vC)),(4,.box 1 (wO w.c (jr fi) (aX Ds) (eU w.covered) w.steps g1 g2 g3 g4)),(6,.box 1 (rX r)),(8,.box 1 [.sl [],.sl [],.sl [],.sl [],iA 0,iA 0,iA 0,iA 0,.sl [],.sl [],.sl [],.sl [],.sl [],.sl [],.sl [],iA 0]),(12,t12),(14,t14)]) (n:=r.bB.length)
   ⟨0,_,_,_,_,_,fl,ab,ab,ai,rfl,by rw[show(w.bB.map nu).set n (nu fl)=w.bB.map nu by rw[<-List.map_set,fq]]⟩ ?_
  rintro m V L S ⟨i,y10,y12,y14,t12,t14,q,hi,rfl,hq,rfl,rfl⟩;by_cases fb:i<r.bB.length
  ·have eE:i<=1000000000:=ab
   have fu:q.length=fl.length+min i r.bB.length:=by rw[hq];simp
   obtain⟨kf,Ye⟩:∃kf,r.bB[i]=kf:=⟨_,rfl⟩
   have wS:fl++(r.bB.take (i+1)).map (fun k=>(⟨r.fy,k⟩:om))=q++[⟨r.fy,kf⟩]:=by
    rw[List.take_succ_eq_append_getElem fb,Ye,cU,hq,List.append_assoc];rfl
   have Dt:q.length<=100000000:=ab;have zj:q.length+1<=100000000:=ab;have FF:=EC @fb @Ye @AJ @hlen @gP @Rk @FO @Dt @zj (bT eE)
   try refine aJ ?_
   try clear FF
   have FF:=Px @fb @Ye @AJ @hlen @gP @Rk @FO @Dt @zj;apply Dg
   ·(repeat' first|refine vx ?_|refine yK ?_|refine yJ ?_|refine bz ?_|refine wW ?_ ?_|refine CV ?_ ?_ ?_|refine vy ?_|refine yL ?_|refine yN ?_|refine yO ?_|refine yP ?_|refine yM ?_|refine yI ?_|fail)<;>exact⟨rfl,rfl⟩
   intro L
   try clear FF
   have FF:=jT @AJ @Dt @zj @agF (bT eE)
   try refine aJ ?_
   try clear FF
   rw[show([AC.sl (q.map afJ++[[iA r.fy.node,iA r.fy.handler,iA r.fy.count,iA kf]])]:List AC)=nu (q++[⟨r.fy,kf⟩]) by simp[nu]];exact⟨r.bB.length-(i+1),ab,i+1,_,_,_,_,_,q++[⟨r.fy,kf⟩],ab,ab,wS.symm,rfl,rfl⟩
  ·obtain rfl:i=r.bB.length:=ab;rw[fx] at hq;rw[<-hq] at h;have FF:=fT @fb @hlen @gP @Rk
   try refine aJ ?_
   try clear FF
   refine dB (fun m V S=>∃(i:Nat) (cv:List (Int×Int)),i<=r.covered.length/\m=r.covered.length-i/\cv=((r.covered.take i).map fun k=>(r.s.version,k)).foldl qJ w.covered/\
    V=[(0,.w (.agg (wX w g1 g2 g3 g4))),(1,.w (.c (iA n))),(2,.w (.agg (rX r))),(3,.w (.c (iA waiting))),(4,.pb 4 1 0),(6,.pb 6 1 0),(8,.pb 8 1 0),(9,.w (.c (iA r.sent.length))),(10,y10),(12,y12),(13,.w (.c (iA r.bB.length))),(14,y14),(15,.w (.c (iA i)))]/\
    S=[(601,.row 169 52 g1 ((w.nodes.map aS).set n (aS r.s))),(602,.row 3 1 g2 (bL w.next)),(603,.row 273 1 g3 ((w.bB.map nu).set n (nu q))),(604,.row 71 1 g4 (w.traces.map vC)),(4,.box 1 (wO w.c (jr fi) (aX Ds) (eU cv) w.steps g1 g2 g3 g4)),(6,.box 1 (rX r)),(8,.box 1 [.sl [],.sl [],.sl [],.sl [],iA 0,iA 0,iA 0,iA 0,.sl [],.sl [],.sl [],.sl [],.sl [],.sl [],.sl [],iA 0]),(12,t12),(14,t14)]) (n:=r.covered.length)
    ⟨0,w.covered,ab,ab,ai,rfl,rfl⟩ ?_
   rintro m V L S ⟨i,cv,hi3,rfl,hcv,rfl,rfl⟩;by_cases Yf:i<r.covered.length
   ·have eE:i<=1000000000:=ab;have dp:=RB ((r.covered.take i).map fun k=>(r.s.version,k)) w.covered;rw[<-hcv,dy,dS] at dp
    obtain⟨kc,hkc⟩:∃kc,r.covered[i]=kc:=⟨_,rfl⟩
    have hcs:((r.covered.take (i+1)).map fun k=>(r.s.version,k)).foldl qJ w.covered=qJ cv (r.s.version,kc):=by
     rw[List.take_succ_eq_append_getElem Yf,hkc,cU,yg,<-hcv];rfl
    have FF:=kz @Yf @hkc @hlen @gP @asz @afI (bT eE);refine bU (atw cv (r.s.version,kc) ab) ?_
    try clear FF
    exact⟨r.covered.length-(i+1),ab,i+1,_,ab,ab,hcs.symm,rfl,rfl⟩
   ·obtain rfl:i=r.covered.length:=ab;rw[fx] at hcv;rw[<-hcv] at h
    have hT:=agG _ w' n g1 g2 g3 g4 h (fun s hs=>by
     have:(w.nodes.set n r.s)[n]? =some s:=hs;rw[zW hn] at this;cases this
     exact Bc) hbt
    have gX:gM Tryz.prog 127 [.w (.agg (wO w.c (jr fi) (aX Ds) (eU cv) w.steps g1 g2 g3 g4)),.w (.c (iA n))] [(601,.row 169 52 g1 ((w.nodes.map aS).set n (aS r.s))),(602,.row 3 1 g2 (bL w.next)),(603,.row 273 1 g3 ((w.bB.map nu).set n (nu q))),(604,.row 71 1 g4 (w.traces.map vC))]
      (fun x S'=>x=.w (.agg (wX w' g1 g2 g3 g4))/\∀p∈wT w' g1 g2 g3 g4,S' p.1=p.2):=by
     rw[<-List.map_set,<-List.map_set];exact hT
    have FF:=fT @Yf @hlen @gP @afI;refine bU gX ?_
    try clear FF
    refine jL ?_;exact(by simp[dL])
open aD (et pk Ob om bE Env aT Rr mD kI Ar)
theorem aug (w:bE)(x1 x2 x3 x4:Slot)(h1:w.nodes.length<=1000000)(h2:w.next.length<=1000000)(h3:w.bB.length<=1000000)(h4:w.traces.length<=1000000):
  gM Tryz.prog 89 [.w (.agg (gF w))] [(601,x1),(602,x2),(603,x3),(604,x4)]
  (fun x S'=>x=.w (.agg (wX w (x1.gen+1+1) (x2.gen+1+1) (x3.gen+1+1) (x4.gen+1+1)))/\∀p∈wT w (x1.gen+1+1) (x2.gen+1+1) (x3.gen+1+1) (x4.gen+1+1),S' p.1=p.2):=by
 have b1:w.nodes.length<=100000000:=ab;have b2:w.next.length<=100000000:=ab;have b3:w.bB.length<=100000000:=ab;have b4:w.traces.length<=100000000:=ab;refine pK Tryz.func89 (aB 598 [3,4,5,6]) [] [.cell 2 16] [1,2,3,4,5,6] [599,600] ?_;have FF:=fT @b1 @b2 @b3 @b4
 try refine aJ ?_
 refine jL ?_;exact(by simp[dL])
theorem Yw {α β:Type}(l:List α)(x:β)(k:Nat)(hk:k<l.length):(l.take (k+1)).map (fun _=>x)=(l.take k).map (fun _=>x)++[x]:=by
 rw[List.take_succ_eq_append_getElem hk,cU];rfl
def Gb (c:et)(k:Nat):List Int:=(List.range k).map fun(n:Nat)=>aD.after c n (-1)
theorem auh (c:et)(k:Nat):Gb c (k+1)=Gb c k++[aD.after c k (-1)]:=by
 unfold Gb;rw[ng,cU];rfl
theorem aui (c:et)(k:Nat):(Gb c k).length=k:=by simp[Gb]
theorem auj (c:et)(hf:c.first.length<=12)(hr:c.dO.length<=1000000):bu Tryz.prog 34 [.agg (zb c)] (fun x=>x=.w (.agg (gF (mD c)))):=by
 refine cD Tryz.func34 ⟨0,[],[],[],dc,[(6,[8,10,12,13])],[(2,[(3,8,611,169,52),(3,10,612,3,1),(3,12,613,273,1),(3,13,614,71,1)])]⟩ [(5,4,tk 0 2 (.move 2 (.move 3 .nil)),[]),(6,6,tk 0 4 (.move 4 (.move 5 .nil)),[])] [.cell 2 16] [1,2,3,4] [1,2,3,611,612,613,614] ?_;have FF:=trivial
 try refine aJ ?_
 refine dB (fun n V S=>∃k:Nat,k<=c.first.length/\n=c.first.length-k/\
  V=[(0,.w (.agg (zb c))),(1,.pb 1 1 0),(2,.pb 2 1 0),(3,.pb 3 1 0),(4,.w (.c (iA k)))]/\
  S=[(1,.box 1 (zb c)),(2,.box 1 [.sl [],.sl [],.sl [],.sl [],iA 0,iA 0,iA 0,iA 0,.sl [],.sl [],.sl [],.sl [],.sl [],.sl [],.sl [],iA 0]),
   (3,.box 1 [Rm c.dA,ints c.first,ints c.po,reqs c.dO,iA c.wF,iA c.pq,iA c.rW,iA c.drift,.own 611 (k+1),.sl [],.own 612 (k+1),.sl [],.own 613 (k+1),.own 614 (k+1),.sl [],iA 0]),
   (611,.row 169 52 (k+1) (((c.first.take k).map fun _=>kI).map aS)),(612,.row 3 1 (k+1) (bL (Gb c k))),(613,.row 273 1 (k+1) (((c.first.take k).map fun _=>([]:List om)).map nu)),(614,.row 71 1 (k+1) (((c.first.take k).map fun _=>([]:List (List Int))).map vC))]) (n:=c.first.length) ⟨0,ab,ab,rfl,rfl⟩ ?_
 rintro n V L S ⟨k,hk,rfl,rfl,rfl⟩;by_cases hlt:k<c.first.length
 ·have cL:k<=1000000000:=ab;have e1:=Yw c.first kI k hlt;have e2:=Yw c.first ([]:List om) k hlt;have e3:=Yw c.first ([]:List (List Int)) k hlt;have e4:=auh c k;have CW:k+1<=100000000:=ab;have Ng:min k c.first.length=k:=ab;have FF:=jT @hlt @CW @Ng @aui (bT cL);refine oE arD (agu c k (-1) ab hr) ?_;exact⟨c.first.length-(k+1),ab,k+1,ab,ab,rfl,by rw[e1,e2,e3,e4];simp⟩
 ·obtain rfl:k=c.first.length:=ab;rw[fx];have FF:=@hlt
  try refine aJ ?_
  refine zE ?_;exact(by simp[dL,mD,Gb])
theorem auk (s:az):Ar s=s.asks.map fE:=rfl
theorem aul (s:az)(x0:Slot)(hl:s.asks.length<=1000):gM Tryz.prog 39 [.w (.agg (mK s))] [(703,x0)]
  (fun x S'=>x=.w (.c (.own 703 (x0.gen+1+s.asks.length)))/\∀p∈[(703,Slot.row 100 6 (x0.gen+1+s.asks.length) ((s.asks.map fE).map FL))],S' p.1=p.2):=by
 refine pK Tryz.func39 (aB 700 [3]) [tm 5 14] [.t 2] [1,2,3,4] [701] ?_;have FF:=trivial
 try refine aJ ?_
 refine dB (fun n V S=>∃k:Nat,k<=s.asks.length/\n=s.asks.length-k/\
  V=[(0,.w (.agg (mK s))),(1,.pb 701 1 0),(2,.w (.c (.sl []))),(3,.w (.c (.own 703 (x0.gen+1+k)))),(4,.w (.c (iA k)))]/\S=[(703,.row 100 6 (x0.gen+1+k) (((s.asks.take k).map fE).map FL)),(701,.box 1 (mK s))]) (n:=s.asks.length) ⟨0,ab,ab,rfl,rfl⟩ ?_
 rintro n V L S ⟨k,hk,rfl,rfl,rfl⟩;by_cases hlt:k<s.asks.length
 ·have cL:k<=1000000000:=ab;have CW:k+1<=100000000:=ab;have Ng:min k s.asks.length=k:=ab
  obtain⟨a,ha⟩:∃a,s.asks[k]=a:=⟨_,rfl⟩
  have e1:(s.asks.take (k+1)).map fE=(s.asks.take k).map fE++[fE a]:=by rw[List.take_succ_eq_append_getElem hlt,cU,ha];rfl
  have FF:=jT @hlt @ha @CW @Ng (bT cL)
  try refine aJ ?_
  exact⟨s.asks.length-(k+1),ab,k+1,ab,ab,rfl,by rw[e1,show x0.gen+1+(k+1)=x0.gen+1+k+1 by omega];simp only[cU,List.map_take,List.map_map,cY,lN];rfl⟩
 ·obtain rfl:k=s.asks.length:=ab;rw[fx];have FF:=@hlt
  try refine aJ ?_
  refine jL ?_;exact(by simp[dL])
theorem aum (s:az)(hl:s.asks.length<=1000):bu Tryz.prog 39 [.agg (mK s)] (fun x=>x=.w (.c (mJ (Ar s)))):=by
 refine cD Tryz.func39 (aO [3]) [tm 5 14] [.t 2] [1,2,3,4] [1,3] ?_;have FF:=trivial
 try refine aJ ?_
 refine dB (fun n V S=>∃k:Nat,k<=s.asks.length/\n=s.asks.length-k/\
  V=[(0,.w (.agg (mK s))),(1,.pb 1 1 0),(2,.w (.c (.sl []))),(3,.w (.c (.own 3 (k+1)))),(4,.w (.c (iA k)))]/\S=[(1,.box 1 (mK s)),(3,.row 100 6 (k+1) (((s.asks.take k).map fE).map FL))]) (n:=s.asks.length) ⟨0,ab,ab,rfl,rfl⟩ ?_
 rintro n V L S ⟨k,hk,rfl,rfl,rfl⟩;by_cases hlt:k<s.asks.length
 ·have cL:k<=1000000000:=ab;have CW:k+1<=100000000:=ab;have Ng:min k s.asks.length=k:=ab
  obtain⟨a,ha⟩:∃a,s.asks[k]=a:=⟨_,rfl⟩
  have e1:(s.asks.take (k+1)).map fE=(s.asks.take k).map fE++[fE a]:=by rw[List.take_succ_eq_append_getElem hlt,cU,ha];rfl
  have FF:=jT @hlt @ha @CW @Ng (bT cL)
  try refine aJ ?_
  exact⟨s.asks.length-(k+1),ab,k+1,ab,ab,rfl,by rw[e1];simp only[cU,List.map_take,List.map_map,cY,lN];rfl⟩
 ·obtain rfl:k=s.asks.length:=ab;rw[fx];have FF:=@hlt
  try refine aJ ?_
  refine zE ?_;exact(by rw[auk];simp[dL])
end Ab
end Go.Proofs.YtngblilamkkikaaGreatDoor
