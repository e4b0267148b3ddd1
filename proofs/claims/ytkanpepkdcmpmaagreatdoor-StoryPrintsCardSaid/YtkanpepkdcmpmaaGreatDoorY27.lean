import Derived.Test.YtkanpepkdcmpmaaGreatDoorY23
import Derived.Test.YtkanpepkdcmpmaaGreatDoorY19
set_option maxHeartbeats 40000000
set_option maxRecDepth 100000
set_option linter.all false
namespace Go.Proofs.YtkanpepkdcmpmaaGreatDoor
namespace Ab
open Go Go.RowKit
open aD (eQ qx Ob pq bG Env aT Rr)
abbrev rX (r:Rr):List AC:=rC r.s (asks r.asks) (jU r.sent) r.sb r.value (ints r.bC) r.gB (zk r.out) (ints r.covered)
abbrev wX (w:bG)(g1 g2 g3 g4:Nat):List AC:=wO w.c (jU w.bE) (aJ w.aJ) (fF w.covered) w.steps g1 g2 g3 g4
abbrev wT (w:bG)(g1 g2 g3 g4:Nat):List (Nat×Slot):=ayP w.nodes w.next w.bC w.traces g1 g2 g3 g4
theorem Bh (r:Rr):(rX r).length=67:=TW _ _ _ _ _ _ _ _ _ rfl
theorem akD {D:List Nat}:∀{cs:List AC},cs.all inl=true->cs.all (lG D)=true
 |[],_=>rfl
 |c::cs,h=>by
  simp only[BJ,bV] at h;rw[BJ,akD h.2,Bool.and_true]
  cases c with
  |own s g=>cases h.1
  |cP s g=>cases h.1
  |part s g i=>cases h.1
  |cls f bZ=>cases h.1
  |fM f bZ=>rfl
  |v x=>rfl
  |sl es=>rfl
theorem Uy (r:Rr):(rX r).all inl=true:=by
 unfold rX;rw[eJ];simp
theorem akE (st:St)(r:Rr):st.jQ (rX r)=some (rX r):=LX (Uy r)
theorem PB (r:Rr):(rX r).take 67=rX r:=nh (by rw[Bh];exact cK _)
theorem PC (r:Rr):(rX r).drop 67=[]:=uF (by rw[Bh];exact cK _)
theorem akF (r:Rr)(s g:Nat)(es:List (List AC)):(rX r).map (mf s g es)=rX r:=vU (Uy r)
theorem abx (D:List Nat)(r:Rr):(rX r).all (lG D)=true:=akD (Uy r)
end Ab
namespace Ab
open Go Go.RowKit
attribute [local irreducible] aM bt aX
open aD (eQ qx Ob pq bG Env aT Rr wV bR si yt DW zX zV kA Ul Um)
theorem akG (w w':bG)(n:Nat)(g1 g2 g3 g4:Nat)(h:DW w n=some w')(dB:∀s,w.nodes[n]? =some s->s.aZ.cells.length<=1000000/\s.aZ.pending.length<=1000000/\s.fx.length<=1000000)(kt:∀t,w.traces[n]? =some t->t.length<=1000000):
  iB Tryz.prog 163 [.w (.agg (wX w g1 g2 g3 g4)),.w (.c (iA n))] (wT w g1 g2 g3 g4)
  (fun x S'=>x=.w (.agg (wX w' g1 g2 g3 g4))/\∀p∈wT w' g1 g2 g3 g4,S' p.1=p.2):=by
 unfold DW at h;split at h
 case h_2=>cases h
 rename_i s t hs ht;rw[bO] at h;obtain⟨v,hv,rfl⟩:=h;obtain⟨b1,b2,b3⟩:=dB s hs;have aGO:=kt t ht;obtain⟨hn,ll⟩:=bK.1 hs;obtain⟨Aw,Fm⟩:=bK.1 ht;have cF:t.length<=100000000:=ab;have fO:t.length+1<=100000000:=ab;refine qP Tryz.func163 ⟨0,[5],[],[(1000024,[5])],cU,[],[]⟩ [(2,18,tk 0 9 (tk 10 5 (.move 9 (.move 15 (.move 16 (.move 17 .nil))))),[5])] [.cell 4 16] [2,4,5] [2,4,5] ?_;have FF:=gI @hn @ll @Aw @Fm @cF @fO;refine bJ (aja s v hv b1 b2 b3) ?_
 try clear FF
 refine kE ?_;exact(by simp[ed,List.map_set,xK])
structure akH (w:bG)(n:Nat)(r:Rr):Prop where
 bE:w.bE.length+r.sent.length<=1000000
 aE:w.covered.length+r.covered.length<=1000000
 fail:∀f,w.bC[n]? =some f->f.length+r.bC.length<=1000000
 trace:∀t,w.traces[n]? =some t->t.length<=1000000
 aJ:w.aJ.length<=1000000
 node:r.s.aZ.cells.length<=1000000/\r.s.aZ.pending.length<=1000000/\r.s.fx.length<=1000000
theorem akI (w w':bG)(n:Nat)(r:Rr)(waiting:Int)(g1 g2 g3 g4:Nat)(h:zX w n r waiting=some w')(hb:akH w n r):
  iB Tryz.prog 157 [.w (.agg (wX w g1 g2 g3 g4)),.w (.c (iA n)),.w (.agg (rX r)),.w (.c (iA waiting))] (wT w g1 g2 g3 g4)
  (fun x S'=>x=.w (.agg (wX w' g1 g2 g3 g4))/\∀p∈wT w' g1 g2 g3 g4,S' p.1=p.2):=by
 obtain⟨lR,EY,qD,hbt,Kq,Cs⟩:=hb;unfold zX at h;split at h
 case isFalse=>cases h
 rename_i hn;split at h
 ·cases h
 rename_i fl cM;have qD:=qD fl cM;obtain⟨Cl,Cr⟩:=bK.1 cM
 have iK:w.bC.set n fl=w.bC:=by rw[<-Cr];exact List.set_getElem_self Cl
 have hlen:=Bh r
 obtain⟨Fo,qE⟩:∃Fo,Fo=(if r.sb then w.aJ++[(⟨true,waiting,n,r.s.fb,r.value⟩:Ob)] else w.aJ):=⟨_,rfl⟩
 rw[<-qE] at h;refine qP Tryz.func157 ⟨0,[12,14],[(163,[601,602,603,604])],[(10,[12]),(1000086,[14])],cU,[],[]⟩ [(5,12,tk 0 7 (.move 7 (tk 8 4 .nil)),[]),(9,13,tk 0 3 (tk 4 8 (.fork 3 12 (.move 12 .nil) (.move 3 .nil))),[12,14]),(14,20,tk 0 9 (tk 10 8 (.fork 9 18 (.move 18 (.move 19 .nil)) (.move 9 (.move 19 .nil)))),[12,14]),tz 18 11] [.cell 8 16] [4,6,8,9,10,12,13,14,15] [4,6,8,12,14] ?_;have FF:=gZ @hn @aje @hlen @iG @aaO
 try refine aF ?_
 try clear FF
 refine dv (fun m V S=>∃(i:Nat) (x10:AV),i<=r.sent.length/\m=r.sent.length-i/\
  V=[(0,.w (.agg (wX w g1 g2 g3 g4))),(1,.w (.c (iA n))),(2,.w (.agg (rX r))),(3,.w (.c (iA waiting))),(4,.pb 4 1 0),(6,.pb 6 1 0),(8,.pb 8 1 0),(9,.w (.c (iA i))),(10,x10),(12,.u),(13,.u),(14,.u),(15,.u)]/\
  S=[(601,.row 193 52 g1 ((w.nodes.map aR).set n (aR r.s))),(602,.row 3 1 g2 (bH w.next)),(603,.row 300 1 g3 (w.bC.map ot)),(604,.row 79 1 g4 (w.traces.map xK)),(4,.box 1 (wO w.c (jU ((r.sent.take i).foldl kA w.bE)) (aJ w.aJ) (fF w.covered) w.steps g1 g2 g3 g4)),(6,.box 1 (rX r)),(8,.box 1 [.sl [],.sl [],.sl [],.sl [],iA 0,iA 0,iA 0,iA 0,.sl [],.sl [],.sl [],.sl [],.sl [],.sl [],.sl [],iA 0]),(12,.dead 0),(14,.dead 0)]) (n:=r.sent.length) ⟨0,.u,ab,ab,rfl,rfl⟩ ?_
 rintro m V L S ⟨i,x10,hi,rfl,rfl,rfl⟩;by_cases hlt:i<r.sent.length
 ·have eN:i<=1000000000:=by have:=lR;omega
  have hfb:=Ul (r.sent.take i) w.bE;have hfd:=aD.Po kA r.sent w.bE i hlt;generalize(r.sent.take i).foldl kA w.bE=fi at hfb hfd⊢
  have Mn:fi.length<=1000000:=by rw[dN] at hfb;omega
  obtain⟨e,he⟩:∃e,r.sent[i]=e:=⟨_,rfl⟩
  rw[he] at hfd;have FF:=gI @hlt @he @LU @hlen @iG (bN eN);refine bJ (atu fi e Mn) ?_
  try clear FF
  exact⟨r.sent.length-(i+1),ab,i+1,_,ab,ab,rfl,by rw[hfd]⟩
 obtain rfl:i=r.sent.length:=ab;rw[fK];generalize r.sent.foldl kA w.bE=fi at h⊢;by_cases IA:r.sb=true
 case' pos=>
  rw[aq IA] at qE;have xS:w.aJ.length<=100000000:=ab;have ug:w.aJ.length+1<=100000000:=ab;have FF:=FT @hlt @LU @hlen @iG @ajB @IA @ayO @ajA @xS @ug
  try refine aF ?_
  try clear FF
  have FF:=eV @xS @ug;apply Bb
  ·(repeat' first|refine tO ?_|refine xi ?_|refine xh ?_|refine bz ?_|refine vm ?_ ?_|refine Ao ?_ ?_ ?_|refine tP ?_|refine xj ?_|refine xl ?_|refine xm ?_|refine xn ?_|refine xk ?_|refine xg ?_|fail)<;>exact⟨rfl,rfl⟩
  intro L
  try clear FF
  have FF:=jB @xS @ug @akF
  try refine aF ?_
  try clear FF
  rw[show w.aJ.map Ph++[[AC.v (Value.bool true),iA waiting,iA n,iA r.s.fb,iA r.value]]=Fo.map Ph by rw[qE,de];rfl]
 case' neg=>
  have azG:r.sb=false:=by simpa using IA
  rw[af IA] at qE;have FF:=gI @hlt @LU @hlen @iG @ajB @azG
  try refine aF ?_
  try clear FF
  rw[show aJ w.aJ=aJ Fo by rw[qE]]
 all_goals
  clear qE
  refine dv (fun m V S=>∃(i:Nat) (y10 y12 y14:AV) (t12 t14:Slot) (q:List pq),i<=r.bC.length/\m=r.bC.length-i/\q=fl++(r.bC.take i).map (fun k=>(⟨r.gB,k⟩:pq))/\
   V=[(0,.w (.agg (wX w g1 g2 g3 g4))),(1,.w (.c (iA n))),(2,.w (.agg (rX r))),(3,.w (.c (iA waiting))),(4,.pb 4 1 0),(6,.pb 6 1 0),(8,.pb 8 1 0),(9,.w (.c (iA r.sent.length))),(10,y10),(12,y12),(13,.w (.c (iA i))),(14,y14),(15,.u)]/\
   S=[(601,.row 193 52 g1 ((w.nodes.map aR).set n (aR r.s))),(602,.row 3 1 g2 (bH w.next)),(603,.row 300 1 g3 ((w.bC.map ot).set n (ot q))),(604,.row 79 1 g4 (w.traces.map xK)),(4,.box 1 (wO w.c (jU fi) (aJ Fo) (fF w.covered) w.steps g1 g2 g3 g4)),(6,.box 1 (rX r)),(8,.box 1 [.sl [],.sl [],.sl [],.sl [],iA 0,iA 0,iA 0,iA 0,.sl [],.sl [],.sl [],.sl [],.sl [],.sl [],.sl [],iA 0]),(12,t12),(14,t14)]) (n:=r.bC.length)
   ⟨0,_,_,_,_,_,fl,ab,ab,ai,rfl,by rw[show(w.bC.map ot).set n (ot fl)=w.bC.map ot by rw[<-List.map_set,iK]]⟩ ?_
  rintro m V L S ⟨i,y10,y12,y14,t12,t14,q,hi,rfl,hq,rfl,rfl⟩;by_cases cY:i<r.bC.length
  ·have eN:i<=1000000000:=ab
   have fC:q.length=fl.length+min i r.bC.length:=by rw[hq];simp
   obtain⟨kf,hkf⟩:∃kf,r.bC[i]=kf:=⟨_,rfl⟩
   have yG:fl++(r.bC.take (i+1)).map (fun k=>(⟨r.gB,k⟩:pq))=q++[⟨r.gB,kf⟩]:=by
    rw[List.take_succ_eq_append_getElem cY,hkf,de,hq,List.append_assoc];rfl
   have EF:q.length<=100000000:=ab;have AP:q.length+1<=100000000:=ab;have FF:=FT @cY @hkf @Cl @hlen @iG @TX @Jc @EF @AP (bN eN)
   try refine aF ?_
   try clear FF
   have FF:=oy @cY @hkf @Cl @hlen @iG @TX @Jc @EF @AP;apply Bb
   ·(repeat' first|refine tO ?_|refine xi ?_|refine xh ?_|refine bz ?_|refine vm ?_ ?_|refine Ao ?_ ?_ ?_|refine tP ?_|refine xj ?_|refine xl ?_|refine xm ?_|refine xn ?_|refine xk ?_|refine xg ?_|fail)<;>exact⟨rfl,rfl⟩
   intro L
   try clear FF
   have FF:=gZ @Cl @EF @AP @akF (bN eN)
   try refine aF ?_
   try clear FF
   rw[show([AC.sl (q.map ajD++[[iA r.gB.node,iA r.gB.handler,iA r.gB.count,iA kf]])]:List AC)=ot (q++[⟨r.gB,kf⟩]) by simp[ot]];exact⟨r.bC.length-(i+1),ab,i+1,_,_,_,_,_,q++[⟨r.gB,kf⟩],ab,ab,yG.symm,rfl,rfl⟩
  ·obtain rfl:i=r.bC.length:=ab;rw[fK] at hq;rw[<-hq] at h;have FF:=eW @cY @hlen @iG @TX
   try refine aF ?_
   try clear FF
   refine dv (fun m V S=>∃(i:Nat) (cv:List (Int×Int)),i<=r.covered.length/\m=r.covered.length-i/\cv=((r.covered.take i).map fun k=>(r.s.version,k)).foldl si w.covered/\
    V=[(0,.w (.agg (wX w g1 g2 g3 g4))),(1,.w (.c (iA n))),(2,.w (.agg (rX r))),(3,.w (.c (iA waiting))),(4,.pb 4 1 0),(6,.pb 6 1 0),(8,.pb 8 1 0),(9,.w (.c (iA r.sent.length))),(10,y10),(12,y12),(13,.w (.c (iA r.bC.length))),(14,y14),(15,.w (.c (iA i)))]/\
    S=[(601,.row 193 52 g1 ((w.nodes.map aR).set n (aR r.s))),(602,.row 3 1 g2 (bH w.next)),(603,.row 300 1 g3 ((w.bC.map ot).set n (ot q))),(604,.row 79 1 g4 (w.traces.map xK)),(4,.box 1 (wO w.c (jU fi) (aJ Fo) (fF cv) w.steps g1 g2 g3 g4)),(6,.box 1 (rX r)),(8,.box 1 [.sl [],.sl [],.sl [],.sl [],iA 0,iA 0,iA 0,iA 0,.sl [],.sl [],.sl [],.sl [],.sl [],.sl [],.sl [],iA 0]),(12,t12),(14,t14)]) (n:=r.covered.length)
    ⟨0,w.covered,ab,ab,ai,rfl,rfl⟩ ?_
   rintro m V L S ⟨i,cv,Mo,rfl,hcv,rfl,rfl⟩;by_cases PD:i<r.covered.length
   ·have eN:i<=1000000000:=ab;have dB:=Um ((r.covered.take i).map fun k=>(r.s.version,k)) w.covered;rw[<-hcv,dE,dN] at dB
    obtain⟨kc,hkc⟩:∃kc,r.covered[i]=kc:=⟨_,rfl⟩
    have hcs:((r.covered.take (i+1)).map fun k=>(r.s.version,k)).foldl si w.covered=si cv (r.s.version,kc):=by
     rw[List.take_succ_eq_append_getElem PD,hkc,de,zL,<-hcv];rfl
    have FF:=kj @PD @hkc @hlen @iG @ayK @ajC (bN eN);refine bJ (azv cv (r.s.version,kc) ab) ?_
    try clear FF
    exact⟨r.covered.length-(i+1),ab,i+1,_,ab,ab,hcs.symm,rfl,rfl⟩
   ·obtain rfl:i=r.covered.length:=ab;rw[fK] at hcv;rw[<-hcv] at h
    have hT:=akG _ w' n g1 g2 g3 g4 h (fun s hs=>by
     have:(w.nodes.set n r.s)[n]? =some s:=hs;rw[BD hn] at this;cases this
     exact Cs) hbt
    have fR:iB Tryz.prog 163 [.w (.agg (wO w.c (jU fi) (aJ Fo) (fF cv) w.steps g1 g2 g3 g4)),.w (.c (iA n))] [(601,.row 193 52 g1 ((w.nodes.map aR).set n (aR r.s))),(602,.row 3 1 g2 (bH w.next)),(603,.row 300 1 g3 ((w.bC.map ot).set n (ot q))),(604,.row 79 1 g4 (w.traces.map xK))]
      (fun x S'=>x=.w (.agg (wX w' g1 g2 g3 g4))/\∀p∈wT w' g1 g2 g3 g4,S' p.1=p.2):=by
     rw[<-List.map_set,<-List.map_set];exact hT
    have FF:=eW @PD @hlen @iG @ajC;refine bJ fR ?_
    try clear FF
    refine kE ?_;exact(by simp[ed])
open aD (eQ qx Ob pq bG Env aT Rr ny lD BW)
theorem azH (w:bG)(x1 x2 x3 x4:Slot)(h1:w.nodes.length<=1000000)(h2:w.next.length<=1000000)(h3:w.bC.length<=1000000)(h4:w.traces.length<=1000000):
  iB Tryz.prog 121 [.w (.agg (im w))] [(601,x1),(602,x2),(603,x3),(604,x4)]
  (fun x S'=>x=.w (.agg (wX w (x1.gen+1+1) (x2.gen+1+1) (x3.gen+1+1) (x4.gen+1+1)))/\∀p∈wT w (x1.gen+1+1) (x2.gen+1+1) (x3.gen+1+1) (x4.gen+1+1),S' p.1=p.2):=by
 have b1:w.nodes.length<=100000000:=ab;have b2:w.next.length<=100000000:=ab;have b3:w.bC.length<=100000000:=ab;have b4:w.traces.length<=100000000:=ab;refine qP Tryz.func121 (aB 598 [3,4,5,6]) [] [.cell 2 16] [1,2,3,4,5,6] [599,600] ?_;have FF:=eW @b1 @b2 @b3 @b4
 try refine aF ?_
 refine kE ?_;exact(by simp[ed])
theorem aby {α β:Type}(l:List α)(x:β)(k:Nat)(hk:k<l.length):(l.take (k+1)).map (fun _=>x)=(l.take k).map (fun _=>x)++[x]:=by
 rw[List.take_succ_eq_append_getElem hk,de];rfl
def Jm (c:eQ)(k:Nat):List Int:=(List.range k).map fun(n:Nat)=>aD.after c n (-1)
theorem azI (c:eQ)(k:Nat):Jm c (k+1)=Jm c k++[aD.after c k (-1)]:=by
 unfold Jm;rw[lV,de];rfl
theorem azJ (c:eQ)(k:Nat):(Jm c k).length=k:=by simp[Jm]
theorem azK (c:eQ)(hf:c.first.length<=12)(hr:c.ek.length<=1000000):aU Tryz.prog 59 [.agg (Ba c)] (fun x=>x=.w (.agg (im (ny c)))):=by
 refine cC Tryz.func59 ⟨0,[],[],[],cU,[(6,[8,10,12,13])],[(2,[(3,8,611,193,52),(3,10,612,3,1),(3,12,613,300,1),(3,13,614,79,1)])]⟩ [(5,4,tk 0 2 (.move 2 (.move 3 .nil)),[]),(6,6,tk 0 4 (.move 4 (.move 5 .nil)),[])] [.cell 2 16] [1,2,3,4] [1,2,3,611,612,613,614] ?_;have FF:=trivial
 try refine aF ?_
 refine dv (fun n V S=>∃k:Nat,k<=c.first.length/\n=c.first.length-k/\
  V=[(0,.w (.agg (Ba c))),(1,.pb 1 1 0),(2,.pb 2 1 0),(3,.pb 3 1 0),(4,.w (.c (iA k)))]/\
  S=[(1,.box 1 (Ba c)),(2,.box 1 [.sl [],.sl [],.sl [],.sl [],iA 0,iA 0,iA 0,iA 0,.sl [],.sl [],.sl [],.sl [],.sl [],.sl [],.sl [],iA 0]),
   (3,.box 1 [TZ c.dR,ints c.first,ints c.qy,reqs c.ek,iA c.yr,iA c.qz,iA c.tE,iA c.drift,.own 611 (k+1),.sl [],.own 612 (k+1),.sl [],.own 613 (k+1),.own 614 (k+1),.sl [],iA 0]),
   (611,.row 193 52 (k+1) (((c.first.take k).map fun _=>lD).map aR)),(612,.row 3 1 (k+1) (bH (Jm c k))),(613,.row 300 1 (k+1) (((c.first.take k).map fun _=>([]:List pq)).map ot)),(614,.row 79 1 (k+1) (((c.first.take k).map fun _=>([]:List (List Int))).map xK))]) (n:=c.first.length) ⟨0,ab,ab,rfl,rfl⟩ ?_
 rintro n V L S ⟨k,hk,rfl,rfl,rfl⟩;by_cases hlt:k<c.first.length
 ·have cD:k<=1000000000:=ab;have e1:=aby c.first lD k hlt;have e2:=aby c.first ([]:List pq) k hlt;have e3:=aby c.first ([]:List (List Int)) k hlt;have e4:=azI c k;have yM:k+1<=100000000:=ab;have vZ:min k c.first.length=k:=ab;have FF:=gZ @hlt @yM @vZ @azJ (bN cD);refine gX axZ (akh c k (-1) ab hr) ?_;exact⟨c.first.length-(k+1),ab,k+1,ab,ab,rfl,by rw[e1,e2,e3,e4];simp⟩
 ·obtain rfl:k=c.first.length:=ab;rw[fK];have FF:=@hlt
  try refine aF ?_
  refine zE ?_;exact(by simp[ed,ny,Jm])
theorem azL (s:ay):BW s=s.asks.map gH:=rfl
theorem azM (s:ay)(x0:Slot)(hl:s.asks.length<=1000):iB Tryz.prog 63 [.w (.agg (kJ s))] [(703,x0)]
  (fun x S'=>x=.w (.c (.own 703 (x0.gen+1+s.asks.length)))/\∀p∈[(703,Slot.row 161 6 (x0.gen+1+s.asks.length) ((s.asks.map gH).map IZ))],S' p.1=p.2):=by
 refine qP Tryz.func63 (aB 700 [3]) [tm 5 14] [.t 2] [1,2,3,4] [701] ?_;have FF:=trivial
 try refine aF ?_
 refine dv (fun n V S=>∃k:Nat,k<=s.asks.length/\n=s.asks.length-k/\
  V=[(0,.w (.agg (kJ s))),(1,.pb 701 1 0),(2,.w (.c (.sl []))),(3,.w (.c (.own 703 (x0.gen+1+k)))),(4,.w (.c (iA k)))]/\S=[(703,.row 161 6 (x0.gen+1+k) (((s.asks.take k).map gH).map IZ)),(701,.box 1 (kJ s))]) (n:=s.asks.length) ⟨0,ab,ab,rfl,rfl⟩ ?_
 rintro n V L S ⟨k,hk,rfl,rfl,rfl⟩;by_cases hlt:k<s.asks.length
 ·have cD:k<=1000000000:=ab;have yM:k+1<=100000000:=ab;have vZ:min k s.asks.length=k:=ab
  obtain⟨a,ha⟩:∃a,s.asks[k]=a:=⟨_,rfl⟩
  have e1:(s.asks.take (k+1)).map gH=(s.asks.take k).map gH++[gH a]:=by rw[List.take_succ_eq_append_getElem hlt,de,ha];rfl
  have FF:=gZ @hlt @ha @yM @vZ (bN cD)
  try refine aF ?_
  exact⟨s.asks.length-(k+1),ab,k+1,ab,ab,rfl,by rw[e1,show x0.gen+1+(k+1)=x0.gen+1+k+1 by omega];simp only[de,List.map_take,List.map_map,dF,mF];rfl⟩
 ·obtain rfl:k=s.asks.length:=ab;rw[fK];have FF:=@hlt
  try refine aF ?_
  refine kE ?_;exact(by simp[ed])
theorem azN (s:ay)(hl:s.asks.length<=1000):aU Tryz.prog 63 [.agg (kJ s)] (fun x=>x=.w (.c (nL (BW s)))):=by
 refine cC Tryz.func63 (aO [3]) [tm 5 14] [.t 2] [1,2,3,4] [1,3] ?_;have FF:=trivial
 try refine aF ?_
 refine dv (fun n V S=>∃k:Nat,k<=s.asks.length/\n=s.asks.length-k/\
  V=[(0,.w (.agg (kJ s))),(1,.pb 1 1 0),(2,.w (.c (.sl []))),(3,.w (.c (.own 3 (k+1)))),(4,.w (.c (iA k)))]/\S=[(1,.box 1 (kJ s)),(3,.row 161 6 (k+1) (((s.asks.take k).map gH).map IZ))]) (n:=s.asks.length) ⟨0,ab,ab,rfl,rfl⟩ ?_
 rintro n V L S ⟨k,hk,rfl,rfl,rfl⟩;by_cases hlt:k<s.asks.length
 ·have cD:k<=1000000000:=ab;have yM:k+1<=100000000:=ab;have vZ:min k s.asks.length=k:=ab
  obtain⟨a,ha⟩:∃a,s.asks[k]=a:=⟨_,rfl⟩
  have e1:(s.asks.take (k+1)).map gH=(s.asks.take k).map gH++[gH a]:=by rw[List.take_succ_eq_append_getElem hlt,de,ha];rfl
  have FF:=gZ @hlt @ha @yM @vZ (bN cD)
  try refine aF ?_
  exact⟨s.asks.length-(k+1),ab,k+1,ab,ab,rfl,by rw[e1];simp only[de,List.map_take,List.map_map,dF,mF];rfl⟩
 ·obtain rfl:k=s.asks.length:=ab;rw[fK];have FF:=@hlt
  try refine aF ?_
  refine zE ?_;exact(by rw[azL];simp[ed])
end Ab
end Go.Proofs.YtkanpepkdcmpmaaGreatDoor
