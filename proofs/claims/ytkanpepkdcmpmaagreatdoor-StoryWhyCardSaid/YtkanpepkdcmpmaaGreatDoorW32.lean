import Derived.Test.YtkanpepkdcmpmaaGreatDoorW28
import Derived.Test.YtkanpepkdcmpmaaGreatDoorW24
set_option maxHeartbeats 40000000
set_option maxRecDepth 100000
set_option linter.all false
namespace Go.Proofs.YtkanpepkdcmpmaaGreatDoor
namespace Ab
open Go Go.RowKit
open aD (eX qF Ob pE bL Env aU Rr)
abbrev rX (r:Rr):List AC:=rC r.s (asks r.asks) (kj r.sent) r.sq r.value (ints r.bH) r.gJ (zk r.out) (ints r.covered)
abbrev wX (w:bL)(g1 g2 g3 g4:Nat):List AC:=wO w.c (kj w.bI) (aK w.aK) (fR w.covered) w.steps g1 g2 g3 g4
abbrev wT (w:bL)(g1 g2 g3 g4:Nat):List (Nat×Slot):=ayV w.nodes w.next w.bH w.traces g1 g2 g3 g4
theorem Bn (r:Rr):(rX r).length=67:=Ug _ _ _ _ _ _ _ _ _ rfl
theorem akP {D:List Nat}:∀{cs:List AC},cs.all inl=true->cs.all (lR D)=true
 |[],_=>rfl
 |c::cs,h=>by
  simp only[BR,bZ] at h;rw[BR,akP h.2,Bool.and_true]
  cases c with
  |own s g=>cases h.1
  |cK s g=>cases h.1
  |part s g i=>cases h.1
  |cls f cn=>cases h.1
  |fV f cn=>rfl
  |v x=>rfl
  |sl es=>rfl
theorem UJ (r:Rr):(rX r).all inl=true:=by
 unfold rX;rw[eN];simp
theorem akQ (st:St)(r:Rr):st.jY (rX r)=some (rX r):=Mf (UJ r)
theorem PN (r:Rr):(rX r).take 67=rX r:=nB (by rw[Bn];exact cP _)
theorem PO (r:Rr):(rX r).drop 67=[]:=uG (by rw[Bn];exact cP _)
theorem akR (r:Rr)(s g:Nat)(es:List (List AC)):(rX r).map (mA s g es)=rX r:=vW (UJ r)
theorem abE (D:List Nat)(r:Rr):(rX r).all (lR D)=true:=akP (UJ r)
end Ab
namespace Ab
open Go Go.RowKit
attribute [local irreducible] aP bB aW
open aD (eX qF Ob pE bL Env aU Rr wY bV sB yn Eb Aa zY kH Ut Uu)
theorem akS (w w':bL)(n:Nat)(g1 g2 g3 g4:Nat)(h:Eb w n=some w')(dE:∀s,w.nodes[n]? =some s->s.aY.cells.length<=1000000/\s.aY.pending.length<=1000000/\s.fJ.length<=1000000)(kD:∀t,w.traces[n]? =some t->t.length<=1000000):
  iK Tryz.prog 163 [.w (.agg (wX w g1 g2 g3 g4)),.w (.c (iA n))] (wT w g1 g2 g3 g4)
  (fun x S'=>x=.w (.agg (wX w' g1 g2 g3 g4))/\∀p∈wT w' g1 g2 g3 g4,S' p.1=p.2):=by
 unfold Eb at h;split at h
 case h_2=>cases h
 rename_i s t hs ht;rw[bU] at h;obtain⟨v,hv,rfl⟩:=h;obtain⟨b1,b2,b3⟩:=dE s hs;have aGR:=kD t ht;obtain⟨hn,fw⟩:=bN.1 hs;obtain⟨AJ,FB⟩:=bN.1 ht;have cD:t.length<=100000000:=ab;have fb:t.length+1<=100000000:=ab;refine rh Tryz.func163 ⟨0,[5],[],[(1000024,[5])],cZ,[],[]⟩ [(2,18,tk 0 9 (tk 10 5 (.move 9 (.move 15 (.move 16 (.move 17 .nil))))),[5])] [.cell 4 16] [2,4,5] [2,4,5] ?_;have FF:=gR @hn @fw @AJ @FB @cD @fb;refine bY (ajk s v hv b1 b2 b3) ?_
 try clear FF
 refine kL ?_;exact(by simp[ek,List.map_set,xC])
structure akT (w:bL)(n:Nat)(r:Rr):Prop where
 bI:w.bI.length+r.sent.length<=1000000
 aE:w.covered.length+r.covered.length<=1000000
 fail:∀f,w.bH[n]? =some f->f.length+r.bH.length<=1000000
 trace:∀t,w.traces[n]? =some t->t.length<=1000000
 aK:w.aK.length<=1000000
 node:r.s.aY.cells.length<=1000000/\r.s.aY.pending.length<=1000000/\r.s.fJ.length<=1000000
theorem akU (w w':bL)(n:Nat)(r:Rr)(waiting:Int)(g1 g2 g3 g4:Nat)(h:Aa w n r waiting=some w')(hb:akT w n r):
  iK Tryz.prog 157 [.w (.agg (wX w g1 g2 g3 g4)),.w (.c (iA n)),.w (.agg (rX r)),.w (.c (iA waiting))] (wT w g1 g2 g3 g4)
  (fun x S'=>x=.w (.agg (wX w' g1 g2 g3 g4))/\∀p∈wT w' g1 g2 g3 g4,S' p.1=p.2):=by
 obtain⟨mh,Fj,qL,hbt,KA,CB⟩:=hb;unfold Aa at h;split at h
 case isFalse=>cases h
 rename_i hn;split at h
 ·cases h
 rename_i fl cS;have qL:=qL fl cS;obtain⟨Cu,CA⟩:=bN.1 cS
 have iV:w.bH.set n fl=w.bH:=by rw[<-CA];exact List.set_getElem_self Cu
 have hlen:=Bn r
 obtain⟨FC,qM⟩:∃FC,FC=(if r.sq then w.aK++[(⟨true,waiting,n,r.s.fo,r.value⟩:Ob)] else w.aK):=⟨_,rfl⟩
 rw[<-qM] at h;refine rh Tryz.func157 ⟨0,[12,14],[(163,[601,602,603,604])],[(10,[12]),(1000086,[14])],cZ,[],[]⟩ [(5,12,tk 0 7 (.move 7 (tk 8 4 .nil)),[]),(9,13,tk 0 3 (tk 4 8 (.fork 3 12 (.move 12 .nil) (.move 3 .nil))),[12,14]),(14,20,tk 0 9 (tk 10 8 (.fork 9 18 (.move 18 (.move 19 .nil)) (.move 9 (.move 19 .nil)))),[12,14]),tz 18 11] [.cell 8 16] [4,6,8,9,10,12,13,14,15] [4,6,8,12,14] ?_;have FF:=iF @hn @ajo @hlen @iO @aaR
 try refine aG ?_
 try clear FF
 refine dA (fun m V S=>∃(i:Nat) (x10:AV),i<=r.sent.length/\m=r.sent.length-i/\
  V=[(0,.w (.agg (wX w g1 g2 g3 g4))),(1,.w (.c (iA n))),(2,.w (.agg (rX r))),(3,.w (.c (iA waiting))),(4,.pb 4 1 0),(6,.pb 6 1 0),(8,.pb 8 1 0),(9,.w (.c (iA i))),(10,x10),(12,.u),(13,.u),(14,.u),(15,.u)]/\
  S=[(601,.row 193 52 g1 ((w.nodes.map aS).set n (aS r.s))),(602,.row 3 1 g2 (bM w.next)),(603,.row 300 1 g3 (w.bH.map oD)),(604,.row 79 1 g4 (w.traces.map xC)),(4,.box 1 (wO w.c (kj ((r.sent.take i).foldl kH w.bI)) (aK w.aK) (fR w.covered) w.steps g1 g2 g3 g4)),(6,.box 1 (rX r)),(8,.box 1 [.sl [],.sl [],.sl [],.sl [],iA 0,iA 0,iA 0,iA 0,.sl [],.sl [],.sl [],.sl [],.sl [],.sl [],.sl [],iA 0]),(12,.dead 0),(14,.dead 0)]) (n:=r.sent.length) ⟨0,.u,ab,ab,rfl,rfl⟩ ?_
 rintro m V L S ⟨i,x10,hi,rfl,rfl,rfl⟩;by_cases hlt:i<r.sent.length
 ·have eS:i<=1000000000:=by have:=mh;omega
  have hfb:=Ut (r.sent.take i) w.bI;have hfd:=aD.PD kH r.sent w.bI i hlt;generalize(r.sent.take i).foldl kH w.bI=fi at hfb hfd⊢
  have MB:fi.length<=1000000:=by rw[dN] at hfb;omega
  obtain⟨e,he⟩:∃e,r.sent[i]=e:=⟨_,rfl⟩
  rw[he] at hfd;have FF:=gR @hlt @he @Mc @hlen @iO (bT eS);refine bY (atD fi e MB) ?_
  try clear FF
  exact⟨r.sent.length-(i+1),ab,i+1,_,ab,ab,rfl,by rw[hfd]⟩
 obtain rfl:i=r.sent.length:=ab;rw[fT];generalize r.sent.foldl kH w.bI=fi at h⊢;by_cases II:r.sq=true
 case' pos=>
  rw[aj II] at qM;have xK:w.aK.length<=100000000:=ab;have ug:w.aK.length+1<=100000000:=ab;have FF:=Gg @hlt @Mc @hlen @iO @ajL @II @ayU @ajK @xK @ug
  try refine aG ?_
  try clear FF
  have FF:=im @xK @ug;apply Fu
  ·(repeat' first|refine xh ?_|refine Aw ?_|refine Av ?_|refine bG ?_|refine yF ?_ ?_|refine EB ?_ ?_ ?_|refine xi ?_|refine Ax ?_|refine Az ?_|refine AA ?_|refine AB ?_|refine Ay ?_|refine Au ?_|fail)<;>exact⟨rfl,rfl⟩
  intro L
  try clear FF
  have FF:=kT @xK @ug @akR
  try refine aG ?_
  try clear FF
  rw[show w.aK.map Px++[[AC.v (Value.bool true),iA waiting,iA n,iA r.s.fo,iA r.value]]=FC.map Px by rw[qM,dm];rfl]
 case' neg=>
  have azM:r.sq=false:=by simpa using II
  rw[af II] at qM;have FF:=gR @hlt @Mc @hlen @iO @ajL @azM
  try refine aG ?_
  try clear FF
  rw[show aK w.aK=aK FC by rw[qM]]
 all_goals
  clear qM
  refine dA (fun m V S=>∃(i:Nat) (y10 y12 y14:AV) (t12 t14:Slot) (q:List pE),i<=r.bH.length/\m=r.bH.length-i/\q=fl++(r.bH.take i).map (fun k=>(⟨r.gJ,k⟩:pE))/\
   V=[(0,.w (.agg (wX w g1 g2 g3 g4))),(1,.w (.c (iA n))),(2,.w (.agg (rX r))),(3,.w (.c (iA waiting))),(4,.pb 4 1 0),(6,.pb 6 1 0),(8,.pb 8 1 0),(9,.w (.c (iA r.sent.length))),(10,y10),(12,y12),(13,.w (.c (iA i))),(14,y14),(15,.u)]/\
   S=[(601,.row 193 52 g1 ((w.nodes.map aS).set n (aS r.s))),(602,.row 3 1 g2 (bM w.next)),(603,.row 300 1 g3 ((w.bH.map oD).set n (oD q))),(604,.row 79 1 g4 (w.traces.map xC)),(4,.box 1 (wO w.c (kj fi) (aK FC) (fR w.covered) w.steps g1 g2 g3 g4)),(6,.box 1 (rX r)),(8,.box 1 [.sl [],.sl [],.sl [],.sl [],iA 0,iA 0,iA 0,iA 0,.sl [],.sl [],.sl [],.sl [],.sl [],.sl [],.sl [],iA 0]),(12,t12),(14,t14)]) (n:=r.bH.length)
   ⟨0,_,_,_,_,_,fl,ab,ab,ai,rfl,by rw[show(w.bH.map oD).set n (oD fl)=w.bH.map oD by rw[<-List.map_set,iV]]⟩ ?_
  rintro m V L S ⟨i,y10,y12,y14,t12,t14,q,hi,rfl,hq,rfl,rfl⟩;by_cases db:i<r.bH.length
  ·have eS:i<=1000000000:=ab
   have fO:q.length=fl.length+min i r.bH.length:=by rw[hq];simp
   obtain⟨kf,hkf⟩:∃kf,r.bH[i]=kf:=⟨_,rfl⟩
   have yC:fl++(r.bH.take (i+1)).map (fun k=>(⟨r.gJ,k⟩:pE))=q++[⟨r.gJ,kf⟩]:=by
    rw[List.take_succ_eq_append_getElem db,hkf,dm,hq,List.append_assoc];rfl
   have EO:q.length<=100000000:=ab;have Be:q.length+1<=100000000:=ab;have FF:=Gg @db @hkf @Cu @hlen @iO @Uh @Jk @EO @Be (bT eS)
   try refine aG ?_
   try clear FF
   have FF:=oH @db @hkf @Cu @hlen @iO @Uh @Jk @EO @Be;apply Fu
   ·(repeat' first|refine xh ?_|refine Aw ?_|refine Av ?_|refine bG ?_|refine yF ?_ ?_|refine EB ?_ ?_ ?_|refine xi ?_|refine Ax ?_|refine Az ?_|refine AA ?_|refine AB ?_|refine Ay ?_|refine Au ?_|fail)<;>exact⟨rfl,rfl⟩
   intro L
   try clear FF
   have FF:=iF @Cu @EO @Be @akR (bT eS)
   try refine aG ?_
   try clear FF
   rw[show([AC.sl (q.map ajN++[[iA r.gJ.node,iA r.gJ.handler,iA r.gJ.count,iA kf]])]:List AC)=oD (q++[⟨r.gJ,kf⟩]) by simp[oD]];exact⟨r.bH.length-(i+1),ab,i+1,_,_,_,_,_,q++[⟨r.gJ,kf⟩],ab,ab,yC.symm,rfl,rfl⟩
  ·obtain rfl:i=r.bH.length:=ab;rw[fT] at hq;rw[<-hq] at h;have FF:=fg @db @hlen @iO @Uh
   try refine aG ?_
   try clear FF
   refine dA (fun m V S=>∃(i:Nat) (cv:List (Int×Int)),i<=r.covered.length/\m=r.covered.length-i/\cv=((r.covered.take i).map fun k=>(r.s.version,k)).foldl sB w.covered/\
    V=[(0,.w (.agg (wX w g1 g2 g3 g4))),(1,.w (.c (iA n))),(2,.w (.agg (rX r))),(3,.w (.c (iA waiting))),(4,.pb 4 1 0),(6,.pb 6 1 0),(8,.pb 8 1 0),(9,.w (.c (iA r.sent.length))),(10,y10),(12,y12),(13,.w (.c (iA r.bH.length))),(14,y14),(15,.w (.c (iA i)))]/\
    S=[(601,.row 193 52 g1 ((w.nodes.map aS).set n (aS r.s))),(602,.row 3 1 g2 (bM w.next)),(603,.row 300 1 g3 ((w.bH.map oD).set n (oD q))),(604,.row 79 1 g4 (w.traces.map xC)),(4,.box 1 (wO w.c (kj fi) (aK FC) (fR cv) w.steps g1 g2 g3 g4)),(6,.box 1 (rX r)),(8,.box 1 [.sl [],.sl [],.sl [],.sl [],iA 0,iA 0,iA 0,iA 0,.sl [],.sl [],.sl [],.sl [],.sl [],.sl [],.sl [],iA 0]),(12,t12),(14,t14)]) (n:=r.covered.length)
    ⟨0,w.covered,ab,ab,ai,rfl,rfl⟩ ?_
   rintro m V L S ⟨i,cv,MC,rfl,hcv,rfl,rfl⟩;by_cases PQ:i<r.covered.length
   ·have eS:i<=1000000000:=ab;have dE:=Uu ((r.covered.take i).map fun k=>(r.s.version,k)) w.covered;rw[<-hcv,dI,dN] at dE
    obtain⟨kc,hkc⟩:∃kc,r.covered[i]=kc:=⟨_,rfl⟩
    have hcs:((r.covered.take (i+1)).map fun k=>(r.s.version,k)).foldl sB w.covered=sB cv (r.s.version,kc):=by
     rw[List.take_succ_eq_append_getElem PQ,hkc,dm,zN,<-hcv];rfl
    have FF:=kU @PQ @hkc @hlen @iO @ayQ @ajM (bT eS);refine bY (azD cv (r.s.version,kc) ab) ?_
    try clear FF
    exact⟨r.covered.length-(i+1),ab,i+1,_,ab,ab,hcs.symm,rfl,rfl⟩
   ·obtain rfl:i=r.covered.length:=ab;rw[fT] at hcv;rw[<-hcv] at h
    have hT:=akS _ w' n g1 g2 g3 g4 h (fun s hs=>by
     have:(w.nodes.set n r.s)[n]? =some s:=hs;rw[BL hn] at this;cases this
     exact CB) hbt
    have fY:iK Tryz.prog 163 [.w (.agg (wO w.c (kj fi) (aK FC) (fR cv) w.steps g1 g2 g3 g4)),.w (.c (iA n))] [(601,.row 193 52 g1 ((w.nodes.map aS).set n (aS r.s))),(602,.row 3 1 g2 (bM w.next)),(603,.row 300 1 g3 ((w.bH.map oD).set n (oD q))),(604,.row 79 1 g4 (w.traces.map xC))]
      (fun x S'=>x=.w (.agg (wX w' g1 g2 g3 g4))/\∀p∈wT w' g1 g2 g3 g4,S' p.1=p.2):=by
     rw[<-List.map_set,<-List.map_set];exact hT
    have FF:=fg @PQ @hlen @iO @ajM;refine bY fY ?_
    try clear FF
    refine kL ?_;exact(by simp[ek])
open aD (eX qF Ob pE bL Env aU Rr nJ lO Cf)
theorem azN (w:bL)(x1 x2 x3 x4:Slot)(h1:w.nodes.length<=1000000)(h2:w.next.length<=1000000)(h3:w.bH.length<=1000000)(h4:w.traces.length<=1000000):
  iK Tryz.prog 121 [.w (.agg (iD w))] [(601,x1),(602,x2),(603,x3),(604,x4)]
  (fun x S'=>x=.w (.agg (wX w (x1.gen+1+1) (x2.gen+1+1) (x3.gen+1+1) (x4.gen+1+1)))/\∀p∈wT w (x1.gen+1+1) (x2.gen+1+1) (x3.gen+1+1) (x4.gen+1+1),S' p.1=p.2):=by
 have b1:w.nodes.length<=100000000:=ab;have b2:w.next.length<=100000000:=ab;have b3:w.bH.length<=100000000:=ab;have b4:w.traces.length<=100000000:=ab;refine rh Tryz.func121 (aB 598 [3,4,5,6]) [] [.cell 2 16] [1,2,3,4,5,6] [599,600] ?_;have FF:=fg @b1 @b2 @b3 @b4
 try refine aG ?_
 refine kL ?_;exact(by simp[ek])
theorem abF {α β:Type}(l:List α)(x:β)(k:Nat)(hk:k<l.length):(l.take (k+1)).map (fun _=>x)=(l.take k).map (fun _=>x)++[x]:=by
 rw[List.take_succ_eq_append_getElem hk,dm];rfl
def Jw (c:eX)(k:Nat):List Int:=(List.range k).map fun(n:Nat)=>aD.after c n (-1)
theorem azO (c:eX)(k:Nat):Jw c (k+1)=Jw c k++[aD.after c k (-1)]:=by
 unfold Jw;rw[mn,dm];rfl
theorem azP (c:eX)(k:Nat):(Jw c k).length=k:=by simp[Jw]
theorem azQ (c:eX)(hf:c.first.length<=12)(hr:c.eu.length<=1000000):bj Tryz.prog 59 [.agg (Bl c)] (fun x=>x=.w (.agg (iD (nJ c)))):=by
 refine cI Tryz.func59 ⟨0,[],[],[],cZ,[(6,[8,10,12,13])],[(2,[(3,8,611,193,52),(3,10,612,3,1),(3,12,613,300,1),(3,13,614,79,1)])]⟩ [(5,4,tk 0 2 (.move 2 (.move 3 .nil)),[]),(6,6,tk 0 4 (.move 4 (.move 5 .nil)),[])] [.cell 2 16] [1,2,3,4] [1,2,3,611,612,613,614] ?_;have FF:=trivial
 try refine aG ?_
 refine dA (fun n V S=>∃k:Nat,k<=c.first.length/\n=c.first.length-k/\
  V=[(0,.w (.agg (Bl c))),(1,.pb 1 1 0),(2,.pb 2 1 0),(3,.pb 3 1 0),(4,.w (.c (iA k)))]/\
  S=[(1,.box 1 (Bl c)),(2,.box 1 [.sl [],.sl [],.sl [],.sl [],iA 0,iA 0,iA 0,iA 0,.sl [],.sl [],.sl [],.sl [],.sl [],.sl [],.sl [],iA 0]),
   (3,.box 1 [Uj c.dU,ints c.first,ints c.qG,reqs c.eu,iA c.ym,iA c.qH,iA c.tI,iA c.drift,.own 611 (k+1),.sl [],.own 612 (k+1),.sl [],.own 613 (k+1),.own 614 (k+1),.sl [],iA 0]),
   (611,.row 193 52 (k+1) (((c.first.take k).map fun _=>lO).map aS)),(612,.row 3 1 (k+1) (bM (Jw c k))),(613,.row 300 1 (k+1) (((c.first.take k).map fun _=>([]:List pE)).map oD)),(614,.row 79 1 (k+1) (((c.first.take k).map fun _=>([]:List (List Int))).map xC))]) (n:=c.first.length) ⟨0,ab,ab,rfl,rfl⟩ ?_
 rintro n V L S ⟨k,hk,rfl,rfl,rfl⟩;by_cases hlt:k<c.first.length
 ·have cF:k<=1000000000:=ab;have e1:=abF c.first lO k hlt;have e2:=abF c.first ([]:List pE) k hlt;have e3:=abF c.first ([]:List (List Int)) k hlt;have e4:=azO c k;have vE:k+1<=100000000:=ab;have wj:min k c.first.length=k:=ab;have FF:=iF @hlt @vE @wj @azP (bT cF);refine kg ayg (aku c k (-1) ab hr) ?_;exact⟨c.first.length-(k+1),ab,k+1,ab,ab,rfl,by rw[e1,e2,e3,e4];simp⟩
 ·obtain rfl:k=c.first.length:=ab;rw[fT];have FF:=@hlt
  try refine aG ?_
  refine zE ?_;exact(by simp[ek,nJ,Jw])
theorem azR (s:az):Cf s=s.asks.map gP:=rfl
theorem azS (s:az)(x0:Slot)(hl:s.asks.length<=1000):iK Tryz.prog 63 [.w (.agg (kQ s))] [(703,x0)]
  (fun x S'=>x=.w (.c (.own 703 (x0.gen+1+s.asks.length)))/\∀p∈[(703,Slot.row 161 6 (x0.gen+1+s.asks.length) ((s.asks.map gP).map Jh))],S' p.1=p.2):=by
 refine rh Tryz.func63 (aB 700 [3]) [tm 5 14] [.t 2] [1,2,3,4] [701] ?_;have FF:=trivial
 try refine aG ?_
 refine dA (fun n V S=>∃k:Nat,k<=s.asks.length/\n=s.asks.length-k/\
  V=[(0,.w (.agg (kQ s))),(1,.pb 701 1 0),(2,.w (.c (.sl []))),(3,.w (.c (.own 703 (x0.gen+1+k)))),(4,.w (.c (iA k)))]/\S=[(703,.row 161 6 (x0.gen+1+k) (((s.asks.take k).map gP).map Jh)),(701,.box 1 (kQ s))]) (n:=s.asks.length) ⟨0,ab,ab,rfl,rfl⟩ ?_
 rintro n V L S ⟨k,hk,rfl,rfl,rfl⟩;by_cases hlt:k<s.asks.length
 ·have cF:k<=1000000000:=ab;have vE:k+1<=100000000:=ab;have wj:min k s.asks.length=k:=ab
  obtain⟨a,ha⟩:∃a,s.asks[k]=a:=⟨_,rfl⟩
  have e1:(s.asks.take (k+1)).map gP=(s.asks.take k).map gP++[gP a]:=by rw[List.take_succ_eq_append_getElem hlt,dm,ha];rfl
  have FF:=iF @hlt @ha @vE @wj (bT cF)
  try refine aG ?_
  exact⟨s.asks.length-(k+1),ab,k+1,ab,ab,rfl,by rw[e1,show x0.gen+1+(k+1)=x0.gen+1+k+1 by omega];simp only[dm,List.map_take,List.map_map,dJ,mP];rfl⟩
 ·obtain rfl:k=s.asks.length:=ab;rw[fT];have FF:=@hlt
  try refine aG ?_
  refine kL ?_;exact(by simp[ek])
theorem azT (s:az)(hl:s.asks.length<=1000):bj Tryz.prog 63 [.agg (kQ s)] (fun x=>x=.w (.c (nV (Cf s)))):=by
 refine cI Tryz.func63 (aO [3]) [tm 5 14] [.t 2] [1,2,3,4] [1,3] ?_;have FF:=trivial
 try refine aG ?_
 refine dA (fun n V S=>∃k:Nat,k<=s.asks.length/\n=s.asks.length-k/\
  V=[(0,.w (.agg (kQ s))),(1,.pb 1 1 0),(2,.w (.c (.sl []))),(3,.w (.c (.own 3 (k+1)))),(4,.w (.c (iA k)))]/\S=[(1,.box 1 (kQ s)),(3,.row 161 6 (k+1) (((s.asks.take k).map gP).map Jh))]) (n:=s.asks.length) ⟨0,ab,ab,rfl,rfl⟩ ?_
 rintro n V L S ⟨k,hk,rfl,rfl,rfl⟩;by_cases hlt:k<s.asks.length
 ·have cF:k<=1000000000:=ab;have vE:k+1<=100000000:=ab;have wj:min k s.asks.length=k:=ab
  obtain⟨a,ha⟩:∃a,s.asks[k]=a:=⟨_,rfl⟩
  have e1:(s.asks.take (k+1)).map gP=(s.asks.take k).map gP++[gP a]:=by rw[List.take_succ_eq_append_getElem hlt,dm,ha];rfl
  have FF:=iF @hlt @ha @vE @wj (bT cF)
  try refine aG ?_
  exact⟨s.asks.length-(k+1),ab,k+1,ab,ab,rfl,by rw[e1];simp only[dm,List.map_take,List.map_map,dJ,mP];rfl⟩
 ·obtain rfl:k=s.asks.length:=ab;rw[fT];have FF:=@hlt
  try refine aG ?_
  refine zE ?_;exact(by rw[azR];simp[ek])
end Ab
end Go.Proofs.YtkanpepkdcmpmaaGreatDoor
