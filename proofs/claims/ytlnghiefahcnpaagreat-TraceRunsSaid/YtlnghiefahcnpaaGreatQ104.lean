import Derived.Test.YtlnghiefahcnpaaGreatQ108
import Derived.Test.YtlnghiefahcnpaaGreatQ101
set_option maxHeartbeats 40000000
set_option maxRecDepth 100000
set_option linter.all false
namespace Go.Proofs.YtlnghiefahcnpaaGreat
namespace Ab
open Go Go.RowKit
attribute [local irreducible] aC bo aU
open aq (bR mo Ob lE aE Env aL Rr qW bl nA sx tQ qX tO gH Kb Kc)
theorem adU (w w':aE)(n:Nat)(g1 g2 g3 g4:Nat)(h:tQ w n=some w')(dc:∀s,w.nodes[n]? =some s->s.aS.cells.length<=1000000/\s.aS.pending.length<=1000000/\s.dO.length<=1000000)(kt:∀t,w.traces[n]? =some t->t.length<=1000000):
  fQ Tryz.prog 68 [.w (.agg (wX w g1 g2 g3 g4)),.w (.c (iA n))] (wT w g1 g2 g3 g4)
  (fun x S'=>x=.w (.agg (wX w' g1 g2 g3 g4))/\∀p∈wT w' g1 g2 g3 g4,S' p.1=p.2):=by
 unfold tQ at h;split at h
 case h_2=>cases h
 rename_i s t hs ht;rw[bz] at h;obtain⟨v,hv,rfl⟩:=h;obtain⟨b1,b2,b3⟩:=dc s hs;have axx:=kt t ht;obtain⟨hn,iC⟩:=bk.1 hs;obtain⟨uz,Dc⟩:=bk.1 ht;have cn:t.length<=100000000:=aa;have pE:t.length+1<=100000000:=aa;refine lQ aG Tryz.func68 rfl Zz [.cell 4 16] ah _ rfl _ [2,4,5] [2,4,5] ?_;refine bG Zz ?_;dsimp only[VM,uV,S0,List.cons_append,List.nil_append,List.map];have FF:=eL @hn @iC @uz @Dc @cn @pE
 repeat first|refine aN (JL s v hv b1 b2 b3) ?_|refine aO (JL s v hv b1 b2 b3) ?_|refine aP (JL s v hv b1 b2 b3) ?_|refine bb ?_|refine zrq ?_
 try clear FF
 (try dsimp only[aM,aJ])
 refine gZ (by first|(simp;done)|(simp[hl,hw,fz];try rfl)|(simp;try rfl)) ae ?_;exact(by simp[cZ,List.map_set,ry])
structure adV (w:aE)(n:Nat)(r:Rr):Prop where
 aX:w.aX.length+r.sent.length<=1000000
 au:w.covered.length+r.covered.length<=1000000
 fail:∀f,w.br[n]? =some f->f.length+r.br.length<=1000000
 trace:∀t,w.traces[n]? =some t->t.length<=1000000
 ax:w.ax.length<=1000000
 node:r.s.aS.cells.length<=1000000/\r.s.aS.pending.length<=1000000/\r.s.dO.length<=1000000
theorem adW (w w':aE)(n:Nat)(r:Rr)(waiting:Int)(g1 g2 g3 g4:Nat)(h:qX w n r waiting=some w')(hb:adV w n r):
  fQ Tryz.prog 62 [.w (.agg (wX w g1 g2 g3 g4)),.w (.c (iA n)),.w (.agg (rX r)),.w (.c (iA waiting))] (wT w g1 g2 g3 g4)
  (fun x S'=>x=.w (.agg (wX w' g1 g2 g3 g4))/\∀p∈wT w' g1 g2 g3 g4,S' p.1=p.2):=by
 obtain⟨FZ,hbc,ya,hbt,BF,DY⟩:=hb;unfold qX at h;split at h
 case isFalse=>cases h
 rename_i hn;split at h
 ·cases h
 rename_i fl dM;have ya:=ya fl dM;obtain⟨wV,hfn⟩:=bk.1 dM
 have gz:w.br.set n fl=w.br:=by rw[<-hfn];exact List.set_getElem_self wV
 have hlen:=uB r
 obtain⟨yW,mh⟩:∃yW,yW=(if r.nu then w.ax++[(⟨true,waiting,n,r.s.dH,r.value⟩:Ob)] else w.ax):=⟨_,rfl⟩
 rw[<-mh] at h;refine lQ aG Tryz.func62 rfl ZC [.cell 8 16] ah _ rfl _ [4,6,8,9,10,12,13,14,15] [4,6,8,12,14] ?_;refine bG ZC ?_;dsimp only[VM,uV,S0,List.cons_append,List.nil_append,List.map];have FF:=fX @hn @acE @hlen @fh @OK
 repeat first|refine bb ?_|refine zrq ?_
 try clear FF
 refine cF (fun m V S=>∃(i:Nat) (x10:AV),i<=r.sent.length/\m=r.sent.length-i/\
  V=[(0,.w (.agg (wX w g1 g2 g3 g4))),(1,.w (.c (iA n))),(2,.w (.agg (rX r))),(3,.w (.c (iA waiting))),(4,.pb 4 1 0),(6,.pb 6 1 0),(8,.pb 8 1 0),(9,.w (.c (iA i))),(10,x10),(12,.u),(13,.u),(14,.u),(15,.u)]/\
  S=[(601,.row 92 52 g1 ((w.nodes.map aK).set n (aK r.s))),(602,.row 3 1 g2 (bB w.next)),(603,.row 202 1 g3 (w.br.map kC)),(604,.row 210 1 g4 (w.traces.map ry)),(4,.box 1 (wO w.c (gM ((r.sent.take i).foldl gH w.aX)) (ax w.ax) (sP w.covered) w.steps g1 g2 g3 g4)),(6,.box 1 (rX r)),(8,.box 1 [.sl [],.sl [],.sl [],.sl [],iA 0,iA 0,iA 0,iA 0,.sl [],.sl [],.sl [],.sl [],.sl [],.sl [],.sl [],iA 0]),(12,.dead 0),(14,.dead 0)]) (n:=r.sent.length) ⟨0,.u,aa,aa,rfl,rfl⟩ ?_
 rintro m V L S ⟨i,x10,hi,rfl,rfl,rfl⟩;by_cases hlt:i<r.sent.length
 ·have dI:i<=1000000000:=by have:=FZ;omega
  have qo:=Kb (r.sent.take i) w.aX;have Ga:=aq.FW gH r.sent w.aX i hlt;generalize(r.sent.take i).foldl gH w.aX=fi at qo Ga⊢
  have yX:fi.length<=1000000:=by rw[eo] at qo;omega
  obtain⟨e,he⟩:∃e,r.sent[i]=e:=⟨_,rfl⟩
  rw[he] at Ga;have FF:=eL @hlt @he @CQ @hlen @fh (bL dI)
  repeat first|refine aN (Oy fi e yX) ?_|refine aO (Oy fi e yX) ?_|refine aP (Oy fi e yX) ?_|refine bb ?_|refine zrq ?_
  try clear FF
  exact⟨r.sent.length-(i+1),aa,i+1,_,aa,aa,rfl,by rw[Ga]⟩
 obtain rfl:i=r.sent.length:=aa;rw[ig];generalize r.sent.foldl gH w.aX=fi at h⊢;by_cases zI:r.nu=true
 case' pos=>
  rw[if_pos zI] at mh;have tI:w.ax.length<=100000000:=aa;have wv:w.ax.length+1<=100000000:=aa;have FF:=zj @hlt @CQ @hlen @fh @adb @zI @apI @ada @tI @wv
  repeat first|refine bb ?_|refine zrq ?_
  try clear FF
  have FF:=jk @tI @wv;apply yS
  ·(repeat' first|refine ug ?_|refine uh ?_|refine ui ?_|refine bq ?_|refine sK ?_ ?_|refine yK ?_ ?_ ?_|refine uj ?_|refine uk ?_|refine um ?_|refine uo ?_|refine bb ?_|fail)<;>exact⟨rfl,rfl⟩
  intro L
  try clear FF
  have FF:=kh @tI @wv @adT
  repeat first|refine bb ?_|refine zrq ?_
  try clear FF
  rw[show w.ax.map Fv++[[AC.v (Value.bool true),iA waiting,iA n,iA r.s.dH,iA r.value]]=yW.map Fv by rw[mh,dw];rfl]
 case' neg=>
  have aqA:r.nu=false:=by simpa using zI
  rw[if_neg zI] at mh;have FF:=eL @hlt @CQ @hlen @fh @adb @aqA
  repeat first|refine bb ?_|refine zrq ?_
  try clear FF
  rw[show ax w.ax=ax yW by rw[mh]]
 all_goals
  clear mh
  refine cF (fun m V S=>∃(i:Nat) (y10 y12 y14:AV) (t12 t14:Slot) (q:List lE),i<=r.br.length/\m=r.br.length-i/\q=fl++(r.br.take i).map (fun k=>(⟨r.dA,k⟩:lE))/\
   V=[(0,.w (.agg (wX w g1 g2 g3 g4))),(1,.w (.c (iA n))),(2,.w (.agg (rX r))),(3,.w (.c (iA waiting))),(4,.pb 4 1 0),(6,.pb 6 1 0),(8,.pb 8 1 0),(9,.w (.c (iA r.sent.length))),(10,y10),(12,y12),(13,.w (.c (iA i))),(14,y14),(15,.u)]/\
   S=[(601,.row 92 52 g1 ((w.nodes.map aK).set n (aK r.s))),(602,.row 3 1 g2 (bB w.next)),(603,.row 202 1 g3 ((w.br.map kC).set n (kC q))),(604,.row 210 1 g4 (w.traces.map ry)),(4,.box 1 (wO w.c (gM fi) (ax yW) (sP w.covered) w.steps g1 g2 g3 g4)),(6,.box 1 (rX r)),(8,.box 1 [.sl [],.sl [],.sl [],.sl [],iA 0,iA 0,iA 0,iA 0,.sl [],.sl [],.sl [],.sl [],.sl [],.sl [],.sl [],iA 0]),(12,t12),(14,t14)]) (n:=r.br.length)
   ⟨0,_,_,_,_,_,fl,aa,aa,ae,rfl,by rw[show(w.br.map kC).set n (kC fl)=w.br.map kC by rw[<-List.map_set,gz]]⟩ ?_
  rintro m V L S ⟨i,y10,y12,y14,t12,t14,q,hi,rfl,hq,rfl,rfl⟩;by_cases cH:i<r.br.length
  ·have dI:i<=1000000000:=aa
   have eY:q.length=fl.length+min i r.br.length:=by rw[hq];simp
   obtain⟨kf,Px⟩:∃kf,r.br[i]=kf:=⟨_,rfl⟩
   have rR:fl++(r.br.take (i+1)).map (fun k=>(⟨r.dA,k⟩:lE))=q++[⟨r.dA,kf⟩]:=by
    rw[ki cH,Px,dw,hq,List.append_assoc];rfl
   have xX:q.length<=100000000:=aa;have wy:q.length+1<=100000000:=aa;have FF:=zj @cH @Px @wV @hlen @fh @JP @Au @xX @wy (bL dI)
   repeat first|refine bb ?_|refine zrq ?_
   try clear FF
   have FF:=GY @cH @Px @wV @hlen @fh @JP @Au @xX @wy;apply yS
   ·(repeat' first|refine ug ?_|refine uh ?_|refine ui ?_|refine bq ?_|refine sK ?_ ?_|refine yK ?_ ?_ ?_|refine uj ?_|refine uk ?_|refine um ?_|refine uo ?_|refine bb ?_|fail)<;>exact⟨rfl,rfl⟩
   intro L
   try clear FF
   have FF:=fX @wV @xX @wy @adT (bL dI)
   repeat first|refine bb ?_|refine zrq ?_
   try clear FF
   rw[show([AC.sl (q.map adf++[[iA r.dA.node,iA r.dA.handler,iA r.dA.count,iA kf]])]:List AC)=kC (q++[⟨r.dA,kf⟩]) by simp[kC]];exact⟨r.br.length-(i+1),aa,i+1,_,_,_,_,_,q++[⟨r.dA,kf⟩],aa,aa,rR.symm,rfl,rfl⟩
  ·obtain rfl:i=r.br.length:=aa;rw[ig] at hq;rw[<-hq] at h;have FF:=dW @cH @hlen @fh @JP
   repeat first|refine bb ?_|refine zrq ?_
   try clear FF
   refine cF (fun m V S=>∃(i:Nat) (cv:List (Int×Int)),i<=r.covered.length/\m=r.covered.length-i/\cv=((r.covered.take i).map fun k=>(r.s.version,k)).foldl nA w.covered/\
    V=[(0,.w (.agg (wX w g1 g2 g3 g4))),(1,.w (.c (iA n))),(2,.w (.agg (rX r))),(3,.w (.c (iA waiting))),(4,.pb 4 1 0),(6,.pb 6 1 0),(8,.pb 8 1 0),(9,.w (.c (iA r.sent.length))),(10,y10),(12,y12),(13,.w (.c (iA r.br.length))),(14,y14),(15,.w (.c (iA i)))]/\
    S=[(601,.row 92 52 g1 ((w.nodes.map aK).set n (aK r.s))),(602,.row 3 1 g2 (bB w.next)),(603,.row 202 1 g3 ((w.br.map kC).set n (kC q))),(604,.row 210 1 g4 (w.traces.map ry)),(4,.box 1 (wO w.c (gM fi) (ax yW) (sP cv) w.steps g1 g2 g3 g4)),(6,.box 1 (rX r)),(8,.box 1 [.sl [],.sl [],.sl [],.sl [],iA 0,iA 0,iA 0,iA 0,.sl [],.sl [],.sl [],.sl [],.sl [],.sl [],.sl [],iA 0]),(12,t12),(14,t14)]) (n:=r.covered.length)
    ⟨0,w.covered,aa,aa,ae,rfl,rfl⟩ ?_
   rintro m V L S ⟨i,cv,hi3,rfl,hcv,rfl,rfl⟩;by_cases Py:i<r.covered.length
   ·have dI:i<=1000000000:=aa;have dc:=Kc ((r.covered.take i).map fun k=>(r.s.version,k)) w.covered;rw[<-hcv,List.length_map,eo] at dc
    obtain⟨kc,rB⟩:∃kc,r.covered[i]=kc:=⟨_,rfl⟩
    have hcs:((r.covered.take (i+1)).map fun k=>(r.s.version,k)).foldl nA w.covered=nA cv (r.s.version,kc):=by
     rw[ki Py,rB,dw,DR,<-hcv];rfl
    have FF:=jl @Py @rB @hlen @fh @apE @ade (bL dI)
    repeat first|refine aN (Ps cv (r.s.version,kc) aa) ?_|refine aO (Ps cv (r.s.version,kc) aa) ?_|refine aP (Ps cv (r.s.version,kc) aa) ?_|refine bb ?_|refine zrq ?_
    try clear FF
    exact⟨r.covered.length-(i+1),aa,i+1,_,aa,aa,hcs.symm,rfl,rfl⟩
   ·obtain rfl:i=r.covered.length:=aa;rw[ig] at hcv;rw[<-hcv] at h
    have hT:=adU _ w' n g1 g2 g3 g4 h (fun s hs=>by
     have:(w.nodes.set n r.s)[n]? =some s:=hs;rw[vN hn] at this;cases this
     exact DY) hbt
    have ju:fQ Tryz.prog 68 [.w (.agg (wO w.c (gM fi) (ax yW) (sP cv) w.steps g1 g2 g3 g4)),.w (.c (iA n))] [(601,.row 92 52 g1 ((w.nodes.map aK).set n (aK r.s))),(602,.row 3 1 g2 (bB w.next)),(603,.row 202 1 g3 ((w.br.map kC).set n (kC q))),(604,.row 210 1 g4 (w.traces.map ry))]
      (fun x S'=>x=.w (.agg (wX w' g1 g2 g3 g4))/\∀p∈wT w' g1 g2 g3 g4,S' p.1=p.2):=by
     rw[<-List.map_set,<-List.map_set];exact hT
    have FF:=dW @Py @hlen @fh @ade
    repeat first|refine jS ju ?_|refine jT ju ?_|refine nM rfl ju ?_|refine bb ?_|refine zrq ?_
    try clear FF
    (try dsimp only[aM,aJ])
    refine gZ (by first|(simp;done)|(simp[hl,hw,fz];try rfl)|(simp;try rfl)) ae ?_;exact(by simp[cZ])
end Ab
end Go.Proofs.YtlnghiefahcnpaaGreat
