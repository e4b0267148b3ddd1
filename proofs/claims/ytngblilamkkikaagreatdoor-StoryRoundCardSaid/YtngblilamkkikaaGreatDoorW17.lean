import Derived.Test.YtngblilamkkikaaGreatDoorW15
import Derived.Test.YtngblilamkkikaaGreatDoorW14
set_option maxHeartbeats 40000000
set_option maxRecDepth 100000
set_option linter.all false
namespace Go.Proofs.YtngblilamkkikaaGreatDoor
namespace Ab
open Go Go.RowKit jc
attribute [local irreducible] aL bm aU
open aD (Rr aT js nQ pN Ap qG oh uZ XD lS gC fo Ao PQ)
variable {c:aT} {aE fl sn:AC} {es:List (List AC)} {ga kk eV:Nat} {l:List aI} {o:List AC} {ps:List Prog} {r:Rr} {rep:Bool} {self:Int}
theorem agP (s:aD.Node)(k:Nat):(aS s).take 6++ .sl (List.replicate k [iA 0])::(aS s).drop 7=aS { s with eO:=List.replicate k 0 }:=by
 unfold aS;simp
theorem agQ (s:aD.Node):(aS s).take 7++ .sl []::(aS s).drop 8=aS { s with timers:=[] }:=afB s []
theorem agR (s:aD.Node)(v:Int):bA s.up::iA v::(aS s).drop 2=aS { s with version:=v }:=by
 unfold aS;rfl
theorem atS{s:aD.Node}(h:js ps eV kk s){p:Prog}{version:Int}(hv:0<=version/\version<ps.length)(hp:ps[version.toNat]? =some p)(hs:pN p=true){nodes drift:Int}(AR:aD.bq self=true)(ze:aD.bq nodes=true)(mc:0<=drift/\drift<=3)
  (fA:kk<=5000) (hl:l.length<=1000000) (hr:Ap s p version self nodes drift l=some r):
  bu Tryz.prog 120 [.agg (aS s),.agg (cz p),.c (iA version),.c (iA self),.c (iA nodes),.c (iA drift),.c (mJ l)] (fun x=>x=.w (.agg (rX r))):=by
 have dm:=hs;unfold pN at dm;simp only[bO,cP] at dm;obtain⟨⟨⟨⟨⟨h1,h2⟩,h3⟩,h4⟩,h5⟩,h6⟩:=dm
 obtain⟨dn,iN⟩:∃dn:Nat,p.cZ=dn:=⟨p.cZ.toNat,ab⟩
 obtain⟨vn,vI⟩:∃vn:Nat,p.jd=vn:=⟨p.jd.toNat,ab⟩
 unfold Ap at hr;rw[af ab,iN,vI,iZ,iZ] at hr;have RP:(vn:Int)<=1000000:=ab;have dp:=h.qU;have hpn:=h.aY.lG
 obtain⟨d,hd,hdI⟩:∃d,(if(s.aY.cells.length:Int)=dn then some s.aY else uZ s.aY dn)=some d/\nQ dn d:=by
  split
  ·rename_i he;refine⟨_,rfl,?_⟩;have:dn=s.aY.cells.length:=ab;rw[this];exact h.aY
  ·exact XD h.aY _
 rw[hd] at hr;dsimp only at hr
 have hI:js ps eV kk { s with version:=version,aY:=d,eO:=List.replicate vn 0,timers:=[],waiting:= -1,up:=true }:=by
  have hl:=hdI.len
  exact { h with
   version:=by show -1<=version/\version<_;omega
   aY:=by show nQ d.cells.length d;rw[hl];exact hdI
   qU:=by show d.cells.length<=16;omega
   eO:=fun x hx=>by rw[EF hx];decide
   zd:=by show(List.replicate vn (0:Int)).length<=16;simp;omega
   timers:=fun t ht=>by simp at ht
   tV:=by show([]:List Int).length<=8;simp
   waiting:=by show -1<=(-1:Int)/\(-1:Int)<eV;omega
   run:=fun _=>⟨hv.1,fun q hq=>by
    have:q=p:=by rw[show ps[version.toNat]? =some q from hq] at hp;injection hp
    subst this
    show(d.cells.length:Int)=_/\((List.replicate vn (0:Int)).length:Int)=_
    simp
    omega⟩ }
 have hH:=agM (s:={ s with version:=version,aY:=d,eO:=List.replicate vn 0,timers:=[],waiting:= -1,up:=true }) hI hp hs rfl (handler:=0) ab AR ze mc (n0:=0) (n1:=0) (n2:=0) (n3:=0) (n4:=0) (n5:=0) (n6:=0) (n7:=0) (n8:=0) (fun x hx=>by
  simp only[bZ,kB,lO] at hx
  rcases hx with rfl|rfl|rfl|rfl|rfl|rfl|rfl|rfl|rfl<;>decide) fA hl hr
 refine cD Tryz.func120 aN [] [.cell 14 67] [7,8,14] [7,8,14] ?_;by_cases he:(s.aY.cells.length:Int)=dn
 ·rw[aj he] at hd;simp only[aC] at hd;subst hd;have FF:=fT @agR @afD @iN @he
  try refine aJ ?_
  iterate 3 (refine bg (by simp[vI,Xx,Xy,RP];try rfl) ?_)
  have FF:=kz @agP @agQ @Xw @afC @gP @zi @MX;refine bU hH ?_
  (try dsimp only[lZ,lA])
  exact jJ (xs:=[.agg (rX r)]) (by simp[zi,MW,agE]) rfl
 ·rw[af he] at hd;have hrz:=apG s.aY d dn hd ab ab ab;have FF:=jT @agR @afD @iN @he @asw;refine bU hrz ?_
  iterate 3 (refine bg (by simp[vI,Xx,Xy,RP];try rfl) ?_)
  have FF:=kz @agP @agQ @Xw @afC @gP @zi @MX;refine bU hH ?_
  (try dsimp only[lZ,lA])
  exact jJ (xs:=[.agg (rX r)]) (by simp[zi,MW,agE]) rfl
theorem atT{n:aD.Node}{val:Int}(hs:inl sn=true)(hf:inl fl=true)(ho:o.all inl=true)(tR:inl aE=true):(rC n (.own 403 ga) sn rep val fl c o aE).map (lx 403 ga es)=rC n (.sl es) sn rep val fl c o aE:=by
 rw[dW,dW,cU,JC,cU,cU,tQ ho,tQ (cs:=[aE]) (by simp[tR])];have h1:=tQ (s:=403) (g:=ga) (es:=es) (cs:=[sn]) (by simp[hs]);have h2:=tQ (s:=403) (g:=ga) (es:=es) (cs:=[fl]) (by simp[hf]);simp only[cY,lN,List.cons.injEq,and_true] at h1 h2
 have h0:lx 403 ga es (.own 403 ga)=.sl es:=by simp[lx]
 simp only[cY,lN,h0,h1,h2];rfl
theorem atU{n:aD.Node}{s g:Nat}{val:Int}(hsg:s≠403)(hs:inl sn=true)(hf:inl fl=true)(ho:o.all inl=true)(tR:inl aE=true):(rC n (.own 403 ga) sn rep val fl c o aE).map (lx s g es)=rC n (.own 403 ga) sn rep val fl c o aE:=by
 rw[dW,cU,JC,cU,cU,tQ ho,tQ (cs:=[aE]) (by simp[tR])];have h1:=tQ (s:=s) (g:=g) (es:=es) (cs:=[sn]) (by simp[hs]);have h2:=tQ (s:=s) (g:=g) (es:=es) (cs:=[fl]) (by simp[hf]);simp only[cY,lN,List.cons.injEq,and_true] at h1 h2
 have h3:¬403=s:=fun e=>hsg e.symm
 have h0:lx s g es (.own 403 ga)=.own 403 ga:=by simp[lx,h3]
 simp only[cY,lN,h0,h1,h2];rfl
theorem atV{s:aD.Node}(h:js ps eV kk s)(fA:kk<=5000)(hl:l.length<=1000000)(hr:qG s self l=some r):
  bu Tryz.prog 126 [.agg (aS s),.c (iA self),.c (mJ l)] (fun x=>x=.w (.agg (rX r))):=by
 have hlt:40<s.counts.length:=by rw[h.nc];omega
 have oI:=h.counts _ (cA hlt)
 have hce:s.counts[40]? =some s.counts[40]:=by simp[hlt]
 have db:s.counts.getD 40 0=s.counts[40]:=by rw[ff,hce];rfl
 unfold qG at hr;rw[hce] at hr;generalize s.counts[40]=k at oI hce db hr;dsimp only at hr;rw[bK] at hr;obtain⟨d,hd,rfl⟩:=hr;have hep:=h.eC;have dp:=h.qU;have tA:=h.zd;have hpn:=h.aY.lG;have c40:=afF s;rw[db] at c40;have Yj:=oC (a:=k) (b:=1) ab ab;have ep1:=oC (a:=s.eC) (b:=1) ab ab
 obtain⟨pn,ig⟩:∃pn,s.aY.pending.length=pn:=⟨_,rfl⟩
 rw[ig] at hd hpn;have atW:=arQ s.aY d ((lS l ⟨self,40,k⟩ pn).map fun(a:Ask)=>decide (a.n=1)) hd ab ab
 have tB:bu Tryz.prog 169 [.agg (nP s.aY),.c (.sl ((lS l ⟨self,40,k⟩ pn).map fun(a:Ask)=>[bA (decide (a.n=1))]))] (fun x=>x=.w (.agg (nP d))):=by
  have:=atW;simp only[Wv,List.map_map,Function.comp_def] at this;exact this
 have RP:(s.eO.length:Int)<=1000000:=ab;refine cD Tryz.func126 ⟨0,[8],[],[(10,[8,403])],dc,[(18,[52])],[(2,[(7,52,403,94,7)])]⟩ [] [.cell 6 67] [3,6,7,8,9,10,11] [3,6,7,10,8,403] ?_;have FF:=xZ @c40 @afp @afc @gP @tP @afu @afq @afr
 try refine aJ ?_
 refine dB (fun m V S=>∃(i g g8:Nat) (x10 x11:AV) (s10:Slot) (z6:List AC),i<=pn/\m=pn-i/\
  V=[(0,.w (.agg (aS s))),(1,.w (.c (iA self))),(2,.w (.c (mJ l))),(3,.pb 3 1 0),(6,.pb 6 1 0),(7,.pb 7 1 0),(8,.w (.c (.own 8 g8))),(9,.w (.c (iA i))),(10,x10),(11,x11)]/\
  S=[(3,.box 1 (aS s)),(6,.box 1 z6),(7,.box 1 (rC s (.own 403 g) (.sl []) false 0 (.sl []) ⟨self,40,k⟩ [.sl [],.sl [],iA 0,bA false,.sl [],.sl []] (.sl []))),(10,s10),(8,.row 4 1 g8 ((lS l ⟨self,40,k⟩ i).map fun(a:Ask)=>[bA (decide (a.n=1))])),(403,.row 94 7 g ((lS l ⟨self,40,k⟩ i).map eb))]/\z6.length=67) (n:=pn) ⟨0,1,1,.u,.u,.dead 0,_,ab,ab,rfl,rfl,iY⟩ ?_
 rintro m V L S ⟨i,g,g8,x10,x11,s10,z6,hi,rfl,rfl,rfl,hz⟩
 have kl:∀i,(lS l ⟨self,40,k⟩ i).length=i:=fun i=>by simp[lS]
 by_cases vH:i<pn
 ·have eE:i<=1000000000:=ab;have oH:=Xf l ⟨self,40,k,3,i⟩ 2 aq hl
  have eF:lS l ⟨self,40,k⟩ (i+1)=lS l ⟨self,40,k⟩ i++[gC ⟨self,40,k,3,i⟩ 2 (fo l ⟨self,40,k,3,i⟩ 2)]:=by
   unfold lS;rw[ng,cU];rfl
  have lW:=kl i;generalize lS l ⟨self,40,k⟩ i=ak at eF lW⊢;have Yh:ak.length+1<=100000000:=ab;generalize fo l ⟨self,40,k,3,i⟩ 2=nn at eF oH;have FF:=EC @vH @ig @afE @Yh (bT eE) @gP @tP @FO @Rl @Xs;refine bU oH ?_;exact⟨pn-(i+1),ab,i+1,g+1,g8+1,_,_,_,z6,ab,ab,rfl,by rw[eF,cU,cU];rfl,hz⟩
 obtain rfl:i=pn:=ab
 have Du:∀(ak sn fl aE:AC) (oo:List AC),((rC { s with aY:=d } ak sn false 0 fl ⟨self,40,k⟩ oo aE).drop 48).take 1=[iA k]:=fun ak sn fl aE oo=>by
  rw[asB]
  show [iA (s.counts.getD 40 0)]=[iA k]
  rw[db]
 have Yi:∀(ak sn fl aE:AC) (oo:List AC),(rC { s with aY:=d } ak sn false 0 fl ⟨self,40,k⟩ oo aE).take 48++iA (k+1)::(rC { s with aY:=d } ak sn false 0 fl ⟨self,40,k⟩ oo aE).drop 49=rC { s with aY:=d,counts:=s.counts.set 40 (k+1) } ak sn false 0 fl ⟨self,40,k⟩ oo aE:=fun ak sn fl aE oo=>asC _ _ _ _ _ _ _ _ _ (k+1) hlt
 have hvR:∀(s:aD.Node) (m:Nat) (ak sn fl aE:AC) (c:aT) (oo:List AC),(rC s ak sn false 0 fl c oo aE).take 6++ .sl (List.replicate m [iA 0])::(rC s ak sn false 0 fl c oo aE).drop 7=rC { s with eO:=List.replicate m 0 } ak sn false 0 fl c oo aE:=fun s m ak sn fl aE c oo=>by
  unfold rC;simp
 have Yk:∀f:AC->AC,(z6.map f).drop 67=[]:=fun f=>sV (by rw[dy];omega)
 have atX:∀(es es8:List (List AC)),(rC s (.own 403 g) (.sl []) false 0 (.sl []) ⟨self,40,k⟩ [.sl [],.sl [],iA 0,bA false,.sl [],.sl []] (.sl [])).map (lx 403 g es∘lx 8 g8 es8)=rC s (.sl es) (.sl []) false 0 (.sl []) ⟨self,40,k⟩ [.sl [],.sl [],iA 0,bA false,.sl [],.sl []] (.sl []):=fun es es8=>by
  rw[<-List.map_map,atU aq ai ai ai ai,atT ai ai ai ai]
 have FF:=UE @vH @ig @afE @gP @tP @atX @JC @Xm @Du @Yi @Yj @afG @asA @ep1;refine bU tB ?_
 (refine bg (by simp[Xx,Xy,RP];try rfl) ?_)
 have hT0:∀(s:aD.Node) (ak sn fl aE:AC) (c:aT) (oo:List AC),(rC s ak sn false 0 fl c oo aE).take 7++ .sl []::(rC s ak sn false 0 fl c oo aE).drop 8=rC { s with timers:=[] } ak sn false 0 fl c oo aE:=fun s ak sn fl aE c oo=>Xn s ak sn false 0 fl c oo aE []
 have FF:=xZ @gP @tP @hvR @hT0 @afo @asx @hz @Yk
 try refine aJ ?_
 (try dsimp only[lZ,lA])
 have Nc:∀(st:St) (n:aD.Node) (l:List (List AC)),st.jo (rC n (.sl l) (.sl []) false 0 (.sl []) ⟨self,40,k⟩ [.sl [],.sl [],iA 0,bA false,.sl [],.sl []] (.sl []))=some (rC n (.sl l) (.sl []) false 0 (.sl []) ⟨self,40,k⟩ [.sl [],.sl [],iA 0,bA false,.sl [],.sl []] (.sl [])):=fun st n l=>afy ai ai ai ai ai
 refine jJ (xs:=[.agg (rC { s with up:=false,eC:=s.eC+1,aY:=d,eO:=List.replicate s.eO.length 0,timers:=[],counts:=s.counts.set 40 (k+1),waiting:= -1 } (asks (lS l ⟨self,40,k⟩ i)) (.sl []) false 0 (.sl []) ⟨self,40,k⟩ [.sl [],.sl [],iA 0,bA false,.sl [],.sl []] (.sl []))]) (by simp[gP,tP,Nc]) ?_
 show AV.w _=AV.w (.agg (rX _))
 simp only[ig];rfl
end Ab
namespace Ab
open Go Go.RowKit
attribute [local irreducible] aL bm aU
open aD (et pk Ob om bE Env aT Rr gW dX sr MO tg yu)
variable {c:et} {j k:Nat} {r:Rr} {w:bE}
theorem agV(st:St)(D:List Nat)(r:Rr):st.jK D (rX r)=some (rX r):=JS (RN r)
theorem agW(hk:k<=1000)(hj:j<=1000)(h:dX c k j w){n:Nat}{N:Int}{cs:aT}{vD:Int}(hr:sr c.dA c.dO.length (k+1) N cs vD r)(hs:r.sent.length<=500)(hf:r.bB.length<=500):agH w n r:=by
 refine⟨by have:=h.tW;omega,by have:=h.sk;have:=hr.sk;omega,fun f hf2=> ?_,fun t ht=> ?_,by have:=h.sx;omega,?_⟩
 ·have:=h.MP f (dD hf2);omega
 ·have:=h.AX t (dD ht);omega
 ·have h1:=hr.s.qU;have h2:=hr.s.aY.lG;have h3:=hr.s.zd;omega
theorem Yn(hc:gW c)(hk:k<=1000)(hj:j<=1000)(h:dX c k j w){n:Nat}{s:aD.Node}(hs:w.nodes[n]? =some s)(ft:s.up=true){handler:Nat}(hh:handler<40)
  {n0 n1 n2 n3 n4 n5 n6 n7 n8:Int} (dF:∀x∈[n0,n1,n2,n3,n4,n5,n6,n7,n8],aD.bq x=true) {l:List aI} (cE:l.length<=1000000) {w':bE} (hx:tg w n handler [n0,n1,n2,n3,n4,n5,n6,n7,n8] l=some (w',r)) (g1 g2 g3 g4:Nat):
  gM Tryz.prog 122 [.w (.agg (wX w g1 g2 g3 g4)),.w (.c (iA n)),.w (.c (iA handler)),.w (.agg [iA n0,iA n1,iA n2,iA n3,iA n4,iA n5,iA n6,iA n7,iA n8]),.w (.c (mJ l))] (wT w g1 g2 g3 g4)
  (fun x S'=>x=.cg [.agg (wX w' g1 g2 g3 g4),.agg (rX r)]/\∀p∈wT w' g1 g2 g3 g4,S' p.1=p.2):=by
 obtain⟨hlt,eF⟩:=bG.1 hs
 have hn:n<c.first.length:=by rw[<-h.nodes];exact hlt
 have hI:=h.node s (dD hs);have hr:=hI.run ft;have hv:=hI.version;have h12:=hc.AU;have jP:=h.nodes
 obtain⟨vn,vI⟩:∃vn:Nat,s.version=vn:=⟨s.version.toNat,ab⟩
 have ig:vn<c.dA.length:=ab
 have hp:c.dA[vn]? =some c.dA[vn]:=by simp[ig]
 have tX:=hc.safe _ (cA ig)
 obtain⟨p,gE⟩:∃p,c.dA[vn]=p:=⟨_,rfl⟩
 rw[gE] at hp tX;have oL:=h.cfg;unfold tg at hx;rw[hs] at hx;simp only at hx;rw[af ab,oL,vI,iZ,hp,iZ] at hx;simp only at hx
 have Nf:c.dA[s.version.toNat]? =some p:=by rw[vI,iZ];exact hp
 obtain⟨r',e,a1,a2,a3⟩:=MO hI Nf tX ft (handler:=handler) hh (self:=n) (nodes:=w.nodes.length) (drift:=c.drift) (names:=[n0,n1,n2,n3,n4,n5,n6,n7,n8]) (aD.vE ab) (aD.vE ab) hc.drift rfl dF l ab;rw[e] at hx;simp only at hx;simp only[bK,jb] at hx;obtain⟨w2,lF,rfl,rfl⟩:=hx;have hH:=agM hI Nf tX ft hh (aD.vE ab) (aD.vE ab) hc.drift dF ab cE e;have hF:=agI w w2 n r' s.waiting g1 g2 g3 g4 lF (agW hk hj h a1 a2 a3);have hl:=zi r';have hw:=MW r';have hd:=MX r'
 have fz:=fun(st:St) (D:List Nat)=>agV st D r'
 have nM:=fun(D:List Nat)=>Yc D r'
 have Yo:vn<w.c.dA.length:=by rw[oL];exact ig
 have zm:w.c.dA[vn]=p:=by simp only[oL];exact gE
 have Yp:w.c.drift=c.drift:=by rw[oL]
 refine pK Tryz.func122 ⟨0,[],[(121,[601,602,603,604])],[],dc,[],[]⟩ [(2,20,tk 0 18 (.fork 18 19 (.move 19 .nil) (.move 18 .nil)),[]),(3,8,tk 0 5 (tk 6 1 (.move 5 (.move 7 .nil))),[601,602,603,604,10])] [.cell 10 16,.cell 11 67] [5,8,10,11,12,13] [5,8,10,11,12,13] ?_;have FF:=xZ @hlt @eF @afa @vI @Yo @zm @Yp @Xv;refine oE hH hF ?_;have FF:=fT @hl @hw @hd @nM;apply Dg
 ·(repeat' first|refine wZ hH ?_|refine xa hH ?_|refine tM hF ?_|refine tN hF ?_|refine vx ?_|refine yK ?_|refine yJ ?_|refine bz ?_|refine wW ?_ ?_|refine CV ?_ ?_ ?_|refine vy ?_|refine yL ?_|refine xc hH ?_|refine tO rfl hF ?_|refine yN ?_|refine yO ?_|refine yP ?_|refine yM ?_|refine yI ?_|fail)<;>exact⟨rfl,rfl⟩
 intro L;have FF:=jT @hl @hw @hd @nM @afb;refine oE hH hF ?_;refine jL ?_;exact(by simp[dL])
open aD (et pk Ob om bE Env aT Rr gW dX js sr MO tg yu wH enabled Rx qX Ry XF XG nH mC qH ib XL XM XN Rv qK)
theorem atY (l:List Env)(m:bQ)(c:Int)(hl:l.length<=1000000):∃(y:bQ) (z:Int),bu Tryz.prog 125 [.c (jr l),.agg (si m),.c (iA c)] (fun x=>x=.cg [.c (jr (qH l m c)),.agg (si y),.c (iA z)]):=by
 cases hf:nH l m with
 |none=>
  refine⟨⟨0,0,0,0,0⟩,3,?_⟩;refine cD Tryz.func125 aN [(7,6,tk 0 2 (tk 3 2 (.move 2 (tk 5 1 .nil))),[])] [.t 6,.cell 7 5,.t 8] [4,6,7,8,9,10] [4,7,9] ?_;have FF:=@hf;refine bU (Ri l m hl) ?_;refine zE ?_;exact(by unfold qH;rw[hf];rfl)
 |some e=>
  obtain⟨⟨e1,e2,e3,e4,e5⟩,e6,e7,e8,e9⟩:=e
  rcases Xk l ⟨e1,e2,e3,e4,c⟩ with⟨h1,h2⟩|⟨k,hk,h1,h2,h3⟩
  ·refine⟨⟨e1,e2,e3,e4,c⟩,0,?_⟩;refine cD Tryz.func125 aN [(7,6,tk 0 2 (tk 3 2 (.move 2 (tk 5 1 .nil))),[])] [.t 6,.cell 7 5,.t 8] [4,6,7,8,9,10] [4,7,9] ?_;have FF:=lI @hf @h1;refine FA (Ri l m hl) (JA l ⟨e1,e2,e3,e4,c⟩ hl) (Rh l ⟨⟨e1,e2,e3,e4,c⟩,e6,e7,e8,e9⟩ hl) ?_;refine zE ?_;exact(by unfold qH aD.jF;rw[hf];dsimp only;rw[h2];rfl)
  ·refine⟨⟨0,0,0,0,0⟩,4,?_⟩;refine cD Tryz.func125 aN [(7,6,tk 0 2 (tk 3 2 (.move 2 (tk 5 1 .nil))),[])] [.t 6,.cell 7 5,.t 8] [4,6,7,8,9,10] [4,7,9] ?_;have FF:=lI @hf @h1;refine FA (Ri l m hl) (JA l ⟨e1,e2,e3,e4,c⟩ hl) (Rh l ⟨⟨e1,e2,e3,e4,c⟩,e6,e7,e8,e9⟩ hl) ?_;refine zE ?_;exact(by unfold qH aD.jF;rw[hf];dsimp only;rw[h2];rfl)
theorem RQ:rX qK=[bA false,iA 0,iA 0,iA 0,.sl [],.sl [],.sl [],.sl []]++List.replicate 44 (iA 0)++[.sl [],.sl [],bA false,iA 0,.sl [],iA 0,iA 0,iA 0,.sl [],.sl [],iA 0,bA false,.sl [],.sl [],.sl []]:=by
 unfold rX rC;rfl
theorem atZ {c:et}(hc:gW c){k j:Nat}(hk:k<=900)(hj:j<=900){w:bE}(h:dX c k j w){e:Ev}(he:e∈enabled w){l:List aI}(cE:l.length<=1000000){w':bE}{r:Rr}(hx:wH w e l=some (w',r))(g1 g2 g3 g4:Nat):
  gM Tryz.prog 88 [.w (.agg (wX w g1 g2 g3 g4)),.w (.agg (kR e)),.w (.c (mJ l))] (wT w g1 g2 g3 g4)
  (fun x S'=>x=.cg [.agg (wX w' g1 g2 g3 g4),.agg (rX r)]/\∀p∈wT w' g1 g2 g3 g4,S' p.1=p.2):=by
 obtain⟨n,s,hs,FU⟩:=Rx he;obtain⟨hlt,eF⟩:=bG.1 hs
 have hn:n<c.first.length:=by rw[<-h.nodes];exact hlt
 have hI:=h.node s (dD hs);have h12:=hc.AU;have jP:=h.nodes;have oL:=h.cfg;obtain⟨mf,MS⟩:=FU;unfold wH at hx;rw[mf,af ab] at hx;simp only[iZ,hs] at hx;have hl:=zi r;have hw:=MW r;have hd:=MX r
 have fz:=fun(st:St) (D:List Nat)=>agV st D r
 have nM:=fun(D:List Nat)=>Yc D r
 have cH:w.bD.length<=1000000:=by have:=h.tW;omega
 have pz:w.aX.length<=100000000:=by have:=h.sx;omega
 have Yq:w.aX.length+1<=100000000:=by have:=h.sx;omega
 have Yp:w.c.drift=c.drift:=by rw[oL]
 rcases MS with⟨a,b,d,m⟩|⟨a,b,d,f,g,m⟩|⟨a,b,d⟩|⟨a,b,d,m⟩|⟨a,b,d,f,m⟩
 ·
  have hv:=Ry hc h hs d
  obtain⟨vn,vI⟩:∃vn:Nat,e.arg=vn:=⟨e.arg.toNat,ab⟩
  have ig:vn<c.dA.length:=ab
  have hp:c.dA[vn]? =some c.dA[vn]:=by simp[ig]
  have tX:=hc.safe _ (cA ig)
  obtain⟨p,gE⟩:∃p,c.dA[vn]=p:=⟨_,rfl⟩
  rw[gE] at hp tX;rw[aj a,af ab,oL,vI,iZ,hp] at hx;simp only at hx;obtain⟨r',e1,a1,a2,a3⟩:=XF hI (version:=vn) ab (by rw[iZ];exact hp) tX (self:=n) (nodes:=w.nodes.length) (drift:=c.drift) (aD.vE ab) (aD.vE ab) hc.drift l ab;rw[e1] at hx;simp only[bK,jb] at hx;obtain⟨w2,lF,rfl,rfl⟩:=hx;have hS:=atS hI (version:=vn) ab (by rw[iZ];exact hp) tX (aD.vE ab) (aD.vE ab) hc.drift ab cE e1;have hF:=agI w w2 n r' (-1) g1 g2 g3 g4 lF (agW ab ab h a1 a2 a3)
  have Yo:vn<w.c.dA.length:=by rw[oL];exact ig
  have zm:w.c.dA[vn]=p:=by simp only[oL];exact gE
  refine pK Tryz.func88 ⟨0,[12,15],[(121,[601,602,603,604]),(122,[601,602,603,604]),(127,[601,602,603,604])],[(11,[12]),(32,[15])],dc,[],[]⟩ [(5,24,tk 0 22 (.fork 22 23 (.move 23 .nil) (.move 22 .nil)),[]),(10,15,tk 0 3 (tk 4 10 (.fork 3 14 (.move 14 .nil) (.move 3 .nil))),[12,15]),(40,18,tk 0 10 (.fork 10 15 (tk 11 4 (.move 15 (tk 16 1 (.move 17 .nil)))) (.move 10 (tk 11 4 (tk 16 1 (.move 17 .nil))))),[12,15,18]),(6,6,tk 0 3 (tk 4 1 (.move 3 (.move 5 .nil))),[12,15,601,602,603,604,6]),tm 12 8,tz 30 11,tz 36 10,tz 39 10,(45,5,tk 0 2 (tk 3 1 (.move 2 (.move 4 .nil))),[12,15,601,602,603,604,6])] [.cell 6 16,.cell 7 67] [3,4,6,7,8,9,10,11,12,13,15,16,17,18,20,24] [3,4,6,7,9,10,11,13,18,20,12,15] ?_;have FF:=xZ @mf @a @vI @hlt @eF @Yo @zm @Yp;refine oE hS hF ?_;have FF:=kz @mf @a @vI @hl @hw @hd @nM;apply Dg
  ·(repeat' first|refine wZ hS ?_|refine xa hS ?_|refine tM hF ?_|refine tN hF ?_|refine vx ?_|refine yK ?_|refine yJ ?_|refine bz ?_|refine wW ?_ ?_|refine CV ?_ ?_ ?_|refine vy ?_|refine yL ?_|refine xc hS ?_|refine tO rfl hF ?_|refine yN ?_|refine yO ?_|refine yP ?_|refine yM ?_|refine yI ?_|fail)<;>exact⟨rfl,rfl⟩
  intro L;have FF:=kz @mf @a @vI @hl @hw @hd @nM;refine oE hS hF ?_;refine jL ?_;exact(by simp[dL])
 ·
  have RR:n<w.next.length:=by rw[h.next];exact hn
  rw[ff,cy RR,Ad] at g;have WA:=h.pd _ (cA RR);rw[<-g] at WA;have atd:=hc.eV
  obtain⟨an,vJ⟩:∃an:Nat,e.arg=an:=⟨e.arg.toNat,ab⟩
  have fu:an<c.dO.length:=ab
  have agX:an<w.c.dO.length:=by rw[oL];exact fu
  have AY:=hc.req _ (cA fu)
  obtain⟨q,rf⟩:∃q,c.dO[an]=q:=⟨_,rfl⟩
  rw[rf] at AY
  have zn:w.c.dO[an]=q:=by simp only[oL];exact rf
  have hq':w.c.dO[an]? =some q:=by rw[cy agX,zn]
  rw[af ab,aj a,af ab,vJ,iZ,hq'] at hx;simp only at hx;rw[aj RR] at hx
  have h1:dX c k (j+1) { w with aX:=w.aX++[(⟨false,an,n,s.eC,0⟩:Ob)],next:=w.next.set n (aD.after w.c n an) }:=
   { h with
    next:=by show(w.next.set n _).length=_;simp[h.next]
    pd:=fun x hx=>by
     rcases aD.mem_set hx with hx|rfl
     ·exact h.pd x hx
     ·rw[oL];exact Rv _ _ _
    sx:=by have:=h.sx;show(w.aX++[_]).length<=_;simp;exact this }
  have sy:js c.dA c.dO.length k { s with waiting:=an }:={ hI with waiting:=by show -1<=(an:Int)/\(an:Int)<_;omega }
  have h2:=h1.setNode n sy
  have hH:=Yn hc ab ab h2 (n:=n) (s:={ s with waiting:=an }) (by show(w.nodes.set n _)[n]? =_;simp[hlt]) b (handler:=1) ab (n0:=0) (n1:=0) (n2:=0) (n3:=0) (n4:=q.arg) (n5:=0) (n6:=an) (n7:=q.op) (n8:=q.key) (fun x hx=>by
   simp only[bZ,kB,lO] at hx
   rcases hx with rfl|rfl|rfl|rfl|rfl|rfl|rfl|rfl|rfl
   any_goals decide
   ·exact AY.2.2
   ·rw[aD.tT];omega
   ·exact AY.1
   ·exact AY.2.1) cE hx g1 g2 g3 g4
  have Yr:gM Tryz.prog 122 [.w (.agg (wO w.c (jr w.bD) (.sl (w.aX.map MH++[[bA false,iA an,iA n,iA s.eC,iA 0]])) (eU w.covered) w.steps g1 g2 g3 g4)),.w (.c (iA n)),.w (.c (iA 1)),.w (.agg [iA 0,iA 0,iA 0,iA 0,iA q.arg,iA 0,iA an,iA q.op,iA q.key]),.w (.c (mJ l))]
    [(601,.row 169 52 g1 ((w.nodes.map aS).set n (aS { s with waiting:=an }))),(602,.row 3 1 g2 ((bL w.next).set n [iA (aD.after w.c n an)])),(603,.row 273 1 g3 (w.bB.map nu)),(604,.row 71 1 g4 (w.traces.map vC))]
    (fun x S'=>x=.cg [.agg (wX w' g1 g2 g3 g4),.agg (rX r)]/\∀p∈wT w' g1 g2 g3 g4,S' p.1=p.2):=by
   rw[<-List.map_set,show(bL w.next).set n [iA (aD.after w.c n an)]=bL (w.next.set n (aD.after w.c n an)) from(List.map_set ..).symm,show AC.sl (w.aX.map MH++[[bA false,iA an,iA n,iA s.eC,iA 0]])=aX (w.aX++[(⟨false,an,n,s.eC,0⟩:Ob)]) by show _=AC.sl (List.map _ _);rw[cU];rfl];exact hH
  have hAf:=agu w.c n an ab (by rw[oL];omega);refine pK Tryz.func88 ⟨0,[12,15],[(121,[601,602,603,604]),(122,[601,602,603,604]),(127,[601,602,603,604])],[(11,[12]),(32,[15])],dc,[],[]⟩ [(5,24,tk 0 22 (.fork 22 23 (.move 23 .nil) (.move 22 .nil)),[]),(10,15,tk 0 3 (tk 4 10 (.fork 3 14 (.move 14 .nil) (.move 3 .nil))),[12,15]),(40,18,tk 0 10 (.fork 10 15 (tk 11 4 (.move 15 (tk 16 1 (.move 17 .nil)))) (.move 10 (tk 11 4 (tk 16 1 (.move 17 .nil))))),[12,15,18]),(6,6,tk 0 3 (tk 4 1 (.move 3 (.move 5 .nil))),[12,15,601,602,603,604,6]),tm 12 8,tz 30 11,tz 36 10,tz 39 10,(45,5,tk 0 2 (tk 3 1 (.move 2 (.move 4 .nil))),[12,15,601,602,603,604,6])] [.cell 6 16,.cell 7 67] [3,4,6,7,8,9,10,11,12,13,15,16,17,18,20,24] [3,4,6,7,9,10,11,13,18,20,12,15] ?_;have FF:=Px @mf @a @vJ @agX @zn @hlt @eF @pz @Yq
  try refine aJ ?_
  have FF:=kz @mf @a @vJ @hlt @eF @pz @Yq;apply Dg
  ·(repeat' first|refine vx ?_|refine yK ?_|refine yJ ?_|refine bz ?_|refine wW ?_ ?_|refine CV ?_ ?_ ?_|refine vy ?_|refine yL ?_|refine yN ?_|refine yO ?_|refine yP ?_|refine yM ?_|refine yI ?_|fail)<;>exact⟨rfl,rfl⟩
  intro L;have FF:=UE @mf @a @vJ @hlt @eF @pz @Yq @RR @Xw @JC @hl @hw @hd @nM;refine oE hAf Yr ?_;refine jL ?_;exact(by simp[dL])
 ·
  obtain⟨x,hf,hxm,hm⟩:=XN d;have xj:=h.bD x hxm;have RO:=Ri w.bD e.msg cH;rw[hf] at RO;have hrm:=arN w.bD e.msg cH;have mc:=hI.dropped;have hdb:=hI.dJ
  rcases a with⟨a,hu⟩|a|a
  ·rw[af ab,af ab,aj a,hf] at hx;simp only at hx
   obtain⟨kn,hkn⟩:∃kn:Nat,x.kind=kn:=⟨x.kind.toNat,by have:=xj.2.2.1;omega⟩
   have aDq:=xj.2.2.1;rw[hkn,show(10:Int)+(kn:Int)=((10+kn:Nat):Int) by omega] at hx
   have rh:bt .add (.int .i64 10) (.int .i64 (kn:Int))=some (.int .i64 ((10+kn:Nat):Int)):=by rw[oC ab ab];congr 2
   have aua:∀e'∈mC w.bD e.msg,aD.Ru c.first.length k e':=fun e' FV=>h.bD e' (XL FV)
   have h1:dX c k j { w with bD:=mC w.bD e.msg }:={ h with bD:=aua,tW:=by have:=XM w.bD e.msg;have:=h.tW;show(mC w.bD e.msg).length<=_;omega }
   have hH:=Yn hc ab ab h1 (n:=n) (s:=s) hs hu (handler:=10+kn) ab (n0:=0) (n1:=0) (n2:=0) (n3:=x.msg.node) (n4:=x.a) (n5:=x.b) (n6:=0) (n7:=0) (n8:=0) (fun y hy=>by
    simp only[bZ,kB,lO] at hy
    rcases hy with rfl|rfl|rfl|rfl|rfl|rfl|rfl|rfl|rfl
    any_goals decide
    ·rw[aD.tT];have:=xj.1.1;omega
    ·exact xj.2.2.2.1
    ·exact xj.2.2.2.2) cE hx g1 g2 g3 g4
   refine pK Tryz.func88 ⟨0,[12,15],[(121,[601,602,603,604]),(122,[601,602,603,604]),(127,[601,602,603,604])],[(11,[12]),(32,[15])],dc,[],[]⟩ [(5,24,tk 0 22 (.fork 22 23 (.move 23 .nil) (.move 22 .nil)),[]),(10,15,tk 0 3 (tk 4 10 (.fork 3 14 (.move 14 .nil) (.move 3 .nil))),[12,15]),(40,18,tk 0 10 (.fork 10 15 (tk 11 4 (.move 15 (tk 16 1 (.move 17 .nil)))) (.move 10 (tk 11 4 (tk 16 1 (.move 17 .nil))))),[12,15,18]),(6,6,tk 0 3 (tk 4 1 (.move 3 (.move 5 .nil))),[12,15,601,602,603,604,6]),tm 12 8,tz 30 11,tz 36 10,tz 39 10,(45,5,tk 0 2 (tk 3 1 (.move 2 (.move 4 .nil))),[12,15,601,602,603,604,6])] [.cell 6 16,.cell 7 67] [3,4,6,7,8,9,10,11,12,13,15,16,17,18,20,24] [3,4,6,7,9,10,11,13,18,20,12,15] ?_;have FF:=xZ @mf @a @hkn @hl @hw @hd @nM @rh;refine FA RO hrm hH ?_;refine jL ?_;exact(by simp[dL])
  ·rw[af ab,af ab,af ab,af ab,aj a] at hx;simp only[aC,jb] at hx;obtain⟨rfl,rfl⟩:=hx;have ck:=oC (a:=s.dropped) (b:=1) ab ab;refine pK Tryz.func88 ⟨0,[12,15],[(121,[601,602,603,604]),(122,[601,602,603,604]),(127,[601,602,603,604])],[(11,[12]),(32,[15])],dc,[],[]⟩ [(5,24,tk 0 22 (.fork 22 23 (.move 23 .nil) (.move 22 .nil)),[]),(10,15,tk 0 3 (tk 4 10 (.fork 3 14 (.move 14 .nil) (.move 3 .nil))),[12,15]),(40,18,tk 0 10 (.fork 10 15 (tk 11 4 (.move 15 (tk 16 1 (.move 17 .nil)))) (.move 10 (tk 11 4 (tk 16 1 (.move 17 .nil))))),[12,15,18]),(6,6,tk 0 3 (tk 4 1 (.move 3 (.move 5 .nil))),[12,15,601,602,603,604,6]),tm 12 8,tz 30 11,tz 36 10,tz 39 10,(45,5,tk 0 2 (tk 3 1 (.move 2 (.move 4 .nil))),[12,15,601,602,603,604,6])] [.cell 6 16,.cell 7 67] [3,4,6,7,8,9,10,11,12,13,15,16,17,18,20,24] [3,4,6,7,9,10,11,13,18,20,12,15] ?_;have FF:=gA @mf @a @hlt @eF @ck @asu;refine bU hrm ?_;refine jL ?_;exact(by simp[dL,List.map_set,RQ,aD.bE.setNode])
  ·rw[af ab,af ab,af ab,af ab,af ab,aj a] at hx;simp only[aC,jb] at hx;obtain⟨rfl,rfl⟩:=hx;have ck:=oC (a:=s.dJ) (b:=1) ab ab;obtain⟨y,z,JJ⟩:=atY w.bD e.msg (s.dJ+1) cH;refine pK Tryz.func88 ⟨0,[12,15],[(121,[601,602,603,604]),(122,[601,602,603,604]),(127,[601,602,603,604])],[(11,[12]),(32,[15])],dc,[],[]⟩ [(5,24,tk 0 22 (.fork 22 23 (.move 23 .nil) (.move 22 .nil)),[]),(10,15,tk 0 3 (tk 4 10 (.fork 3 14 (.move 14 .nil) (.move 3 .nil))),[12,15]),(40,18,tk 0 10 (.fork 10 15 (tk 11 4 (.move 15 (tk 16 1 (.move 17 .nil)))) (.move 10 (tk 11 4 (tk 16 1 (.move 17 .nil))))),[12,15,18]),(6,6,tk 0 3 (tk 4 1 (.move 3 (.move 5 .nil))),[12,15,601,602,603,604,6]),tm 12 8,tz 30 11,tz 36 10,tz 39 10,(45,5,tk 0 2 (tk 3 1 (.move 2 (.move 4 .nil))),[12,15,601,602,603,604,6])] [.cell 6 16,.cell 7 67] [3,4,6,7,8,9,10,11,12,13,15,16,17,18,20,24] [3,4,6,7,9,10,11,13,18,20,12,15] ?_;have FF:=gA @mf @a @hlt @eF @ck @asv
   try refine aJ ?_
   have FF:=gA @mf @a @hlt @eF @ck @arC;apply Dg
   ·(repeat' first|refine wZ JJ ?_|refine xa JJ ?_|refine vx ?_|refine yK ?_|refine yJ ?_|refine bz ?_|refine wW ?_ ?_|refine CV ?_ ?_ ?_|refine vy ?_|refine yL ?_|refine xc JJ ?_|refine yN ?_|refine yO ?_|refine yP ?_|refine yM ?_|refine yI ?_|fail)<;>exact⟨rfl,rfl⟩
   intro L;have FF:=jT @mf @a @hlt @eF @ck
   try refine aJ ?_
   refine jL ?_;exact(by simp[dL,List.map_set,RQ,aD.bE.setNode])
 ·
  have ht:=hI.timers _ d;have yW:=hI.tV;rw[af ab,af ab,af ab,aj a] at hx
  obtain⟨tn,JO⟩:∃tn:Nat,e.arg=tn:=⟨e.arg.toNat,ab⟩
  rw[JO,show(2:Int)+(tn:Int)=((2+tn:Nat):Int) by omega] at hx
  have rh:bt .add (.int .i64 2) (.int .i64 (tn:Int))=some (.int .i64 ((2+tn:Nat):Int)):=by rw[oC ab ab];congr 2
  obtain⟨tl,ll⟩:∃tl,s.timers.filter (fun t=>decide (t≠(tn:Int)))=tl:=⟨_,rfl⟩
  rw[ll] at hx
  have sy:js c.dA c.dO.length k { s with timers:=tl }:={ hI with timers:=fun t ht=>hI.timers t (mq.1 (ll▸ht)).1,tV:=by rw[<-ll];exact bh (nb _ _) hI.tV }
  have hH:=Yn hc ab ab (h.setNode n sy) (n:=n) (s:={ s with timers:=tl }) (by show(w.nodes.set n _)[n]? =_;simp[hlt]) b (handler:=2+tn) ab (n0:=0) (n1:=0) (n2:=0) (n3:=0) (n4:=0) (n5:=0) (n6:=0) (n7:=0) (n8:=0) (fun y hy=>by
   simp only[bZ,kB,lO] at hy
   rcases hy with rfl|rfl|rfl|rfl|rfl|rfl|rfl|rfl|rfl<;>decide) cE hx g1 g2 g3 g4
  have Yr:gM Tryz.prog 122 [.w (.agg (wX w g1 g2 g3 g4)),.w (.c (iA n)),.w (.c (iA ((2+tn:Nat):Int))),.w (.agg [iA 0,iA 0,iA 0,iA 0,iA 0,iA 0,iA 0,iA 0,iA 0]),.w (.c (mJ l))]
    [(601,.row 169 52 g1 ((w.nodes.map aS).set n (aS { s with timers:=tl }))),(602,.row 3 1 g2 (bL w.next)),(603,.row 273 1 g3 (w.bB.map nu)),(604,.row 71 1 g4 (w.traces.map vC))]
    (fun x S'=>x=.cg [.agg (wX w' g1 g2 g3 g4),.agg (rX r)]/\∀p∈wT w' g1 g2 g3 g4,S' p.1=p.2):=by
   rw[<-List.map_set];exact hH
  refine pK Tryz.func88 ⟨0,[12,15],[(121,[601,602,603,604]),(122,[601,602,603,604]),(127,[601,602,603,604])],[(11,[12]),(32,[15])],dc,[],[]⟩ [(5,24,tk 0 22 (.fork 22 23 (.move 23 .nil) (.move 22 .nil)),[]),(10,15,tk 0 3 (tk 4 10 (.fork 3 14 (.move 14 .nil) (.move 3 .nil))),[12,15]),(40,18,tk 0 10 (.fork 10 15 (tk 11 4 (.move 15 (tk 16 1 (.move 17 .nil)))) (.move 10 (tk 11 4 (tk 16 1 (.move 17 .nil))))),[12,15,18]),(6,6,tk 0 3 (tk 4 1 (.move 3 (.move 5 .nil))),[12,15,601,602,603,604,6]),tm 12 8,tz 30 11,tz 36 10,tz 39 10,(45,5,tk 0 2 (tk 3 1 (.move 2 (.move 4 .nil))),[12,15,601,602,603,604,6])] [.cell 6 16,.cell 7 67] [3,4,6,7,8,9,10,11,12,13,15,16,17,18,20,24] [3,4,6,7,9,10,11,13,18,20,12,15] ?_;have FF:=fT @mf @a @hlt @eF
  try refine aJ ?_
  refine dB (fun m V S=>∃(i g:Nat) (o:List Int),i<=s.timers.length/\m=s.timers.length-i/\o=(s.timers.take i).filter (fun t=>decide (t≠(tn:Int)))/\o.length<=i/\
   V=[(0,.w (.agg (wX w g1 g2 g3 g4))),(1,.w (.agg (kR e))),(2,.w (.c (mJ l))),(3,.pb 3 1 0),(4,.pb 4 1 0),(6,.pb 6 1 0),(7,.pb 7 1 0),(8,.w (.c (iA n))),(9,.pb 9 1 0),(10,.u),(11,.u),(12,.u),(13,.u),(15,.w (.c (.own 15 g))),(16,.w (.c (iA i))),(17,.u),(18,.u),(20,.u),(24,.w (.c (iA 4)))]/\
   S=wT w g1 g2 g3 g4++[(3,.box 1 (wX w g1 g2 g3 g4)),(4,.box 1 (kR e)),(6,.box 1 [.sl [],.sl [],.sl [],.sl [],iA 0,iA 0,iA 0,iA 0,.sl [],.sl [],.sl [],.sl [],.sl [],.sl [],.sl [],iA 0]),(7,.box 1 (rX qK)),(9,.box 1 [iA 0,iA 0,iA 0,iA 0,iA 0,iA 0,iA 0,iA 0,iA 0]),(10,.dead 0),(11,.dead 0),(13,.dead 0),(18,.dead 0),(20,.dead 0),(12,.dead 0),(15,.row 3 1 g (bL o))]) (n:=s.timers.length) ⟨0,1,[],ab,ab,ai,ai,by simp[a];done,by rw[RQ];rfl⟩ ?_
  rintro m V L S ⟨i,g,o,hi,rfl,ho,vB,rfl,rfl⟩;rw[RQ];by_cases fb:i<s.timers.length
  ·have eE:i<=1000000000:=ab;have aub:o.length<=100000000:=ab
   obtain⟨t,JU⟩:∃t,s.timers[i]=t:=⟨_,rfl⟩
   have Dv:s.timers.take (i+1)=s.timers.take i++[t]:=by rw[List.take_succ_eq_append_getElem fb,JU]
   by_cases hne:t=(tn:Int)
   ·have FF:=kz @fb @JU @hlt @eF @hne @JO (bT eE)
    try refine aJ ?_
    exact⟨s.timers.length-(i+1),ab,i+1,g,o,ab,rfl,by rw[Dv,qq,<-ho];simp[hne],ab,rfl,rfl⟩
   ·have FF:=xZ @fb @JU @hlt @eF @hne @JO @aub (bT eE)
    try refine aJ ?_
    exact⟨s.timers.length-(i+1),ab,i+1,g+1,o++[t],ab,rfl,by rw[Dv,qq,<-ho];simp[hne],by simp;omega,rfl,by rw[show bL (o++[t])=bL o++[[iA t]] from cU ..];rfl⟩
  ·obtain rfl:i=s.timers.length:=ab;rw[fx,ll] at ho;subst ho;have FF:=Py @fb @hlt @eF @JO @rh @afB @JC @hl @hw @hd @nM;refine bU Yr ?_;refine jL ?_;exact(by simp[dL])
 ·
  rw[af ab,af ab,af ab,af ab,af ab,af ab] at hx;obtain⟨r',e1,a1,a2,a3⟩:=XG hI (n:Int) (c.first.length:Int) l;rw[e1] at hx;simp only[bK,jb] at hx;obtain⟨w2,RT,rfl,rfl⟩:=hx;have hC:=atV hI ab cE e1;have h1:=a1.s.qU;have h2:=a1.s.aY.lG;have h3:=a1.s.zd
  have hT:=agG _ w2 n g1 g2 g3 g4 RT (fun s2 ic=>by
   have:(w.nodes.set n r'.s)[n]? =some s2:=ic;rw[zW hlt] at this;cases this
   omega) (fun t ht=>by have:=h.AX t (dD ht);omega)
  have gX:gM Tryz.prog 127 [.w (.agg (wX w g1 g2 g3 g4)),.w (.c (iA n))] [(601,.row 169 52 g1 ((w.nodes.map aS).set n (aS r'.s))),(602,.row 3 1 g2 (bL w.next)),(603,.row 273 1 g3 (w.bB.map nu)),(604,.row 71 1 g4 (w.traces.map vC))]
    (fun x S'=>x=.w (.agg (wX w2 g1 g2 g3 g4))/\∀p∈wT w2 g1 g2 g3 g4,S' p.1=p.2):=by
   rw[<-List.map_set];exact hT
  refine pK Tryz.func88 ⟨0,[12,15],[(121,[601,602,603,604]),(122,[601,602,603,604]),(127,[601,602,603,604])],[(11,[12]),(32,[15])],dc,[],[]⟩ [(5,24,tk 0 22 (.fork 22 23 (.move 23 .nil) (.move 22 .nil)),[]),(10,15,tk 0 3 (tk 4 10 (.fork 3 14 (.move 14 .nil) (.move 3 .nil))),[12,15]),(40,18,tk 0 10 (.fork 10 15 (tk 11 4 (.move 15 (tk 16 1 (.move 17 .nil)))) (.move 10 (tk 11 4 (tk 16 1 (.move 17 .nil))))),[12,15,18]),(6,6,tk 0 3 (tk 4 1 (.move 3 (.move 5 .nil))),[12,15,601,602,603,604,6]),tm 12 8,tz 30 11,tz 36 10,tz 39 10,(45,5,tk 0 2 (tk 3 1 (.move 2 (.move 4 .nil))),[12,15,601,602,603,604,6])] [.cell 6 16,.cell 7 67] [3,4,6,7,8,9,10,11,12,13,15,16,17,18,20,24] [3,4,6,7,9,10,11,13,18,20,12,15] ?_;have FF:=Py @mf @a @hlt @eF @hl @hw @hd @nM @gP @afl @Xv;refine oE hC gX ?_;refine jL ?_;exact(by simp[dL])
end Ab
end Go.Proofs.YtngblilamkkikaaGreatDoor
