import Derived.Test.YtkanpepkdcmpmaaGreatDoorW32
import Derived.Test.YtkanpepkdcmpmaaGreatDoorW34
set_option maxHeartbeats 40000000
set_option maxRecDepth 100000
set_option linter.all false
namespace Go.Proofs.YtkanpepkdcmpmaaGreatDoor
namespace Ab
open Go Go.RowKit mQ
attribute [local irreducible] aP bB aW
open aD (Rr aU ko pd rp Cc su pD wV YR mU iw gB Cb Rz)
variable {c:aU} {aE fl sn:AC} {es:List (List AC)} {ga kk fM:Nat} {l:List aL} {o:List AC} {ps:List Prog} {r:Rr} {rep:Bool} {self:Int}
theorem alf (s:aD.Node)(k:Nat):(aS s).take 6++ .sl (List.replicate k [iA 0])::(aS s).drop 7=aS { s with fJ:=List.replicate k 0 }:=by
 unfold aS;simp
theorem alg (s:aD.Node):(aS s).take 7++ .sl []::(aS s).drop 8=aS { s with timers:=[] }:=ajF s []
theorem alh (s:aD.Node)(v:Int):bA s.up::iA v::(aS s).drop 2=aS { s with version:=v }:=by
 unfold aS;rfl
theorem aAi{s:aD.Node}(h:ko ps fM kk s){p:Prog}{version:Int}(hv:0<=version/\version<ps.length)(hp:ps[version.toNat]? =some p)(hs:rp p=true){nodes drift:Int}(Cy:aD.bD self=true)(AP:aD.bD nodes=true)(ll:0<=drift/\drift<=3)
  (gK:kk<=5000) (hl:l.length<=1000000) (hr:Cc s p version self nodes drift l=some r):
  bj Tryz.prog 156 [.agg (aS s),.agg (cM p),.c (iA version),.c (iA self),.c (iA nodes),.c (iA drift),.c (nV l)] (fun x=>x=.w (.agg (rX r))):=by
 have dP:=hs;unfold rp at dP;simp only[bZ,dv] at dP;obtain⟨⟨⟨⟨⟨h1,h2⟩,h3⟩,h4⟩,h5⟩,h6⟩:=dP
 obtain⟨dn,eK⟩:∃dn:Nat,p.dK=dn:=⟨p.dK.toNat,ab⟩
 obtain⟨vn,xM⟩:∃vn:Nat,p.jN=vn:=⟨p.jN.toNat,ab⟩
 unfold Cc at hr;rw[af ab,eK,xM,gF,gF] at hr;have UK:(vn:Int)<=1000000:=ab;have dE:=h.sL;have hpn:=h.aY.mI
 obtain⟨d,hd,hdI⟩:∃d,(if(s.aY.cells.length:Int)=dn then some s.aY else wV s.aY dn)=some d/\pd dn d:=by
  split
  ·rename_i he;refine⟨_,rfl,?_⟩;have:dn=s.aY.cells.length:=ab;rw[this];exact h.aY
  ·exact YR h.aY _
 rw[hd] at hr;dsimp only at hr
 have hI:ko ps fM kk { s with version:=version,aY:=d,fJ:=List.replicate vn 0,timers:=[],waiting:= -1,up:=true }:=by
  have hl:=hdI.len
  exact { h with
   version:=by show -1<=version/\version<_;omega
   aY:=by show pd d.cells.length d;rw[hl];exact hdI
   sL:=by show d.cells.length<=16;omega
   fJ:=fun x hx=>by rw[Gk hx];decide
   AM:=by show(List.replicate vn (0:Int)).length<=16;simp;omega
   timers:=fun t ht=>by simp at ht
   vH:=by show([]:List Int).length<=8;simp
   waiting:=by show -1<=(-1:Int)/\(-1:Int)<fM;omega
   run:=fun _=>⟨hv.1,fun q hq=>by
    have:q=p:=by rw[show ps[version.toNat]? =some q from hq] at hp;injection hp
    subst this
    show(d.cells.length:Int)=_/\((List.replicate vn (0:Int)).length:Int)=_
    simp
    omega⟩ }
 have hH:=alc (s:={ s with version:=version,aY:=d,fJ:=List.replicate vn 0,timers:=[],waiting:= -1,up:=true }) hI hp hs rfl (handler:=0) ab Cy AP ll (n0:=0) (n1:=0) (n2:=0) (n3:=0) (n4:=0) (n5:=0) (n6:=0) (n7:=0) (n8:=0) (fun x hx=>by
  simp only[cA,jL,kV] at hx
  rcases hx with rfl|rfl|rfl|rfl|rfl|rfl|rfl|rfl|rfl<;>decide) gK hl hr
 refine cI Tryz.func156 aN [] [.cell 14 67] [7,8,14] [7,8,14] ?_;by_cases he:(s.aY.cells.length:Int)=dn
 ·rw[aj he] at hd;simp only[aA] at hd;subst hd;have FF:=fg @alh @ajH @eK @he
  try refine aG ?_
  iterate 3 (refine bl (by simp[xM,aaT,aaU,UK];try rfl) ?_)
  have FF:=kU @alf @alg @aaS @ajG @iO @Bn @PO;refine bY hH ?_
  (try dsimp only[lT,mD])
  exact kJ (xs:=[.agg (rX r)]) (by simp[Bn,PN,akQ]) rfl
 ·rw[af he] at hd;have hrz:=arJ s.aY d dn hd ab ab ab;have FF:=iF @alh @ajH @eK @he @ayN;refine bY hrz ?_
  iterate 3 (refine bl (by simp[xM,aaT,aaU,UK];try rfl) ?_)
  have FF:=kU @alf @alg @aaS @ajG @iO @Bn @PO;refine bY hH ?_
  (try dsimp only[lT,mD])
  exact kJ (xs:=[.agg (rX r)]) (by simp[Bn,PN,akQ]) rfl
theorem aAj{n:aD.Node}{val:Int}(hs:inl sn=true)(hf:inl fl=true)(ho:o.all inl=true)(vX:inl aE=true):(rC n (.own 403 ga) sn rep val fl c o aE).map (mA 403 ga es)=rC n (.sl es) sn rep val fl c o aE:=by
 rw[eN,eN,dm,Md,dm,dm,vW ho,vW (cs:=[aE]) (by simp[vX])];have h1:=vW (s:=403) (g:=ga) (es:=es) (cs:=[sn]) (by simp[hs]);have h2:=vW (s:=403) (g:=ga) (es:=es) (cs:=[fl]) (by simp[hf]);simp only[dJ,mP,List.cons.injEq,and_true] at h1 h2
 have h0:mA 403 ga es (.own 403 ga)=.sl es:=by simp[mA]
 simp only[dJ,mP,h0,h1,h2];rfl
theorem aAk{n:aD.Node}{s g:Nat}{val:Int}(UL:s≠403)(hs:inl sn=true)(hf:inl fl=true)(ho:o.all inl=true)(vX:inl aE=true):(rC n (.own 403 ga) sn rep val fl c o aE).map (mA s g es)=rC n (.own 403 ga) sn rep val fl c o aE:=by
 rw[eN,dm,Md,dm,dm,vW ho,vW (cs:=[aE]) (by simp[vX])];have h1:=vW (s:=s) (g:=g) (es:=es) (cs:=[sn]) (by simp[hs]);have h2:=vW (s:=s) (g:=g) (es:=es) (cs:=[fl]) (by simp[hf]);simp only[dJ,mP,List.cons.injEq,and_true] at h1 h2
 have h3:¬403=s:=fun e=>UL e.symm
 have h0:mA s g es (.own 403 ga)=.own 403 ga:=by simp[mA,h3]
 simp only[dJ,mP,h0,h1,h2];rfl
theorem aAl{s:aD.Node}(h:ko ps fM kk s)(gK:kk<=5000)(hl:l.length<=1000000)(hr:su s self l=some r):
  bj Tryz.prog 162 [.agg (aS s),.c (iA self),.c (nV l)] (fun x=>x=.w (.agg (rX r))):=by
 have hlt:40<s.counts.length:=by rw[h.nc];omega
 have ox:=h.counts _ (bW hlt)
 have hce:s.counts[40]? =some s.counts[40]:=by simp[hlt]
 have dw:s.counts.getD 40 0=s.counts[40]:=by rw[fC,hce];rfl
 unfold su at hr;rw[hce] at hr;generalize s.counts[40]=k at ox hce dw hr;dsimp only at hr;rw[bU] at hr;obtain⟨d,hd,rfl⟩:=hr;have hep:=h.fo;have dE:=h.sL;have uZ:=h.AM;have hpn:=h.aY.mI;have c40:=ajJ s;rw[dw] at c40;have ck1:=oX (a:=k) (b:=1) ab ab;have ep1:=oX (a:=s.fo) (b:=1) ab ab
 obtain⟨pn,je⟩:∃pn,s.aY.pending.length=pn:=⟨_,rfl⟩
 rw[je] at hd hpn;have aAm:=ayl s.aY d ((mU l ⟨self,40,k⟩ pn).map fun(a:Ask)=>decide (a.n=1)) hd ab ab
 have vf:bj Tryz.prog 205 [.agg (oZ s.aY),.c (.sl ((mU l ⟨self,40,k⟩ pn).map fun(a:Ask)=>[bA (decide (a.n=1))]))] (fun x=>x=.w (.agg (oZ d))):=by
  have:=aAm;simp only[Ye,List.map_map,Function.comp_def] at this;exact this
 have UK:(s.fJ.length:Int)<=1000000:=ab;refine cI Tryz.func162 ⟨0,[8],[],[(10,[8,403])],cZ,[(18,[52])],[(2,[(7,52,403,78,7)])]⟩ [] [.cell 6 67] [3,6,7,8,9,10,11] [3,6,7,10,8,403] ?_;have FF:=wI @c40 @ajs @ajj @iO @vV @ajx @ajt @aju
 try refine aG ?_
 refine dA (fun m V S=>∃(i g g8:Nat) (x10 x11:AV) (s10:Slot) (z6:List AC),i<=pn/\m=pn-i/\
  V=[(0,.w (.agg (aS s))),(1,.w (.c (iA self))),(2,.w (.c (nV l))),(3,.pb 3 1 0),(6,.pb 6 1 0),(7,.pb 7 1 0),(8,.w (.c (.own 8 g8))),(9,.w (.c (iA i))),(10,x10),(11,x11)]/\
  S=[(3,.box 1 (aS s)),(6,.box 1 z6),(7,.box 1 (rC s (.own 403 g) (.sl []) false 0 (.sl []) ⟨self,40,k⟩ [.sl [],.sl [],iA 0,bA false,.sl [],.sl []] (.sl []))),(10,s10),(8,.row 4 1 g8 ((mU l ⟨self,40,k⟩ i).map fun(a:Ask)=>[bA (decide (a.n=1))])),(403,.row 78 7 g ((mU l ⟨self,40,k⟩ i).map eL))]/\z6.length=67) (n:=pn) ⟨0,1,1,.u,.u,.dead 0,_,ab,ab,rfl,rfl,eH⟩ ?_
 rintro m V L S ⟨i,g,g8,x10,x11,s10,z6,hi,rfl,rfl,rfl,hz⟩
 have kl:∀i,(mU l ⟨self,40,k⟩ i).length=i:=fun i=>by simp[mU]
 by_cases xp:i<pn
 ·have eS:i<=1000000000:=ab;have pU:=aaE l ⟨self,40,k,3,i⟩ 2 au hl
  have fw:mU l ⟨self,40,k⟩ (i+1)=mU l ⟨self,40,k⟩ i++[iw ⟨self,40,k,3,i⟩ 2 (gB l ⟨self,40,k,3,i⟩ 2)]:=by
   unfold mU;rw[mn,dm];rfl
  have ei:=kl i;generalize mU l ⟨self,40,k⟩ i=ak at fw ei⊢;have abJ:ak.length+1<=100000000:=ab;generalize gB l ⟨self,40,k,3,i⟩ 2=nn at fw pU;have FF:=Gg @xp @je @ajI @abJ (bT eS) @iO @vV @Jk @Ui @aaO;refine bY pU ?_;exact⟨pn-(i+1),ab,i+1,g+1,g8+1,_,_,_,z6,ab,ab,rfl,by rw[fw,dm,dm];rfl,hz⟩
 obtain rfl:i=pn:=ab
 have FG:∀(ak sn fl aE:AC) (oo:List AC),((rC { s with aY:=d } ak sn false 0 fl ⟨self,40,k⟩ oo aE).drop 48).take 1=[iA k]:=fun ak sn fl aE oo=>by
  rw[ayS]
  show [iA (s.counts.getD 40 0)]=[iA k]
  rw[dw]
 have abK:∀(ak sn fl aE:AC) (oo:List AC),(rC { s with aY:=d } ak sn false 0 fl ⟨self,40,k⟩ oo aE).take 48++iA (k+1)::(rC { s with aY:=d } ak sn false 0 fl ⟨self,40,k⟩ oo aE).drop 49=rC { s with aY:=d,counts:=s.counts.set 40 (k+1) } ak sn false 0 fl ⟨self,40,k⟩ oo aE:=fun ak sn fl aE oo=>ayT _ _ _ _ _ _ _ _ _ (k+1) hlt
 have hvR:∀(s:aD.Node) (m:Nat) (ak sn fl aE:AC) (c:aU) (oo:List AC),(rC s ak sn false 0 fl c oo aE).take 6++ .sl (List.replicate m [iA 0])::(rC s ak sn false 0 fl c oo aE).drop 7=rC { s with fJ:=List.replicate m 0 } ak sn false 0 fl c oo aE:=fun s m ak sn fl aE c oo=>by
  unfold rC;simp
 have hzd:∀f:AC->AC,(z6.map f).drop 67=[]:=fun f=>uG (by rw[dI];omega)
 have aAn:∀(es es8:List (List AC)),(rC s (.own 403 g) (.sl []) false 0 (.sl []) ⟨self,40,k⟩ [.sl [],.sl [],iA 0,bA false,.sl [],.sl []] (.sl [])).map (mA 403 g es∘mA 8 g8 es8)=rC s (.sl es) (.sl []) false 0 (.sl []) ⟨self,40,k⟩ [.sl [],.sl [],iA 0,bA false,.sl [],.sl []] (.sl []):=fun es es8=>by
  rw[<-List.map_map,aAk au ai ai ai ai,aAj ai ai ai ai]
 have FF:=Wt @xp @je @ajI @iO @vV @aAn @Md @aaI @FG @abK @ck1 @ajK @ayR @ep1;refine bY vf ?_
 (refine bl (by simp[aaT,aaU,UK];try rfl) ?_)
 have hT0:∀(s:aD.Node) (ak sn fl aE:AC) (c:aU) (oo:List AC),(rC s ak sn false 0 fl c oo aE).take 7++ .sl []::(rC s ak sn false 0 fl c oo aE).drop 8=rC { s with timers:=[] } ak sn false 0 fl c oo aE:=fun s ak sn fl aE c oo=>aaJ s ak sn false 0 fl c oo aE []
 have FF:=wI @iO @vV @hvR @hT0 @ajr @ayO @hz @hzd
 try refine aG ?_
 (try dsimp only[lT,mD])
 have IM:∀(st:St) (n:aD.Node) (l:List (List AC)),st.jY (rC n (.sl l) (.sl []) false 0 (.sl []) ⟨self,40,k⟩ [.sl [],.sl [],iA 0,bA false,.sl [],.sl []] (.sl []))=some (rC n (.sl l) (.sl []) false 0 (.sl []) ⟨self,40,k⟩ [.sl [],.sl [],iA 0,bA false,.sl [],.sl []] (.sl [])):=fun st n l=>ajB ai ai ai ai ai
 refine kJ (xs:=[.agg (rC { s with up:=false,fo:=s.fo+1,aY:=d,fJ:=List.replicate s.fJ.length 0,timers:=[],counts:=s.counts.set 40 (k+1),waiting:= -1 } (asks (mU l ⟨self,40,k⟩ i)) (.sl []) false 0 (.sl []) ⟨self,40,k⟩ [.sl [],.sl [],iA 0,bA false,.sl [],.sl []] (.sl []))]) (by simp[iO,vV,IM]) ?_
 show AV.w _=AV.w (.agg (rX _))
 simp only[je];rfl
end Ab
namespace Ab
open Go Go.RowKit
attribute [local irreducible] aP bB aW
open aD (eX qF Ob pE bL Env aU Rr iZ eO tX OH uT Aa)
variable {c:eX} {j k:Nat} {r:Rr} {w:bL}
theorem ali(st:St)(D:List Nat)(r:Rr):st.kK D (rX r)=some (rX r):=Mi (UJ r)
theorem alj(hk:k<=1000)(hj:j<=1000)(h:eO c k j w){n:Nat}{N:Int}{cs:aU}{xn:Int}(hr:tX c.dU c.eu.length (k+1) N cs xn r)(hs:r.sent.length<=500)(hf:r.bH.length<=500):akT w n r:=by
 refine⟨by have:=h.vY;omega,by have:=h.tV;have:=hr.tV;omega,fun f hf2=> ?_,fun t ht=> ?_,by have:=h.uo;omega,?_⟩
 ·have:=h.Pz f (eI hf2);omega
 ·have:=h.Da t (eI ht);omega
 ·have h1:=hr.s.sL;have h2:=hr.s.aY.mI;have h3:=hr.s.AM;omega
theorem abL(hc:iZ c)(hk:k<=1000)(hj:j<=1000)(h:eO c k j w){n:Nat}{s:aD.Node}(hs:w.nodes[n]? =some s)(gC:s.up=true){handler:Nat}(hh:handler<40)
  {n0 n1 n2 n3 n4 n5 n6 n7 n8:Int} (dZ:∀x∈[n0,n1,n2,n3,n4,n5,n6,n7,n8],aD.bD x=true) {l:List aL} (cT:l.length<=1000000) {w':bL} (hx:uT w n handler [n0,n1,n2,n3,n4,n5,n6,n7,n8] l=some (w',r)) (g1 g2 g3 g4:Nat):
  iK Tryz.prog 158 [.w (.agg (wX w g1 g2 g3 g4)),.w (.c (iA n)),.w (.c (iA handler)),.w (.agg [iA n0,iA n1,iA n2,iA n3,iA n4,iA n5,iA n6,iA n7,iA n8]),.w (.c (nV l))] (wT w g1 g2 g3 g4)
  (fun x S'=>x=.bP [.agg (wX w' g1 g2 g3 g4),.agg (rX r)]/\∀p∈wT w' g1 g2 g3 g4,S' p.1=p.2):=by
 obtain⟨hlt,fw⟩:=bN.1 hs
 have hn:n<c.first.length:=by rw[<-h.nodes];exact hlt
 have hI:=h.node s (eI hs);have hr:=hI.run gC;have hv:=hI.version;have h12:=hc.CZ;have jF:=h.nodes
 obtain⟨vn,xM⟩:∃vn:Nat,s.version=vn:=⟨s.version.toNat,ab⟩
 have je:vn<c.dU.length:=ab
 have hp:c.dU[vn]? =some c.dU[vn]:=by simp[je]
 have vZ:=hc.safe _ (bW je)
 obtain⟨p,iC⟩:∃p,c.dU[vn]=p:=⟨_,rfl⟩
 rw[iC] at hp vZ;have qd:=h.cfg;unfold uT at hx;rw[hs] at hx;simp only at hx;rw[af ab,qd,xM,gF,hp,gF] at hx;simp only at hx
 have PV:c.dU[s.version.toNat]? =some p:=by rw[xM,gF];exact hp
 obtain⟨r',e,a1,a2,a3⟩:=OH hI PV vZ gC (handler:=handler) hh (self:=n) (nodes:=w.nodes.length) (drift:=c.drift) (names:=[n0,n1,n2,n3,n4,n5,n6,n7,n8]) (aD.xD ab) (aD.xD ab) hc.drift rfl dZ l ab;rw[e] at hx;simp only at hx;simp only[bU,jM] at hx;obtain⟨w2,mH,rfl,rfl⟩:=hx;have hH:=alc hI PV vZ gC hh (aD.xD ab) (aD.xD ab) hc.drift dZ ab cT e;have hF:=akU w w2 n r' s.waiting g1 g2 g3 g4 mH (alj hk hj h a1 a2 a3);have hl:=Bn r';have hw:=PN r';have hd:=PO r'
 have fz:=fun(st:St) (D:List Nat)=>ali st D r'
 have oV:=fun(D:List Nat)=>abE D r'
 have abM:vn<w.c.dU.length:=by rw[qd];exact je
 have Bo:w.c.dU[vn]=p:=by simp only[qd];exact iC
 have hdw:w.c.drift=c.drift:=by rw[qd]
 refine rh Tryz.func158 ⟨0,[],[(157,[601,602,603,604])],[],cZ,[],[]⟩ [(2,20,tk 0 18 (.fork 18 19 (.move 19 .nil) (.move 18 .nil)),[]),(3,8,tk 0 5 (tk 6 1 (.move 5 (.move 7 .nil))),[601,602,603,604,10])] [.cell 10 16,.cell 11 67] [5,8,10,11,12,13] [5,8,10,11,12,13] ?_;have FF:=wI @hlt @fw @ajh @xM @abM @Bo @hdw @aaR;refine kg hH hF ?_;have FF:=fg @hl @hw @hd @oV;apply Fu
 ·(repeat' first|refine yH hH ?_|refine yI hH ?_|refine vB hF ?_|refine vC hF ?_|refine xh ?_|refine Aw ?_|refine Av ?_|refine bG ?_|refine yF ?_ ?_|refine EB ?_ ?_ ?_|refine xi ?_|refine Ax ?_|refine yJ hH ?_|refine vD rfl hF ?_|refine Az ?_|refine AA ?_|refine AB ?_|refine Ay ?_|refine Au ?_|fail)<;>exact⟨rfl,rfl⟩
 intro L;have FF:=iF @hl @hw @hd @oV @aji;refine kg hH hF ?_;refine kL ?_;exact(by simp[ek])
open aD (eX qF Ob pE bL Env aU Rr iZ eO ko tX OH uT Aa yo enabled Ur sW Us YT YU oQ nI sx jd abb abc abd Up sC)
theorem aAo (l:List Env)(m:bR)(c:Int)(hl:l.length<=1000000):∃(y:bR) (z:Int),bj Tryz.prog 161 [.c (kj l),.agg (ng m),.c (iA c)] (fun x=>x=.bP [.c (kj (sx l m c)),.agg (ng y),.c (iA z)]):=by
 cases hf:oQ l m with
 |none=>
  refine⟨⟨0,0,0,0,0⟩,3,?_⟩;refine cI Tryz.func161 aN [(7,6,tk 0 2 (tk 3 2 (.move 2 (tk 5 1 .nil))),[])] [.t 6,.cell 7 5,.t 8] [4,6,7,8,9,10] [4,7,9] ?_;have FF:=@hf;refine bY (SY l m hl) ?_;refine zE ?_;exact(by unfold sx;rw[hf];rfl)
 |some e=>
  obtain⟨⟨e1,e2,e3,e4,e5⟩,e6,e7,e8,e9⟩:=e
  rcases YM l ⟨e1,e2,e3,e4,c⟩ with⟨h1,h2⟩|⟨k,hk,h1,h2,h3⟩
  ·refine⟨⟨e1,e2,e3,e4,c⟩,0,?_⟩;refine cI Tryz.func161 aN [(7,6,tk 0 2 (tk 3 2 (.move 2 (tk 5 1 .nil))),[])] [.t 6,.cell 7 5,.t 8] [4,6,7,8,9,10] [4,7,9] ?_;have FF:=im @hf @h1;refine yK (SY l m hl) (Ln l ⟨e1,e2,e3,e4,c⟩ hl) (SX l ⟨⟨e1,e2,e3,e4,c⟩,e6,e7,e8,e9⟩ hl) ?_;refine zE ?_;exact(by unfold sx aD.kH;rw[hf];dsimp only;rw[h2];rfl)
  ·refine⟨⟨0,0,0,0,0⟩,4,?_⟩;refine cI Tryz.func161 aN [(7,6,tk 0 2 (tk 3 2 (.move 2 (tk 5 1 .nil))),[])] [.t 6,.cell 7 5,.t 8] [4,6,7,8,9,10] [4,7,9] ?_;have FF:=im @hf @h1;refine yK (SY l m hl) (Ln l ⟨e1,e2,e3,e4,c⟩ hl) (SX l ⟨⟨e1,e2,e3,e4,c⟩,e6,e7,e8,e9⟩ hl) ?_;refine zE ?_;exact(by unfold sx aD.kH;rw[hf];dsimp only;rw[h2];rfl)
theorem UM:rX sC=[bA false,iA 0,iA 0,iA 0,.sl [],.sl [],.sl [],.sl []]++List.replicate 44 (iA 0)++[.sl [],.sl [],bA false,iA 0,.sl [],iA 0,iA 0,iA 0,.sl [],.sl [],iA 0,bA false,.sl [],.sl [],.sl []]:=by
 unfold rX rC;rfl
theorem aAp {c:eX}(hc:iZ c){k j:Nat}(hk:k<=900)(hj:j<=900){w:bL}(h:eO c k j w){e:Ev}(he:e∈enabled w){l:List aL}(cT:l.length<=1000000){w':bL}{r:Rr}(hx:yo w e l=some (w',r))(g1 g2 g3 g4:Nat):
  iK Tryz.prog 120 [.w (.agg (wX w g1 g2 g3 g4)),.w (.agg (iP e)),.w (.c (nV l))] (wT w g1 g2 g3 g4)
  (fun x S'=>x=.bP [.agg (wX w' g1 g2 g3 g4),.agg (rX r)]/\∀p∈wT w' g1 g2 g3 g4,S' p.1=p.2):=by
 obtain⟨n,s,hs,Ja⟩:=Ur he;obtain⟨hlt,fw⟩:=bN.1 hs
 have hn:n<c.first.length:=by rw[<-h.nodes];exact hlt
 have hI:=h.node s (eI hs);have h12:=hc.CZ;have jF:=h.nodes;have qd:=h.cfg;obtain⟨nj,OI⟩:=Ja;unfold yo at hx;rw[nj,af ab] at hx;simp only[gF,hs] at hx;have hl:=Bn r;have hw:=PN r;have hd:=PO r
 have fz:=fun(st:St) (D:List Nat)=>ali st D r
 have oV:=fun(D:List Nat)=>abE D r
 have cS:w.bI.length<=1000000:=by have:=h.vY;omega
 have qM:w.aK.length<=100000000:=by have:=h.uo;omega
 have abN:w.aK.length+1<=100000000:=by have:=h.uo;omega
 have hdw:w.c.drift=c.drift:=by rw[qd]
 rcases OI with⟨a,b,d,m⟩|⟨a,b,d,f,g,m⟩|⟨a,b,d⟩|⟨a,b,d,m⟩|⟨a,b,d,f,m⟩
 ·
  have hv:=Us hc h hs d
  obtain⟨vn,xM⟩:∃vn:Nat,e.arg=vn:=⟨e.arg.toNat,ab⟩
  have je:vn<c.dU.length:=ab
  have hp:c.dU[vn]? =some c.dU[vn]:=by simp[je]
  have vZ:=hc.safe _ (bW je)
  obtain⟨p,iC⟩:∃p,c.dU[vn]=p:=⟨_,rfl⟩
  rw[iC] at hp vZ;rw[aj a,af ab,qd,xM,gF,hp] at hx;simp only at hx;obtain⟨r',e1,a1,a2,a3⟩:=YT hI (version:=vn) ab (by rw[gF];exact hp) vZ (self:=n) (nodes:=w.nodes.length) (drift:=c.drift) (aD.xD ab) (aD.xD ab) hc.drift l ab;rw[e1] at hx;simp only[bU,jM] at hx;obtain⟨w2,mH,rfl,rfl⟩:=hx;have hS:=aAi hI (version:=vn) ab (by rw[gF];exact hp) vZ (aD.xD ab) (aD.xD ab) hc.drift ab cT e1;have hF:=akU w w2 n r' (-1) g1 g2 g3 g4 mH (alj ab ab h a1 a2 a3)
  have abM:vn<w.c.dU.length:=by rw[qd];exact je
  have Bo:w.c.dU[vn]=p:=by simp only[qd];exact iC
  refine rh Tryz.func120 ⟨0,[12,15],[(157,[601,602,603,604]),(158,[601,602,603,604]),(163,[601,602,603,604])],[(11,[12]),(32,[15])],cZ,[],[]⟩ [(5,24,tk 0 22 (.fork 22 23 (.move 23 .nil) (.move 22 .nil)),[]),(10,15,tk 0 3 (tk 4 10 (.fork 3 14 (.move 14 .nil) (.move 3 .nil))),[12,15]),(40,18,tk 0 10 (.fork 10 15 (tk 11 4 (.move 15 (tk 16 1 (.move 17 .nil)))) (.move 10 (tk 11 4 (tk 16 1 (.move 17 .nil))))),[12,15,18]),(6,6,tk 0 3 (tk 4 1 (.move 3 (.move 5 .nil))),[12,15,601,602,603,604,6]),tm 12 8,tz 30 11,tz 36 10,tz 39 10,(45,5,tk 0 2 (tk 3 1 (.move 2 (.move 4 .nil))),[12,15,601,602,603,604,6])] [.cell 6 16,.cell 7 67] [3,4,6,7,8,9,10,11,12,13,15,16,17,18,20,24] [3,4,6,7,9,10,11,13,18,20,12,15] ?_;have FF:=wI @nj @a @xM @hlt @fw @abM @Bo @hdw;refine kg hS hF ?_;have FF:=kU @nj @a @xM @hl @hw @hd @oV;apply Fu
  ·(repeat' first|refine yH hS ?_|refine yI hS ?_|refine vB hF ?_|refine vC hF ?_|refine xh ?_|refine Aw ?_|refine Av ?_|refine bG ?_|refine yF ?_ ?_|refine EB ?_ ?_ ?_|refine xi ?_|refine Ax ?_|refine yJ hS ?_|refine vD rfl hF ?_|refine Az ?_|refine AA ?_|refine AB ?_|refine Ay ?_|refine Au ?_|fail)<;>exact⟨rfl,rfl⟩
  intro L;have FF:=kU @nj @a @xM @hl @hw @hd @oV;refine kg hS hF ?_;refine kL ?_;exact(by simp[ek])
 ·
  have UN:n<w.next.length:=by rw[h.next];exact hn
  rw[fC,cz UN,BQ] at g;have Yj:=h.qB _ (bW UN);rw[<-g] at Yj;have azm:=hc.fM
  obtain⟨an,xt⟩:∃an:Nat,e.arg=an:=⟨e.arg.toNat,ab⟩
  have fO:an<c.eu.length:=ab
  have alk:an<w.c.eu.length:=by rw[qd];exact fO
  have Db:=hc.req _ (bW fO)
  obtain⟨q,sP⟩:∃q,c.eu[an]=q:=⟨_,rfl⟩
  rw[sP] at Db
  have hqw:w.c.eu[an]=q:=by simp only[qd];exact sP
  have hq':w.c.eu[an]? =some q:=by rw[cz alk,hqw]
  rw[af ab,aj a,af ab,xt,gF,hq'] at hx;simp only at hx;rw[aj UN] at hx
  have h1:eO c k (j+1) { w with aK:=w.aK++[(⟨false,an,n,s.fo,0⟩:Ob)],next:=w.next.set n (aD.after w.c n an) }:=
   { h with
    next:=by show(w.next.set n _).length=_;simp[h.next]
    qB:=fun x hx=>by
     rcases aD.mem_set hx with hx|rfl
     ·exact h.qB x hx
     ·rw[qd];exact Up _ _ _
    uo:=by have:=h.uo;show(w.aK++[_]).length<=_;simp;exact this }
  have pY:ko c.dU c.eu.length k { s with waiting:=an }:={ hI with waiting:=by show -1<=(an:Int)/\(an:Int)<_;omega }
  have h2:=h1.setNode n pY
  have hH:=abL hc ab ab h2 (n:=n) (s:={ s with waiting:=an }) (by show(w.nodes.set n _)[n]? =_;simp[hlt]) b (handler:=1) ab (n0:=0) (n1:=0) (n2:=0) (n3:=0) (n4:=q.arg) (n5:=0) (n6:=an) (n7:=q.op) (n8:=q.key) (fun x hx=>by
   simp only[cA,jL,kV] at hx
   rcases hx with rfl|rfl|rfl|rfl|rfl|rfl|rfl|rfl|rfl
   any_goals decide
   ·exact Db.2.2
   ·rw[aD.vF];omega
   ·exact Db.1
   ·exact Db.2.1) cT hx g1 g2 g3 g4
  have hH2:iK Tryz.prog 158 [.w (.agg (wO w.c (kj w.bI) (.sl (w.aK.map Px++[[bA false,iA an,iA n,iA s.fo,iA 0]])) (fR w.covered) w.steps g1 g2 g3 g4)),.w (.c (iA n)),.w (.c (iA 1)),.w (.agg [iA 0,iA 0,iA 0,iA 0,iA q.arg,iA 0,iA an,iA q.op,iA q.key]),.w (.c (nV l))]
    [(601,.row 193 52 g1 ((w.nodes.map aS).set n (aS { s with waiting:=an }))),(602,.row 3 1 g2 ((bM w.next).set n [iA (aD.after w.c n an)])),(603,.row 300 1 g3 (w.bH.map oD)),(604,.row 79 1 g4 (w.traces.map xC))]
    (fun x S'=>x=.bP [.agg (wX w' g1 g2 g3 g4),.agg (rX r)]/\∀p∈wT w' g1 g2 g3 g4,S' p.1=p.2):=by
   rw[<-List.map_set,show(bM w.next).set n [iA (aD.after w.c n an)]=bM (w.next.set n (aD.after w.c n an)) from(List.map_set ..).symm,show AC.sl (w.aK.map Px++[[bA false,iA an,iA n,iA s.fo,iA 0]])=aK (w.aK++[(⟨false,an,n,s.fo,0⟩:Ob)]) by show _=AC.sl (List.map _ _);rw[dm];rfl];exact hH
  have hAf:=aku w.c n an ab (by rw[qd];omega);refine rh Tryz.func120 ⟨0,[12,15],[(157,[601,602,603,604]),(158,[601,602,603,604]),(163,[601,602,603,604])],[(11,[12]),(32,[15])],cZ,[],[]⟩ [(5,24,tk 0 22 (.fork 22 23 (.move 23 .nil) (.move 22 .nil)),[]),(10,15,tk 0 3 (tk 4 10 (.fork 3 14 (.move 14 .nil) (.move 3 .nil))),[12,15]),(40,18,tk 0 10 (.fork 10 15 (tk 11 4 (.move 15 (tk 16 1 (.move 17 .nil)))) (.move 10 (tk 11 4 (tk 16 1 (.move 17 .nil))))),[12,15,18]),(6,6,tk 0 3 (tk 4 1 (.move 3 (.move 5 .nil))),[12,15,601,602,603,604,6]),tm 12 8,tz 30 11,tz 36 10,tz 39 10,(45,5,tk 0 2 (tk 3 1 (.move 2 (.move 4 .nil))),[12,15,601,602,603,604,6])] [.cell 6 16,.cell 7 67] [3,4,6,7,8,9,10,11,12,13,15,16,17,18,20,24] [3,4,6,7,9,10,11,13,18,20,12,15] ?_;have FF:=oH @nj @a @xt @alk @hqw @hlt @fw @qM @abN
  try refine aG ?_
  have FF:=kU @nj @a @xt @hlt @fw @qM @abN;apply Fu
  ·(repeat' first|refine xh ?_|refine Aw ?_|refine Av ?_|refine bG ?_|refine yF ?_ ?_|refine EB ?_ ?_ ?_|refine xi ?_|refine Ax ?_|refine Az ?_|refine AA ?_|refine AB ?_|refine Ay ?_|refine Au ?_|fail)<;>exact⟨rfl,rfl⟩
  intro L;have FF:=Wt @nj @a @xt @hlt @fw @qM @abN @UN @aaS @Md @hl @hw @hd @oV;refine kg hAf hH2 ?_;refine kL ?_;exact(by simp[ek])
 ·
  obtain⟨x,hf,hxm,hm⟩:=abd d;have zp:=h.bI x hxm;have MB:=SY w.bI e.msg cS;rw[hf] at MB;have hrm:=atB w.bI e.msg cS;have ll:=hI.dropped;have hdb:=hI.ed
  rcases a with⟨a,hu⟩|a|a
  ·rw[af ab,af ab,aj a,hf] at hx;simp only at hx
   obtain⟨kn,hkn⟩:∃kn:Nat,x.kind=kn:=⟨x.kind.toNat,by have:=zp.2.2.1;omega⟩
   have aGV:=zp.2.2.1;rw[hkn,show(10:Int)+(kn:Int)=((10+kn:Nat):Int) by omega] at hx
   have nU:aZ .add (.int .i64 10) (.int .i64 (kn:Int))=some (.int .i64 ((10+kn:Nat):Int)):=by rw[oX ab ab];congr 2
   have aAq:∀e'∈nI w.bI e.msg,aD.Uo c.first.length k e':=fun e' Jr=>h.bI e' (abb Jr)
   have h1:eO c k j { w with bI:=nI w.bI e.msg }:={ h with bI:=aAq,vY:=by have:=abc w.bI e.msg;have:=h.vY;show(nI w.bI e.msg).length<=_;omega }
   have hH:=abL hc ab ab h1 (n:=n) (s:=s) hs hu (handler:=10+kn) ab (n0:=0) (n1:=0) (n2:=0) (n3:=x.msg.node) (n4:=x.a) (n5:=x.b) (n6:=0) (n7:=0) (n8:=0) (fun y hy=>by
    simp only[cA,jL,kV] at hy
    rcases hy with rfl|rfl|rfl|rfl|rfl|rfl|rfl|rfl|rfl
    any_goals decide
    ·rw[aD.vF];have:=zp.1.1;omega
    ·exact zp.2.2.2.1
    ·exact zp.2.2.2.2) cT hx g1 g2 g3 g4
   refine rh Tryz.func120 ⟨0,[12,15],[(157,[601,602,603,604]),(158,[601,602,603,604]),(163,[601,602,603,604])],[(11,[12]),(32,[15])],cZ,[],[]⟩ [(5,24,tk 0 22 (.fork 22 23 (.move 23 .nil) (.move 22 .nil)),[]),(10,15,tk 0 3 (tk 4 10 (.fork 3 14 (.move 14 .nil) (.move 3 .nil))),[12,15]),(40,18,tk 0 10 (.fork 10 15 (tk 11 4 (.move 15 (tk 16 1 (.move 17 .nil)))) (.move 10 (tk 11 4 (tk 16 1 (.move 17 .nil))))),[12,15,18]),(6,6,tk 0 3 (tk 4 1 (.move 3 (.move 5 .nil))),[12,15,601,602,603,604,6]),tm 12 8,tz 30 11,tz 36 10,tz 39 10,(45,5,tk 0 2 (tk 3 1 (.move 2 (.move 4 .nil))),[12,15,601,602,603,604,6])] [.cell 6 16,.cell 7 67] [3,4,6,7,8,9,10,11,12,13,15,16,17,18,20,24] [3,4,6,7,9,10,11,13,18,20,12,15] ?_;have FF:=wI @nj @a @hkn @hl @hw @hd @oV @nU;refine yK MB hrm hH ?_;refine kL ?_;exact(by simp[ek])
  ·rw[af ab,af ab,af ab,af ab,aj a] at hx;simp only[aA,jM] at hx;obtain⟨rfl,rfl⟩:=hx;have ck:=oX (a:=s.dropped) (b:=1) ab ab;refine rh Tryz.func120 ⟨0,[12,15],[(157,[601,602,603,604]),(158,[601,602,603,604]),(163,[601,602,603,604])],[(11,[12]),(32,[15])],cZ,[],[]⟩ [(5,24,tk 0 22 (.fork 22 23 (.move 23 .nil) (.move 22 .nil)),[]),(10,15,tk 0 3 (tk 4 10 (.fork 3 14 (.move 14 .nil) (.move 3 .nil))),[12,15]),(40,18,tk 0 10 (.fork 10 15 (tk 11 4 (.move 15 (tk 16 1 (.move 17 .nil)))) (.move 10 (tk 11 4 (tk 16 1 (.move 17 .nil))))),[12,15,18]),(6,6,tk 0 3 (tk 4 1 (.move 3 (.move 5 .nil))),[12,15,601,602,603,604,6]),tm 12 8,tz 30 11,tz 36 10,tz 39 10,(45,5,tk 0 2 (tk 3 1 (.move 2 (.move 4 .nil))),[12,15,601,602,603,604,6])] [.cell 6 16,.cell 7 67] [3,4,6,7,8,9,10,11,12,13,15,16,17,18,20,24] [3,4,6,7,9,10,11,13,18,20,12,15] ?_;have FF:=gR @nj @a @hlt @fw @ck @ayL;refine bY hrm ?_;refine kL ?_;exact(by simp[ek,List.map_set,UM,aD.bL.setNode])
  ·rw[af ab,af ab,af ab,af ab,af ab,aj a] at hx;simp only[aA,jM] at hx;obtain⟨rfl,rfl⟩:=hx;have ck:=oX (a:=s.ed) (b:=1) ab ab;obtain⟨y,z,Ml⟩:=aAo w.bI e.msg (s.ed+1) cS;refine rh Tryz.func120 ⟨0,[12,15],[(157,[601,602,603,604]),(158,[601,602,603,604]),(163,[601,602,603,604])],[(11,[12]),(32,[15])],cZ,[],[]⟩ [(5,24,tk 0 22 (.fork 22 23 (.move 23 .nil) (.move 22 .nil)),[]),(10,15,tk 0 3 (tk 4 10 (.fork 3 14 (.move 14 .nil) (.move 3 .nil))),[12,15]),(40,18,tk 0 10 (.fork 10 15 (tk 11 4 (.move 15 (tk 16 1 (.move 17 .nil)))) (.move 10 (tk 11 4 (tk 16 1 (.move 17 .nil))))),[12,15,18]),(6,6,tk 0 3 (tk 4 1 (.move 3 (.move 5 .nil))),[12,15,601,602,603,604,6]),tm 12 8,tz 30 11,tz 36 10,tz 39 10,(45,5,tk 0 2 (tk 3 1 (.move 2 (.move 4 .nil))),[12,15,601,602,603,604,6])] [.cell 6 16,.cell 7 67] [3,4,6,7,8,9,10,11,12,13,15,16,17,18,20,24] [3,4,6,7,9,10,11,13,18,20,12,15] ?_;have FF:=gR @nj @a @hlt @fw @ck @ayM
   try refine aG ?_
   have FF:=gR @nj @a @hlt @fw @ck @ayf;apply Fu
   ·(repeat' first|refine yH Ml ?_|refine yI Ml ?_|refine xh ?_|refine Aw ?_|refine Av ?_|refine bG ?_|refine yF ?_ ?_|refine EB ?_ ?_ ?_|refine xi ?_|refine Ax ?_|refine yJ Ml ?_|refine Az ?_|refine AA ?_|refine AB ?_|refine Ay ?_|refine Au ?_|fail)<;>exact⟨rfl,rfl⟩
   intro L;have FF:=iF @nj @a @hlt @fw @ck
   try refine aG ?_
   refine kL ?_;exact(by simp[ek,List.map_set,UM,aD.bL.setNode])
 ·
  have ht:=hI.timers _ d;have AJ:=hI.vH;rw[af ab,af ab,af ab,aj a] at hx
  obtain⟨tn,FB⟩:∃tn:Nat,e.arg=tn:=⟨e.arg.toNat,ab⟩
  rw[FB,show(2:Int)+(tn:Int)=((2+tn:Nat):Int) by omega] at hx
  have nU:aZ .add (.int .i64 2) (.int .i64 (tn:Int))=some (.int .i64 ((2+tn:Nat):Int)):=by rw[oX ab ab];congr 2
  obtain⟨tl,kD⟩:∃tl,s.timers.filter (fun t=>decide (t≠(tn:Int)))=tl:=⟨_,rfl⟩
  rw[kD] at hx
  have pY:ko c.dU c.eu.length k { s with timers:=tl }:={ hI with timers:=fun t ht=>hI.timers t (nD.1 (kD▸ht)).1,vH:=by rw[<-kD];exact bm (oc _ _) hI.vH }
  have hH:=abL hc ab ab (h.setNode n pY) (n:=n) (s:={ s with timers:=tl }) (by show(w.nodes.set n _)[n]? =_;simp[hlt]) b (handler:=2+tn) ab (n0:=0) (n1:=0) (n2:=0) (n3:=0) (n4:=0) (n5:=0) (n6:=0) (n7:=0) (n8:=0) (fun y hy=>by
   simp only[cA,jL,kV] at hy
   rcases hy with rfl|rfl|rfl|rfl|rfl|rfl|rfl|rfl|rfl<;>decide) cT hx g1 g2 g3 g4
  have hH2:iK Tryz.prog 158 [.w (.agg (wX w g1 g2 g3 g4)),.w (.c (iA n)),.w (.c (iA ((2+tn:Nat):Int))),.w (.agg [iA 0,iA 0,iA 0,iA 0,iA 0,iA 0,iA 0,iA 0,iA 0]),.w (.c (nV l))]
    [(601,.row 193 52 g1 ((w.nodes.map aS).set n (aS { s with timers:=tl }))),(602,.row 3 1 g2 (bM w.next)),(603,.row 300 1 g3 (w.bH.map oD)),(604,.row 79 1 g4 (w.traces.map xC))]
    (fun x S'=>x=.bP [.agg (wX w' g1 g2 g3 g4),.agg (rX r)]/\∀p∈wT w' g1 g2 g3 g4,S' p.1=p.2):=by
   rw[<-List.map_set];exact hH
  refine rh Tryz.func120 ⟨0,[12,15],[(157,[601,602,603,604]),(158,[601,602,603,604]),(163,[601,602,603,604])],[(11,[12]),(32,[15])],cZ,[],[]⟩ [(5,24,tk 0 22 (.fork 22 23 (.move 23 .nil) (.move 22 .nil)),[]),(10,15,tk 0 3 (tk 4 10 (.fork 3 14 (.move 14 .nil) (.move 3 .nil))),[12,15]),(40,18,tk 0 10 (.fork 10 15 (tk 11 4 (.move 15 (tk 16 1 (.move 17 .nil)))) (.move 10 (tk 11 4 (tk 16 1 (.move 17 .nil))))),[12,15,18]),(6,6,tk 0 3 (tk 4 1 (.move 3 (.move 5 .nil))),[12,15,601,602,603,604,6]),tm 12 8,tz 30 11,tz 36 10,tz 39 10,(45,5,tk 0 2 (tk 3 1 (.move 2 (.move 4 .nil))),[12,15,601,602,603,604,6])] [.cell 6 16,.cell 7 67] [3,4,6,7,8,9,10,11,12,13,15,16,17,18,20,24] [3,4,6,7,9,10,11,13,18,20,12,15] ?_;have FF:=fg @nj @a @hlt @fw
  try refine aG ?_
  refine dA (fun m V S=>∃(i g:Nat) (o:List Int),i<=s.timers.length/\m=s.timers.length-i/\o=(s.timers.take i).filter (fun t=>decide (t≠(tn:Int)))/\o.length<=i/\
   V=[(0,.w (.agg (wX w g1 g2 g3 g4))),(1,.w (.agg (iP e))),(2,.w (.c (nV l))),(3,.pb 3 1 0),(4,.pb 4 1 0),(6,.pb 6 1 0),(7,.pb 7 1 0),(8,.w (.c (iA n))),(9,.pb 9 1 0),(10,.u),(11,.u),(12,.u),(13,.u),(15,.w (.c (.own 15 g))),(16,.w (.c (iA i))),(17,.u),(18,.u),(20,.u),(24,.w (.c (iA 4)))]/\
   S=wT w g1 g2 g3 g4++[(3,.box 1 (wX w g1 g2 g3 g4)),(4,.box 1 (iP e)),(6,.box 1 [.sl [],.sl [],.sl [],.sl [],iA 0,iA 0,iA 0,iA 0,.sl [],.sl [],.sl [],.sl [],.sl [],.sl [],.sl [],iA 0]),(7,.box 1 (rX sC)),(9,.box 1 [iA 0,iA 0,iA 0,iA 0,iA 0,iA 0,iA 0,iA 0,iA 0]),(10,.dead 0),(11,.dead 0),(13,.dead 0),(18,.dead 0),(20,.dead 0),(12,.dead 0),(15,.row 3 1 g (bM o))]) (n:=s.timers.length) ⟨0,1,[],ab,ab,ai,ai,by simp[a];done,by rw[UM];rfl⟩ ?_
  rintro m V L S ⟨i,g,o,hi,rfl,ho,xm,rfl,rfl⟩;rw[UM];by_cases db:i<s.timers.length
  ·have eS:i<=1000000000:=ab;have aAr:o.length<=100000000:=ab
   obtain⟨t,MD⟩:∃t,s.timers[i]=t:=⟨_,rfl⟩
   have pW:s.timers.take (i+1)=s.timers.take i++[t]:=by rw[List.take_succ_eq_append_getElem db,MD]
   by_cases hne:t=(tn:Int)
   ·have FF:=kU @db @MD @hlt @fw @hne @FB (bT eS)
    try refine aG ?_
    exact⟨s.timers.length-(i+1),ab,i+1,g,o,ab,rfl,by rw[pW,qz,<-ho];simp[hne],ab,rfl,rfl⟩
   ·have FF:=wI @db @MD @hlt @fw @hne @FB @aAr (bT eS)
    try refine aG ?_
    exact⟨s.timers.length-(i+1),ab,i+1,g+1,o++[t],ab,rfl,by rw[pW,qz,<-ho];simp[hne],by simp;omega,rfl,by rw[show bM (o++[t])=bM o++[[iA t]] from dm ..];rfl⟩
  ·obtain rfl:i=s.timers.length:=ab;rw[fT,kD] at ho;subst ho;have FF:=Nf @db @hlt @fw @FB @nU @ajF @Md @hl @hw @hd @oV;refine bY hH2 ?_;refine kL ?_;exact(by simp[ek])
 ·
  rw[af ab,af ab,af ab,af ab,af ab,af ab] at hx;obtain⟨r',e1,a1,a2,a3⟩:=YU hI (n:Int) (c.first.length:Int) l;rw[e1] at hx;simp only[bU,jM] at hx;obtain⟨w2,UO,rfl,rfl⟩:=hx;have hC:=aAl hI ab cT e1;have h1:=a1.s.sL;have h2:=a1.s.aY.mI;have h3:=a1.s.AM
  have hT:=akS _ w2 n g1 g2 g3 g4 UO (fun s2 iz=>by
   have:(w.nodes.set n r'.s)[n]? =some s2:=iz;rw[BL hlt] at this;cases this
   omega) (fun t ht=>by have:=h.Da t (eI ht);omega)
  have fY:iK Tryz.prog 163 [.w (.agg (wX w g1 g2 g3 g4)),.w (.c (iA n))] [(601,.row 193 52 g1 ((w.nodes.map aS).set n (aS r'.s))),(602,.row 3 1 g2 (bM w.next)),(603,.row 300 1 g3 (w.bH.map oD)),(604,.row 79 1 g4 (w.traces.map xC))]
    (fun x S'=>x=.w (.agg (wX w2 g1 g2 g3 g4))/\∀p∈wT w2 g1 g2 g3 g4,S' p.1=p.2):=by
   rw[<-List.map_set];exact hT
  refine rh Tryz.func120 ⟨0,[12,15],[(157,[601,602,603,604]),(158,[601,602,603,604]),(163,[601,602,603,604])],[(11,[12]),(32,[15])],cZ,[],[]⟩ [(5,24,tk 0 22 (.fork 22 23 (.move 23 .nil) (.move 22 .nil)),[]),(10,15,tk 0 3 (tk 4 10 (.fork 3 14 (.move 14 .nil) (.move 3 .nil))),[12,15]),(40,18,tk 0 10 (.fork 10 15 (tk 11 4 (.move 15 (tk 16 1 (.move 17 .nil)))) (.move 10 (tk 11 4 (tk 16 1 (.move 17 .nil))))),[12,15,18]),(6,6,tk 0 3 (tk 4 1 (.move 3 (.move 5 .nil))),[12,15,601,602,603,604,6]),tm 12 8,tz 30 11,tz 36 10,tz 39 10,(45,5,tk 0 2 (tk 3 1 (.move 2 (.move 4 .nil))),[12,15,601,602,603,604,6])] [.cell 6 16,.cell 7 67] [3,4,6,7,8,9,10,11,12,13,15,16,17,18,20,24] [3,4,6,7,9,10,11,13,18,20,12,15] ?_;have FF:=Nf @nj @a @hlt @fw @hl @hw @hd @oV @iO @ajo @aaR;refine kg hC fY ?_;refine kL ?_;exact(by simp[ek])
end Ab
end Go.Proofs.YtkanpepkdcmpmaaGreatDoor
