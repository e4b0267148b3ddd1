import Derived.Test.YtkanpepkdcmpmaaGreatDoorY27
import Derived.Test.YtkanpepkdcmpmaaGreatDoorY29
set_option maxHeartbeats 40000000
set_option maxRecDepth 100000
set_option linter.all false
namespace Go.Proofs.YtkanpepkdcmpmaaGreatDoor
namespace Ab
open Go Go.RowKit mG
attribute [local irreducible] aM bt aX
open aD (Rr aT jV oR qX BU se po wS YJ mI ig fX BS Rp)
variable {c:aT} {aE fl sn:AC} {es:List (List AC)} {ga kk fB:Nat} {l:List aL} {o:List AC} {ps:List Prog} {r:Rr} {rep:Bool} {self:Int}
theorem akT (s:aD.Node)(k:Nat):(aR s).take 6++ .sl (List.replicate k [iA 0])::(aR s).drop 7=aR { s with fx:=List.replicate k 0 }:=by
 unfold aR;simp
theorem akU (s:aD.Node):(aR s).take 7++ .sl []::(aR s).drop 8=aR { s with timers:=[] }:=ajv s []
theorem akV (s:aD.Node)(v:Int):bA s.up::iA v::(aR s).drop 2=aR { s with version:=v }:=by
 unfold aR;rfl
theorem aAc{s:aD.Node}(h:jV ps fB kk s){p:Prog}{version:Int}(hv:0<=version/\version<ps.length)(hp:ps[version.toNat]? =some p)(hs:qX p=true){nodes drift:Int}(Cp:aD.bu self=true)(AA:aD.bu nodes=true)(kU:0<=drift/\drift<=3)
  (gC:kk<=5000) (hl:l.length<=1000000) (hr:BU s p version self nodes drift l=some r):
  aU Tryz.prog 156 [.agg (aR s),.agg (cI p),.c (iA version),.c (iA self),.c (iA nodes),.c (iA drift),.c (nL l)] (fun x=>x=.w (.agg (rX r))):=by
 have eo:=hs;unfold qX at eo;simp only[bV,dh] at eo;obtain⟨⟨⟨⟨⟨h1,h2⟩,h3⟩,h4⟩,h5⟩,h6⟩:=eo
 obtain⟨dn,ff⟩:∃dn:Nat,p.dH=dn:=⟨p.dH.toNat,ab⟩
 obtain⟨vn,xU⟩:∃vn:Nat,p.jF=vn:=⟨p.jF.toNat,ab⟩
 unfold BU at hr;rw[af ab,ff,xU,fJ,fJ] at hr;have Uz:(vn:Int)<=1000000:=ab;have dB:=h.sH;have hpn:=h.aZ.sG
 obtain⟨d,hd,hdI⟩:∃d,(if(s.aZ.cells.length:Int)=dn then some s.aZ else wS s.aZ dn)=some d/\oR dn d:=by
  split
  ·rename_i he;refine⟨_,rfl,?_⟩;have:dn=s.aZ.cells.length:=ab;rw[this];exact h.aZ
  ·exact YJ h.aZ _
 rw[hd] at hr;dsimp only at hr
 have hI:jV ps fB kk { s with version:=version,aZ:=d,fx:=List.replicate vn 0,timers:=[],waiting:= -1,up:=true }:=by
  have hl:=hdI.len
  exact { h with
   version:=by show -1<=version/\version<_;omega
   aZ:=by show oR d.cells.length d;rw[hl];exact hdI
   sH:=by show d.cells.length<=16;omega
   fx:=fun x hx=>by rw[FV hx];decide
   Az:=by show(List.replicate vn (0:Int)).length<=16;simp;omega
   timers:=fun t ht=>by simp at ht
   vE:=by show([]:List Int).length<=8;simp
   waiting:=by show -1<=(-1:Int)/\(-1:Int)<fB;omega
   run:=fun _=>⟨hv.1,fun q hq=>by
    have:q=p:=by rw[show ps[version.toNat]? =some q from hq] at hp;injection hp
    subst this
    show(d.cells.length:Int)=_/\((List.replicate vn (0:Int)).length:Int)=_
    simp
    omega⟩ }
 have hH:=akQ (s:={ s with version:=version,aZ:=d,fx:=List.replicate vn 0,timers:=[],waiting:= -1,up:=true }) hI hp hs rfl (handler:=0) ab Cp AA kU (n0:=0) (n1:=0) (n2:=0) (n3:=0) (n4:=0) (n5:=0) (n6:=0) (n7:=0) (n8:=0) (fun x hx=>by
  simp only[cz,jD,kL] at hx
  rcases hx with rfl|rfl|rfl|rfl|rfl|rfl|rfl|rfl|rfl<;>decide) gC hl hr
 refine cC Tryz.func156 aN [] [.cell 14 67] [7,8,14] [7,8,14] ?_;by_cases he:(s.aZ.cells.length:Int)=dn
 ·rw[aq he] at hd;simp only[aA] at hd;subst hd;have FF:=eW @akV @ajx @ff @he
  try refine aF ?_
  iterate 3 (refine bh (by simp[xU,aaQ,aaR,Uz];try rfl) ?_)
  have FF:=kj @akT @akU @aaP @ajw @iG @Bh @PC;refine bJ hH ?_
  (try dsimp only[lI,mj])
  exact kC (xs:=[.agg (rX r)]) (by simp[Bh,PB,akE]) rfl
 ·rw[af he] at hd;have hrz:=arA s.aZ d dn hd ab ab ab;have FF:=gZ @akV @ajx @ff @he @ayH;refine bJ hrz ?_
  iterate 3 (refine bh (by simp[xU,aaQ,aaR,Uz];try rfl) ?_)
  have FF:=kj @akT @akU @aaP @ajw @iG @Bh @PC;refine bJ hH ?_
  (try dsimp only[lI,mj])
  exact kC (xs:=[.agg (rX r)]) (by simp[Bh,PB,akE]) rfl
theorem aAd{n:aD.Node}{val:Int}(hs:inl sn=true)(hf:inl fl=true)(ho:o.all inl=true)(vV:inl aE=true):(rC n (.own 403 ga) sn rep val fl c o aE).map (mf 403 ga es)=rC n (.sl es) sn rep val fl c o aE:=by
 rw[eJ,eJ,de,LV,de,de,vU ho,vU (cs:=[aE]) (by simp[vV])];have h1:=vU (s:=403) (g:=ga) (es:=es) (cs:=[sn]) (by simp[hs]);have h2:=vU (s:=403) (g:=ga) (es:=es) (cs:=[fl]) (by simp[hf]);simp only[dF,mF,List.cons.injEq,and_true] at h1 h2
 have h0:mf 403 ga es (.own 403 ga)=.sl es:=by simp[mf]
 simp only[dF,mF,h0,h1,h2];rfl
theorem aAe{n:aD.Node}{s g:Nat}{val:Int}(UA:s≠403)(hs:inl sn=true)(hf:inl fl=true)(ho:o.all inl=true)(vV:inl aE=true):(rC n (.own 403 ga) sn rep val fl c o aE).map (mf s g es)=rC n (.own 403 ga) sn rep val fl c o aE:=by
 rw[eJ,de,LV,de,de,vU ho,vU (cs:=[aE]) (by simp[vV])];have h1:=vU (s:=s) (g:=g) (es:=es) (cs:=[sn]) (by simp[hs]);have h2:=vU (s:=s) (g:=g) (es:=es) (cs:=[fl]) (by simp[hf]);simp only[dF,mF,List.cons.injEq,and_true] at h1 h2
 have h3:¬403=s:=fun e=>UA e.symm
 have h0:mf s g es (.own 403 ga)=.own 403 ga:=by simp[mf,h3]
 simp only[dF,mF,h0,h1,h2];rfl
theorem aAf{s:aD.Node}(h:jV ps fB kk s)(gC:kk<=5000)(hl:l.length<=1000000)(hr:se s self l=some r):
  aU Tryz.prog 162 [.agg (aR s),.c (iA self),.c (nL l)] (fun x=>x=.w (.agg (rX r))):=by
 have hlt:40<s.counts.length:=by rw[h.nc];omega
 have nY:=h.counts _ (bP hlt)
 have hce:s.counts[40]? =some s.counts[40]:=by simp[hlt]
 have dp:s.counts.getD 40 0=s.counts[40]:=by rw[fo,hce];rfl
 unfold se at hr;rw[hce] at hr;generalize s.counts[40]=k at nY hce dp hr;dsimp only at hr;rw[bO] at hr;obtain⟨d,hd,rfl⟩:=hr;have hep:=h.fb;have dB:=h.sH;have uW:=h.Az;have hpn:=h.aZ.sG;have c40:=ajz s;rw[dp] at c40;have ck1:=oO (a:=k) (b:=1) ab ab;have ep1:=oO (a:=s.fb) (b:=1) ab ab
 obtain⟨pn,iV⟩:∃pn,s.aZ.pending.length=pn:=⟨_,rfl⟩
 rw[iV] at hd hpn;have aAg:=aye s.aZ d ((mI l ⟨self,40,k⟩ pn).map fun(a:Ask)=>decide (a.n=1)) hd ab ab
 have uX:aU Tryz.prog 205 [.agg (oQ s.aZ),.c (.sl ((mI l ⟨self,40,k⟩ pn).map fun(a:Ask)=>[bA (decide (a.n=1))]))] (fun x=>x=.w (.agg (oQ d))):=by
  have:=aAg;simp only[XW,List.map_map,Function.comp_def] at this;exact this
 have Uz:(s.fx.length:Int)<=1000000:=ab;refine cC Tryz.func162 ⟨0,[8],[],[(10,[8,403])],cU,[(18,[52])],[(2,[(7,52,403,78,7)])]⟩ [] [.cell 6 67] [3,6,7,8,9,10,11] [3,6,7,10,8,403] ?_;have FF:=wF @c40 @aji @aiZ @iG @vT @ajn @ajj @ajk
 try refine aF ?_
 refine dv (fun m V S=>∃(i g g8:Nat) (x10 x11:AV) (s10:Slot) (z6:List AC),i<=pn/\m=pn-i/\
  V=[(0,.w (.agg (aR s))),(1,.w (.c (iA self))),(2,.w (.c (nL l))),(3,.pb 3 1 0),(6,.pb 6 1 0),(7,.pb 7 1 0),(8,.w (.c (.own 8 g8))),(9,.w (.c (iA i))),(10,x10),(11,x11)]/\
  S=[(3,.box 1 (aR s)),(6,.box 1 z6),(7,.box 1 (rC s (.own 403 g) (.sl []) false 0 (.sl []) ⟨self,40,k⟩ [.sl [],.sl [],iA 0,bA false,.sl [],.sl []] (.sl []))),(10,s10),(8,.row 4 1 g8 ((mI l ⟨self,40,k⟩ i).map fun(a:Ask)=>[bA (decide (a.n=1))])),(403,.row 78 7 g ((mI l ⟨self,40,k⟩ i).map eH))]/\z6.length=67) (n:=pn) ⟨0,1,1,.u,.u,.dead 0,_,ab,ab,rfl,rfl,eD⟩ ?_
 rintro m V L S ⟨i,g,g8,x10,x11,s10,z6,hi,rfl,rfl,rfl,hz⟩
 have kl:∀i,(mI l ⟨self,40,k⟩ i).length=i:=fun i=>by simp[mI]
 by_cases xy:i<pn
 ·have eN:i<=1000000000:=ab;have pK:=aaB l ⟨self,40,k,3,i⟩ 2 au hl
  have ll:mI l ⟨self,40,k⟩ (i+1)=mI l ⟨self,40,k⟩ i++[ig ⟨self,40,k,3,i⟩ 2 (fX l ⟨self,40,k,3,i⟩ 2)]:=by
   unfold mI;rw[lV,de];rfl
  have eb:=kl i;generalize mI l ⟨self,40,k⟩ i=ak at ll eb⊢;have abC:ak.length+1<=100000000:=ab;generalize fX l ⟨self,40,k,3,i⟩ 2=nn at ll pK;have FF:=FT @xy @iV @ajy @abC (bN eN) @iG @vT @Jc @TY @aaL;refine bJ pK ?_;exact⟨pn-(i+1),ab,i+1,g+1,g8+1,_,_,_,z6,ab,ab,rfl,by rw[ll,de,de];rfl,hz⟩
 obtain rfl:i=pn:=ab
 have Fq:∀(ak sn fl aE:AC) (oo:List AC),((rC { s with aZ:=d } ak sn false 0 fl ⟨self,40,k⟩ oo aE).drop 48).take 1=[iA k]:=fun ak sn fl aE oo=>by
  rw[ayM]
  show [iA (s.counts.getD 40 0)]=[iA k]
  rw[dp]
 have abD:∀(ak sn fl aE:AC) (oo:List AC),(rC { s with aZ:=d } ak sn false 0 fl ⟨self,40,k⟩ oo aE).take 48++iA (k+1)::(rC { s with aZ:=d } ak sn false 0 fl ⟨self,40,k⟩ oo aE).drop 49=rC { s with aZ:=d,counts:=s.counts.set 40 (k+1) } ak sn false 0 fl ⟨self,40,k⟩ oo aE:=fun ak sn fl aE oo=>ayN _ _ _ _ _ _ _ _ _ (k+1) hlt
 have hvR:∀(s:aD.Node) (m:Nat) (ak sn fl aE:AC) (c:aT) (oo:List AC),(rC s ak sn false 0 fl c oo aE).take 6++ .sl (List.replicate m [iA 0])::(rC s ak sn false 0 fl c oo aE).drop 7=rC { s with fx:=List.replicate m 0 } ak sn false 0 fl c oo aE:=fun s m ak sn fl aE c oo=>by
  unfold rC;simp
 have hzd:∀f:AC->AC,(z6.map f).drop 67=[]:=fun f=>uF (by rw[dE];omega)
 have aAh:∀(es es8:List (List AC)),(rC s (.own 403 g) (.sl []) false 0 (.sl []) ⟨self,40,k⟩ [.sl [],.sl [],iA 0,bA false,.sl [],.sl []] (.sl [])).map (mf 403 g es∘mf 8 g8 es8)=rC s (.sl es) (.sl []) false 0 (.sl []) ⟨self,40,k⟩ [.sl [],.sl [],iA 0,bA false,.sl [],.sl []] (.sl []):=fun es es8=>by
  rw[<-List.map_map,aAe au ai ai ai ai,aAd ai ai ai ai]
 have FF:=Wk @xy @iV @ajy @iG @vT @aAh @LV @aaF @Fq @abD @ck1 @ajA @ayL @ep1;refine bJ uX ?_
 (refine bh (by simp[aaQ,aaR,Uz];try rfl) ?_)
 have hT0:∀(s:aD.Node) (ak sn fl aE:AC) (c:aT) (oo:List AC),(rC s ak sn false 0 fl c oo aE).take 7++ .sl []::(rC s ak sn false 0 fl c oo aE).drop 8=rC { s with timers:=[] } ak sn false 0 fl c oo aE:=fun s ak sn fl aE c oo=>aaG s ak sn false 0 fl c oo aE []
 have FF:=wF @iG @vT @hvR @hT0 @ajh @ayI @hz @hzd
 try refine aF ?_
 (try dsimp only[lI,mj])
 have IE:∀(st:St) (n:aD.Node) (l:List (List AC)),st.jQ (rC n (.sl l) (.sl []) false 0 (.sl []) ⟨self,40,k⟩ [.sl [],.sl [],iA 0,bA false,.sl [],.sl []] (.sl []))=some (rC n (.sl l) (.sl []) false 0 (.sl []) ⟨self,40,k⟩ [.sl [],.sl [],iA 0,bA false,.sl [],.sl []] (.sl [])):=fun st n l=>ajr ai ai ai ai ai
 refine kC (xs:=[.agg (rC { s with up:=false,fb:=s.fb+1,aZ:=d,fx:=List.replicate s.fx.length 0,timers:=[],counts:=s.counts.set 40 (k+1),waiting:= -1 } (asks (mI l ⟨self,40,k⟩ i)) (.sl []) false 0 (.sl []) ⟨self,40,k⟩ [.sl [],.sl [],iA 0,bA false,.sl [],.sl []] (.sl []))]) (by simp[iG,vT,IE]) ?_
 show AV.w _=AV.w (.agg (rX _))
 simp only[iV];rfl
end Ab
namespace Ab
open Go Go.RowKit
attribute [local irreducible] aM bt aX
open aD (eQ qx Ob pq bG Env aT Rr iO eK tW Ov uQ zX)
variable {c:eQ} {j k:Nat} {r:Rr} {w:bG}
theorem akW(st:St)(D:List Nat)(r:Rr):st.kD D (rX r)=some (rX r):=Ma (Uy r)
theorem akX(hk:k<=1000)(hj:j<=1000)(h:eK c k j w){n:Nat}{N:Int}{cs:aT}{xx:Int}(hr:tW c.dR c.ek.length (k+1) N cs xx r)(hs:r.sent.length<=500)(hf:r.bC.length<=500):akH w n r:=by
 refine⟨by have:=h.vW;omega,by have:=h.tU;have:=hr.tU;omega,fun f hf2=> ?_,fun t ht=> ?_,by have:=h.um;omega,?_⟩
 ·have:=h.Pk f (eE hf2);omega
 ·have:=h.CQ t (eE ht);omega
 ·have h1:=hr.s.sH;have h2:=hr.s.aZ.sG;have h3:=hr.s.Az;omega
theorem abE(hc:iO c)(hk:k<=1000)(hj:j<=1000)(h:eK c k j w){n:Nat}{s:aD.Node}(hs:w.nodes[n]? =some s)(fY:s.up=true){handler:Nat}(hh:handler<40)
  {n0 n1 n2 n3 n4 n5 n6 n7 n8:Int} (dW:∀x∈[n0,n1,n2,n3,n4,n5,n6,n7,n8],aD.bu x=true) {l:List aL} (cQ:l.length<=1000000) {w':bG} (hx:uQ w n handler [n0,n1,n2,n3,n4,n5,n6,n7,n8] l=some (w',r)) (g1 g2 g3 g4:Nat):
  iB Tryz.prog 158 [.w (.agg (wX w g1 g2 g3 g4)),.w (.c (iA n)),.w (.c (iA handler)),.w (.agg [iA n0,iA n1,iA n2,iA n3,iA n4,iA n5,iA n6,iA n7,iA n8]),.w (.c (nL l))] (wT w g1 g2 g3 g4)
  (fun x S'=>x=.bD [.agg (wX w' g1 g2 g3 g4),.agg (rX r)]/\∀p∈wT w' g1 g2 g3 g4,S' p.1=p.2):=by
 obtain⟨hlt,ll⟩:=bK.1 hs
 have hn:n<c.first.length:=by rw[<-h.nodes];exact hlt
 have hI:=h.node s (eE hs);have hr:=hI.run fY;have hv:=hI.version;have h12:=hc.CP;have ju:=h.nodes
 obtain⟨vn,xU⟩:∃vn:Nat,s.version=vn:=⟨s.version.toNat,ab⟩
 have iV:vn<c.dR.length:=ab
 have hp:c.dR[vn]? =some c.dR[vn]:=by simp[iV]
 have vX:=hc.safe _ (bP iV)
 obtain⟨p,pG⟩:∃p,c.dR[vn]=p:=⟨_,rfl⟩
 rw[pG] at hp vX;have pR:=h.cfg;unfold uQ at hx;rw[hs] at hx;simp only at hx;rw[af ab,pR,xU,fJ,hp,fJ] at hx;simp only at hx
 have hp':c.dR[s.version.toNat]? =some p:=by rw[xU,fJ];exact hp
 obtain⟨r',e,a1,a2,a3⟩:=Ov hI hp' vX fY (handler:=handler) hh (self:=n) (nodes:=w.nodes.length) (drift:=c.drift) (names:=[n0,n1,n2,n3,n4,n5,n6,n7,n8]) (aD.xM ab) (aD.xM ab) hc.drift rfl dW l ab;rw[e] at hx;simp only at hx;simp only[bO,jE] at hx;obtain⟨w2,mq,rfl,rfl⟩:=hx;have hH:=akQ hI hp' vX fY hh (aD.xM ab) (aD.xM ab) hc.drift dW ab cQ e;have hF:=akI w w2 n r' s.waiting g1 g2 g3 g4 mq (akX hk hj h a1 a2 a3);have hl:=Bh r';have hw:=PB r';have hd:=PC r'
 have fz:=fun(st:St) (D:List Nat)=>akW st D r'
 have oM:=fun(D:List Nat)=>abx D r'
 have abF:vn<w.c.dR.length:=by rw[pR];exact iV
 have Bi:w.c.dR[vn]=p:=by simp only[pR];exact pG
 have hdw:w.c.drift=c.drift:=by rw[pR]
 refine qP Tryz.func158 ⟨0,[],[(157,[601,602,603,604])],[],cU,[],[]⟩ [(2,20,tk 0 18 (.fork 18 19 (.move 19 .nil) (.move 18 .nil)),[]),(3,8,tk 0 5 (tk 6 1 (.move 5 (.move 7 .nil))),[601,602,603,604,10])] [.cell 10 16,.cell 11 67] [5,8,10,11,12,13] [5,8,10,11,12,13] ?_;have FF:=wF @hlt @ll @aiX @xU @abF @Bi @hdw @aaO;refine gX hH hF ?_;have FF:=eW @hl @hw @hd @oM;apply Bb
 ·(repeat' first|refine qQ hH ?_|refine qR hH ?_|refine vz hF ?_|refine vA hF ?_|refine tO ?_|refine xi ?_|refine xh ?_|refine bz ?_|refine vm ?_ ?_|refine Ao ?_ ?_ ?_|refine tP ?_|refine xj ?_|refine qU hH ?_|refine vB rfl hF ?_|refine xl ?_|refine xm ?_|refine xn ?_|refine xk ?_|refine xg ?_|fail)<;>exact⟨rfl,rfl⟩
 intro L;have FF:=gZ @hl @hw @hd @oM @aiY;refine gX hH hF ?_;refine kE ?_;exact(by simp[ed])
open aD (eQ qx Ob pq bG Env aT Rr iO eK jV tW Ov uQ zX yu enabled Uj sR Uk YL YM oH nw sf iU aaZ aba abb Uh sj)
theorem aAi (l:List Env)(m:bQ)(c:Int)(hl:l.length<=1000000):∃(y:bQ) (z:Int),aU Tryz.prog 161 [.c (jU l),.agg (mP m),.c (iA c)] (fun x=>x=.bD [.c (jU (sf l m c)),.agg (mP y),.c (iA z)]):=by
 cases hf:oH l m with
 |none=>
  refine⟨⟨0,0,0,0,0⟩,3,?_⟩;refine cC Tryz.func161 aN [(7,6,tk 0 2 (tk 3 2 (.move 2 (tk 5 1 .nil))),[])] [.t 6,.cell 7 5,.t 8] [4,6,7,8,9,10] [4,7,9] ?_;have FF:=@hf;refine bJ (SL l m hl) ?_;refine zE ?_;exact(by unfold sf;rw[hf];rfl)
 |some e=>
  obtain⟨⟨e1,e2,e3,e4,e5⟩,e6,e7,e8,e9⟩:=e
  rcases YE l ⟨e1,e2,e3,e4,c⟩ with⟨h1,h2⟩|⟨k,hk,h1,h2,h3⟩
  ·refine⟨⟨e1,e2,e3,e4,c⟩,0,?_⟩;refine cC Tryz.func161 aN [(7,6,tk 0 2 (tk 3 2 (.move 2 (tk 5 1 .nil))),[])] [.t 6,.cell 7 5,.t 8] [4,6,7,8,9,10] [4,7,9] ?_;have FF:=eV @hf @h1;refine yK (SL l m hl) (Le l ⟨e1,e2,e3,e4,c⟩ hl) (SK l ⟨⟨e1,e2,e3,e4,c⟩,e6,e7,e8,e9⟩ hl) ?_;refine zE ?_;exact(by unfold sf aD.kA;rw[hf];dsimp only;rw[h2];rfl)
  ·refine⟨⟨0,0,0,0,0⟩,4,?_⟩;refine cC Tryz.func161 aN [(7,6,tk 0 2 (tk 3 2 (.move 2 (tk 5 1 .nil))),[])] [.t 6,.cell 7 5,.t 8] [4,6,7,8,9,10] [4,7,9] ?_;have FF:=eV @hf @h1;refine yK (SL l m hl) (Le l ⟨e1,e2,e3,e4,c⟩ hl) (SK l ⟨⟨e1,e2,e3,e4,c⟩,e6,e7,e8,e9⟩ hl) ?_;refine zE ?_;exact(by unfold sf aD.kA;rw[hf];dsimp only;rw[h2];rfl)
theorem UB:rX sj=[bA false,iA 0,iA 0,iA 0,.sl [],.sl [],.sl [],.sl []]++List.replicate 44 (iA 0)++[.sl [],.sl [],bA false,iA 0,.sl [],iA 0,iA 0,iA 0,.sl [],.sl [],iA 0,bA false,.sl [],.sl [],.sl []]:=by
 unfold rX rC;rfl
theorem aAj {c:eQ}(hc:iO c){k j:Nat}(hk:k<=900)(hj:j<=900){w:bG}(h:eK c k j w){e:Ev}(he:e∈enabled w){l:List aL}(cQ:l.length<=1000000){w':bG}{r:Rr}(hx:yu w e l=some (w',r))(g1 g2 g3 g4:Nat):
  iB Tryz.prog 120 [.w (.agg (wX w g1 g2 g3 g4)),.w (.agg (gG e)),.w (.c (nL l))] (wT w g1 g2 g3 g4)
  (fun x S'=>x=.bD [.agg (wX w' g1 g2 g3 g4),.agg (rX r)]/\∀p∈wT w' g1 g2 g3 g4,S' p.1=p.2):=by
 obtain⟨n,s,hs,IP⟩:=Uj he;obtain⟨hlt,ll⟩:=bK.1 hs
 have hn:n<c.first.length:=by rw[<-h.nodes];exact hlt
 have hI:=h.node s (eE hs);have h12:=hc.CP;have ju:=h.nodes;have pR:=h.cfg;obtain⟨mU,Ox⟩:=IP;unfold yu at hx;rw[mU,af ab] at hx;simp only[fJ,hs] at hx;have hl:=Bh r;have hw:=PB r;have hd:=PC r
 have fz:=fun(st:St) (D:List Nat)=>akW st D r
 have oM:=fun(D:List Nat)=>abx D r
 have cM:w.bE.length<=1000000:=by have:=h.vW;omega
 have qE:w.aJ.length<=100000000:=by have:=h.um;omega
 have abG:w.aJ.length+1<=100000000:=by have:=h.um;omega
 have hdw:w.c.drift=c.drift:=by rw[pR]
 rcases Ox with⟨a,b,d,m⟩|⟨a,b,d,f,g,m⟩|⟨a,b,d⟩|⟨a,b,d,m⟩|⟨a,b,d,f,m⟩
 ·
  have hv:=Uk hc h hs d
  obtain⟨vn,xU⟩:∃vn:Nat,e.arg=vn:=⟨e.arg.toNat,ab⟩
  have iV:vn<c.dR.length:=ab
  have hp:c.dR[vn]? =some c.dR[vn]:=by simp[iV]
  have vX:=hc.safe _ (bP iV)
  obtain⟨p,pG⟩:∃p,c.dR[vn]=p:=⟨_,rfl⟩
  rw[pG] at hp vX;rw[aq a,af ab,pR,xU,fJ,hp] at hx;simp only at hx;obtain⟨r',e1,a1,a2,a3⟩:=YL hI (version:=vn) ab (by rw[fJ];exact hp) vX (self:=n) (nodes:=w.nodes.length) (drift:=c.drift) (aD.xM ab) (aD.xM ab) hc.drift l ab;rw[e1] at hx;simp only[bO,jE] at hx;obtain⟨w2,mq,rfl,rfl⟩:=hx;have hS:=aAc hI (version:=vn) ab (by rw[fJ];exact hp) vX (aD.xM ab) (aD.xM ab) hc.drift ab cQ e1;have hF:=akI w w2 n r' (-1) g1 g2 g3 g4 mq (akX ab ab h a1 a2 a3)
  have abF:vn<w.c.dR.length:=by rw[pR];exact iV
  have Bi:w.c.dR[vn]=p:=by simp only[pR];exact pG
  refine qP Tryz.func120 ⟨0,[12,15],[(157,[601,602,603,604]),(158,[601,602,603,604]),(163,[601,602,603,604])],[(11,[12]),(32,[15])],cU,[],[]⟩ [(5,24,tk 0 22 (.fork 22 23 (.move 23 .nil) (.move 22 .nil)),[]),(10,15,tk 0 3 (tk 4 10 (.fork 3 14 (.move 14 .nil) (.move 3 .nil))),[12,15]),(40,18,tk 0 10 (.fork 10 15 (tk 11 4 (.move 15 (tk 16 1 (.move 17 .nil)))) (.move 10 (tk 11 4 (tk 16 1 (.move 17 .nil))))),[12,15,18]),(6,6,tk 0 3 (tk 4 1 (.move 3 (.move 5 .nil))),[12,15,601,602,603,604,6]),tm 12 8,tz 30 11,tz 36 10,tz 39 10,(45,5,tk 0 2 (tk 3 1 (.move 2 (.move 4 .nil))),[12,15,601,602,603,604,6])] [.cell 6 16,.cell 7 67] [3,4,6,7,8,9,10,11,12,13,15,16,17,18,20,24] [3,4,6,7,9,10,11,13,18,20,12,15] ?_;have FF:=wF @mU @a @xU @hlt @ll @abF @Bi @hdw;refine gX hS hF ?_;have FF:=kj @mU @a @xU @hl @hw @hd @oM;apply Bb
  ·(repeat' first|refine qQ hS ?_|refine qR hS ?_|refine vz hF ?_|refine vA hF ?_|refine tO ?_|refine xi ?_|refine xh ?_|refine bz ?_|refine vm ?_ ?_|refine Ao ?_ ?_ ?_|refine tP ?_|refine xj ?_|refine qU hS ?_|refine vB rfl hF ?_|refine xl ?_|refine xm ?_|refine xn ?_|refine xk ?_|refine xg ?_|fail)<;>exact⟨rfl,rfl⟩
  intro L;have FF:=kj @mU @a @xU @hl @hw @hd @oM;refine gX hS hF ?_;refine kE ?_;exact(by simp[ed])
 ·
  have UC:n<w.next.length:=by rw[h.next];exact hn
  rw[fo,cw UC,BI] at g;have Yb:=h.qp _ (bP UC);rw[<-g] at Yb;have aze:=hc.fB
  obtain⟨an,xC⟩:∃an:Nat,e.arg=an:=⟨e.arg.toNat,ab⟩
  have fC:an<c.ek.length:=ab
  have akY:an<w.c.ek.length:=by rw[pR];exact fC
  have CS:=hc.req _ (bP fC)
  obtain⟨q,sK⟩:∃q,c.ek[an]=q:=⟨_,rfl⟩
  rw[sK] at CS
  have hqw:w.c.ek[an]=q:=by simp only[pR];exact sK
  have hq':w.c.ek[an]? =some q:=by rw[cw akY,hqw]
  rw[af ab,aq a,af ab,xC,fJ,hq'] at hx;simp only at hx;rw[aq UC] at hx
  have h1:eK c k (j+1) { w with aJ:=w.aJ++[(⟨false,an,n,s.fb,0⟩:Ob)],next:=w.next.set n (aD.after w.c n an) }:=
   { h with
    next:=by show(w.next.set n _).length=_;simp[h.next]
    qp:=fun x hx=>by
     rcases aD.mem_set hx with hx|rfl
     ·exact h.qp x hx
     ·rw[pR];exact Uh _ _ _
    um:=by have:=h.um;show(w.aJ++[_]).length<=_;simp;exact this }
  have pO:jV c.dR c.ek.length k { s with waiting:=an }:={ hI with waiting:=by show -1<=(an:Int)/\(an:Int)<_;omega }
  have h2:=h1.setNode n pO
  have hH:=abE hc ab ab h2 (n:=n) (s:={ s with waiting:=an }) (by show(w.nodes.set n _)[n]? =_;simp[hlt]) b (handler:=1) ab (n0:=0) (n1:=0) (n2:=0) (n3:=0) (n4:=q.arg) (n5:=0) (n6:=an) (n7:=q.op) (n8:=q.key) (fun x hx=>by
   simp only[cz,jD,kL] at hx
   rcases hx with rfl|rfl|rfl|rfl|rfl|rfl|rfl|rfl|rfl
   any_goals decide
   ·exact CS.2.2
   ·rw[aD.vC];omega
   ·exact CS.1
   ·exact CS.2.1) cQ hx g1 g2 g3 g4
  have hH2:iB Tryz.prog 158 [.w (.agg (wO w.c (jU w.bE) (.sl (w.aJ.map Ph++[[bA false,iA an,iA n,iA s.fb,iA 0]])) (fF w.covered) w.steps g1 g2 g3 g4)),.w (.c (iA n)),.w (.c (iA 1)),.w (.agg [iA 0,iA 0,iA 0,iA 0,iA q.arg,iA 0,iA an,iA q.op,iA q.key]),.w (.c (nL l))]
    [(601,.row 193 52 g1 ((w.nodes.map aR).set n (aR { s with waiting:=an }))),(602,.row 3 1 g2 ((bH w.next).set n [iA (aD.after w.c n an)])),(603,.row 300 1 g3 (w.bC.map ot)),(604,.row 79 1 g4 (w.traces.map xK))]
    (fun x S'=>x=.bD [.agg (wX w' g1 g2 g3 g4),.agg (rX r)]/\∀p∈wT w' g1 g2 g3 g4,S' p.1=p.2):=by
   rw[<-List.map_set,show(bH w.next).set n [iA (aD.after w.c n an)]=bH (w.next.set n (aD.after w.c n an)) from(List.map_set ..).symm,show AC.sl (w.aJ.map Ph++[[bA false,iA an,iA n,iA s.fb,iA 0]])=aJ (w.aJ++[(⟨false,an,n,s.fb,0⟩:Ob)]) by show _=AC.sl (List.map _ _);rw[de];rfl];exact hH
  have hAf:=akh w.c n an ab (by rw[pR];omega);refine qP Tryz.func120 ⟨0,[12,15],[(157,[601,602,603,604]),(158,[601,602,603,604]),(163,[601,602,603,604])],[(11,[12]),(32,[15])],cU,[],[]⟩ [(5,24,tk 0 22 (.fork 22 23 (.move 23 .nil) (.move 22 .nil)),[]),(10,15,tk 0 3 (tk 4 10 (.fork 3 14 (.move 14 .nil) (.move 3 .nil))),[12,15]),(40,18,tk 0 10 (.fork 10 15 (tk 11 4 (.move 15 (tk 16 1 (.move 17 .nil)))) (.move 10 (tk 11 4 (tk 16 1 (.move 17 .nil))))),[12,15,18]),(6,6,tk 0 3 (tk 4 1 (.move 3 (.move 5 .nil))),[12,15,601,602,603,604,6]),tm 12 8,tz 30 11,tz 36 10,tz 39 10,(45,5,tk 0 2 (tk 3 1 (.move 2 (.move 4 .nil))),[12,15,601,602,603,604,6])] [.cell 6 16,.cell 7 67] [3,4,6,7,8,9,10,11,12,13,15,16,17,18,20,24] [3,4,6,7,9,10,11,13,18,20,12,15] ?_;have FF:=oy @mU @a @xC @akY @hqw @hlt @ll @qE @abG
  try refine aF ?_
  have FF:=kj @mU @a @xC @hlt @ll @qE @abG;apply Bb
  ·(repeat' first|refine tO ?_|refine xi ?_|refine xh ?_|refine bz ?_|refine vm ?_ ?_|refine Ao ?_ ?_ ?_|refine tP ?_|refine xj ?_|refine xl ?_|refine xm ?_|refine xn ?_|refine xk ?_|refine xg ?_|fail)<;>exact⟨rfl,rfl⟩
  intro L;have FF:=Wk @mU @a @xC @hlt @ll @qE @abG @UC @aaP @LV @hl @hw @hd @oM;refine gX hAf hH2 ?_;refine kE ?_;exact(by simp[ed])
 ·
  obtain⟨x,hf,hxm,hm⟩:=abb d;have zp:=h.bE x hxm;have Mn:=SL w.bE e.msg cM;rw[hf] at Mn;have hrm:=atr w.bE e.msg cM;have kU:=hI.dropped;have hdb:=hI.dY
  rcases a with⟨a,hu⟩|a|a
  ·rw[af ab,af ab,aq a,hf] at hx;simp only at hx
   obtain⟨kn,hkn⟩:∃kn:Nat,x.kind=kn:=⟨x.kind.toNat,by have:=zp.2.2.1;omega⟩
   have aGS:=zp.2.2.1;rw[hkn,show(10:Int)+(kn:Int)=((10+kn:Nat):Int) by omega] at hx
   have nK:aW .add (.int .i64 10) (.int .i64 (kn:Int))=some (.int .i64 ((10+kn:Nat):Int)):=by rw[oO ab ab];congr 2
   have aAk:∀e'∈nw w.bE e.msg,aD.Ug c.first.length k e':=fun e' Ji=>h.bE e' (aaZ Ji)
   have h1:eK c k j { w with bE:=nw w.bE e.msg }:={ h with bE:=aAk,vW:=by have:=aba w.bE e.msg;have:=h.vW;show(nw w.bE e.msg).length<=_;omega }
   have hH:=abE hc ab ab h1 (n:=n) (s:=s) hs hu (handler:=10+kn) ab (n0:=0) (n1:=0) (n2:=0) (n3:=x.msg.node) (n4:=x.a) (n5:=x.b) (n6:=0) (n7:=0) (n8:=0) (fun y hy=>by
    simp only[cz,jD,kL] at hy
    rcases hy with rfl|rfl|rfl|rfl|rfl|rfl|rfl|rfl|rfl
    any_goals decide
    ·rw[aD.vC];have:=zp.1.1;omega
    ·exact zp.2.2.2.1
    ·exact zp.2.2.2.2) cQ hx g1 g2 g3 g4
   refine qP Tryz.func120 ⟨0,[12,15],[(157,[601,602,603,604]),(158,[601,602,603,604]),(163,[601,602,603,604])],[(11,[12]),(32,[15])],cU,[],[]⟩ [(5,24,tk 0 22 (.fork 22 23 (.move 23 .nil) (.move 22 .nil)),[]),(10,15,tk 0 3 (tk 4 10 (.fork 3 14 (.move 14 .nil) (.move 3 .nil))),[12,15]),(40,18,tk 0 10 (.fork 10 15 (tk 11 4 (.move 15 (tk 16 1 (.move 17 .nil)))) (.move 10 (tk 11 4 (tk 16 1 (.move 17 .nil))))),[12,15,18]),(6,6,tk 0 3 (tk 4 1 (.move 3 (.move 5 .nil))),[12,15,601,602,603,604,6]),tm 12 8,tz 30 11,tz 36 10,tz 39 10,(45,5,tk 0 2 (tk 3 1 (.move 2 (.move 4 .nil))),[12,15,601,602,603,604,6])] [.cell 6 16,.cell 7 67] [3,4,6,7,8,9,10,11,12,13,15,16,17,18,20,24] [3,4,6,7,9,10,11,13,18,20,12,15] ?_;have FF:=wF @mU @a @hkn @hl @hw @hd @oM @nK;refine yK Mn hrm hH ?_;refine kE ?_;exact(by simp[ed])
  ·rw[af ab,af ab,af ab,af ab,aq a] at hx;simp only[aA,jE] at hx;obtain⟨rfl,rfl⟩:=hx;have ck:=oO (a:=s.dropped) (b:=1) ab ab;refine qP Tryz.func120 ⟨0,[12,15],[(157,[601,602,603,604]),(158,[601,602,603,604]),(163,[601,602,603,604])],[(11,[12]),(32,[15])],cU,[],[]⟩ [(5,24,tk 0 22 (.fork 22 23 (.move 23 .nil) (.move 22 .nil)),[]),(10,15,tk 0 3 (tk 4 10 (.fork 3 14 (.move 14 .nil) (.move 3 .nil))),[12,15]),(40,18,tk 0 10 (.fork 10 15 (tk 11 4 (.move 15 (tk 16 1 (.move 17 .nil)))) (.move 10 (tk 11 4 (tk 16 1 (.move 17 .nil))))),[12,15,18]),(6,6,tk 0 3 (tk 4 1 (.move 3 (.move 5 .nil))),[12,15,601,602,603,604,6]),tm 12 8,tz 30 11,tz 36 10,tz 39 10,(45,5,tk 0 2 (tk 3 1 (.move 2 (.move 4 .nil))),[12,15,601,602,603,604,6])] [.cell 6 16,.cell 7 67] [3,4,6,7,8,9,10,11,12,13,15,16,17,18,20,24] [3,4,6,7,9,10,11,13,18,20,12,15] ?_;have FF:=gI @mU @a @hlt @ll @ck @ayF;refine bJ hrm ?_;refine kE ?_;exact(by simp[ed,List.map_set,UB,aD.bG.setNode])
  ·rw[af ab,af ab,af ab,af ab,af ab,aq a] at hx;simp only[aA,jE] at hx;obtain⟨rfl,rfl⟩:=hx;have ck:=oO (a:=s.dY) (b:=1) ab ab;obtain⟨y,z,Me⟩:=aAi w.bE e.msg (s.dY+1) cM;refine qP Tryz.func120 ⟨0,[12,15],[(157,[601,602,603,604]),(158,[601,602,603,604]),(163,[601,602,603,604])],[(11,[12]),(32,[15])],cU,[],[]⟩ [(5,24,tk 0 22 (.fork 22 23 (.move 23 .nil) (.move 22 .nil)),[]),(10,15,tk 0 3 (tk 4 10 (.fork 3 14 (.move 14 .nil) (.move 3 .nil))),[12,15]),(40,18,tk 0 10 (.fork 10 15 (tk 11 4 (.move 15 (tk 16 1 (.move 17 .nil)))) (.move 10 (tk 11 4 (tk 16 1 (.move 17 .nil))))),[12,15,18]),(6,6,tk 0 3 (tk 4 1 (.move 3 (.move 5 .nil))),[12,15,601,602,603,604,6]),tm 12 8,tz 30 11,tz 36 10,tz 39 10,(45,5,tk 0 2 (tk 3 1 (.move 2 (.move 4 .nil))),[12,15,601,602,603,604,6])] [.cell 6 16,.cell 7 67] [3,4,6,7,8,9,10,11,12,13,15,16,17,18,20,24] [3,4,6,7,9,10,11,13,18,20,12,15] ?_;have FF:=gI @mU @a @hlt @ll @ck @ayG
   try refine aF ?_
   have FF:=gI @mU @a @hlt @ll @ck @axY;apply Bb
   ·(repeat' first|refine qQ Me ?_|refine qR Me ?_|refine tO ?_|refine xi ?_|refine xh ?_|refine bz ?_|refine vm ?_ ?_|refine Ao ?_ ?_ ?_|refine tP ?_|refine xj ?_|refine qU Me ?_|refine xl ?_|refine xm ?_|refine xn ?_|refine xk ?_|refine xg ?_|fail)<;>exact⟨rfl,rfl⟩
   intro L;have FF:=gZ @mU @a @hlt @ll @ck
   try refine aF ?_
   refine kE ?_;exact(by simp[ed,List.map_set,UB,aD.bG.setNode])
 ·
  have ht:=hI.timers _ d;have Aw:=hI.vE;rw[af ab,af ab,af ab,aq a] at hx
  obtain⟨tn,Fm⟩:∃tn:Nat,e.arg=tn:=⟨e.arg.toNat,ab⟩
  rw[Fm,show(2:Int)+(tn:Int)=((2+tn:Nat):Int) by omega] at hx
  have nK:aW .add (.int .i64 2) (.int .i64 (tn:Int))=some (.int .i64 ((2+tn:Nat):Int)):=by rw[oO ab ab];congr 2
  obtain⟨tl,kt⟩:∃tl,s.timers.filter (fun t=>decide (t≠(tn:Int)))=tl:=⟨_,rfl⟩
  rw[kt] at hx
  have pO:jV c.dR c.ek.length k { s with timers:=tl }:={ hI with timers:=fun t ht=>hI.timers t (nj.1 (kt▸ht)).1,vE:=by rw[<-kt];exact bj (nQ _ _) hI.vE }
  have hH:=abE hc ab ab (h.setNode n pO) (n:=n) (s:={ s with timers:=tl }) (by show(w.nodes.set n _)[n]? =_;simp[hlt]) b (handler:=2+tn) ab (n0:=0) (n1:=0) (n2:=0) (n3:=0) (n4:=0) (n5:=0) (n6:=0) (n7:=0) (n8:=0) (fun y hy=>by
   simp only[cz,jD,kL] at hy
   rcases hy with rfl|rfl|rfl|rfl|rfl|rfl|rfl|rfl|rfl<;>decide) cQ hx g1 g2 g3 g4
  have hH2:iB Tryz.prog 158 [.w (.agg (wX w g1 g2 g3 g4)),.w (.c (iA n)),.w (.c (iA ((2+tn:Nat):Int))),.w (.agg [iA 0,iA 0,iA 0,iA 0,iA 0,iA 0,iA 0,iA 0,iA 0]),.w (.c (nL l))]
    [(601,.row 193 52 g1 ((w.nodes.map aR).set n (aR { s with timers:=tl }))),(602,.row 3 1 g2 (bH w.next)),(603,.row 300 1 g3 (w.bC.map ot)),(604,.row 79 1 g4 (w.traces.map xK))]
    (fun x S'=>x=.bD [.agg (wX w' g1 g2 g3 g4),.agg (rX r)]/\∀p∈wT w' g1 g2 g3 g4,S' p.1=p.2):=by
   rw[<-List.map_set];exact hH
  refine qP Tryz.func120 ⟨0,[12,15],[(157,[601,602,603,604]),(158,[601,602,603,604]),(163,[601,602,603,604])],[(11,[12]),(32,[15])],cU,[],[]⟩ [(5,24,tk 0 22 (.fork 22 23 (.move 23 .nil) (.move 22 .nil)),[]),(10,15,tk 0 3 (tk 4 10 (.fork 3 14 (.move 14 .nil) (.move 3 .nil))),[12,15]),(40,18,tk 0 10 (.fork 10 15 (tk 11 4 (.move 15 (tk 16 1 (.move 17 .nil)))) (.move 10 (tk 11 4 (tk 16 1 (.move 17 .nil))))),[12,15,18]),(6,6,tk 0 3 (tk 4 1 (.move 3 (.move 5 .nil))),[12,15,601,602,603,604,6]),tm 12 8,tz 30 11,tz 36 10,tz 39 10,(45,5,tk 0 2 (tk 3 1 (.move 2 (.move 4 .nil))),[12,15,601,602,603,604,6])] [.cell 6 16,.cell 7 67] [3,4,6,7,8,9,10,11,12,13,15,16,17,18,20,24] [3,4,6,7,9,10,11,13,18,20,12,15] ?_;have FF:=eW @mU @a @hlt @ll
  try refine aF ?_
  refine dv (fun m V S=>∃(i g:Nat) (o:List Int),i<=s.timers.length/\m=s.timers.length-i/\o=(s.timers.take i).filter (fun t=>decide (t≠(tn:Int)))/\o.length<=i/\
   V=[(0,.w (.agg (wX w g1 g2 g3 g4))),(1,.w (.agg (gG e))),(2,.w (.c (nL l))),(3,.pb 3 1 0),(4,.pb 4 1 0),(6,.pb 6 1 0),(7,.pb 7 1 0),(8,.w (.c (iA n))),(9,.pb 9 1 0),(10,.u),(11,.u),(12,.u),(13,.u),(15,.w (.c (.own 15 g))),(16,.w (.c (iA i))),(17,.u),(18,.u),(20,.u),(24,.w (.c (iA 4)))]/\
   S=wT w g1 g2 g3 g4++[(3,.box 1 (wX w g1 g2 g3 g4)),(4,.box 1 (gG e)),(6,.box 1 [.sl [],.sl [],.sl [],.sl [],iA 0,iA 0,iA 0,iA 0,.sl [],.sl [],.sl [],.sl [],.sl [],.sl [],.sl [],iA 0]),(7,.box 1 (rX sj)),(9,.box 1 [iA 0,iA 0,iA 0,iA 0,iA 0,iA 0,iA 0,iA 0,iA 0]),(10,.dead 0),(11,.dead 0),(13,.dead 0),(18,.dead 0),(20,.dead 0),(12,.dead 0),(15,.row 3 1 g (bH o))]) (n:=s.timers.length) ⟨0,1,[],ab,ab,ai,ai,by simp[a];done,by rw[UB];rfl⟩ ?_
  rintro m V L S ⟨i,g,o,hi,rfl,ho,xu,rfl,rfl⟩;rw[UB];by_cases cY:i<s.timers.length
  ·have eN:i<=1000000000:=ab;have aAl:o.length<=100000000:=ab
   obtain⟨t,Mq⟩:∃t,s.timers[i]=t:=⟨_,rfl⟩
   have pM:s.timers.take (i+1)=s.timers.take i++[t]:=by rw[List.take_succ_eq_append_getElem cY,Mq]
   by_cases hne:t=(tn:Int)
   ·have FF:=kj @cY @Mq @hlt @ll @hne @Fm (bN eN)
    try refine aF ?_
    exact⟨s.timers.length-(i+1),ab,i+1,g,o,ab,rfl,by rw[pM,qk,<-ho];simp[hne],ab,rfl,rfl⟩
   ·have FF:=wF @cY @Mq @hlt @ll @hne @Fm @aAl (bN eN)
    try refine aF ?_
    exact⟨s.timers.length-(i+1),ab,i+1,g+1,o++[t],ab,rfl,by rw[pM,qk,<-ho];simp[hne],by simp;omega,rfl,by rw[show bH (o++[t])=bH o++[[iA t]] from de ..];rfl⟩
  ·obtain rfl:i=s.timers.length:=ab;rw[fK,kt] at ho;subst ho;have FF:=MS @cY @hlt @ll @Fm @nK @ajv @LV @hl @hw @hd @oM;refine bJ hH2 ?_;refine kE ?_;exact(by simp[ed])
 ·
  rw[af ab,af ab,af ab,af ab,af ab,af ab] at hx;obtain⟨r',e1,a1,a2,a3⟩:=YM hI (n:Int) (c.first.length:Int) l;rw[e1] at hx;simp only[bO,jE] at hx;obtain⟨w2,UD,rfl,rfl⟩:=hx;have hC:=aAf hI ab cQ e1;have h1:=a1.s.sH;have h2:=a1.s.aZ.sG;have h3:=a1.s.Az
  have hT:=akG _ w2 n g1 g2 g3 g4 UD (fun s2 ik=>by
   have:(w.nodes.set n r'.s)[n]? =some s2:=ik;rw[BD hlt] at this;cases this
   omega) (fun t ht=>by have:=h.CQ t (eE ht);omega)
  have fR:iB Tryz.prog 163 [.w (.agg (wX w g1 g2 g3 g4)),.w (.c (iA n))] [(601,.row 193 52 g1 ((w.nodes.map aR).set n (aR r'.s))),(602,.row 3 1 g2 (bH w.next)),(603,.row 300 1 g3 (w.bC.map ot)),(604,.row 79 1 g4 (w.traces.map xK))]
    (fun x S'=>x=.w (.agg (wX w2 g1 g2 g3 g4))/\∀p∈wT w2 g1 g2 g3 g4,S' p.1=p.2):=by
   rw[<-List.map_set];exact hT
  refine qP Tryz.func120 ⟨0,[12,15],[(157,[601,602,603,604]),(158,[601,602,603,604]),(163,[601,602,603,604])],[(11,[12]),(32,[15])],cU,[],[]⟩ [(5,24,tk 0 22 (.fork 22 23 (.move 23 .nil) (.move 22 .nil)),[]),(10,15,tk 0 3 (tk 4 10 (.fork 3 14 (.move 14 .nil) (.move 3 .nil))),[12,15]),(40,18,tk 0 10 (.fork 10 15 (tk 11 4 (.move 15 (tk 16 1 (.move 17 .nil)))) (.move 10 (tk 11 4 (tk 16 1 (.move 17 .nil))))),[12,15,18]),(6,6,tk 0 3 (tk 4 1 (.move 3 (.move 5 .nil))),[12,15,601,602,603,604,6]),tm 12 8,tz 30 11,tz 36 10,tz 39 10,(45,5,tk 0 2 (tk 3 1 (.move 2 (.move 4 .nil))),[12,15,601,602,603,604,6])] [.cell 6 16,.cell 7 67] [3,4,6,7,8,9,10,11,12,13,15,16,17,18,20,24] [3,4,6,7,9,10,11,13,18,20,12,15] ?_;have FF:=MS @mU @a @hlt @ll @hl @hw @hd @oM @iG @aje @aaO;refine gX hC fR ?_;refine kE ?_;exact(by simp[ed])
end Ab
end Go.Proofs.YtkanpepkdcmpmaaGreatDoor
