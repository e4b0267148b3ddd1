import Derived.Test.YtlnghiefahcnpaaGreatQ102
import Derived.Test.YtlnghiefahcnpaaGreatQ18
import Derived.Test.YtlnghiefahcnpaaGreatQ104
import Derived.Test.YtlnghiefahcnpaaGreatQ109
set_option maxHeartbeats 40000000
set_option maxRecDepth 100000
set_option linter.all false
namespace Go.Proofs.YtlnghiefahcnpaaGreat
namespace Ab
open Go Go.RowKit dL
attribute [local irreducible] aC bo aU
open aq (Rr aL gN kY mI sv lC ky qU OU jy eU eh wG IQ)
theorem aeD (s:aq.Node)(k:Nat):(aK s).take 6++ .sl (List.replicate k [iA 0])::(aK s).drop 7=aK { s with dO:=List.replicate k 0 }:=by
 unfold aK;simp
theorem aeE (s:aq.Node):(aK s).take 7++ .sl []::(aK s).drop 8=aK { s with timers:=[] }:=acV s []
theorem aeF (s:aq.Node)(v:Int):bA s.up::iA v::(aK s).drop 2=aK { s with version:=v }:=by
 unfold aK;rfl
theorem aqV {ps:List Prog}{dm kk:Nat}{s:aq.Node}(h:gN ps dm kk s){p:Prog}{version:Int}(hv:0<=version/\version<ps.length)(hp:ps[version.toNat]? =some p)(hs:mI p=true){self nodes drift:Int}(xe:aq.bp self=true)(ux:aq.bp nodes=true)(lA:0<=drift/\drift<=3)
  {l:List bf} (eQ:kk<=5000) (hl:l.length<=1000000) {r:Rr} (hr:sv s p version self nodes drift l=some r):
  bt Tryz.prog 61 [.agg (aK s),.agg (bW p),.c (iA version),.c (iA self),.c (iA nodes),.c (iA drift),.c (jU l)] (fun x=>x=.w (.agg (rX r))):=by
 have cR:=hs;unfold mI at cR;simp only[bN,dv] at cR;obtain⟨⟨⟨⟨⟨h1,h2⟩,h3⟩,h4⟩,h5⟩,h6⟩:=cR
 obtain⟨dn,iw⟩:∃dn:Nat,p.cC=dn:=⟨p.cC.toNat,aa⟩
 obtain⟨vn,uC⟩:∃vn:Nat,p.gG=vn:=⟨p.gG.toNat,aa⟩
 unfold sv at hr;rw[if_neg aa,iw,uC,iT,iT] at hr;have Kn:(vn:Int)<=1000000:=aa;have dc:=h.nT;have CH:=h.aS.nS
 obtain⟨d,hd,CI⟩:∃d,(if(s.aS.cells.length:Int)=dn then some s.aS else qU s.aS dn)=some d/\kY dn d:=by
  split
  ·rename_i he;refine⟨_,rfl,?_⟩;have:dn=s.aS.cells.length:=aa;rw[this];exact h.aS
  ·exact OU h.aS _
 rw[hd] at hr;dsimp only at hr
 have hI:gN ps dm kk { s with version:=version,aS:=d,dO:=List.replicate vn 0,timers:=[],waiting:= -1,up:=true }:=by
  have hl:=CI.len
  exact { h with
   version:=by show -1<=version/\version<_;omega
   aS:=by show kY d.cells.length d;rw[hl];exact CI
   nT:=by show d.cells.length<=16;omega
   dO:=fun x hx=>by rw[zl hx];decide
   uv:=by show(List.replicate vn (0:Int)).length<=16;simp;omega
   timers:=fun t ht=>by simp at ht
   qg:=by show([]:List Int).length<=8;simp
   waiting:=by show -1<=(-1:Int)/\(-1:Int)<dm;omega
   run:=fun _=>⟨hv.1,fun q hq=>by
    have:q=p:=by rw[show ps[version.toNat]? =some q from hq] at hp;injection hp
    subst this
    show(d.cells.length:Int)=_/\((List.replicate vn (0:Int)).length:Int)=_
    simp
    omega⟩ }
 have hH:=aeA (s:={ s with version:=version,aS:=d,dO:=List.replicate vn 0,timers:=[],waiting:= -1,up:=true }) hI hp hs rfl (handler:=0) aa xe ux lA (n0:=0) (n1:=0) (n2:=0) (n3:=0) (n4:=0) (n5:=0) (n6:=0) (n7:=0) (n8:=0) (fun x hx=>by
  simp only[eM,qz,qD] at hx
  rcases hx with rfl|rfl|rfl|rfl|rfl|rfl|rfl|rfl|rfl<;>decide) eQ hl hr
 refine bZ aG Tryz.func61 rfl aen [.cell 14 67] ah _ rfl [7,8,14] [7,8,14] ?_;refine bG aen ?_;dsimp only[V0,uV,S0];by_cases he:(s.aS.cells.length:Int)=dn
 ·rw[if_pos he] at hd;simp only[ar] at hd;subst hd;have FF:=dW @aeF @acX @iw @he
  repeat first|refine bb ?_|refine zrq ?_
  iterate 3 (refine aZ (by simp[uC,OM,OO,Kn];try rfl) ?_)
  have FF:=jl @aeD @aeE @OL @acW @fh @uB @FY
  repeat first|refine aN hH ?_|refine aO hH ?_|refine aP hH ?_|refine bb ?_|refine zrq ?_
  (try dsimp only[aM,aJ])
  exact bd (xs:=[.agg (rX r)]) (by simp[uB,FX,adS]) rfl
 ·rw[if_neg he] at hd;have PK:=aoj s.aS d dn hd aa aa aa;have FF:=fX @aeF @acX @iw @he @apB
  repeat first|refine aN PK ?_|refine aO PK ?_|refine aP PK ?_|refine bb ?_|refine zrq ?_
  iterate 3 (refine aZ (by simp[uC,OM,OO,Kn];try rfl) ?_)
  have FF:=jl @aeD @aeE @OL @acW @fh @uB @FY
  repeat first|refine aN hH ?_|refine aO hH ?_|refine aP hH ?_|refine bb ?_|refine zrq ?_
  (try dsimp only[aM,aJ])
  exact bd (xs:=[.agg (rX r)]) (by simp[uB,FX,adS]) rfl
theorem aqW {n:aq.Node}{ga:Nat}{rep:Bool}{val:Int}{c:aL}{o:List AC}{sn fl au:AC}{es:List (List AC)}(hs:inl sn=true)(hf:inl fl=true)(ho:o.all inl=true)(qc:inl au=true):(rC n (.own 403 ga) sn rep val fl c o au).map (je 403 ga es)=rC n (.sl es) sn rep val fl c o au:=by
 rw[dt,dt,dw,CS,dw,dw,pZ ho,pZ (cs:=[au]) (by simp[qc])];have h1:=pZ (s:=403) (g:=ga) (es:=es) (cs:=[sn]) (by simp[hs]);have h2:=pZ (s:=403) (g:=ga) (es:=es) (cs:=[fl]) (by simp[hf]);simp only[ey,vU,List.cons.injEq,and_true] at h1 h2
 have h0:je 403 ga es (.own 403 ga)=.sl es:=by simp[je]
 simp only[ey,vU,h0,h1,h2];rfl
theorem aqX {n:aq.Node}{s g ga:Nat}{rep:Bool}{val:Int}{c:aL}{o:List AC}{sn fl au:AC}{es:List (List AC)}(hsg:s≠403)(hs:inl sn=true)(hf:inl fl=true)(ho:o.all inl=true)(qc:inl au=true):(rC n (.own 403 ga) sn rep val fl c o au).map (je s g es)=rC n (.own 403 ga) sn rep val fl c o au:=by
 rw[dt,dw,CS,dw,dw,pZ ho,pZ (cs:=[au]) (by simp[qc])];have h1:=pZ (s:=s) (g:=g) (es:=es) (cs:=[sn]) (by simp[hs]);have h2:=pZ (s:=s) (g:=g) (es:=es) (cs:=[fl]) (by simp[hf]);simp only[ey,vU,List.cons.injEq,and_true] at h1 h2
 have h3:¬403=s:=fun e=>hsg e.symm
 have h0:je s g es (.own 403 ga)=.own 403 ga:=by simp[je,h3]
 simp only[ey,vU,h0,h1,h2];rfl
theorem aqY {ps:List Prog}{dm kk:Nat}{s:aq.Node}(h:gN ps dm kk s){self:Int}{l:List bf}(eQ:kk<=5000)(hl:l.length<=1000000){r:Rr}(hr:lC s self l=some r):
  bt Tryz.prog 67 [.agg (aK s),.c (iA self),.c (jU l)] (fun x=>x=.w (.agg (rX r))):=by
 have hlt:40<s.counts.length:=by rw[h.nc];omega
 have lR:=h.counts _ (cT hlt)
 have hce:s.counts[40]? =some s.counts[40]:=by simp[hlt]
 have ez:s.counts.getD 40 0=s.counts[40]:=by rw[eu,hce];rfl
 unfold lC at hr;rw[hce] at hr;generalize s.counts[40]=k at lR hce ez hr;dsimp only at hr;rw[bz] at hr;obtain⟨d,hd,rfl⟩:=hr;have hep:=h.dH;have dc:=h.nT;have pF:=h.uv;have CH:=h.aS.nS;have c40:=acZ s;rw[ez] at c40;have PF:=lO (a:=k) (b:=1) aa aa;have ep1:=lO (a:=s.dH) (b:=1) aa aa
 obtain⟨pn,fF⟩:∃pn,s.aS.pending.length=pn:=⟨_,rfl⟩
 rw[fF] at hd CH;have aqZ:=aoX s.aS d ((jy l ⟨self,40,k⟩ pn).map fun(a:Ask)=>decide (a.n=1)) hd aa aa
 have mR:bt Tryz.prog 112 [.agg (kT s.aS),.c (.sl ((jy l ⟨self,40,k⟩ pn).map fun(a:Ask)=>[bA (decide (a.n=1))]))] (fun x=>x=.w (.agg (kT d))):=by
  have:=aqZ;simp only[NQ,List.map_map,Function.comp_def] at this;exact this
 have Kn:(s.dO.length:Int)<=1000000:=aa;refine bZ aG Tryz.func67 rfl aeq [.cell 6 67] ah _ rfl [3,6,7,8,9,10,11] [3,6,7,10,8,403] ?_;refine bG aeq ?_;dsimp only[V0,uV,S0];have FF:=td @c40 @acI @abC @fh @pY @acN @acJ @acK
 repeat first|refine bb ?_|refine zrq ?_
 trace_state
 refine cF (fun m V S=>∃(i g g8:Nat) (x10 x11:AV) (s10:Slot) (z6:List AC),i<=pn/\m=pn-i/\
  V=[(0,.w (.agg (aK s))),(1,.w (.c (iA self))),(2,.w (.c (jU l))),(3,.pb 3 1 0),(6,.pb 6 1 0),(7,.pb 7 1 0),(8,.w (.c (.own 8 g8))),(9,.w (.c (iA i))),(10,x10),(11,x11)]/\
  S=[(3,.box 1 (aK s)),(6,.box 1 z6),(7,.box 1 (rC s (.own 403 g) (.sl []) false 0 (.sl []) ⟨self,40,k⟩ [.sl [],.sl [],iA 0,bA false,.sl [],.sl []] (.sl []))),(10,s10),(8,.row 4 1 g8 ((jy l ⟨self,40,k⟩ i).map fun(a:Ask)=>[bA (decide (a.n=1))])),(403,.row 100 7 g ((jy l ⟨self,40,k⟩ i).map Aq))]/\z6.length=67) (n:=pn) ⟨0,1,1,.u,.u,.dead 0,_,aa,aa,rfl,rfl,kZ⟩ ?_
 rintro m V L S ⟨i,g,g8,x10,x11,s10,z6,hi,rfl,rfl,rfl,hz⟩
 have kl:∀i,(jy l ⟨self,40,k⟩ i).length=i:=fun i=>by simp[jy]
 by_cases qJ:i<pn
 ·have dI:i<=1000000000:=aa;have js:=Oc l ⟨self,40,k,3,i⟩ 2 ai hl
  have iC:jy l ⟨self,40,k⟩ (i+1)=jy l ⟨self,40,k⟩ i++[eU ⟨self,40,k,3,i⟩ 2 (eh l ⟨self,40,k,3,i⟩ 2)]:=by
   unfold jy;rw[qA,dw];rfl
  have kr:=kl i;generalize jy l ⟨self,40,k⟩ i=ak at iC kr⊢;have PC:ak.length+1<=100000000:=aa;generalize eh l ⟨self,40,k,3,i⟩ 2=nn at iC js;have FF:=zj @qJ @fF @acY @PC (bL dI) @fh @pY @Au @JQ @OH
  repeat first|refine aN js ?_|refine aO js ?_|refine aP js ?_|refine bb ?_|refine zrq ?_
  exact⟨pn-(i+1),aa,i+1,g+1,g8+1,_,_,_,z6,aa,aa,rfl,by rw[iC,dw,dw];rfl,hz⟩
 obtain rfl:i=pn:=aa
 have PD:∀(ak sn fl au:AC) (oo:List AC),((rC { s with aS:=d } ak sn false 0 fl ⟨self,40,k⟩ oo au).drop 48).take 1=[iA k]:=fun ak sn fl au oo=>by
  rw[apG]
  show [iA (s.counts.getD 40 0)]=[iA k]
  rw[ez]
 have PE:∀(ak sn fl au:AC) (oo:List AC),(rC { s with aS:=d } ak sn false 0 fl ⟨self,40,k⟩ oo au).take 48++iA (k+1)::(rC { s with aS:=d } ak sn false 0 fl ⟨self,40,k⟩ oo au).drop 49=rC { s with aS:=d,counts:=s.counts.set 40 (k+1) } ak sn false 0 fl ⟨self,40,k⟩ oo au:=fun ak sn fl au oo=>apH _ _ _ _ _ _ _ _ _ (k+1) hlt
 have hvR:∀(s:aq.Node) (m:Nat) (ak sn fl au:AC) (c:aL) (oo:List AC),(rC s ak sn false 0 fl c oo au).take 6++ .sl (List.replicate m [iA 0])::(rC s ak sn false 0 fl c oo au).drop 7=rC { s with dO:=List.replicate m 0 } ak sn false 0 fl c oo au:=fun s m ak sn fl au c oo=>by
  unfold rC;simp
 have PJ:∀f:AC->AC,(z6.map f).drop 67=[]:=fun f=>oZ (by rw[List.length_map];omega)
 have ara:∀(es CJ:List (List AC)),(rC s (.own 403 g) (.sl []) false 0 (.sl []) ⟨self,40,k⟩ [.sl [],.sl [],iA 0,bA false,.sl [],.sl []] (.sl [])).map (je 403 g es∘je 8 g8 CJ)=rC s (.sl es) (.sl []) false 0 (.sl []) ⟨self,40,k⟩ [.sl [],.sl [],iA 0,bA false,.sl [],.sl []] (.sl []):=fun es CJ=>by
  rw[<-List.map_map,aqX ai ae ae ae ae,aqW ae ae ae ae]
 have FF:=KY @qJ @fF @acY @fh @pY @ara @CS @OA @PD @PE @PF @ada @apF @ep1
 repeat first|refine aN mR ?_|refine aO mR ?_|refine aP mR ?_|refine bb ?_|refine zrq ?_
 (refine aZ (by simp[OM,OO,Kn];try rfl) ?_)
 have hT0:∀(s:aq.Node) (ak sn fl au:AC) (c:aL) (oo:List AC),(rC s ak sn false 0 fl c oo au).take 7++ .sl []::(rC s ak sn false 0 fl c oo au).drop 8=rC { s with timers:=[] } ak sn false 0 fl c oo au:=fun s ak sn fl au c oo=>OB s ak sn false 0 fl c oo au []
 have FF:=td @fh @pY @hvR @hT0 @acH @apC @hz @PJ
 repeat first|refine bb ?_|refine zrq ?_
 (try dsimp only[aM,aJ])
 have Km:∀(st:St) (n:aq.Node) (l:List (List AC)),st.gK (rC n (.sl l) (.sl []) false 0 (.sl []) ⟨self,40,k⟩ [.sl [],.sl [],iA 0,bA false,.sl [],.sl []] (.sl []))=some (rC n (.sl l) (.sl []) false 0 (.sl []) ⟨self,40,k⟩ [.sl [],.sl [],iA 0,bA false,.sl [],.sl []] (.sl [])):=fun st n l=>acR ae ae ae ae ae
 refine bd (xs:=[.agg (rC { s with up:=false,dH:=s.dH+1,aS:=d,dO:=List.replicate s.dO.length 0,timers:=[],counts:=s.counts.set 40 (k+1),waiting:= -1 } (asks (jy l ⟨self,40,k⟩ i)) (.sl []) false 0 (.sl []) ⟨self,40,k⟩ [.sl [],.sl [],iA 0,bA false,.sl [],.sl []] (.sl []))]) (by simp[fh,pY,Km]) ?_
 show AV.w _=AV.w (.agg (rX _))
 simp only[fF];rfl
end Ab
namespace Ab
open Go Go.RowKit
attribute [local irreducible] aC bo aU
open aq (bR mo Ob lE aE Env aL Rr fy du oT FN nC qX)
theorem aeK (st:St)(D:List Nat)(r:Rr):st.gY D (rX r)=some (rX r):=De (Kj r)
theorem aeL {c:bR}{k j:Nat}(hk:k<=1000)(hj:j<=1000){w:aE}(h:du c k j w){n:Nat}{N:Int}{cs:aL}{qh:Int}{r:Rr}(hr:oT c.cQ c.dg.length (k+1) N cs qh r)(hs:r.sent.length<=500)(hf:r.br.length<=500):adV w n r:=by
 refine⟨by have:=h.qj;omega,by have:=h.oQ;have:=hr.oQ;omega,fun f hf2=> ?_,fun t ht=> ?_,by have:=h.oU;omega,?_⟩
 ·have:=h.FO f (dJ hf2);omega
 ·have:=h.xg t (dJ ht);omega
 ·have h1:=hr.s.nT;have h2:=hr.s.aS.nS;have h3:=hr.s.uv;omega
theorem PM {c:bR}(hc:fy c){k j:Nat}(hk:k<=1000)(hj:j<=1000){w:aE}(h:du c k j w){n:Nat}{s:aq.Node}(hs:w.nodes[n]? =some s)(ej:s.up=true){handler:Nat}(hh:handler<40)
  {n0 n1 n2 n3 n4 n5 n6 n7 n8:Int} (bg:∀x∈[n0,n1,n2,n3,n4,n5,n6,n7,n8],aq.bp x=true) {l:List bf} (ba:l.length<=1000000) {w':aE} {r:Rr} (hx:nC w n handler [n0,n1,n2,n3,n4,n5,n6,n7,n8] l=some (w',r)) (g1 g2 g3 g4:Nat):
  fQ Tryz.prog 63 [.w (.agg (wX w g1 g2 g3 g4)),.w (.c (iA n)),.w (.c (iA handler)),.w (.agg [iA n0,iA n1,iA n2,iA n3,iA n4,iA n5,iA n6,iA n7,iA n8]),.w (.c (jU l))] (wT w g1 g2 g3 g4)
  (fun x S'=>x=.bQ [.agg (wX w' g1 g2 g3 g4),.agg (rX r)]/\∀p∈wT w' g1 g2 g3 g4,S' p.1=p.2):=by
 obtain⟨hlt,iC⟩:=bk.1 hs
 have hn:n<c.first.length:=by rw[<-h.nodes];exact hlt
 have hI:=h.node s (dJ hs);have hr:=hI.run ej;have hv:=hI.version;have h12:=hc.xf;have tE:=h.nodes
 obtain⟨vn,uC⟩:∃vn:Nat,s.version=vn:=⟨s.version.toNat,aa⟩
 have fF:vn<c.cQ.length:=aa
 have hp:c.cQ[vn]? =some c.cQ[vn]:=by simp[fF]
 have qk:=hc.safe _ (cT fF)
 obtain⟨p,sM⟩:∃p,c.cQ[vn]=p:=⟨_,rfl⟩
 rw[sM] at hp qk;have lT:=h.cfg;unfold nC at hx;rw[hs] at hx;simp only at hx;rw[if_neg aa,lT,uC,iT,hp,iT] at hx;simp only at hx
 have Gi:c.cQ[s.version.toNat]? =some p:=by rw[uC,iT];exact hp
 obtain⟨r',e,a1,a2,a3⟩:=FN hI Gi qk ej (handler:=handler) hh (self:=n) (nodes:=w.nodes.length) (drift:=c.drift) (names:=[n0,n1,n2,n3,n4,n5,n6,n7,n8]) (aq.rz aa) (aq.rz aa) hc.drift rfl bg l aa;rw[e] at hx;simp only at hx;simp only[bz,gR] at hx;obtain⟨w2,nN,rfl,rfl⟩:=hx;have hH:=aeA hI Gi qk ej hh (aq.rz aa) (aq.rz aa) hc.drift bg aa ba e;have hF:=adW w w2 n r' s.waiting g1 g2 g3 g4 nN (aeL hk hj h a1 a2 a3);have hl:=uB r';have hw:=FX r';have hd:=FY r'
 have fz:=fun(st:St) (D:List Nat)=>aeK st D r'
 have kQ:=fun(D:List Nat)=>Pt D r'
 have PN:vn<w.c.cQ.length:=by rw[lT];exact fF
 have PO:w.c.cQ[vn]=p:=by simp only[lT];exact sM
 have PQ:w.c.drift=c.drift:=by rw[lT]
 refine lQ aG Tryz.func63 rfl ZF [.cell 10 16,.cell 11 67] ah _ rfl _ [5,8,10,11,12,13] [5,8,10,11,12,13] ?_;refine bG ZF ?_;dsimp only[VM,uV,S0,List.cons_append,List.nil_append,List.map];have FF:=td @hlt @iC @abA @uC @PN @PO @PQ @OK
 repeat first|refine aN hH ?_|refine aO hH ?_|refine jS hF ?_|refine jT hF ?_|refine aP hH ?_|refine nM rfl hF ?_|refine bb ?_|refine zrq ?_
 have FF:=dW @hl @hw @hd @kQ;apply yS
 ·(repeat' first|refine aN hH ?_|refine aO hH ?_|refine jS hF ?_|refine jT hF ?_|refine ug ?_|refine uh ?_|refine ui ?_|refine bq ?_|refine sK ?_ ?_|refine yK ?_ ?_ ?_|refine uj ?_|refine aP hH ?_|refine nM rfl hF ?_|refine uk ?_|refine um ?_|refine uo ?_|refine bb ?_|fail)<;>exact⟨rfl,rfl⟩
 intro L;have FF:=fX @hl @hw @hd @kQ @abB
 repeat first|refine aN hH ?_|refine aO hH ?_|refine jS hF ?_|refine jT hF ?_|refine aP hH ?_|refine nM rfl hF ?_|refine bb ?_|refine zrq ?_
 (try dsimp only[aM,aJ])
 refine gZ (by first|(simp;done)|(simp[hl,hw,fz];try rfl)|(simp;try rfl)) ae ?_;exact(by simp[cZ])
end Ab
namespace Ab
open Go Go.RowKit
attribute [local irreducible] aC bo aU
open aq (bR mo Ob lE aE Env aL Rr fy du gN oT FN nC qX oH enabled FQ nU Ka OW OX kN jz lD fH FT Ph Pj JY nB)
theorem arb (l:List Env)(m:bm)(c:Int)(hl:l.length<=1000000):∃(y:bm) (z:Int),bt Tryz.prog 66 [.c (gM l),.agg (oP m),.c (iA c)] (fun x=>x=.bQ [.c (gM (lD l m c)),.agg (oP y),.c (iA z)]):=by
 cases hf:kN l m with
 |none=>
  refine⟨⟨0,0,0,0,0⟩,3,?_⟩;refine bZ aG Tryz.func66 rfl CO [.t 6,.cell 7 5,.t 8] ah _ rfl [4,6,7,8,9,10] [4,7,9] ?_;refine bG CO ?_;dsimp only[V0,uV,S0];have FF:=@hf
  repeat first|refine aN (ur l m hl) ?_|refine aO (ur l m hl) ?_|refine aP (ur l m hl) ?_|refine bb ?_|refine zrq ?_
  (try dsimp only[aM,aJ])
  exact bd (by simp;try rfl) (by unfold lD;rw[hf];rfl)
 |some e=>
  obtain⟨⟨e1,e2,e3,e4,e5⟩,e6,e7,e8,e9⟩:=e
  rcases Ox l ⟨e1,e2,e3,e4,c⟩ with⟨h1,h2⟩|⟨k,hk,h1,h2,h3⟩
  ·refine⟨⟨e1,e2,e3,e4,c⟩,0,?_⟩;refine bZ aG Tryz.func66 rfl CO [.t 6,.cell 7 5,.t 8] ah _ rfl [4,6,7,8,9,10] [4,7,9] ?_;refine bG CO ?_;dsimp only[V0,uV,S0];have FF:=jk @hf @h1
   repeat first|refine aN (ur l m hl) ?_|refine aN (kV l ⟨e1,e2,e3,e4,c⟩ hl) ?_|refine aN (ru l ⟨⟨e1,e2,e3,e4,c⟩,e6,e7,e8,e9⟩ hl) ?_|refine aO (ur l m hl) ?_|refine aO (kV l ⟨e1,e2,e3,e4,c⟩ hl) ?_|refine aO (ru l ⟨⟨e1,e2,e3,e4,c⟩,e6,e7,e8,e9⟩ hl) ?_|refine aP (ur l m hl) ?_|refine aP (kV l ⟨e1,e2,e3,e4,c⟩ hl) ?_|refine aP (ru l ⟨⟨e1,e2,e3,e4,c⟩,e6,e7,e8,e9⟩ hl) ?_|refine bb ?_|refine zrq ?_
   (try dsimp only[aM,aJ])
   exact bd (by simp;try rfl) (by unfold lD aq.gH;rw[hf];dsimp only;rw[h2];rfl)
  ·refine⟨⟨0,0,0,0,0⟩,4,?_⟩;refine bZ aG Tryz.func66 rfl CO [.t 6,.cell 7 5,.t 8] ah _ rfl [4,6,7,8,9,10] [4,7,9] ?_;refine bG CO ?_;dsimp only[V0,uV,S0];have FF:=jk @hf @h1
   repeat first|refine aN (ur l m hl) ?_|refine aN (kV l ⟨e1,e2,e3,e4,c⟩ hl) ?_|refine aN (ru l ⟨⟨e1,e2,e3,e4,c⟩,e6,e7,e8,e9⟩ hl) ?_|refine aO (ur l m hl) ?_|refine aO (kV l ⟨e1,e2,e3,e4,c⟩ hl) ?_|refine aO (ru l ⟨⟨e1,e2,e3,e4,c⟩,e6,e7,e8,e9⟩ hl) ?_|refine aP (ur l m hl) ?_|refine aP (kV l ⟨e1,e2,e3,e4,c⟩ hl) ?_|refine aP (ru l ⟨⟨e1,e2,e3,e4,c⟩,e6,e7,e8,e9⟩ hl) ?_|refine bb ?_|refine zrq ?_
   (try dsimp only[aM,aJ])
   exact bd (by simp;try rfl) (by unfold lD aq.gH;rw[hf];dsimp only;rw[h2];rfl)
theorem Ko:rX nB=[bA false,iA 0,iA 0,iA 0,.sl [],.sl [],.sl [],.sl []]++List.replicate 44 (iA 0)++[.sl [],.sl [],bA false,iA 0,.sl [],iA 0,iA 0,iA 0,.sl [],.sl [],iA 0,bA false,.sl [],.sl [],.sl []]:=by
 unfold rX rC;rfl
theorem arc {c:bR}(hc:fy c){k j:Nat}(hk:k<=900)(hj:j<=900){w:aE}(h:du c k j w){e:Ev}(he:e∈enabled w){l:List bf}(ba:l.length<=1000000){w':aE}{r:Rr}(hx:oH w e l=some (w',r))(g1 g2 g3 g4:Nat):
  fQ Tryz.prog 36 [.w (.agg (wX w g1 g2 g3 g4)),.w (.agg (dp e)),.w (.c (jU l))] (wT w g1 g2 g3 g4)
  (fun x S'=>x=.bQ [.agg (wX w' g1 g2 g3 g4),.agg (rX r)]/\∀p∈wT w' g1 g2 g3 g4,S' p.1=p.2):=by
 obtain⟨n,s,hs,Az⟩:=FQ he;obtain⟨hlt,iC⟩:=bk.1 hs
 have hn:n<c.first.length:=by rw[<-h.nodes];exact hlt
 have hI:=h.node s (dJ hs);have h12:=hc.xf;have tE:=h.nodes;have lT:=h.cfg;obtain⟨jh,Ek⟩:=Az;unfold oH at hx;rw[jh,if_neg aa] at hx;simp only[iT,hs] at hx;have hl:=uB r;have hw:=FX r;have hd:=FY r
 have fz:=fun(st:St) (D:List Nat)=>aeK st D r
 have kQ:=fun(D:List Nat)=>Pt D r
 have dM:w.aX.length<=1000000:=by have:=h.qj;omega
 have mh:w.ax.length<=100000000:=by have:=h.oU;omega
 have PR:w.ax.length+1<=100000000:=by have:=h.oU;omega
 have PQ:w.c.drift=c.drift:=by rw[lT]
 rcases Ek with⟨a,b,d,m⟩|⟨a,b,d,f,g,m⟩|⟨a,b,d⟩|⟨a,b,d,m⟩|⟨a,b,d,f,m⟩
 ·
  have hv:=Ka hc h hs d
  obtain⟨vn,uC⟩:∃vn:Nat,e.arg=vn:=⟨e.arg.toNat,aa⟩
  have fF:vn<c.cQ.length:=aa
  have hp:c.cQ[vn]? =some c.cQ[vn]:=by simp[fF]
  have qk:=hc.safe _ (cT fF)
  obtain⟨p,sM⟩:∃p,c.cQ[vn]=p:=⟨_,rfl⟩
  rw[sM] at hp qk;rw[if_pos a,if_neg aa,lT,uC,iT,hp] at hx;simp only at hx;obtain⟨r',e1,a1,a2,a3⟩:=OW hI (version:=vn) aa (by rw[iT];exact hp) qk (self:=n) (nodes:=w.nodes.length) (drift:=c.drift) (aq.rz aa) (aq.rz aa) hc.drift l aa;rw[e1] at hx;simp only[bz,gR] at hx;obtain⟨w2,nN,rfl,rfl⟩:=hx;have hS:=aqV hI (version:=vn) aa (by rw[iT];exact hp) qk (aq.rz aa) (aq.rz aa) hc.drift aa ba e1;have hF:=adW w w2 n r' (-1) g1 g2 g3 g4 nN (aeL aa aa h a1 a2 a3)
  have PN:vn<w.c.cQ.length:=by rw[lT];exact fF
  have PO:w.c.cQ[vn]=p:=by simp only[lT];exact sM
  refine lQ aG Tryz.func36 rfl oV [.cell 6 16,.cell 7 67] ah _ rfl _ [3,4,6,7,8,9,10,11,12,13,15,16,17,18,20,24] [3,4,6,7,9,10,11,13,18,20,12,15] ?_;refine bG oV ?_;dsimp only[VM,uV,S0,List.cons_append,List.nil_append,List.map];have FF:=td @jh @a @uC @hlt @iC @PN @PO @PQ
  repeat first|refine aN hS ?_|refine aO hS ?_|refine jS hF ?_|refine jT hF ?_|refine aP hS ?_|refine nM rfl hF ?_|refine bb ?_|refine zrq ?_
  have FF:=jl @jh @a @uC @hl @hw @hd @kQ;apply yS
  ·(repeat' first|refine aN hS ?_|refine aO hS ?_|refine jS hF ?_|refine jT hF ?_|refine ug ?_|refine uh ?_|refine ui ?_|refine bq ?_|refine sK ?_ ?_|refine yK ?_ ?_ ?_|refine uj ?_|refine aP hS ?_|refine nM rfl hF ?_|refine uk ?_|refine um ?_|refine uo ?_|refine bb ?_|fail)<;>exact⟨rfl,rfl⟩
  intro L;have FF:=jl @jh @a @uC @hl @hw @hd @kQ
  repeat first|refine aN hS ?_|refine aO hS ?_|refine jS hF ?_|refine jT hF ?_|refine aP hS ?_|refine nM rfl hF ?_|refine bb ?_|refine zrq ?_
  (try dsimp only[aM,aJ])
  refine gZ (by first|(simp;done)|(simp[hl,hw,fz];try rfl)|(simp;try rfl)) ae ?_;exact(by simp[cZ])
 ·
  have Kq:n<w.next.length:=by rw[h.next];exact hn
  rw[eu,List.getElem?_eq_getElem Kq,Bo] at g;have PS:=h.mi _ (cT Kq);rw[<-g] at PS;have aqj:=hc.dm
  obtain⟨an,qM⟩:∃an:Nat,e.arg=an:=⟨e.arg.toNat,aa⟩
  have eY:an<c.dg.length:=aa
  have aeM:an<w.c.dg.length:=by rw[lT];exact eY
  have xh:=hc.jX _ (cT eY)
  obtain⟨q,mQ⟩:∃q,c.dg[an]=q:=⟨_,rfl⟩
  rw[mQ] at xh
  have CK:w.c.dg[an]=q:=by simp only[lT];exact mQ
  have PT:w.c.dg[an]? =some q:=by rw[List.getElem?_eq_getElem aeM,CK]
  rw[if_neg aa,if_pos a,if_neg aa,qM,iT,PT] at hx;simp only at hx;rw[if_pos Kq] at hx
  have h1:du c k (j+1) { w with ax:=w.ax++[(⟨false,an,n,s.dH,0⟩:Ob)],next:=w.next.set n (aq.after w.c n an) }:=
   { h with
    next:=by show(w.next.set n _).length=_;simp[h.next]
    mi:=fun x hx=>by
     rcases aq.mem_set hx with hx|rfl
     ·exact h.mi x hx
     ·rw[lT];exact JY _ _ _
    oU:=by have:=h.oU;show(w.ax++[_]).length<=_;simp;exact this }
  have sQ:gN c.cQ c.dg.length k { s with waiting:=an }:={ hI with waiting:=by show -1<=(an:Int)/\(an:Int)<_;omega }
  have h2:=h1.setNode n sQ
  have hH:=PM hc aa aa h2 (n:=n) (s:={ s with waiting:=an }) (by show(w.nodes.set n _)[n]? =_;simp[hlt]) b (handler:=1) aa (n0:=0) (n1:=0) (n2:=0) (n3:=0) (n4:=q.arg) (n5:=0) (n6:=an) (n7:=q.op) (n8:=q.key) (fun x hx=>by
   simp only[eM,qz,qD] at hx
   rcases hx with rfl|rfl|rfl|rfl|rfl|rfl|rfl|rfl|rfl
   any_goals decide
   ·exact xh.2.2
   ·rw[aq.qd];omega
   ·exact xh.1
   ·exact xh.2.1) ba hx g1 g2 g3 g4
  have AD:fQ Tryz.prog 63 [.w (.agg (wO w.c (gM w.aX) (.sl (w.ax.map Fv++[[bA false,iA an,iA n,iA s.dH,iA 0]])) (sP w.covered) w.steps g1 g2 g3 g4)),.w (.c (iA n)),.w (.c (iA 1)),.w (.agg [iA 0,iA 0,iA 0,iA 0,iA q.arg,iA 0,iA an,iA q.op,iA q.key]),.w (.c (jU l))]
    [(601,.row 92 52 g1 ((w.nodes.map aK).set n (aK { s with waiting:=an }))),(602,.row 3 1 g2 ((bB w.next).set n [iA (aq.after w.c n an)])),(603,.row 202 1 g3 (w.br.map kC)),(604,.row 210 1 g4 (w.traces.map ry))]
    (fun x S'=>x=.bQ [.agg (wX w' g1 g2 g3 g4),.agg (rX r)]/\∀p∈wT w' g1 g2 g3 g4,S' p.1=p.2):=by
   rw[<-List.map_set,show(bB w.next).set n [iA (aq.after w.c n an)]=bB (w.next.set n (aq.after w.c n an)) from(List.map_set ..).symm,show AC.sl (w.ax.map Fv++[[bA false,iA an,iA n,iA s.dH,iA 0]])=ax (w.ax++[(⟨false,an,n,s.dH,0⟩:Ob)]) by show _=AC.sl (List.map _ _);rw[dw];rfl];exact hH
  have PU:=Ki w.c n an aa (by rw[lT];omega);refine lQ aG Tryz.func36 rfl oV [.cell 6 16,.cell 7 67] ah _ rfl _ [3,4,6,7,8,9,10,11,12,13,15,16,17,18,20,24] [3,4,6,7,9,10,11,13,18,20,12,15] ?_;refine bG oV ?_;dsimp only[VM,uV,S0,List.cons_append,List.nil_append,List.map];have FF:=GY @jh @a @qM @aeM @CK @hlt @iC @mh @PR
  repeat first|refine bb ?_|refine zrq ?_
  have FF:=jl @jh @a @qM @hlt @iC @mh @PR;apply yS
  ·(repeat' first|refine ug ?_|refine uh ?_|refine ui ?_|refine bq ?_|refine sK ?_ ?_|refine yK ?_ ?_ ?_|refine uj ?_|refine uk ?_|refine um ?_|refine uo ?_|refine bb ?_|fail)<;>exact⟨rfl,rfl⟩
  intro L;have FF:=KY @jh @a @qM @hlt @iC @mh @PR @Kq @OL @CS @hl @hw @hd @kQ
  repeat first|refine aN PU ?_|refine aO PU ?_|refine jS AD ?_|refine jT AD ?_|refine aP PU ?_|refine nM rfl AD ?_|refine bb ?_|refine zrq ?_
  (try dsimp only[aM,aJ])
  refine gZ (by first|(simp;done)|(simp[hl,hw,fz];try rfl)|(simp;try rfl)) ae ?_;exact(by simp[cZ])
 ·
  obtain⟨x,hf,hxm,hm⟩:=Pj d;have sR:=h.aX x hxm;have yX:=ur w.aX e.msg dM;rw[hf] at yX;have Di:=aoV w.aX e.msg dM;have lA:=hI.dropped;have hdb:=hI.cI
  rcases a with⟨a,hu⟩|a|a
  ·rw[if_neg aa,if_neg aa,if_pos a,hf] at hx;simp only at hx
   obtain⟨kn,CM⟩:∃kn:Nat,x.kind=kn:=⟨x.kind.toNat,by have:=sR.2.2.1;omega⟩
   have axz:=sR.2.2.1;rw[CM,show(10:Int)+(kn:Int)=((10+kn:Nat):Int) by omega] at hx
   have sg:aY .add (.int .i64 10) (.int .i64 (kn:Int))=some (.int .i64 ((10+kn:Nat):Int)):=by rw[lO aa aa];congr 2
   have ard:∀e'∈jz w.aX e.msg,aq.JX c.first.length k e':=fun e' AA=>h.aX e' (FT AA)
   have h1:du c k j { w with aX:=jz w.aX e.msg }:={ h with aX:=ard,qj:=by have:=Ph w.aX e.msg;have:=h.qj;show(jz w.aX e.msg).length<=_;omega }
   have hH:=PM hc aa aa h1 (n:=n) (s:=s) hs hu (handler:=10+kn) aa (n0:=0) (n1:=0) (n2:=0) (n3:=x.msg.node) (n4:=x.a) (n5:=x.b) (n6:=0) (n7:=0) (n8:=0) (fun y hy=>by
    simp only[eM,qz,qD] at hy
    rcases hy with rfl|rfl|rfl|rfl|rfl|rfl|rfl|rfl|rfl
    any_goals decide
    ·rw[aq.qd];have:=sR.1.1;omega
    ·exact sR.2.2.2.1
    ·exact sR.2.2.2.2) ba hx g1 g2 g3 g4
   refine lQ aG Tryz.func36 rfl oV [.cell 6 16,.cell 7 67] ah _ rfl _ [3,4,6,7,8,9,10,11,12,13,15,16,17,18,20,24] [3,4,6,7,9,10,11,13,18,20,12,15] ?_;refine bG oV ?_;dsimp only[VM,uV,S0,List.cons_append,List.nil_append,List.map];have FF:=td @jh @a @CM @hl @hw @hd @kQ @sg
   repeat first|refine aN yX ?_|refine aN Di ?_|refine aO yX ?_|refine aO Di ?_|refine jS hH ?_|refine jT hH ?_|refine aP yX ?_|refine aP Di ?_|refine nM rfl hH ?_|refine bb ?_|refine zrq ?_
   (try dsimp only[aM,aJ])
   refine gZ (by first|(simp;done)|(simp[hl,hw,fz];try rfl)|(simp;try rfl)) ae ?_;exact(by simp[cZ])
  ·rw[if_neg aa,if_neg aa,if_neg aa,if_neg aa,if_pos a] at hx;simp only[ar,gR] at hx;obtain⟨rfl,rfl⟩:=hx;have ck:=lO (a:=s.dropped) (b:=1) aa aa;refine lQ aG Tryz.func36 rfl oV [.cell 6 16,.cell 7 67] ah _ rfl _ [3,4,6,7,8,9,10,11,12,13,15,16,17,18,20,24] [3,4,6,7,9,10,11,13,18,20,12,15] ?_;refine bG oV ?_;dsimp only[VM,uV,S0,List.cons_append,List.nil_append,List.map];have FF:=eL @jh @a @hlt @iC @ck @apz
   repeat first|refine aN Di ?_|refine aO Di ?_|refine aP Di ?_|refine bb ?_|refine zrq ?_
   (try dsimp only[aM,aJ])
   refine gZ (by first|(simp;done)|(simp[hl,hw,fz];try rfl)|(simp;try rfl)) ae ?_;exact(by simp[cZ,List.map_set,Ko,aq.aE.setNode])
  ·rw[if_neg aa,if_neg aa,if_neg aa,if_neg aa,if_neg aa,if_pos a] at hx;simp only[ar,gR] at hx;obtain⟨rfl,rfl⟩:=hx;have ck:=lO (a:=s.cI) (b:=1) aa aa;obtain⟨y,z,CZ⟩:=arb w.aX e.msg (s.cI+1) dM;refine lQ aG Tryz.func36 rfl oV [.cell 6 16,.cell 7 67] ah _ rfl _ [3,4,6,7,8,9,10,11,12,13,15,16,17,18,20,24] [3,4,6,7,9,10,11,13,18,20,12,15] ?_;refine bG oV ?_;dsimp only[VM,uV,S0,List.cons_append,List.nil_append,List.map];have FF:=eL @jh @a @hlt @iC @ck @apA
   repeat first|refine bb ?_|refine zrq ?_
   have FF:=eL @jh @a @hlt @iC @ck @aow;apply yS
   ·(repeat' first|refine aN CZ ?_|refine aO CZ ?_|refine ug ?_|refine uh ?_|refine ui ?_|refine bq ?_|refine sK ?_ ?_|refine yK ?_ ?_ ?_|refine uj ?_|refine aP CZ ?_|refine uk ?_|refine um ?_|refine uo ?_|refine bb ?_|fail)<;>exact⟨rfl,rfl⟩
   intro L;have FF:=fX @jh @a @hlt @iC @ck
   repeat first|refine bb ?_|refine zrq ?_
   (try dsimp only[aM,aJ])
   refine gZ (by first|(simp;done)|(simp[hl,hw,fz];try rfl)|(simp;try rfl)) ae ?_;exact(by simp[cZ,List.map_set,Ko,aq.aE.setNode])
 ·
  have ht:=hI.timers _ d;have uz:=hI.qg;rw[if_neg aa,if_neg aa,if_neg aa,if_pos a] at hx
  obtain⟨tn,Dc⟩:∃tn:Nat,e.arg=tn:=⟨e.arg.toNat,aa⟩
  rw[Dc,show(2:Int)+(tn:Int)=((2+tn:Nat):Int) by omega] at hx
  have sg:aY .add (.int .i64 2) (.int .i64 (tn:Int))=some (.int .i64 ((2+tn:Nat):Int)):=by rw[lO aa aa];congr 2
  obtain⟨tl,kt⟩:∃tl,s.timers.filter (fun t=>decide (t≠(tn:Int)))=tl:=⟨_,rfl⟩
  rw[kt] at hx
  have sQ:gN c.cQ c.dg.length k { s with timers:=tl }:={ hI with timers:=fun t ht=>hI.timers t (jG.1 (kt▸ht)).1,qg:=by rw[<-kt];exact Nat.le_trans (List.length_filter_le _ _) hI.qg }
  have hH:=PM hc aa aa (h.setNode n sQ) (n:=n) (s:={ s with timers:=tl }) (by show(w.nodes.set n _)[n]? =_;simp[hlt]) b (handler:=2+tn) aa (n0:=0) (n1:=0) (n2:=0) (n3:=0) (n4:=0) (n5:=0) (n6:=0) (n7:=0) (n8:=0) (fun y hy=>by
   simp only[eM,qz,qD] at hy
   rcases hy with rfl|rfl|rfl|rfl|rfl|rfl|rfl|rfl|rfl<;>decide) ba hx g1 g2 g3 g4
  have AD:fQ Tryz.prog 63 [.w (.agg (wX w g1 g2 g3 g4)),.w (.c (iA n)),.w (.c (iA ((2+tn:Nat):Int))),.w (.agg [iA 0,iA 0,iA 0,iA 0,iA 0,iA 0,iA 0,iA 0,iA 0]),.w (.c (jU l))]
    [(601,.row 92 52 g1 ((w.nodes.map aK).set n (aK { s with timers:=tl }))),(602,.row 3 1 g2 (bB w.next)),(603,.row 202 1 g3 (w.br.map kC)),(604,.row 210 1 g4 (w.traces.map ry))]
    (fun x S'=>x=.bQ [.agg (wX w' g1 g2 g3 g4),.agg (rX r)]/\∀p∈wT w' g1 g2 g3 g4,S' p.1=p.2):=by
   rw[<-List.map_set];exact hH
  refine lQ aG Tryz.func36 rfl oV [.cell 6 16,.cell 7 67] ah _ rfl _ [3,4,6,7,8,9,10,11,12,13,15,16,17,18,20,24] [3,4,6,7,9,10,11,13,18,20,12,15] ?_;refine bG oV ?_;dsimp only[VM,uV,S0,List.cons_append,List.nil_append,List.map];have FF:=dW @jh @a @hlt @iC
  repeat first|refine bb ?_|refine zrq ?_
  refine cF (fun m V S=>∃(i g:Nat) (o:List Int),i<=s.timers.length/\m=s.timers.length-i/\o=(s.timers.take i).filter (fun t=>decide (t≠(tn:Int)))/\o.length<=i/\
   V=[(0,.w (.agg (wX w g1 g2 g3 g4))),(1,.w (.agg (dp e))),(2,.w (.c (jU l))),(3,.pb 3 1 0),(4,.pb 4 1 0),(6,.pb 6 1 0),(7,.pb 7 1 0),(8,.w (.c (iA n))),(9,.pb 9 1 0),(10,.u),(11,.u),(12,.u),(13,.u),(15,.w (.c (.own 15 g))),(16,.w (.c (iA i))),(17,.u),(18,.u),(20,.u),(24,.w (.c (iA 4)))]/\
   S=wT w g1 g2 g3 g4++[(3,.box 1 (wX w g1 g2 g3 g4)),(4,.box 1 (dp e)),(6,.box 1 [.sl [],.sl [],.sl [],.sl [],iA 0,iA 0,iA 0,iA 0,.sl [],.sl [],.sl [],.sl [],.sl [],.sl [],.sl [],iA 0]),(7,.box 1 (rX nB)),(9,.box 1 [iA 0,iA 0,iA 0,iA 0,iA 0,iA 0,iA 0,iA 0,iA 0]),(10,.dead 0),(11,.dead 0),(13,.dead 0),(18,.dead 0),(20,.dead 0),(12,.dead 0),(15,.row 3 1 g (bB o))]) (n:=s.timers.length) ⟨0,1,[],aa,aa,ae,ae,by simp[a];done,by rw[Ko];rfl⟩ ?_
  rintro m V L S ⟨i,g,o,hi,rfl,ho,rr,rfl,rfl⟩;rw[Ko];by_cases cH:i<s.timers.length
  ·have dI:i<=1000000000:=aa;have arf:o.length<=100000000:=aa
   obtain⟨t,Dj⟩:∃t,s.timers[i]=t:=⟨_,rfl⟩
   have ye:s.timers.take (i+1)=s.timers.take i++[t]:=by rw[ki cH,Dj]
   by_cases hne:t=(tn:Int)
   ·have FF:=jl @cH @Dj @hlt @iC @hne @Dc (bL dI)
    repeat first|refine bb ?_|refine zrq ?_
    exact⟨s.timers.length-(i+1),aa,i+1,g,o,aa,rfl,by rw[ye,fY,<-ho];simp[hne],aa,rfl,rfl⟩
   ·have FF:=td @cH @Dj @hlt @iC @hne @Dc @arf (bL dI)
    repeat first|refine bb ?_|refine zrq ?_
    exact⟨s.timers.length-(i+1),aa,i+1,g+1,o++[t],aa,rfl,by rw[ye,fY,<-ho];simp[hne],by simp;omega,rfl,by rw[show bB (o++[t])=bB o++[[iA t]] from dw ..];rfl⟩
  ·obtain rfl:i=s.timers.length:=aa;rw[ig,kt] at ho;subst ho;have FF:=GZ @cH @hlt @iC @Dc @sg @acV @CS @hl @hw @hd @kQ
   repeat first|refine jS AD ?_|refine jT AD ?_|refine nM rfl AD ?_|refine bb ?_|refine zrq ?_
   (try dsimp only[aM,aJ])
   refine gZ (by first|(simp;done)|(simp[hl,hw,fz];try rfl)|(simp;try rfl)) ae ?_;exact(by simp[cZ])
 ·
  rw[if_neg aa,if_neg aa,if_neg aa,if_neg aa,if_neg aa,if_neg aa] at hx;obtain⟨r',e1,a1,a2,a3⟩:=OX hI (n:Int) (c.first.length:Int) l;rw[e1] at hx;simp only[bz,gR] at hx;obtain⟨w2,htr,rfl,rfl⟩:=hx;have hC:=aqY hI aa ba e1;have h1:=a1.s.nT;have h2:=a1.s.aS.nS;have h3:=a1.s.uv
  have hT:=adU _ w2 n g1 g2 g3 g4 htr (fun s2 gD=>by
   have:(w.nodes.set n r'.s)[n]? =some s2:=gD;rw[vN hlt] at this;cases this
   omega) (fun t ht=>by have:=h.xg t (dJ ht);omega)
  have ju:fQ Tryz.prog 68 [.w (.agg (wX w g1 g2 g3 g4)),.w (.c (iA n))] [(601,.row 92 52 g1 ((w.nodes.map aK).set n (aK r'.s))),(602,.row 3 1 g2 (bB w.next)),(603,.row 202 1 g3 (w.br.map kC)),(604,.row 210 1 g4 (w.traces.map ry))]
    (fun x S'=>x=.w (.agg (wX w2 g1 g2 g3 g4))/\∀p∈wT w2 g1 g2 g3 g4,S' p.1=p.2):=by
   rw[<-List.map_set];exact hT
  refine lQ aG Tryz.func36 rfl oV [.cell 6 16,.cell 7 67] ah _ rfl _ [3,4,6,7,8,9,10,11,12,13,15,16,17,18,20,24] [3,4,6,7,9,10,11,13,18,20,12,15] ?_;refine bG oV ?_;dsimp only[VM,uV,S0,List.cons_append,List.nil_append,List.map];have FF:=GZ @jh @a @hlt @iC @hl @hw @hd @kQ @fh @acE @OK
  repeat first|refine aN hC ?_|refine aO hC ?_|refine jS ju ?_|refine jT ju ?_|refine aP hC ?_|refine nM rfl ju ?_|refine bb ?_|refine zrq ?_
  (try dsimp only[aM,aJ])
  refine gZ (by first|(simp;done)|(simp[hl,hw,fz];try rfl)|(simp;try rfl)) ae ?_;exact(by simp[cZ])
end Ab
end Go.Proofs.YtlnghiefahcnpaaGreat
