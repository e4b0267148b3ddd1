import Derived.Test.YtlnghiefahcnpaaGreatQ2
set_option maxHeartbeats 40000000
set_option maxRecDepth 100000
set_option linter.all false
namespace Go.Proofs.YtlnghiefahcnpaaGreat
namespace Ab
open Go Go.RowKit
def St.lP (D:List Nat)(st:St):AC->Option AC
 | .own s g=>if s∈D then some (.own s g) else st.fz (.own s g)
 | .ct s g=>if s∈D then some (.ct s g) else none
 | .part s g i=>if s∈D then some (.part s g i) else none
 | .cls f bK=>if iP D (.cls f bK)=true then some (.cls f bK) else none
 | .v x=>some (.v x)
 | .sl es=>some (.sl es)
 | .dX f bK=>some (.dX f bK)
def St.gY (D:List Nat)(st:St):List AC->Option (List AC)
 |[]=>some []
 |x::l=>match st.lP D x,st.gY D l with
  |some y,some r=>some (y::r)
  |_,_=>none
def St.pW (D:List Nat)(st:St):AW->Option AW
 | .c x=>(st.lP D x).map .c
 | .agg cs=>(st.gY D cs).map .agg
def uf (D:List Nat)(st:St):RV->Option AW
 | .t i=>match st.get i with
  |some (.w x)=>st.pW D x
  |_=>none
 | .cell p n=>match st.cells [] n (st.get p) with
  |some cs=>st.pW D (.agg cs)
  |none=>none
 | .cell1 p=>match st.cells [] 1 (st.get p) with
  |some [c]=>st.pW D (.c c)
  |_=>none
def pX (D:List Nat)(st:St):List RV->Option (List AW)
 |[]=>some []
 |r::l=>match uf D st r,pX D st l with
  |some x,some q=>some (x::q)
  |_,_=>none
def dC (D:List Nat)(S:Nat->Slot)(s:Nat):Slot:=if s∈D then S s else .dead 0
section
variable {P:Program} {owns:aF} {ts:aI} {N:Nat} {F M:Nat->Prop} {w0:iy} {w:World} {st:St} {G:Nat->Gh} {H:Nat->Value} {a:Act}
theorem Fh {D:List Nat}{S:Nat->Slot}(s b:Nat):bj (dC D S) G H s b↔s∈D/\bj S G H s b:=by
 unfold bj dC;by_cases h:s∈D<;>simp[h]
theorem NH {D:List Nat}{S:Nat->Slot}{b:Nat}(h:aW M (dC D S) G H b):aW M S G H b:=by
 rcases h with hm|⟨s,hl⟩
 ·exact .inl hm
 ·exact .inr ⟨s,((Fh s b).1 hl).2⟩
theorem Rel.lP (h:Rel N F M w0 st G H a w){D:List Nat}{x y:AC}{u:Value}(hx:CR w (aW M st.slot G H) st.slot G H x u)(hf:st.lP D x=some y):CR w (aW M (dC D st.slot) G H) (dC D st.slot) G H y u/\iP D y=true:=by
 have mD:∀{z:AC} {v:Value},IR w (aW M st.slot G H) z v->IR w (aW M (dC D st.slot) G H) z v:=fun hz=>hz.mono av (fun b _ hb=>NH hb) (fun _ _ _=>rfl)
 cases x with
 |v x=>simp only[St.lP,ar] at hf;subst hf;exact⟨mD hx,rfl⟩
 |sl es=>simp only[St.lP,ar] at hf;subst hf;exact⟨mD hx,rfl⟩
 |dX f bK=>simp only[St.lP,ar] at hf;subst hf;exact⟨mD hx,rfl⟩
 |ct s g=>
  simp only[St.lP] at hf;split at hf
  case isFalse=>cases hf
  rename_i hs;simp only[ar] at hf;subst hf;obtain⟨h1,h2,h3⟩:=hx
  have e:dC D st.slot s=st.slot s:=by unfold dC;rw[if_pos hs]
  exact⟨⟨h1,by rw[e];exact h2,fun K he=>h3 K (by rw[<-e];exact he)⟩,by simpa [iP] using hs⟩
 |part s g i=>
  simp only[St.lP] at hf;split at hf
  case isFalse=>cases hf
  rename_i hs;simp only[ar] at hf;subst hf;obtain⟨h1,h2,h3⟩:=hx
  have e:dC D st.slot s=st.slot s:=by unfold dC;rw[if_pos hs]
  exact⟨⟨h1,by rw[e];exact h2,fun K he=>h3 K (by rw[<-e];exact he)⟩,by simpa [iP] using hs⟩
 |cls f bK=>
  simp only[St.lP] at hf;split at hf
  case isFalse=>cases hf
  rename_i hs;simp only[ar] at hf;subst hf;obtain⟨ps,h1,h2,h3⟩:=hx;refine⟨⟨ps,h1,h2,fun i q p e1 e2=> ?_⟩,hs⟩
  have hq:q.1∈D:=by
   have h4:bK.all (fun q=>D.contains q.1)=true:=hs;have:=dY.1 h4 q (dJ e1);simpa using this
  have e:dC D st.slot q.1=st.slot q.1:=by unfold dC;rw[if_pos hq]
  obtain⟨h4,h5⟩:=h3 i q p e1 e2;exact⟨by rw[e];exact h4,fun cs he=>h5 cs (by rw[<-e];exact he)⟩
 |own s g=>
  simp only[St.lP] at hf;split at hf
  ·rename_i hs;simp only[ar] at hf;subst hf;obtain⟨h1,h2,h3⟩:=hx
   have e:dC D st.slot s=st.slot s:=by unfold dC;rw[if_pos hs]
   exact⟨⟨h1,by rw[e];exact h2,fun e' k es he=>h3 e' k es (by rw[<-e];exact he)⟩,by simpa [iP] using hs⟩
  ·rename_i hs;simp only[St.fz] at hf;split at hf
   case h_2=>cases hf
   rename_i e k g' es cA;split at hf
   case isFalse=>cases hf
   rename_i hg;obtain⟨rfl,bF⟩:=hg;simp only[ar] at hf;subst hf;refine⟨?_,rfl⟩;obtain⟨_,_,hH⟩:=hx;have hu:=hH e k es cA;subst hu;obtain⟨hn,xs,how,tV⟩:=h.rw s e k g es cA;have hl:=how.1
   rcases how.2 with⟨e1,e2⟩|⟨gg,cap,cur,e1,_,IY,nF,yA,_,_⟩
   ·have h0:es=[]:=tf e2;subst h0;rw[e1];exact IR.sl 0 [] none 0 (fun _ _=>undef) av ae (by intro i row h;simp at h) (by intro i row j x h;simp at h) (by intro i row j h;simp at h)
   ·rw[e1];have hcell:=how.cells (g:=gg) (by rw[e1];rfl)
    have bE:(H s).ownBlock=some gg:=by rw[e1];rfl
    have MY:¬aW M (dC D st.slot) G H gg:=fun hh=>by
     rcases hh with hm|⟨s',iK⟩
     ·exact(hn gg bE).2 hm
     ·obtain⟨d1,l1⟩:=(Fh s' gg).1 iK;have:=h.dj s' s gg l1 (.inr (.inl ⟨e,k,g,es,cA,bE⟩));subst this;exact hs d1
    exact ES rfl (tV.map fun x u hx=>mD hx) hl MY nF (by simp only[maxLen] at yA;omega) (fun j u hj=>by
     have:=hcell j u hj
     rwa[Addr.add_mid,fK] at this)
theorem Rel.gY (h:Rel N F M w0 st G H a w){D:List Nat}:∀{cs r:List AC} {us:List Value},bT w (aW M st.slot G H) st.slot G H cs us->st.gY D cs=some r->bT w (aW M (dC D st.slot) G H) (dC D st.slot) G H r us/\r.all (iP D)=true
 |[],r,us,hc,hr=>by
  simp only[St.gY,ar] at hr;subst hr;exact⟨⟨hc.1,fun j x u e=>by simp at e⟩,rfl⟩
 |x::cs,r,us,hc,hr=>by
  unfold St.gY at hr;split at hr
  case h_2=>cases hr
  rename_i y q h1 h2;simp only[ar] at hr;subst hr
  cases us with
  |nil=>have:=hc.1;simp at this
  |cons u us=>
   have hc':bT w (aW M st.slot G H) st.slot G H cs us:=⟨by have:=hc.1;simpa using this,fun j x u e1 e2=>hc.2 (j+1) x u (by simpa using e1) (by simpa using e2)⟩
   obtain⟨g2,g1⟩:=Rel.gY h hc' h2;obtain⟨g3,g4⟩:=h.lP (hc.2 0 x u rfl rfl) h1;refine⟨⟨by have:=g2.1;simp[this],fun j z v e1 e2=> ?_⟩,by simp[g4,g1]⟩
   cases j with
   |zero=>
    simp at e1 e2;subst e1;subst e2;exact g3
   |succ j=>exact g2.2 j z v (by simpa using e1) (by simpa using e2)
theorem Rel.pW (h:Rel N F M w0 st G H a w){D:List Nat}{x y:AW}{v:Value}(hx:WR w (aW M st.slot G H) st.slot G H x v)(hf:st.pW D x=some y):WR w (aW M (dC D st.slot) G H) (dC D st.slot) G H y v/\tW D y=true:=by
 cases x with
 |c x=>
  simp only[St.pW,bz] at hf;obtain⟨z,hz,rfl⟩:=hf;obtain⟨h1,h2⟩:=h.lP hx hz;exact⟨h1,by simp[tW,AW.cells,h2]⟩
 |agg cs=>
  simp only[St.pW,bz] at hf;obtain⟨z,hz,rfl⟩:=hf;obtain⟨arr,e,hc⟩:=hx;obtain⟨g1,g2⟩:=h.gY hc hz;exact⟨⟨arr,e,g1⟩,by simpa [tW,AW.cells] using g2⟩
theorem Rel.rvM (h:Rel N F M w0 st G H a w){D:List Nat}{r:ResultVar}{q:RV}{x:AW}(hq:Aj P r=some q)(hr:uf D st q=some x):∃v,(rh a.tmps r).run P w=.ok v w/\WR w (aW M (dC D st.slot) G H) (dC D st.slot) G H x v/\tW D x=true:=by
 cases r with
 |tmp t=>
  simp only[Aj,ar] at hq;subst hq;simp only[uf] at hr;split at hr
  case h_2=>cases hr
  rename_i y hy;exact⟨_,rfl,h.pW (h.tm t _ hy) hr⟩
 |cell p ty=>
  simp only[Aj] at hq;split at hq
  case h_2=>cases hq
  rename_i n d hn hd;split at hq
  ·rename_i bD;simp only[ar] at hq;subst hq;simp only[uf] at hr;split at hr
   case h_2=>cases hr
   rename_i cs hc
   cases hp:st.get p with
   |none=>rw[hp] at hc;simp at hc
   |some pv=>
    rw[hp] at hc;obtain⟨b,o,us,e1,hlt,_,zZ,hcs,hl⟩:=h.cells (h.tm p pv hp) hc;refine⟨.agg us.toArray,?_,h.pW (x:=.agg cs) ⟨us,rfl,hcs⟩ hr⟩;simp only[rh,e1,asAddr,lp,qC,pf];exact run_loadVar_mid w b o ty us d zZ hd bD (by rw[hl];exact hn)
  ·rename_i bD;simp only[ar] at hq;subst hq;simp only[uf] at hr;split at hr
   case h_2=>cases hr
   rename_i c hc
   cases hp:st.get p with
   |none=>rw[hp] at hc;simp at hc
   |some pv=>
    rw[hp] at hc;obtain⟨b,o,us,e1,hlt,_,zZ,hcs,hl⟩:=h.cells (h.tm p pv hp) hc
    obtain⟨u,rfl⟩:∃u,us=[u]:=by
     match us,hl with
     |[u],_=>exact⟨u,rfl⟩
    refine⟨u,?_,h.pW (x:=.c c) (hcs.2 0 c u rfl rfl) hr⟩;have hcell:=zZ 0 u rfl;rw[qB] at hcell
    have rS:(isAgg ty).run P w=.ok false w:=by
     unfold isAgg;rw[lp,km hd]
     cases d<;>first|rfl|(exact absurd rfl bD)
    simp[rh,e1,asAddr,loadVar,rS,hcell]
theorem Rel.YN (h:Rel N F M w0 st G H a w){D:List Nat}:∀{rs:List ResultVar} {qs:List RV} {xs:List AW},tY P rs=some qs->pX D st qs=some xs->∃vs:List Value,(rs.mapM (rh a.tmps)).run P w=.ok vs w/\vs.length=xs.length/\
  ∀(j:Nat) (x:AW) (v:Value),xs[j]? =some x->vs[j]? =some v->WR w (aW M (dC D st.slot) G H) (dC D st.slot) G H x v/\tW D x=true
 |[],qs,xs,hq,hr=>by
  simp only[tY,ar] at hq;subst hq;simp only[pX,ar] at hr;subst hr;exact⟨[],ae,rfl,fun j x v e=>by simp at e⟩
 |r::rs,qs,xs,hq,hr=>by
  unfold tY at hq;split at hq
  case h_2=>cases hq
  rename_i q l g1 g2;simp only[ar] at hq;subst hq;unfold pX at hr;split at hr
  case h_2=>cases hr
  rename_i x l' h1 h2;simp only[ar] at hr;subst hr;obtain⟨v,e1,e2⟩:=h.rvM g1 h1;obtain⟨vs,e3,e4,e5⟩:=Rel.YN h g2 h2;refine⟨v::vs,by simp[List.mapM_cons,e1,e3],by simp[e4],fun j y u k1 k2=> ?_⟩
  cases j with
  |zero=>simp at k1 k2;subst k1;subst k2;exact e2
  |succ j=>exact e5 j y u (by simpa using k1) (by simpa using k2)
def NI (D:List Nat)(rv:List RV)(Q:AV->(Nat->Slot)->Prop):dQ->St->Prop
 | .exit _,_=>False
 |_,st=>∃xs,pX D st rv=some xs/\(∀s∈D,eE D (st.slot s)=true)/\Q (cZ xs) (dC D st.slot)
def VM:List AV->Nat->List Nat->List (Nat×AV)
 |[],_,vs=>uV vs
 |a::r,k,vs=>(k,a)::VM r (k+1) vs
theorem YO:∀{args:List AV} {k:Nat} {vs:List Nat} {i:Nat} {x:AV},aB (VM args k vs) i=some x->x=.u\/∃j,i=k+j/\args[j]? =some x
 |[],k,vs,i,x,h=> .inl (Nw h)
 |a::r,k,vs,i,x,h=>by
  simp only[VM,aB] at h;split at h
  ·rename_i hk;simp only[ar] at h;exact .inr ⟨0,hk.symm,by simp[h]⟩
  ·rcases YO h with h1|⟨j,h1,h2⟩
   ·exact .inl h1
   ·exact .inr ⟨j+1,aa,by simpa using h2⟩
theorem YP:∀(ss:List Nat) (s:Nat) (x:Slot),aB (S0 ss) s=some x->x=.dead 0
 |[],s,x,h=>by simp[S0,aB] at h
 |v::vs,s,x,h=>by
  simp only[S0,aB] at h;split at h
  ·simp only[ar] at h;exact h.symm
  ·exact YP vs s x h
theorem YQ {α:Type}:∀(l m:List (Nat×α)) (s:Nat),aB (l++m) s=match aB l s with
  |some x=>some x
  |none=>aB m s
 |[],m,s=>rfl
 |(i,x)::l,m,s=>by
  simp only[List.cons_append,aB,YQ l m s];split<;>rfl
theorem NJ {α:Type}:∀(T:List (Nat×α)) (s:Nat),aB T s=none↔s∉T.map (·.1)
 |[],s=>by simp[aB]
 |(i,x)::T,s=>by
  simp only[aB,ey,eM,not_or];by_cases h:i=s
  ·subst h;simp
  ·rw[if_neg h,NJ T s];exact⟨fun h1=>⟨fun e=>h e.symm,h1⟩,fun h1=>h1.2⟩
theorem lQ (hE:∀p∈owns.eqs,nI P p.1 p.2){f:FuncId}{fn:Func}{c:Code}{b:aA}(hf:P.funcs[f]? =some fn)(hb:fn.body=some c)(ht:aD P owns fn.ntmps ts c=some b)(rv:List RV)(yH:tY P fn.results.toList=some rv)(args:List AV)(Aa:Nat.ble args.length fn.ntmps=true)(T:List (Nat×Slot))(vs ss:List Nat){Q:AV->(Nat->Slot)->Prop}
  (h:aC (lift P b) (NI (T.map (·.1)) rv Q) ⟨VM args 0 vs,[],T++S0 ss⟩):fQ P f args T Q:=by
 intro M w G H us cA hM hlen dk;have axc:args.length<=fn.ntmps:=vO Aa;refine calls_of_wp hf hb ?_
 have gJ:(St.mk (VM args 0 vs) [] (T++S0 ss)).slot=fx T:=funext fun s=>by
  unfold St.slot fx;dsimp only;rw[YQ]
  cases h1:aB T s with
  |some x=>rfl
  |none=>
   dsimp only
   cases h2:aB (S0 ss) s with
   |none=>rfl
   |some x=>rw[YP ss s x h2];rfl
 have hlt:∀s b,bj (fx T) G H s b->b<w.heap.size:=fun s b hl=>by
  rcases hl with⟨g,cs,h1,rfl⟩|⟨e,k,g,es,h1,h2⟩|⟨g,K,h1,h2⟩
  ·obtain⟨_,arr,h3,_⟩:=cA.bx s g cs h1;exact h3.lt
  ·obtain⟨_,xs,h3,_⟩:=cA.rw s e k g es h1;exact(h3.lt b h2).2
  ·exact K.lt (cA.ob s g K h1).2 b h2
 have hR:Rel fn.ntmps (fun b=>b<w.heap.size/\∀s,¬bj (fx T) G H s b) M ⟨w,fx T,G,H⟩ ⟨VM args 0 vs,[],T++S0 ss⟩ G H { tmps:=us.toArray++Array.replicate (fn.ntmps-us.toArray.size) undef,defers:=[] } w:=by
  refine⟨by simp;omega,rfl,⟨rfl,rfl,rfl,di _,fun _ _=>rfl⟩,⟨fun s=>(by rw[gJ];exact di _),fun s e k g es hs _=>(by rw[gJ] at hs;exact⟨⟨es,hs⟩,rfl⟩),fun s g cs hs _=>(by rw[gJ] at hs;exact⟨⟨cs,hs⟩,rfl⟩),fun s g K hs _=>(by rw[gJ] at hs;exact⟨⟨K,hs⟩,rfl,rfl⟩)⟩,fun b hb=>hb.elim (·.1) (hM b),fun i x hx=> ?_,
   fun s g cs hs=> ?_,fun s e k g es hs=> ?_,fun s g K hs=> ?_,by rw[gJ];exact cA.dj⟩
  ·have mZ:aB (VM args 0 vs) i=some x:=by
    unfold St.get at hx;dsimp only at hx;split at hx
    ·rename_i v hv;rw[hv];exact hx
    ·simp[aB] at hx
   rcases YO mZ with rfl|⟨j,hj,hy⟩
   ·trivial
   ·rw[fK] at hj;subst hj;have hi:=(bk.1 hy).1;have hv:us[i]? =some (us[i]' aa):=List.getElem?_eq_getElem aa;have hw:=dk i x _ hy hv
    have lG:(us.toArray++Array.replicate (fn.ntmps-us.toArray.size) undef).getD i undef=us[i]' aa:=by
     simp[DN,Array.getElem?_append,show i<us.length by omega]
    rw[lG,gJ];exact hw
  ·rw[gJ] at hs⊢;obtain⟨g1,arr,g2,g3⟩:=cA.bx s g cs hs;exact⟨fun hh=>hh.2 s (.inl ⟨g,cs,hs,rfl⟩),g1,arr,g2,g3⟩
  ·rw[gJ] at hs⊢;obtain⟨g1,xs,g2,g3⟩:=cA.rw s e k g es hs;exact⟨fun b hb=>⟨fun hh=>hh.2 s (.inr (.inl ⟨e,k,g,es,hs,hb⟩)),g1 b hb⟩,xs,g2,g3⟩
  ·rw[gJ] at hs⊢;obtain⟨g1,g2⟩:=cA.ob s g K hs;exact⟨fun b hb=>⟨fun hh=>hh.2 s (.inr (.inr ⟨g,K,hs,hb⟩)),g1 b hb⟩,g2⟩
 refine Yq (YB hE ht) hR h fun e st' G' H' a' w' hq bC=> ?_
 have anu:∀s,aB T s=none->s∉T.map (·.1):=fun s hs=>(NJ T s).1 hs
 have fin:(∃xs,pX (T.map (·.1)) st' rv=some xs/\(∀s∈T.map (·.1),eE (T.map (·.1)) (st'.slot s)=true)/\Q (cZ xs) (dC (T.map (·.1)) st'.slot))->
   a'.defers=[]/\∃v,(results fn a'.tmps).run P w'=.ok v w'/\∃v' r S' G' H',Ending.returned v=.returned v'/\Q r S'/\VR w' (aW M S' G' H') S' G' H' r v'/\ET M S' G' H' w'/\IU ⟨w,fx T,G,H⟩ S' G' H'/\
   Fr (fun b=>b<w.heap.size/\∀s,¬bj (fx T) G H s b) w w'/\(∀s b,bj S' G' H' s b->(∃s0,bj (fx T) G H s0 b)\/w.heap.size<=b)/\∀s,aB T s=none->S' s=.dead 0:=by
  rintro⟨xs,rZ,kQ,hQ⟩;obtain⟨us',e1,e2,e3⟩:=bC.YN yH rZ;have hrun:=Yt (fn:=fn) e1
  have mD:∀{z:AC} {v:Value},IR w' (aW M st'.slot G' H') z v->IR w' (aW M (dC (T.map (·.1)) st'.slot) G' H') z v:=fun hz=>hz.mono av (fun b _ hb=>NH hb) (fun _ _ _=>rfl)
  have nL:∀s,s∈T.map (·.1)->dC (T.map (·.1)) st'.slot s=st'.slot s:=fun s hs=>by unfold dC;rw[if_pos hs]
  refine⟨bC.df,_,hrun,_,cZ xs,dC (T.map (·.1)) st'.slot,G',H',rfl,hQ,?_,⟨fun s g cs hs=> ?_,fun s e k g es hs=> ?_,fun s g K hs=> ?_,fun s s' b h1 h2=>bC.dj s s' b ((Fh s b).1 h1).2 ((Fh s' b).1 h2).2⟩,⟨fun s=> ?_,fun s e k g es hs hg=> ?_,fun s g cs hs hg=> ?_,fun s g K hs hg=> ?_⟩,bC.fr,fun s b hl=> ?_,fun s hs=> ?_⟩
  ·match xs,us',e2,e3 with
   |[x],[u],_,e3=>exact(e3 0 x u rfl rfl).1
   |[],[],_,e3=>exact⟨[],rfl,rfl,fun j x u e=>by simp at e⟩
   |x::y::r,u::v::q,e2,e3=>
    have hne:¬(u::v::q).toArray.size=1:=ae;rw[dif_neg hne];exact⟨u::v::q,rfl,e2,fun j x u h1 h2=>(e3 j x u h1 h2).1⟩
  ·by_cases hd:s∈T.map (·.1)
   ·rw[nL s hd] at hs;obtain⟨_,g2,arr,g3,g4⟩:=bC.bx s g cs hs;have hc:=kQ s hd;rw[hs] at hc;refine⟨g2,arr,g3,g4.1,fun j x u h1 h2=> ?_⟩;have hx:=g4.2 j x u h1 h2;have qF:=dY.1 hc x (dJ h1)
    cases x with
    |v x=>exact mD hx
    |sl es=>exact mD hx
    |dX f bK=>exact mD hx
    |ct s' g'=>
     have cR:s'∈T.map (·.1):=by simpa [iP] using qF
     obtain⟨q1,q2,q3⟩:=hx;exact⟨q1,by rw[nL s' cR];exact q2,fun K he=>by rw[nL s' cR] at he;exact q3 K he⟩
    |part s' g' i'=>
     have cR:s'∈T.map (·.1):=by simpa [iP] using qF
     obtain⟨q1,q2,q3⟩:=hx;exact⟨q1,by rw[nL s' cR];exact q2,fun K he=>by rw[nL s' cR] at he;exact q3 K he⟩
    |cls f bK=>
     obtain⟨ps,q1,q2,q3⟩:=hx;refine⟨ps,q1,q2,fun i q p e1 e2=> ?_⟩
     have hq:q.1∈T.map (·.1):=by
      have h4:bK.all (fun q=>(T.map (·.1)).contains q.1)=true:=qF;have:=dY.1 h4 q (dJ e1);simpa using this
     obtain⟨q4,q5⟩:=q3 i q p e1 e2;exact⟨by rw[nL _ hq];exact q4,fun cs he=>by rw[nL _ hq] at he;exact q5 cs he⟩
    |own s' g'=>
     have cR:s'∈T.map (·.1):=by simpa [iP] using qF
     obtain⟨q1,q2,q3⟩:=hx;exact⟨q1,by rw[nL s' cR];exact q2,fun e k es he=>by rw[nL s' cR] at he;exact q3 e k es he⟩
   ·unfold dC at hs;rw[if_neg hd] at hs;cases hs
  ·by_cases hd:s∈T.map (·.1)
   ·rw[nL s hd] at hs;obtain⟨g1,ys,g3,g4⟩:=bC.rw s e k g es hs;exact⟨fun b hb=>(g1 b hb).2,ys,g3,g4.map fun x u hx=>mD hx⟩
   ·unfold dC at hs;rw[if_neg hd] at hs;cases hs
  ·by_cases hd:s∈T.map (·.1)
   ·rw[nL s hd] at hs;obtain⟨g1,g2⟩:=bC.ob s g K hs;exact⟨fun b hb=>(g1 b hb).2,K.mono g2 av (fun b _ hb=>NH hb) (fun _ _ _=>rfl)⟩
   ·unfold dC at hs;rw[if_neg hd] at hs;cases hs
  ·by_cases hd:s∈T.map (·.1)
   ·rw[nL s hd];exact bC.hs.gen s
   ·have hn:aB T s=none:=(NJ T s).2 hd
    show(fx T s).gen<=_
    unfold fx;rw[hn];exact Nat.zero_le _
  ·by_cases hd:s∈T.map (·.1)
   ·rw[nL s hd] at hs;exact bC.hs.row s e k g es hs hg
   ·unfold dC at hs;rw[if_neg hd] at hs;cases hs
  ·by_cases hd:s∈T.map (·.1)
   ·rw[nL s hd] at hs;exact bC.hs.box s g cs hs hg
   ·unfold dC at hs;rw[if_neg hd] at hs;cases hs
  ·by_cases hd:s∈T.map (·.1)
   ·rw[nL s hd] at hs;exact bC.hs.obj s g K hs hg
   ·unfold dC at hs;rw[if_neg hd] at hs;cases hs
  ·have wV:=(bC.nD ((Fh s b).1 hl).2).2.1;by_cases hb:b<w.heap.size
   ·left
    exact zk fun hne=>wV ⟨hb,fun s0 jg=>hne ⟨s0,jg⟩⟩
   ·right;omega
  ·unfold dC;rw[if_neg (anu s hs)]
 cases e with
 |normal=>exact fin hq
 |exit id=>exact hq.elim
 |ret=>exact fin hq
theorem anv {U:Option (List Nat)}{d:Option Nat}{f:FuncId}{ys:List aw}{D:List Nat}{r:List BO}{K:St->Prop}{ws:List AV}{R:AV->(Nat->Slot)->Prop}(ha:kA st ys=some ws)(hc:ws.all (gI D)=true)(hD:∀s∈D,(aB st.S s).isSome=true/\eE D (st.slot s)=true)(hU:∀s∈D,sy U s)(hC:fQ P f ws (eW st D) R)
  (hr:∀x S',R x S'->(gI D x=true/\∀s∈D,eE D (S' s)=true)/\bo U (r.map (BO.ao P)) K ((jD D S' st).dR d x)):bo U ((⟨d,none,.kR f ys D⟩::r:List BO).map (BO.ao P)) K st:=⟨ws,R,ha,hc,hD,hU,hC,fun x S' hx=>hr x S' hx⟩
theorem anw {U:List Nat}{l:List BO}{tl:List AO}{K:St->Prop}{i:Nat}{t:OT}{bh:Bool}{d:Option Nat}{f:FuncId}{ys:List aw}{D:List Nat}{ws:List AV}{R:AV->(Nat->Slot)->Prop}(hi:l[i]? =some ⟨d,none,.kR f ys D⟩)(ha:kA st ys=some ws)(hc:ws.all (gI D)=true)
  (hD:∀s∈D,(aB st.S s).isSome=true/\eE D (st.slot s)=true) (hU:∀s∈D,s∈U) (hC:fQ P f ws (eW st D) R) (h:∀x S',R x S'->(gI D x=true/\∀s∈D,eE D (S' s)=true)/\aU U (l.map (BO.ao P)) tl K t true ((jD D S' st).dR d x)):
  aU U (l.map (BO.ao P)) tl K (.move i t) bh st:=by
 unfold aU;rw[ek,hi];exact⟨ws,R,ha,hc,hD,hU,hC,fun x S' hx=>h x S' hx⟩
end
end Ab
namespace Ab
open Go Go.RowKit
section
variable {P:Program} {Q:dQ->St->Prop} {V L:List (Nat×AV)} {S:List (Nat×Slot)} {st:St} {x y z:aA}
theorem YR {t:aw}(hb:st.sc t=some (.bool true))(h:aC (lift P (.seq x z)) Q st):aC (lift P (.seq (.cond t x y) z)) Q st:=iR true hb h
theorem YS {t:aw}(hb:st.sc t=some (.bool false))(h:aC (lift P (.seq y z)) Q st):aC (lift P (.seq (.cond t x y) z)) Q st:=iR false hb h
theorem YT {t:aw}(hb:st.sc t=some (.bool true))(h:aC (lift P x) Q st):aC (lift P (.cond t x y)) Q st:=yJ true hb h
theorem YU {t:aw}(hb:st.sc t=some (.bool false))(h:aC (lift P y) Q st):aC (lift P (.cond t x y)) Q st:=yJ false hb h
theorem Jv (h:Q .normal st):aC (lift P .skip) Q st:=h
theorem YV {U:List Nat}{l:List AO}{l2:List BO}{n:Nat}{K:St->Prop}{bh:Bool}{r:List BO}(hr:l2.drop n=r)(h:bo none (r.map (BO.ao P)) K st):aU U l ((l2.drop n).map (BO.ao P)) K .nil bh st:=by subst hr;exact h
end
@[simp] theorem axd (b:Bool):zO .not (.bool b)=some (.bool !b):=rfl
theorem YW {a:Int}(h1: -9223372036854775807<=a)(h2:a<=9223372036854775807):zO .neg (.int .i64 a)=some (.int .i64 (-a)):=by simp[zO,wrap64 (n:= -a) aa aa]
@[simp] theorem axe (k:IntKind)(a b:Int):zP true (.int k a) (.int k b)=some (.int k (max a b)):=by simp[zP]
@[simp] theorem axf (k:IntKind)(a b:Int):zP false (.int k a) (.int k b)=some (.int k (min a b)):=by simp[zP]
@[simp] theorem anx (a b:ByteArray):aY .eql (.string a) (.string b)=some (.bool (a.toList==b.toList)):=rfl
@[simp] theorem anz (a b:ByteArray):aY .neq (.string a) (.string b)=some (.bool (!(a.toList==b.toList))):=rfl
end Ab
namespace Ab
open Go Go.RowKit
def jR:List (Nat×Slot)->St->St
 |[],st=>st
 |(s,x)::l,st=>jR l (st.bM s x)
theorem NK:∀(l:List (Nat×Slot)) (S:List (Nat×Slot)) (D:List Nat) (S':Nat->Slot),(∀p∈l,S' p.1=p.2)->(∀s,s∈l.map (·.1)↔s∈D)->
  (S.map fun p=>if D.contains p.1 then(p.1,S' p.1) else p)=l.foldl (fun S p=>mu S p.1 p.2) S:=by
 intro l
 induction l with
 |nil=>
  intro S D S' _ hD
  have:∀s,D.contains s=false:=fun s=>by have:=hD s;simpa using this
  simp only[List.foldl_nil]
  conv=>rhs;rw[<-List.map_id S]
  apply List.map_congr_left;intro p _;rw[this p.1];simp
 |cons q l ih=>
  intro S D S' h hD;obtain⟨s,x⟩:=q;have hx:S' s=x:=h (s,x) ae
  have gz:∀S:List (Nat×Slot),mu S s x=S.map fun p=>if p.1=s then(p.1,x) else p:=fun S=>by
   induction S with
   |nil=>rfl
   |cons p S ihS=>
    obtain⟨i,y⟩:=p;simp only[mu,ey,ihS];split<;>rfl
  simp only[xD];rw[<-ih (mu S s x) (l.map (·.1)) S' (fun p hp=>h p (by simp[hp])) (fun _=>Iff.rfl),gz,List.map_map];apply List.map_congr_left;intro p _;have hd:=hD p.1;simp only[ey,eM] at hd;by_cases iL:p.1=s
  ·have:p.1∈D:=hd.1 (.inl iL);obtain⟨i,y⟩:=p;dsimp only at iL this;subst iL
   have hc:D.contains i=true:=by simpa using this
   simp only[Function.comp,lX,hc,hx];split<;>rfl
  ·by_cases hl:p.1∈l.map (·.1)
   ·have:p.1∈D:=hd.1 (.inr hl);simp[Function.comp,iL,this,hl]
   ·have:¬p.1∈D:=fun hh=>by rcases hd.2 hh with h|h;exact iL h;exact hl h
    simp[Function.comp,iL,this,hl]
theorem Fi:∀(l:List (Nat×Slot)) (st:St),jR l st=⟨st.V,st.L,l.foldl (fun S p=>mu S p.1 p.2) st.S⟩
 |[],_=>rfl
 |(s,x)::l,st=>by
  unfold jR;rw[Fi l];rfl
section
variable {P:Program}
theorem YX {U:Option (List Nat)}{d:Option Nat}{f:FuncId}{ys:List aw}{D:List Nat}{r:List BO}{K:St->Prop}{st st':St}{ws:List AV}{x0:AV}{Ys:List (Nat×Slot)}(ha:kA st ys=some ws)(hc:ws.all (gI D)=true)(hD:∀s∈D,(aB st.S s).isSome=true/\eE D (st.slot s)=true)(hU:∀s∈D,oL U s=true)
  (hC:fQ P f ws (eW st D) (fun x S'=>x=x0/\∀p∈Ys,S' p.1=p.2)) (hY:Ys.map (·.1)=D) (hx:gI D x0=true) (dc:∀p∈Ys,eE D p.2=true) (hst:(jR Ys st).dR d x0=st') (h:bo U (r.map (BO.ao P)) K st'):
  bo U ((⟨d,none,.kR f ys D⟩::r:List BO).map (BO.ao P)) K st:=by
 refine anv ha hc hD (fun s hs=>Jq (hU s hs)) hC ?_;rintro x S' ⟨rfl,hS⟩;refine⟨⟨hx,fun s hs=> ?_⟩,?_⟩
 ·rw[<-hY] at hs;obtain⟨p,hp,rfl⟩:=fZ.1 hs;rw[hS p hp];exact dc p hp
 ·have:jD D S' st=jR Ys st:=by
   rw[Fi];unfold jD;rw[NK Ys st.S D S' hS (fun s=>by rw[hY])]
  rw[this,hst];exact h
theorem YY {U:List Nat}{l:List BO}{tl:List AO}{K:St->Prop}{i:Nat}{t:OT}{bh:Bool}{d:Option Nat}{f:FuncId}{ys:List aw}{D:List Nat}{st st':St}{ws:List AV}{x0:AV}{Ys:List (Nat×Slot)}(hi:l[i]? =some ⟨d,none,.kR f ys D⟩)(ha:kA st ys=some ws)(hc:ws.all (gI D)=true)
  (hD:∀s∈D,(aB st.S s).isSome=true/\eE D (st.slot s)=true) (hU:∀s∈D,s∈U) (hC:fQ P f ws (eW st D) (fun x S'=>x=x0/\∀p∈Ys,S' p.1=p.2)) (hY:Ys.map (·.1)=D) (hx:gI D x0=true) (dc:∀p∈Ys,eE D p.2=true) (hst:(jR Ys st).dR d x0=st') (h:aU U (l.map (BO.ao P)) tl K t true st'):
  aU U (l.map (BO.ao P)) tl K (.move i t) bh st:=by
 refine anw hi ha hc hD hU hC ?_;rintro x S' ⟨rfl,hS⟩;refine⟨⟨hx,fun s hs=> ?_⟩,?_⟩
 ·rw[<-hY] at hs;obtain⟨p,hp,rfl⟩:=fZ.1 hs;rw[hS p hp];exact dc p hp
 ·have:jD D S' st=jR Ys st:=by
   rw[Fi];unfold jD;rw[NK Ys st.S D S' hS (fun s=>by rw[hY])]
  rw[this,hst];exact h
theorem gZ {st:St}{D:List Nat}{rv:List RV}{Q:AV->(Nat->Slot)->Prop}{xs:List AW}(h:pX D st rv=some xs)(hc:∀s∈D,eE D (st.slot s)=true)(hQ:Q (cZ xs) (dC D st.slot)):NI D rv Q .ret st:=⟨xs,h,hc,hQ⟩
end
@[simp] theorem axg (D:List Nat)(g:Nat):eE D (.dead g)=true:=rfl
@[simp] theorem axh (D:List Nat)(e k g:Nat)(es:List (List AC)):eE D (.row e k g es)=true:=rfl
@[simp] theorem axi (D:List Nat)(g:Nat)(cs:List AC):eE D (.box g cs)=cs.all (iP D):=rfl
@[simp] theorem axj {α β:Type}(f:α->β)(l:List α):(l.map f).take l.length=l.map f:=by rw[List.take_of_length_le ae]
attribute [simp] kA gI tW iP eW jR VM pX uf dC fx St.pW St.lP St.gY
end Ab
namespace Ab
open Go Go.RowKit
def Jy (P:Program)(a:aF)(ops:Array Oper)(o:Oper):BO:=⟨o.dst,(match o.guard with
 |none=>none
 |some (j,want)=>match(ops[j]?).bind (·.dst) with
  |some t=>some (t,want)
  |none=>none),match Jo P a o with
 |some x=>x
 |none=> .mv (.t 0)⟩
def Fk (P:Program)(a:aF)(ops:Array Oper):List Oper->List BO
 |[]=>[]
 |o::l=>Jy P a ops o::Fk P a ops l
def gL (P:Program)(a:aF)(ts:aI):Code->aA
 | .skip=> .skip
 | .ret=> .ret
 | .exit id=> .exit id
 | .seq x y=> .seq (gL P a ts x) (gL P a ts y)
 | .cond t x y=> .cond (match dh t with |some t=>t|none=> .t 0) (gL P a ts x) (gL P a ts y)
 | .block id c=> .block id (gL P a ts c)
 | .loop c=> .loop (gL P a ts c)
 | .region id ops d=>Fb ((aB a.jf id).getD []) (Fc ((aB a.Nc id).getD []) (match d with
  |false=> .region (Fk P a ops ops.toList)
  |true=>match Ns ts id with
   |some (n,t,U)=> .oJ (Fk P a ops ops.toList) n t U
   |none=> .skip))
 |_=> .skip
section
variable {P:Program} {a:aF} {N:Nat} {ts:aI} {ops:Array Oper}
theorem anB {o:Oper}{b:BO}(h:Fe P a N ops o=some b):Jy P a ops o=b:=by
 unfold Fe at h;split at h
 ·cases h
 rename_i op hop;split at h
 case isFalse=>cases h
 split at h
 ·rename_i hg;simp only[ar] at h;subst h;simp[Jy,hg,hop]
 ·rename_i j want hg;split at h
  ·rename_i t ht;simp only[ar] at h;subst h;simp[Jy,hg,hop,ht]
  ·cases h
theorem NP:∀{os:List Oper} {l:List BO},yF P a N ops os=some l->Fk P a ops os=l
 |[],l,h=>by
  simp only[yF,ar] at h;subst h;rfl
 |o::os,l,h=>by
  unfold yF at h;split at h
  ·rename_i b q h1 h2;simp only[ar] at h;subst h;simp[Fk,anB h1,NP h2]
  ·cases h
theorem Zw:∀{c:Code} {b:aA},aD P a N ts c=some b->gL P a ts c=b:=by
 intro c
 induction c with
 |skip=>intro b h;simp only[aD,ar] at h;subst h;rfl
 |ret=>intro b h;simp only[aD,ar] at h;subst h;rfl
 |exit id=>intro b h;simp only[aD,ar] at h;subst h;rfl
 |seq x y sF sG=>
  intro b h;unfold aD at h;split at h
  ·rename_i p q h1 h2;simp only[ar] at h;subst h;simp only[gL,sF h1,sG h2]
  ·cases h
 |cond t x y sF sG=>
  intro b h;unfold aD at h;split at h
  ·rename_i u p q h0 h1 h2;simp only[ar] at h;subst h;simp only[gL,sF h1,sG h2,h0]
  ·cases h
 |block id c ih=>
  intro b h;simp only[aD,bz] at h;obtain⟨p,h1,rfl⟩:=h;simp only[gL,ih h1]
 |loop c ih=>
  intro b h;simp only[aD,bz] at h;obtain⟨p,h1,rfl⟩:=h;simp only[gL,ih h1]
 |region id ops d=>
  intro b h;unfold aD at h;split at h
  ·rename_i l hl
   cases d with
   |false=>
    simp only[ar] at h;subst h;simp only[gL,NP hl]
   |true=>
    dsimp only at h;split at h
    ·rename_i n t U ht;split at h
     ·simp only[ar] at h;subst h;simp only[gL,NP hl,ht]
     ·cases h
    ·cases h
  ·cases h
 |_=>intro b h;simp[aD] at h
end
def aT (P:Program)(a:aF)(_:Nat)(ts:aI)(c:Code):aA:=gL P a ts c
theorem aV {P:Program}{a:aF}{n:Nat}{ts:aI}{c:Code}{b:aA}(hb:aT P a n ts c=b)(h:(aD P a n ts c).isSome=true):aD P a n ts c=some b:=by
 cases hx:aD P a n ts c with
 |none=>rw[hx] at h;cases h
 |some _=>rw[<-hb,<-Zw hx];rfl
section
variable {P:Program} {a:aF} {N:Nat} {ts:aI} {ops:Array Oper}
theorem evS {x y:Code}{p q:aA}(h1:gL P a ts x=p)(h2:gL P a ts y=q):gL P a ts (.seq x y)=.seq p q:=by subst h1 h2;rfl
theorem jx {id:Nat}{x:Code}{p:aA}(h1:gL P a ts x=p):gL P a ts (.block id x)=.block id p:=by subst h1;rfl
theorem evL {x:Code}{p:aA}(h1:gL P a ts x=p):gL P a ts (.loop x)=.loop p:=by subst h1;rfl
theorem evC {t:Operand}{u:aw}{x y:Code}{p q:aA}(h1:gL P a ts x=p)(h2:gL P a ts y=q)(h0:dh t=some u:=by rfl):gL P a ts (.cond t x y)=.cond u p q:=by subst h1 h2;simp only[gL,h0]
theorem bG {Q:dQ->St->Prop}{st:St}{c:Code}{x b:aA}(tr:aD P a N ts c=some x)(k:aC (lift P b) Q st)(h:gL P a ts c=b:=by first|(cbv;done)|(repeat' (first|apply evS|apply jx|apply evL|apply evC|(cbv;done)))):aC (lift P x) Q st:=by rw[<-Zw tr,h];exact k
end
end Ab
end Go.Proofs.YtlnghiefahcnpaaGreat
