import Derived.Test.YtkanpepkdcmpmaaGreatDoorW0
set_option maxHeartbeats 40000000
set_option maxRecDepth 100000
set_option linter.all false
namespace Go.Proofs.YtkanpepkdcmpmaaGreatDoor
namespace mQ
theorem atF:sources.all (fun s=>match build s with |some p=>decide (verify p=0)|none=>false)=true:=by decide+kernel
end mQ
namespace aD
open mQ
variable {a:gA} {answers names st:List Int} {d:jT} {drift nodes self:Int} {handler k fM:Nat} {o:eW} {p:Prog} {ps:List Prog}
abbrev tU:=List (Option (Nat×Nat))
variable {gW:tU}
def Lo (p:Prog)(gW:tU)(i:Nat):Bool:=
 match gW.getD i none with
 |none=>true
 |some (d,k)=>
  WC p (p.code.getD i (0,0)) && decide (fh (p.opAt i)<=d) &&
  (qB p i).all (fun t=>decide (0<=t) && decide (gW.getD t.toNat none=some ((d-fh (p.opAt i)+kA (p.opAt i)).toNat,if p.opAt i=5 then k+1 else k))) && decide (k<=1)
def agO (p:Prog)(gW:tU)(e:Int):Bool:=
 decide (gW.length=p.code.length) && (decide (e<0)||decide (gW.getD e.toNat none=some (0,0))) && (List.range p.code.length).all (Lo p gW)
def atG (v:Nat×Nat)(l:tU)(t:Int):tU:=match l.getD t.toNat none with
 |none=>l.set t.toNat (some v)
 |some _=>l
def atH (p:Prog)(l:tU)(i:Nat):tU:=match l.getD i none with
 |none=>l
 |some (d,k)=>(qB p i).foldl (atG ((d-fh (p.opAt i)+kA (p.opAt i)).toNat,if p.opAt i=5 then k+1 else k)) l
def agP (p:Prog)(l:tU):tU:=(List.range p.code.length).foldl (atH p) l
def agQ (p:Prog):Nat->tU->tU
 |0,l=>l
 |f+1,l=>if agP p l=l then l else agQ p f (agP p l)
def agR (p:Prog)(e:Int):tU:=agQ p p.code.length ((List.replicate p.code.length none).set e.toNat (if e<0 then none else some (0,0)))
def rp (p:Prog):Bool:=
 decide (p.entry.length=40) && p.entry.all (fun e=>agO p (agR p e) e) && decide (0<=p.dK) && decide (0<=p.jN) && decide (p.dK+p.jN<=16) && decide (p.code.length<=400)
theorem atJ:sources.all (fun s=>match build s with |some p=>rp p|none=>false)=true:=by decide+kernel
theorem vF{n:Int}:bD n=true↔-2147483647<=n/\n<=2147483647:=by simp[bD]
theorem atK(n:Int):bD (tH n)=true:=by
 rw[vF];unfold tH;omega
theorem agS(b:Bool):bD (zV b)=true:=by cases b<;>decide
theorem atL(op y x:Int):bD (Ca op y x)=true:=by
 unfold Ca
 repeat' split
 all_goals first|exact atK _|exact agS _|decide
def SZ (p:Prog)(nodes:Int)(a:gA):Prop:=
 (a.kind=1/\0<=a.a/\a.a<p.dK/\bD a.b=true)\/a.kind=2\/
 (a.kind=3/\0<=a.a/\a.a<nodes/\0<=a.b/\a.b<=29/\bD a.c=true/\bD a.d=true)\/
 ((a.kind=4\/a.kind=5)/\0<=a.a/\a.a<=7)\/(a.kind=6/\bD a.b=true)\/(a.kind=7/\bD a.a=true)
structure vG (p:Prog)(nv:Nat)(nodes:Int)(o:eW):Prop where
 len:o.vars.length=nv
 vars:∀x∈o.vars,bD x=true
 acts:∀a∈o.acts,SZ p nodes a
 Lp:o.acts.length<=o.steps
 asked:∀k∈o.asked,2<=k/\k<=4
 tV:o.covered.length<=o.steps
 aE:∀k∈o.covered,0<=k/\k<p.code.length
theorem vG.act{nv:Nat}(h:vG p nv nodes o)(ha:SZ p nodes a)(hn:o.acts.length+1<=o.steps):vG p nv nodes (o.act a):=
 ⟨h.len,h.vars,fun b hb=>by
  rcases fU.1 hb with hb|hb
  ·exact h.acts b hb
  ·simp at hb;subst hb;exact ha,by simp[eW.act];exact hn,h.asked,h.tV,h.aE⟩
theorem YN(l:List Int)(n:Int):(ot l n).length<=l.length+1:=by
 unfold ot;split
 ·omega
 ·have:=aF List.length (Kd (p:=fun x=>decide (x<n)) (l:=l));rw[List.length_append] at this;rw[List.length_append,List.length_cons];omega
theorem atM{l:List Int}{n x:Int}(h:x∈ot l n):x∈l\/x=n:=by
 unfold ot at h;split at h
 ·exact .inl h
 ·rcases fU.1 h with h|h
  ·exact .inl (List.takeWhile_sublist _|>.mem h)
  ·rcases cA.1 h with h|h
   ·exact .inr h
   ·exact .inl (List.dropWhile_sublist _|>.mem h)
def AL (p:Prog)(gW:tU)(nv:Nat)(nodes:Int)(s:Nat):Option zW->Prop
 |none=>False
 |some (.stop o)=>vG p nv nodes o/\o.asked.length<=1/\o.steps=s
 |some (.go o st pc)=>vG p nv nodes o/\o.steps=s/\0<=pc/\(∃k,gW.getD pc.toNat none=some (st.length,k)/\o.asked.length<=k)/\∀x∈st,bD x=true
theorem atN(l:List Int)(i:Nat)(k:Int)(h:2<=k/\k<=4):bD (uO l i k)=true:=by
 rw[vF];unfold uO;split
 ·omega
 ·rename_i a _;have h1:=Int.tmod_lt_of_pos (a.tmod k+k) (by omega:0<k)
  have h2: -k<(a.tmod k+k).tmod k:=by
   have:=Int.lt_tmod_of_pos (a.tmod k+k) (by omega:0<k);omega
  omega
theorem atO{nv:Nat}(rq:names.length=9)(dZ:∀x∈names,bD x=true)(cK:names.getD 1 0=nodes)
  {i:Nat} {op n:Int} (hc:p.code[i]? =some (op,n)) {d:Nat} (tW:gW.getD i none=some (d,k)) (cB:Lo p gW i=true) (hd:d=st.length)
  (hk:o.asked.length<=k) (hv:vG p nv nodes o) (Cw:o.acts.length+1<=o.steps) (hst:∀x∈st,bD x=true) (OC:p.dK+p.jN=nv):
  AL p gW nv nodes o.steps (kE p.dK names answers op n o st ((i:Int)+1)):=by
 have EI:p.code.getD i (0,0)=(op,n):=by simp[List.getD,hc]
 have hop:p.opAt i=op:=by unfold Prog.opAt;rw[EI]
 unfold Lo at cB;rw[tW] at cB;simp only[hop,EI,bZ,dv,fE] at cB;obtain⟨⟨⟨h1,h2⟩,h3⟩,h4⟩:=cB;subst hd;have EJ:((i:Int)+1).toNat=i+1:=ab
 have nx:op≠23->op≠15->gW.getD (i+1) none=some (((st.length:Int)-fh op+kA op).toNat,if op=5 then k+1 else k):=by
  intro a b;have:=h3 ((i:Int)+1) (by unfold qB;simp only[EI];rw[af a,af b];split<;>simp);rw[EJ] at this;exact this.2
 have go:∀(o':eW) (st':List Int),vG p nv nodes o'->o'.steps=o.steps->op≠23->op≠15->((st.length:Int)-fh op+kA op).toNat=st'.length->(o'.asked.length<=if op=5 then k+1 else k)->(∀x∈st',bD x=true)->
   AL p gW nv nodes o.steps (some (.go o' st' ((i:Int)+1))):=by
  intro o' st' a b c e f g h;exact⟨a,b,ab,⟨_,by rw[EJ,nx c e,f],g⟩,h⟩
 have cY:∀{x:Int} {r:List Int},(∀y∈x::r,bD y=true)->bD x=true/\∀y∈r,bD y=true:=fun h=>⟨h _ ai,fun y hy=>h y (by simp[hy])⟩
 have EK:∀{x:Int} {r:List Int},bD x=true->(∀y∈r,bD y=true)->∀y∈x::r,bD y=true:=fun h h' y hy=>by
  rcases cA.1 hy with rfl|hy
  ·exact h
  ·exact h' y hy
 unfold WC at h1;by_cases o1:op=1
 ·subst o1
  have hn:bD n=true:=by rw[vF];simpa using h1
  exact go _ _ hv rfl au au (by simp[fh,kA]) (by simpa using hk) (EK hn hst)
 by_cases o2:op=2
 ·subst o2;simp[fh] at h1
  have hlt:n.toNat<o.vars.length:=by have:=hv.len;omega
  have hx:o.vars[n.toNat]? =some o.vars[n.toNat]:=by simp[hlt]
  show AL p gW nv nodes o.steps (if n<0 then none else o.vars[n.toNat]?.map fun v=> .go o (v::st) ((i:Int)+1))
  rw[af ab,hx];exact go _ _ hv rfl au au (by simp[fh,kA]) (by simpa using hk) (EK (hv.vars _ (bW hlt)) hst)
 by_cases o4:op=4
 ·subst o4;simp[fh] at h1;have hlt:n.toNat<names.length:=ab
  have hx:names[n.toNat]? =some names[n.toNat]:=by simp[hlt]
  show AL p gW nv nodes o.steps (if n<0 then none else names[n.toNat]?.map fun v=> .go o (v::st) ((i:Int)+1))
  rw[af ab,hx];exact go _ _ hv rfl au au (by simp[fh,kA]) (by simpa using hk) (EK (dZ _ (bW hlt)) hst)
 by_cases o3:op=3
 ·subst o3;simp[fh] at h1 h2
  obtain _|⟨x,r⟩:=st
  ·simp at h2
  obtain⟨hx,hr⟩:=cY hst
  have hlt:n.toNat<o.vars.length:=by have:=hv.len;omega
  show AL p gW nv nodes o.steps (if n<0\/(o.vars.length:Int)<=n then none else some (.go { o with vars:=o.vars.set n.toNat x,acts:=if n<p.dK then o.acts++[⟨1,n,x,0,0⟩] else o.acts } r ((i:Int)+1)))
  rw[af ab];refine go _ _ ⟨by simp[hv.len],fun y hy=> ?_,fun a ha=> ?_,?_,hv.asked,hv.tV,hv.aE⟩ rfl au au (by simp[fh,kA]<;>omega) (by simpa using hk) hr
  ·rcases BJ hy with hy|rfl
   ·exact hv.vars y hy
   ·exact hx
  ·by_cases eK:n<p.dK
   ·simp only[aj eK] at ha
    rcases fU.1 ha with ha|ha
    ·exact hv.acts a ha
    ·simp at ha;subst ha;exact .inl ⟨rfl,(by omega:0<=n),eK,hx⟩
   ·simp only[af eK] at ha;exact hv.acts a ha
  ·by_cases eK:n<p.dK
   ·simp only[aj eK];simpa using Cw
   ·simp only[af eK];omega
 by_cases o5:op=5
 ·subst o5;simp[fh] at h1 h2
  obtain _|⟨x,r⟩:=st
  ·simp at h2
  obtain⟨hx,hr⟩:=cY hst
  show AL p gW nv nodes o.steps (if 1<max 1 (min x 4) then some (.go { o with asked:=o.asked++[max 1 (min x 4)] } (uO answers o.asked.length (max 1 (min x 4))::r) ((i:Int)+1)) else some (.go o (0::r) ((i:Int)+1)))
  split
  ·rename_i h;refine go _ _ ⟨hv.len,hv.vars,hv.acts,by simpa using hv.Lp,fun y hy=> ?_,hv.tV,hv.aE⟩ rfl au au (by simp[fh,kA]) bz (EK (atN _ _ _ ab) hr)
   rcases fU.1 hy with hy|hy
   ·exact hv.asked y hy
   ·simp only[oK] at hy;subst hy;omega
  ·exact go _ _ hv rfl au au (by simp[fh,kA]) bz (EK au hr)
 by_cases o6:op=6\/op=7\/op=8\/op=9\/op=11\/op=12\/op=13
 ·have hp:fh op=2/\kA op=1/\op≠23/\op≠15/\op≠5:=by rcases o6 with rfl|rfl|rfl|rfl|rfl|rfl|rfl<;>decide
  rw[hp.1] at h2
  obtain _|⟨x,_|⟨y,r⟩⟩:=st
  ·simp at h2
  ·simp at h2
  obtain⟨hx,hr⟩:=cY hst;obtain⟨hy,hr⟩:=cY hr;unfold kE;rw[af o1,af o2,af o4,af o3,af o5,aj o6];simp only[hx,hy,Bool.and_self,nE];exact go _ _ hv rfl hp.2.2.1 hp.2.2.2.1 (by rw[hp.1,hp.2.1];simp;omega) (by rw[af hp.2.2.2.2];exact hk) (EK (atL _ _ _) hr)
 by_cases o10:op=10
 ·subst o10;simp[fh] at h2
  obtain _|⟨x,r⟩:=st
  ·simp at h2
  obtain⟨hx,hr⟩:=cY hst
  show AL p gW nv nodes o.steps (if bD x then some (.go o (-x::r) ((i:Int)+1)) else none)
  rw[aj hx];refine go _ _ hv rfl au au (by simp[fh,kA]) (by simpa using hk) (EK ?_ hr);rw[vF] at hx⊢;omega
 by_cases o14:op=14
 ·subst o14;simp[fh] at h2
  obtain _|⟨x,r⟩:=st
  ·simp at h2
  obtain⟨hx,hr⟩:=cY hst;exact go _ _ hv rfl au au (by simp[fh,kA]) (by simpa using hk) (EK (agS _) hr)
 by_cases o15:op=15
 ·subst o15;have h5:=h3 n (by unfold qB;simp only[EI];simp);exact⟨hv,rfl,h5.1,⟨_,by rw[h5.2];simp[fh,kA];rfl,by simpa using hk⟩,hst⟩
 by_cases o16:op=16
 ·subst o16;simp[fh] at h2
  obtain _|⟨x,r⟩:=st
  ·simp at h2
  obtain⟨hx,hr⟩:=cY hst
  show AL p gW nv nodes o.steps (some (.go o r (if x=0 then n else(i:Int)+1)))
  split
  ·have h5:=h3 n (by unfold qB;simp only[EI];simp);exact⟨hv,rfl,h5.1,⟨_,by rw[h5.2];simp[fh,kA];rfl,by simpa using hk⟩,hr⟩
  ·exact go _ _ hv rfl au au (by simp[fh,kA]) (by simpa using hk) hr
 by_cases o17:op=17
 ·subst o17;simp[fh] at h1 h2
  obtain _|⟨x,_|⟨y,_|⟨t,r⟩⟩⟩:=st
  ·simp at h2
  ·simp at h2
  ·simp at h2
  obtain⟨hx,hr⟩:=cY hst;obtain⟨hy,hr⟩:=cY hr;obtain⟨ht,hr⟩:=cY hr
  show AL p gW nv nodes o.steps (some (.go (if 0<=t/\t<names.getD 1 0/\nH o.acts<20 then o.act ⟨3,t,n,y,x⟩ else o) r ((i:Int)+1)))
  split
  ·rename_i h;rw[cK] at h;exact go _ _ (hv.act (.inr (.inr (.inl ⟨rfl,h.1,h.2.1,(by omega:0<=n),(by omega:n<=29),hy,hx⟩))) Cw) rfl au au (by simp[fh,kA];omega) (by simpa [eW.act] using hk) hr
  ·exact go _ _ hv rfl au au (by simp[fh,kA];omega) (by simpa using hk) hr
 by_cases o18:op=18
 ·subst o18;simp[fh] at h1;exact go _ _ (hv.act (.inr (.inr (.inr (.inl ⟨.inl rfl,(by omega:0<=n),(by omega:n<=7)⟩)))) Cw) rfl au au (by simp[fh,kA]) (by simpa [eW.act] using hk) hst
 by_cases o19:op=19
 ·subst o19;simp[fh] at h1;exact go _ _ (hv.act (.inr (.inr (.inr (.inl ⟨.inr rfl,(by omega:0<=n),(by omega:n<=7)⟩)))) Cw) rfl au au (by simp[fh,kA]) (by simpa [eW.act] using hk) hst
 by_cases o20:op=20
 ·subst o20;exact go _ _ (hv.act (.inr (.inl rfl)) Cw) rfl au au (by simp[fh,kA]) (by simpa [eW.act] using hk) hst
 by_cases o21:op=21
 ·subst o21;simp[fh] at h2
  obtain _|⟨x,_|⟨y,r⟩⟩:=st
  ·simp at h2
  ·simp at h2
  obtain⟨hx,hr⟩:=cY hst;obtain⟨hy,hr⟩:=cY hr;exact go _ _ (hv.act (.inr (.inr (.inr (.inr (.inl ⟨rfl,hx⟩))))) Cw) rfl au au (by simp[fh,kA];omega) (by simpa [eW.act] using hk) hr
 by_cases o22:op=22
 ·subst o22;simp[fh] at h2
  obtain _|⟨x,r⟩:=st
  ·simp at h2
  obtain⟨hx,hr⟩:=cY hst;exact go _ _ (hv.act (.inr (.inr (.inr (.inr (.inr ⟨rfl,hx⟩))))) Cw) rfl au au (by simp[fh,kA]) (by simpa [eW.act] using hk) hr
 unfold kE;rw[af o1,af o2,af o4,af o3,af o5,af o6,af o10,af o14,af o15,af o16,af o17,af o18,af o19,af o20,af o21,af o22];exact⟨hv,ab,rfl⟩
theorem atP{nv:Nat}(rq:names.length=9)(dZ:∀x∈names,bD x=true)(cK:names.getD 1 0=nodes)
  (cT:gW.length=p.code.length) (cB:∀i<p.code.length,Lo p gW i=true) {pc:Int} (h0:0<=pc) (tW:gW.getD pc.toNat none=some (st.length,k))
  (hk:o.asked.length<=k) (hv:vG p nv nodes o) (hst:∀x∈st,bD x=true) (OC:p.dK+p.jN=nv):
  AL p gW nv nodes (o.steps+1) (sj p names answers o st pc):=by
 have hlt:pc.toNat<p.code.length:=by
  apply Decidable.byContradiction;intro h;rw[fC,qx ab] at tW;cases tW
 have hc:p.code[pc.toNat]? =some p.code[pc.toNat]:=by simp[hlt]
 unfold sj;rw[af ab,hc];generalize p.code[pc.toNat]=x at hc;obtain⟨op,n⟩:=x;have EJ:pc=(pc.toNat:Int):=ab
 have:=atO (o:={ o with covered:=ot o.covered pc,steps:=o.steps+1 }) (answers:=answers) rq dZ cK hc tW (cB _ hlt) rfl hk
  ⟨hv.len,hv.vars,hv.acts,rY hv.Lp,hv.asked,bm (YN _ _) (Nat.succ_le_succ hv.tV),fun x hx=>by
   rcases atM hx with hx|rfl
   ·exact hv.aE x hx
   ·omega⟩ (Nat.succ_le_succ hv.Lp) hst OC
 rw[<-EJ] at this;exact this
theorem agT {p:Prog}{gW:tU}{nv:Nat}{nodes:Int}{names answers:List Int}(rq:names.length=9)(dZ:∀x∈names,bD x=true)(cK:names.getD 1 0=nodes)
  (cT:gW.length=p.code.length) (cB:∀i<p.code.length,Lo p gW i=true) (ej:∀x∈gW,∀d k,x=some (d,k)->k<=1) (OC:p.dK+p.jN=nv):
  ∀(f:Nat) (o:eW) (st:List Int) (pc:Int) (k:Nat),0<=pc->gW.getD pc.toNat none=some (st.length,k)->o.asked.length<=k->vG p nv nodes o->(∀x∈st,bD x=true)->
   ∃o',qE p names answers f o st pc=some o'/\vG p nv nodes o'/\o'.asked.length<=1/\o'.steps<=o.steps+f
 |0,o,st,pc,k,h0,tW,hk,hv,hst=>by
  refine⟨_,rfl,⟨hv.len,hv.vars,hv.acts,hv.Lp,hv.asked,hv.tV,hv.aE⟩,?_,cP _⟩
  have hm:gW.getD pc.toNat none∈gW:=by
   rw[fC] at tW⊢
   cases h:gW[pc.toNat]? with
   |none=>rw[h] at tW;cases tW
   |some x=>exact eI h
  have:=ej _ hm _ _ tW
  show o.asked.length<=1
  omega
 |f+1,o,st,pc,k,h0,tW,hk,hv,hst=>by
  have h:=atP (answers:=answers) rq dZ cK cT cB h0 tW hk hv hst OC;unfold qE;generalize sj p names answers o st pc=r at h⊢
  match r,h with
  |some (.stop o'),h=>exact⟨o',rfl,h.1,h.2.1,by have:=h.2.2;omega⟩
  |some (.go o' st' Ip),⟨a,b,c,⟨k',e,g⟩,m⟩=>
   obtain⟨o2,h1,h2,h3,h4⟩:=agT rq dZ cK cT cB ej OC f o' st' Ip k' c e g a m;exact⟨o2,h1,h2,h3,ab⟩
theorem YO(hs:rp p=true)(hh:handler<40){vars:List Int}(uZ:(vars.length:Int)=p.dK+p.jN)(Ta:∀x∈vars,bD x=true)
  (rq:names.length=9) (dZ:∀x∈names,bD x=true):
  ∃o,yj p handler vars names answers=some o/\vG p vars.length (names.getD 1 0) o/\o.asked.length<=1/\o.steps<=500:=by
 unfold rp at hs;simp only[bZ,dv,fE] at hs;obtain⟨⟨⟨⟨⟨h1,h2⟩,h3⟩,h4⟩,h5⟩,h6⟩:=hs;have hlt:handler<p.entry.length:=ab;unfold yj
 have he:p.entry[handler]? =some p.entry[handler]:=by simp[hlt]
 have hl:=h2 _ (bW hlt);rw[he];generalize p.entry[handler]=e at hl he
 have h0:vG p vars.length (names.getD 1 0) ⟨vars,[],0,false,[],[]⟩:=⟨rfl,Ta,fun a ha=>by simp at ha,ai,fun a ha=>by simp at ha,ai,fun a ha=>by simp at ha⟩
 by_cases ru:e<0
 ·exact⟨⟨vars,[],0,false,[],[]⟩,by simp[ru],h0,ai,ai⟩
 ·unfold agO at hl;simp only[bZ,uM,dv,fE,gG] at hl;obtain⟨⟨g1,g2⟩,g3⟩:=hl;have tW:=g2.resolve_left ru
  have ej:∀x∈agR p e,∀d k,x=some (d,k)->k<=1:=by
   intro x hx d k lW;obtain⟨i,hi,rfl⟩:=List.getElem_of_mem hx;have:=g3 i ab;unfold Lo at this;rw[fC,cz hi,BQ,lW] at this;simp only[bZ,dv] at this;exact this.2
  obtain⟨o,a,b,c,d⟩:=agT (answers:=answers) rq dZ rfl g1 g3 ej uZ.symm 500 _ [] e 0 ab tW ai h0 ai;refine⟨o,?_,b,c,by simpa using d⟩;simp[ru,a]
structure pd (n:Nat)(d:jT):Prop where
 len:d.cells.length=n
 cells:∀x∈d.cells,bD x=true
 OD:∀x∈d.pending,0<=x.1/\x.1<n/\bD x.2=true
 mI:d.pending.length<=4
theorem Tb {n:Nat}:∀(l:List (Int×Int)) (c:List Int),c.length=n->(∀x∈c,bD x=true)->(∀x∈l,0<=x.1/\x.1<n/\bD x.2=true)->∃c',kF c l=some c'/\c'.length=n/\∀x∈c',bD x=true
 |[],c,hc,hi,_=>⟨c,rfl,hc,hi⟩
 |(i,v)::l,c,hc,hi,h=>by
  have h0:=h (i,v) ai;simp only at h0;unfold kF;rw[aj ⟨h0.1,by rw[hc];exact h0.2.1⟩];refine Tb l _ (by simpa using hc) (fun x hx=> ?_) (fun x hx=>h x (by simp[hx]))
  rcases BJ hx with hx|rfl
  ·exact hi x hx
  ·exact h0.2.2
theorem YP{n:Nat}(h:pd n d):∃c,wU d=some c/\c.length=n/\∀x∈c,bD x=true:=Tb _ _ h.len h.cells h.OD
theorem atS{n:Nat}(h:pd n d){cell v:Int}(hv:bD v=true):∃d',yk d cell v=some d'/\pd n d':=by
 unfold yk;have hl:=h.len;split
 ·exact⟨d,rfl,h⟩
 ·rename_i h1
  have hp:∀x∈d.pending++[(cell,v)],0<=x.1/\x.1<n/\bD x.2=true:=by
   intro x hx
   rcases fU.1 hx with hx|hx
   ·exact h.OD x hx
   ·simp only[oK] at hx;subst hx;exact⟨by show 0<=cell;omega,by show cell<n;omega,hv⟩
  split
  ·rename_i h2;obtain⟨c,a,b,e⟩:=Tb ((d.pending++[(cell,v)]).take 1) d.cells hl h.cells (fun x hx=>hp x (tC hx));exact⟨_,by rw[a];rfl,⟨b,e,fun x hx=>hp x (DG hx),by have:=h.mI;simp;omega⟩⟩
  ·rename_i h2;exact⟨_,rfl,⟨hl,h.cells,hp,by simpa using h2⟩⟩
theorem atT{n:Nat}(h:pd n d):∃d',zX d=some d'/\pd n d':=by
 obtain⟨c,a,b,e⟩:=YP h;exact⟨⟨c,[]⟩,by unfold zX;rw[a];rfl,⟨b,e,fun x hx=>by simp at hx,ai⟩⟩
theorem YQ:∀{l:List (Int×Int)} {m:List Bool} {x:Int×Int},x∈jy l m->x∈l
 |[],m,x,h=>by simp[jy] at h
 |y::l,[],x,h=>by simp[jy] at h
 |y::l,k::m,x,h=>by
  unfold jy at h;split at h
  ·rcases cA.1 h with rfl|h
   ·simp
   ·exact lF _ (YQ h)
  ·exact lF _ (YQ h)
theorem atU{n:Nat}(h:pd n d)(keep:List Bool):∃d',Cb d keep=some d'/\pd n d':=by
 obtain⟨c,a,b,e⟩:=Tb (jy d.pending keep) d.cells h.len h.cells (fun x hx=>h.OD x (YQ hx));exact⟨⟨c,[]⟩,by unfold Cb;rw[a];rfl,⟨b,e,fun x hx=>by simp at hx,ai⟩⟩
theorem YR{n:Nat}(h:pd n d)(m:Nat):∃d',wV d m=some d'/\pd m d':=by
 obtain⟨c,a,b,e⟩:=YP h;refine⟨_,by unfold wV;rw[a];rfl,⟨by simp;omega,fun x hx=> ?_,fun x hx=>by simp at hx,ai⟩⟩;have:=tC hx
 rcases fU.1 this with h1|h1
 ·exact e x h1
 ·rw[Gk h1];decide
structure ko (ps:List Prog)(fM k:Nat)(s:Node):Prop where
 nc:s.counts.length=41
 counts:∀x∈s.counts,0<=x/\x<=k
 fo:0<=s.fo/\s.fo<=k
 clock:0<=s.clock/\s.clock<=5*k
 version: -1<=s.version/\s.version<ps.length
 aY:pd s.aY.cells.length s.aY
 sL:s.aY.cells.length<=16
 fJ:∀x∈s.fJ,bD x=true
 AM:s.fJ.length<=16
 timers:∀t∈s.timers,0<=t/\t<=7
 vH:s.timers.length<=8
 waiting: -1<=s.waiting/\s.waiting<fM
 dropped:0<=s.dropped/\s.dropped<=k
 ed:0<=s.ed/\s.ed<=k
 run:s.up=true->0<=s.version/\∀p,ps[s.version.toNat]? =some p->(s.aY.cells.length:Int)=p.dK/\(s.fJ.length:Int)=p.jN
theorem ko.more{s:Node}(h:ko ps fM k s):ko ps fM (k+1) s:=
 { h with counts:=fun x hx=>by have:=h.counts x hx;omega,fo:=by have:=h.fo;omega,clock:=by have:=h.clock;omega,dropped:=by have:=h.dropped;omega,ed:=by have:=h.ed;omega }
theorem atV(ps:List Prog)(fM k:Nat):ko ps fM k lO:=
 ⟨by simp[lO],fun x hx=>by rw[Gk hx];omega,by simp[lO],by simp[lO];omega,by simp[lO];omega,⟨rfl,fun x hx=>by simp[lO] at hx,fun x hx=>by simp[lO] at hx,by simp[lO]⟩,by simp[lO],
  fun x hx=>by simp[lO] at hx,by simp[lO],fun x hx=>by simp[lO] at hx,by simp[lO],by simp[lO];omega,by simp[lO],by simp[lO],fun h=>by simp[lO] at h⟩
theorem Tc{s:Node}(h:ko ps fM k s):∃l,zY s=some l/\l.length=s.aY.cells.length+s.fJ.length/\∀x∈l,bD x=true:=by
 obtain⟨c,a,b,e⟩:=YP h.aY;refine⟨c++s.fJ,by unfold zY;rw[a];rfl,by simp[b],fun x hx=> ?_⟩
 rcases fU.1 hx with hx|hx
 ·exact e x hx
 ·exact h.fJ x hx
theorem agU(l:List Int)(k:Int)(b:Bool):(∀t∈zZ l k b,0<=t/\t<=7)/\(zZ l k b).length<=8:=by
 unfold zZ;refine⟨fun t ht=> ?_,bm (oc _ _) ai⟩;have:=(nD.1 ht).1;rw[dp] at this;obtain⟨i,hi,rfl⟩:=this;rw[gG] at hi;simp;omega
theorem Iq(l:List aL)(q:Qn){k:Int}(h:0<k):0<=gB l q k/\gB l q k<k:=⟨Int.tmod_nonneg _ (apo _ _),Int.tmod_lt_of_pos _ h⟩
def OE (c:aU)(a:Ask):Prop:=a.node=c.node/\a.handler=c.handler/\a.count=c.count/\(1<=a.kind/\a.kind<=3)/\(0<=a.index/\a.index<=500)/\(2<=a.arity/\a.arity<=4)/\0<=a.n/\a.n<a.arity
structure tX (ps:List Prog)(fM k:Nat)(nodes:Int)(c:aU)(xn:Int)(r:Rr):Prop where
 s:ko ps fM k r.s
 asks:∀a∈r.asks,OE c a
 Cx:r.asks.length<=4
 sent:∀e∈r.sent,e.msg.node=c.node/\e.msg.handler=c.handler/\e.msg.count=c.count/\(0<=e.msg.index/\e.msg.index<=500)/\e.msg.copy=0/\(0<=e.kW/\e.kW<nodes)/\(0<=e.kind/\e.kind<=29)/\bD e.a=true/\bD e.b=true
 value:bD r.value=true
 bH:∀x∈r.bH,bD x=true
 gJ:r.gJ=c
 aE:∀x∈r.covered,0<=x/\x<400
 tV:r.covered.length<=500
 version:r.s.version=xn
 OG:r.out.asked.length<=1
theorem atW{c:aU}{xn:Int}{r:Rr}(h:tX ps fM k nodes c xn r)(ha:SZ p nodes a){m:Nat}(hm:r.sent.length<=m/\r.bH.length<=m)(hm5:m<500):
  ∃r',uQ r a=some r'/\tX ps fM k nodes c xn r'/\r'.sent.length<=m+1/\r'.bH.length<=m+1:=by
 unfold uQ;by_cases k1:a.kind=1
 ·rw[aj k1]
  have hb:bD a.b=true:=by
   rcases ha with ha|ha|ha|ha|ha|ha
   ·exact ha.2.2.2
   all_goals omega
  obtain⟨d,e,f⟩:=atS h.s.aY (cell:=a.a) hb;rw[e];have hl:d.cells.length=r.s.aY.cells.length:=f.len;exact⟨_,rfl,{ h with s:={ h.s with aY:=by show pd d.cells.length d;rw[hl];exact f,sL:=by show d.cells.length<=16;rw[hl];exact h.s.sL,run:=fun hu=>⟨(h.s.run hu).1,fun p hp=>by show(d.cells.length:Int)=_/\_;rw[hl];exact(h.s.run hu).2 p hp⟩ } },by show r.sent.length<=_;omega,by show r.bH.length<=_;omega⟩
 rw[af k1];by_cases k2:a.kind=2
 ·rw[aj k2];obtain⟨d,e,f⟩:=atT h.s.aY;rw[e];have hl:d.cells.length=r.s.aY.cells.length:=f.len;exact⟨_,rfl,{ h with s:={ h.s with aY:=by show pd d.cells.length d;rw[hl];exact f,sL:=by show d.cells.length<=16;rw[hl];exact h.s.sL,run:=fun hu=>⟨(h.s.run hu).1,fun p hp=>by show(d.cells.length:Int)=_/\_;rw[hl];exact(h.s.run hu).2 p hp⟩ } },by show r.sent.length<=_;omega,by show r.bH.length<=_;omega⟩
 rw[af k2];by_cases k4:a.kind=4
 ·rw[aj k4];have ht:=agU r.s.timers a.a true;exact⟨_,rfl,{ h with s:={ h.s with timers:=ht.1,vH:=ht.2 } },by show r.sent.length<=_;omega,by show r.bH.length<=_;omega⟩
 rw[af k4];by_cases k5:a.kind=5
 ·rw[aj k5];have ht:=agU r.s.timers a.a false;exact⟨_,rfl,{ h with s:={ h.s with timers:=ht.1,vH:=ht.2 } },by show r.sent.length<=_;omega,by show r.bH.length<=_;omega⟩
 rw[af k5];by_cases k3:a.kind=3
 ·rw[aj k3]
  have h3:0<=a.a/\a.a<nodes/\0<=a.b/\a.b<=29/\bD a.c=true/\bD a.d=true:=by
   rcases ha with ha|ha|ha|ha|ha|ha
   ·omega
   ·omega
   ·exact ha.2
   all_goals omega
  refine⟨_,rfl,{ h with sent:=fun e he=> ?_ },by show(r.sent++[_]).length<=_;simp;omega,by show r.bH.length<=_;omega⟩
  rcases fU.1 he with he|he
  ·exact h.sent e he
  ·simp only[oK] at he;subst he;refine⟨by rw[h.gJ],by rw[h.gJ],by rw[h.gJ],⟨ai,?_⟩,rfl,⟨h3.1,h3.2.1⟩,⟨h3.2.2.1,h3.2.2.2.1⟩,h3.2.2.2.2.1,h3.2.2.2.2.2⟩
   show((r.sent.length:Nat):Int)<=500
   omega
 rw[af k3];by_cases k6:a.kind=6
 ·rw[aj k6]
  have hb:bD a.b=true:=by
   rcases ha with ha|ha|ha|ha|ha|ha
   ·omega
   ·omega
   ·omega
   ·omega
   ·exact ha.2
   ·omega
  split
  ·refine⟨_,rfl,{ h with s:={ h.s with waiting:=by show -1<=(-1:Int)/\(-1:Int)<fM;omega },value:=hb },by show r.sent.length<=_;omega,by show r.bH.length<=_;omega⟩
  ·exact⟨r,rfl,h,ab,ab⟩
 rw[af k6]
 have k7:a.kind=7/\bD a.a=true:=by
  rcases ha with ha|ha|ha|ha|ha|ha
  ·omega
  ·omega
  ·omega
  ·omega
  ·omega
  ·exact ha
 rw[aj k7.1];refine⟨_,rfl,{ h with bH:=fun x hx=> ?_ },by show r.sent.length<=_;omega,by show(r.bH++[_]).length<=_;simp;omega⟩
 rcases fU.1 hx with hx|hx
 ·exact h.bH x hx
 ·simp only[oK] at hx;subst hx;exact k7.2
theorem agV {ps:List Prog}{fM k:Nat}{nodes:Int}{c:aU}{xn:Int}{p:Prog}:∀(l:List gA) (r:Rr) (m:Nat),tX ps fM k nodes c xn r->(∀a∈l,SZ p nodes a)->r.sent.length<=m/\r.bH.length<=m->m+l.length<=500->
  ∃r',uR r l=some r'/\tX ps fM k nodes c xn r'/\r'.sent.length<=500/\r'.bH.length<=500
 |[],r,m,h,_,hm,hl=>⟨r,rfl,h,by simp at hl;omega,by simp at hl;omega⟩
 |a::l,r,m,h,ha,hm,hl=>by
  simp only[List.length_cons] at hl;obtain⟨r1,e,h1,h2,h3⟩:=atW h (ha a ai) hm ab;unfold uR;rw[e];exact agV l r1 (m+1) h1 (fun b hb=>ha b (by simp[hb])) ⟨h2,h3⟩ ab
theorem YS (l:List aL)(c:aU):∀(m:List Int) (i:Nat),(∀k∈m,2<=k/\k<=4)->i+m.length<=500->(∀a∈kG l c i m,OE c a)/\(kG l c i m).length=m.length
 |[],i,_,_=>⟨fun a ha=>by simp[kG] at ha,rfl⟩
 |k::m,i,h,hi=>by
  simp only[List.length_cons] at hi;obtain⟨h1,h2⟩:=YS l c m (i+1) (fun x hx=>h x (by simp[hx])) ab;have hk:=h k ai;have hn:=Iq l (c.qn 1 i) (show 0<k by omega);refine⟨fun a ha=> ?_,by simp[kG,h2]⟩;unfold kG at ha
  rcases cA.1 ha with rfl|ha
  ·exact⟨rfl,rfl,rfl,by simp[iw,aU.qn],by simp[iw,aU.qn];omega,hk,hn.1,hn.2⟩
  ·exact h1 a ha
theorem OH{s:Node}(h:ko ps fM k s)(hp:ps[s.version.toNat]? =some p)(hs:rp p=true)(gC:s.up=true)(hh:handler<40)
  (Cy:bD self=true) (AP:bD nodes=true) (ll:0<=drift/\drift<=3) (rq:names.length=9) (dZ:∀x∈names,bD x=true) (l:List aL) (hk:k<=5000):
  ∃r,pD s p handler self nodes drift names l=some r/\tX ps fM (k+1) nodes ⟨self,handler,s.counts.getD handler 0⟩ s.version r/\r.sent.length<=500/\r.bH.length<=500:=by
 have hlt:handler<s.counts.length:=by rw[h.nc];omega
 have hc:s.counts[handler]? =some (s.counts[handler]):=by simp[hlt]
 have dw:s.counts.getD handler 0=s.counts[handler]:=by rw[fC,hc];rfl
 have ox:=h.counts _ (bW hlt);unfold pD;rw[dw,hc];generalize s.counts[handler]=lr at hc dw ox;obtain⟨vars,ji,pQ,yP⟩:=Tc h
 obtain⟨n,hn,RO⟩:∃n:Int,n=(if 0<drift then gB l (aU.qn ⟨self,handler,lr⟩ 2 0) (drift+1) else 0)/\0<=n/\n<=drift:=by
  refine⟨_,rfl,?_⟩;split
  ·have:=Iq l (aU.qn ⟨self,handler,lr⟩ 2 0) (show 0<drift+1 by omega);omega
  ·omega
 simp only[ji,<-hn];have atX:=h.clock;have hr:=h.run gC;have eD:=hr.2 p hp
 have atY:∀x∈yl names self nodes (s.clock+1+n),bD x=true:=by
  intro x hx;unfold yl at hx
  rcases BJ hx with hx|rfl
  ·rcases BJ hx with hx|rfl
   ·rcases BJ hx with hx|rfl
    ·exact dZ x hx
    ·exact Cy
   ·exact AP
  ·rw[vF];omega
 have jF:(yl names self nodes (s.clock+1+n)).length=9:=by simp[yl,rq]
 have iY:(yl names self nodes (s.clock+1+n)).getD 1 0=nodes:=by
  unfold yl;rw[fC,uI ab,BL bz];rfl
 obtain⟨o,a1,a2,a3,a4⟩:=YO hs hh (vars:=vars) (names:=yl names self nodes (s.clock+1+n)) (answers:=uP l ⟨self,handler,lr⟩) (by rw[pQ];omega) yP jF atY;rw[a1];rw[iY] at a2;have Td:0<=p.dK:=ab;simp only;rw[aj ⟨Td,by rw[a2.len,pQ];omega⟩];have agW:=YS l ⟨self,handler,lr⟩ o.asked 0 a2.asked ab
 have AQ:(∀a∈(if 0<drift then [iw (aU.qn ⟨self,handler,lr⟩ 2 0) (drift+1) n] else []),OE ⟨self,handler,lr⟩ a)/\(if 0<drift then [iw (aU.qn ⟨self,handler,lr⟩ 2 0) (drift+1) n] else []).length<=1:=by
  split
  ·refine⟨fun a ha=> ?_,ai⟩;simp only[oK] at ha;subst ha;exact⟨rfl,rfl,rfl,by simp[iw,aU.qn],by simp[iw,aU.qn],by simp[iw];omega,RO.1,by simp[iw];omega⟩
  ·exact⟨fun a ha=>by simp at ha,ai⟩
 have agX:p.code.length<=400:=by
  unfold rp at hs;simp only[bZ,dv] at hs;exact hs.2
 refine agV (p:=p) o.acts _ 0 ?_ a2.acts ⟨ai,ai⟩ (by have:=a2.Lp;omega);refine⟨?_,fun a ha=> ?_,?_,fun e he=>by simp at he,by show bD 0=true;decide,fun x hx=>by simp at hx,rfl,fun x hx=> ?_,by have:=a2.tV;show o.covered.length<=500;omega,rfl,by show o.asked.length<=1;omega⟩
 ·have dE:=h.fo
  have uZ:((o.vars.drop p.dK.toNat).take 16).length=s.fJ.length:=by
   have:=a2.len;have:=h.AM;simp;omega
  refine⟨by simp[h.nc],fun x hx=> ?_,by have:=h.fo;show 0<=s.fo/\s.fo<=_;omega,by show 0<=s.clock+1+n/\s.clock+1+n<=_;omega,h.version,h.aY,h.sL,fun x hx=>a2.vars x (DG (tC hx)),?_,h.timers,h.vH,h.waiting,
   by have:=h.dropped;show 0<=s.dropped/\s.dropped<=_;omega,by have:=h.ed;show 0<=s.ed/\s.ed<=_;omega,fun _=>⟨hr.1,fun q hq=>⟨(hr.2 q hq).1,?_⟩⟩⟩
  ·rcases BJ hx with hx|rfl
   ·have:=h.counts x hx;omega
   ·omega
  ·show((o.vars.drop p.dK.toNat).take 16).length<=16
   rw[uZ];exact h.AM
  ·show((((o.vars.drop p.dK.toNat).take 16).length:Nat):Int)=q.jN
   rw[uZ];exact(hr.2 q hq).2
 ·rcases fU.1 ha with ha|ha
  ·exact AQ.1 a ha
  ·exact agW.1 a ha
 ·show(_++_:List Ask).length<=4
  rw[List.length_append,agW.2];have:=AQ.2;omega
 ·have:=a2.aE x hx;omega
theorem YT{s:Node}(h:ko ps fM k s){version:Int}(hv:0<=version/\version<ps.length)(hp:ps[version.toNat]? =some p)(hs:rp p=true)
  (Cy:bD self=true) (AP:bD nodes=true) (ll:0<=drift/\drift<=3) (l:List aL) (hk:k<=5000):
  ∃r,Cc s p version self nodes drift l=some r/\tX ps fM (k+1) nodes ⟨self,0,s.counts.getD 0 0⟩ version r/\r.sent.length<=500/\r.bH.length<=500:=by
 have dP:=hs;unfold rp at dP;simp only[bZ,dv] at dP;obtain⟨⟨⟨⟨⟨h1,h2⟩,h3⟩,h4⟩,h5⟩,h6⟩:=dP;unfold Cc;rw[af ab]
 have key:∃d,(if(s.aY.cells.length:Int)=p.dK then some s.aY else wV s.aY p.dK.toNat)=some d/\pd p.dK.toNat d:=by
  split
  ·rename_i he;refine⟨_,rfl,?_⟩;have:p.dK.toNat=s.aY.cells.length:=ab;rw[this];exact h.aY
  ·exact YR h.aY _
 obtain⟨d,e,f⟩:=key;rw[e];simp only;refine OH (s:={ s with version:=version,aY:=d,fJ:=List.replicate p.jN.toNat 0,timers:=[],waiting:= -1,up:=true }) ?_ hp hs rfl ab Cy AP ll ai (fun x hx=>by rw[Gk hx];decide) l hk;have hl:=f.len
 exact { h with
  version:=by show -1<=version/\version<_;omega
  aY:=by show pd d.cells.length d;rw[hl];exact f
  sL:=by show d.cells.length<=16;omega
  fJ:=fun x hx=>by rw[Gk hx];decide
  AM:=by show(List.replicate p.jN.toNat (0:Int)).length<=16;simp;omega
  timers:=fun t ht=>by simp at ht
  vH:=by show([]:List Int).length<=8;simp
  waiting:=by show -1<=(-1:Int)/\(-1:Int)<fM;omega
  run:=fun _=>⟨hv.1,fun q hq=>by
   have:q=p:=by rw[show ps[version.toNat]? =some q from hq] at hp;injection hp
   subst this
   show(d.cells.length:Int)=_/\((List.replicate q.jN.toNat (0:Int)).length:Int)=_
   simp
   omega⟩ }
theorem YU{s:Node}(h:ko ps fM k s)(self nodes:Int)(l:List aL):
  ∃r,su s self l=some r/\tX ps fM (k+1) nodes ⟨self,40,s.counts.getD 40 0⟩ s.version r/\r.sent.length<=500/\r.bH.length<=500:=by
 have hlt:40<s.counts.length:=by rw[h.nc];omega
 have hc:s.counts[40]? =some (s.counts[40]):=by simp[hlt]
 have dw:s.counts.getD 40 0=s.counts[40]:=by rw[fC,hc];rfl
 have ox:=h.counts _ (bW hlt);unfold su;rw[dw,hc];generalize s.counts[40]=lr at hc dw ox;simp only;obtain⟨d,e,f⟩:=atU h.aY ((mU l ⟨self,40,lr⟩ s.aY.pending.length).map fun(a:Ask)=>decide (a.n=1));rw[e];have hl:=f.len;refine⟨_,rfl,⟨?_,fun a ha=> ?_,?_,fun e he=>by simp at he,by show bD 0=true;decide,fun x hx=>by simp at hx,rfl,fun x hx=>by simp at hx,ai,rfl,by show Rz.asked.length<=1;decide⟩,ai,ai⟩
 ·have he:=h.fo
  exact⟨by simp[h.nc],fun x hx=>by
    rcases BJ hx with hx|rfl
    ·have:=h.counts x hx;omega
    ·omega,by show 0<=s.fo+1/\s.fo+1<=_;omega,by have:=h.clock;show 0<=s.clock/\s.clock<=_;omega,h.version,by show pd d.cells.length d;rw[hl];exact f,by show d.cells.length<=16;rw[hl];exact h.sL,
   fun x hx=>by rw[Gk hx];decide,by show(List.replicate s.fJ.length (0:Int)).length<=16;simpa using h.AM,fun t ht=>by simp at ht,ai,by show -1<=(-1:Int)/\(-1:Int)<fM;omega,
   by have:=h.dropped;show 0<=s.dropped/\s.dropped<=_;omega,by have:=h.ed;show 0<=s.ed/\s.ed<=_;omega,fun hu=>by simp at hu⟩
 ·unfold mU at ha;rw[dp] at ha;obtain⟨i,hi,rfl⟩:=ha;rw[gG] at hi;have hn:=Iq l (aU.qn ⟨self,40,lr⟩ 3 i) (show(0:Int)<2 by omega);have:=h.aY.mI;exact⟨rfl,rfl,rfl,by simp[iw,aU.qn],by simp[iw,aU.qn];omega,by simp[iw],hn.1,hn.2⟩
 ·show(mU l ⟨self,40,lr⟩ s.aY.pending.length).length<=4
  unfold mU;simpa using h.aY.mI
end aD
end Go.Proofs.YtkanpepkdcmpmaaGreatDoor
