import Derived.Test.YtkanpepkdcmpmaaGreatDoorY0
set_option maxHeartbeats 40000000
set_option maxRecDepth 100000
set_option linter.all false
namespace Go.Proofs.YtkanpepkdcmpmaaGreatDoor
namespace mG
theorem atv:sources.all (fun s=>match build s with |some p=>decide (verify p=0)|none=>false)=true:=by decide+kernel
end mG
namespace aD
open mG
variable {a:fW} {answers names st:List Int} {d:jL} {drift nodes self:Int} {handler k fB:Nat} {o:eP} {p:Prog} {ps:List Prog}
abbrev tT:=List (Option (Nat×Nat))
variable {gO:tT}
def Lf (p:Prog)(gO:tT)(i:Nat):Bool:=
 match gO.getD i none with
 |none=>true
 |some (d,k)=>
  Wu p (p.code.getD i (0,0)) && decide (eX (p.opAt i)<=d) &&
  (qp p i).all (fun t=>decide (0<=t) && decide (gO.getD t.toNat none=some ((d-eX (p.opAt i)+kp (p.opAt i)).toNat,if p.opAt i=5 then k+1 else k))) && decide (k<=1)
def agG (p:Prog)(gO:tT)(e:Int):Bool:=
 decide (gO.length=p.code.length) && (decide (e<0)||decide (gO.getD e.toNat none=some (0,0))) && (List.range p.code.length).all (Lf p gO)
def atw (v:Nat×Nat)(l:tT)(t:Int):tT:=match l.getD t.toNat none with
 |none=>l.set t.toNat (some v)
 |some _=>l
def atx (p:Prog)(l:tT)(i:Nat):tT:=match l.getD i none with
 |none=>l
 |some (d,k)=>(qp p i).foldl (atw ((d-eX (p.opAt i)+kp (p.opAt i)).toNat,if p.opAt i=5 then k+1 else k)) l
def agH (p:Prog)(l:tT):tT:=(List.range p.code.length).foldl (atx p) l
def agI (p:Prog):Nat->tT->tT
 |0,l=>l
 |f+1,l=>if agH p l=l then l else agI p f (agH p l)
def agJ (p:Prog)(e:Int):tT:=agI p p.code.length ((List.replicate p.code.length none).set e.toNat (if e<0 then none else some (0,0)))
def qX (p:Prog):Bool:=
 decide (p.entry.length=40) && p.entry.all (fun e=>agG p (agJ p e) e) && decide (0<=p.dH) && decide (0<=p.jF) && decide (p.dH+p.jF<=16) && decide (p.code.length<=400)
theorem aty:sources.all (fun s=>match build s with |some p=>qX p|none=>false)=true:=by decide+kernel
theorem vC{n:Int}:bu n=true↔-2147483647<=n/\n<=2147483647:=by simp[bu]
theorem atz(n:Int):bu (tD n)=true:=by
 rw[vC];unfold tD;omega
theorem agK(b:Bool):bu (zS b)=true:=by cases b<;>decide
theorem atA(op y x:Int):bu (BR op y x)=true:=by
 unfold BR
 repeat' split
 all_goals first|exact atz _|exact agK _|decide
def SM (p:Prog)(nodes:Int)(a:fW):Prop:=
 (a.kind=1/\0<=a.a/\a.a<p.dH/\bu a.b=true)\/a.kind=2\/
 (a.kind=3/\0<=a.a/\a.a<nodes/\0<=a.b/\a.b<=29/\bu a.c=true/\bu a.d=true)\/
 ((a.kind=4\/a.kind=5)/\0<=a.a/\a.a<=7)\/(a.kind=6/\bu a.b=true)\/(a.kind=7/\bu a.a=true)
structure vD (p:Prog)(nv:Nat)(nodes:Int)(o:eP):Prop where
 len:o.vars.length=nv
 vars:∀x∈o.vars,bu x=true
 acts:∀a∈o.acts,SM p nodes a
 Lg:o.acts.length<=o.steps
 asked:∀k∈o.asked,2<=k/\k<=4
 tU:o.covered.length<=o.steps
 aE:∀k∈o.covered,0<=k/\k<p.code.length
theorem vD.act{nv:Nat}(h:vD p nv nodes o)(ha:SM p nodes a)(hn:o.acts.length+1<=o.steps):vD p nv nodes (o.act a):=
 ⟨h.len,h.vars,fun b hb=>by
  rcases fL.1 hb with hb|hb
  ·exact h.acts b hb
  ·simp at hb;subst hb;exact ha,by simp[eP.act];exact hn,h.asked,h.tU,h.aE⟩
theorem YF(l:List Int)(n:Int):(nV l n).length<=l.length+1:=by
 unfold nV;split
 ·omega
 ·have:=aG List.length (JW (p:=fun x=>decide (x<n)) (l:=l));rw[List.length_append] at this;rw[List.length_append,List.length_cons];omega
theorem atB{l:List Int}{n x:Int}(h:x∈nV l n):x∈l\/x=n:=by
 unfold nV at h;split at h
 ·exact .inl h
 ·rcases fL.1 h with h|h
  ·exact .inl (List.takeWhile_sublist _|>.mem h)
  ·rcases cz.1 h with h|h
   ·exact .inr h
   ·exact .inl (List.dropWhile_sublist _|>.mem h)
def Ay (p:Prog)(gO:tT)(nv:Nat)(nodes:Int)(s:Nat):Option zT->Prop
 |none=>False
 |some (.stop o)=>vD p nv nodes o/\o.asked.length<=1/\o.steps=s
 |some (.go o st pc)=>vD p nv nodes o/\o.steps=s/\0<=pc/\(∃k,gO.getD pc.toNat none=some (st.length,k)/\o.asked.length<=k)/\∀x∈st,bu x=true
theorem atC(l:List Int)(i:Nat)(k:Int)(h:2<=k/\k<=4):bu (uM l i k)=true:=by
 rw[vC];unfold uM;split
 ·omega
 ·rename_i a _;have h1:=Int.tmod_lt_of_pos (a.tmod k+k) (by omega:0<k)
  have h2: -k<(a.tmod k+k).tmod k:=by
   have:=Int.lt_tmod_of_pos (a.tmod k+k) (by omega:0<k);omega
  omega
theorem atD{nv:Nat}(qY:names.length=9)(dW:∀x∈names,bu x=true)(cP:names.getD 1 0=nodes)
  {i:Nat} {op n:Int} (hc:p.code[i]? =some (op,n)) {d:Nat} (tV:gO.getD i none=some (d,k)) (bU:Lf p gO i=true) (hd:d=st.length)
  (hk:o.asked.length<=k) (hv:vD p nv nodes o) (Cn:o.acts.length+1<=o.steps) (hst:∀x∈st,bu x=true) (Oo:p.dH+p.jF=nv):
  Ay p gO nv nodes o.steps (kv p.dH names answers op n o st ((i:Int)+1)):=by
 have Ey:p.code.getD i (0,0)=(op,n):=by simp[List.getD,hc]
 have hop:p.opAt i=op:=by unfold Prog.opAt;rw[Ey]
 unfold Lf at bU;rw[tV] at bU;simp only[hop,Ey,bV,dh,fq] at bU;obtain⟨⟨⟨h1,h2⟩,h3⟩,h4⟩:=bU;subst hd;have Ez:((i:Int)+1).toNat=i+1:=ab
 have nx:op≠23->op≠15->gO.getD (i+1) none=some (((st.length:Int)-eX op+kp op).toNat,if op=5 then k+1 else k):=by
  intro a b;have:=h3 ((i:Int)+1) (by unfold qp;simp only[Ey];rw[af a,af b];split<;>simp);rw[Ez] at this;exact this.2
 have go:∀(o':eP) (st':List Int),vD p nv nodes o'->o'.steps=o.steps->op≠23->op≠15->((st.length:Int)-eX op+kp op).toNat=st'.length->(o'.asked.length<=if op=5 then k+1 else k)->(∀x∈st',bu x=true)->
   Ay p gO nv nodes o.steps (some (.go o' st' ((i:Int)+1))):=by
  intro o' st' a b c e f g h;exact⟨a,b,ab,⟨_,by rw[Ez,nx c e,f],g⟩,h⟩
 have cT:∀{x:Int} {r:List Int},(∀y∈x::r,bu y=true)->bu x=true/\∀y∈r,bu y=true:=fun h=>⟨h _ ai,fun y hy=>h y (by simp[hy])⟩
 have EA:∀{x:Int} {r:List Int},bu x=true->(∀y∈r,bu y=true)->∀y∈x::r,bu y=true:=fun h h' y hy=>by
  rcases cz.1 hy with rfl|hy
  ·exact h
  ·exact h' y hy
 unfold Wu at h1;by_cases o1:op=1
 ·subst o1
  have hn:bu n=true:=by rw[vC];simpa using h1
  exact go _ _ hv rfl au au (by simp[eX,kp]) (by simpa using hk) (EA hn hst)
 by_cases o2:op=2
 ·subst o2;simp[eX] at h1
  have hlt:n.toNat<o.vars.length:=by have:=hv.len;omega
  have hx:o.vars[n.toNat]? =some o.vars[n.toNat]:=by simp[hlt]
  show Ay p gO nv nodes o.steps (if n<0 then none else o.vars[n.toNat]?.map fun v=> .go o (v::st) ((i:Int)+1))
  rw[af ab,hx];exact go _ _ hv rfl au au (by simp[eX,kp]) (by simpa using hk) (EA (hv.vars _ (bP hlt)) hst)
 by_cases o4:op=4
 ·subst o4;simp[eX] at h1;have hlt:n.toNat<names.length:=ab
  have hx:names[n.toNat]? =some names[n.toNat]:=by simp[hlt]
  show Ay p gO nv nodes o.steps (if n<0 then none else names[n.toNat]?.map fun v=> .go o (v::st) ((i:Int)+1))
  rw[af ab,hx];exact go _ _ hv rfl au au (by simp[eX,kp]) (by simpa using hk) (EA (dW _ (bP hlt)) hst)
 by_cases o3:op=3
 ·subst o3;simp[eX] at h1 h2
  obtain _|⟨x,r⟩:=st
  ·simp at h2
  obtain⟨hx,hr⟩:=cT hst
  have hlt:n.toNat<o.vars.length:=by have:=hv.len;omega
  show Ay p gO nv nodes o.steps (if n<0\/(o.vars.length:Int)<=n then none else some (.go { o with vars:=o.vars.set n.toNat x,acts:=if n<p.dH then o.acts++[⟨1,n,x,0,0⟩] else o.acts } r ((i:Int)+1)))
  rw[af ab];refine go _ _ ⟨by simp[hv.len],fun y hy=> ?_,fun a ha=> ?_,?_,hv.asked,hv.tU,hv.aE⟩ rfl au au (by simp[eX,kp]<;>omega) (by simpa using hk) hr
  ·rcases BB hy with hy|rfl
   ·exact hv.vars y hy
   ·exact hx
  ·by_cases ff:n<p.dH
   ·simp only[aq ff] at ha
    rcases fL.1 ha with ha|ha
    ·exact hv.acts a ha
    ·simp at ha;subst ha;exact .inl ⟨rfl,(by omega:0<=n),ff,hx⟩
   ·simp only[af ff] at ha;exact hv.acts a ha
  ·by_cases ff:n<p.dH
   ·simp only[aq ff];simpa using Cn
   ·simp only[af ff];omega
 by_cases o5:op=5
 ·subst o5;simp[eX] at h1 h2
  obtain _|⟨x,r⟩:=st
  ·simp at h2
  obtain⟨hx,hr⟩:=cT hst
  show Ay p gO nv nodes o.steps (if 1<max 1 (min x 4) then some (.go { o with asked:=o.asked++[max 1 (min x 4)] } (uM answers o.asked.length (max 1 (min x 4))::r) ((i:Int)+1)) else some (.go o (0::r) ((i:Int)+1)))
  split
  ·rename_i h;refine go _ _ ⟨hv.len,hv.vars,hv.acts,by simpa using hv.Lg,fun y hy=> ?_,hv.tU,hv.aE⟩ rfl au au (by simp[eX,kp]) bq (EA (atC _ _ _ ab) hr)
   rcases fL.1 hy with hy|hy
   ·exact hv.asked y hy
   ·simp only[oB] at hy;subst hy;omega
  ·exact go _ _ hv rfl au au (by simp[eX,kp]) bq (EA au hr)
 by_cases o6:op=6\/op=7\/op=8\/op=9\/op=11\/op=12\/op=13
 ·have hp:eX op=2/\kp op=1/\op≠23/\op≠15/\op≠5:=by rcases o6 with rfl|rfl|rfl|rfl|rfl|rfl|rfl<;>decide
  rw[hp.1] at h2
  obtain _|⟨x,_|⟨y,r⟩⟩:=st
  ·simp at h2
  ·simp at h2
  obtain⟨hx,hr⟩:=cT hst;obtain⟨hy,hr⟩:=cT hr;unfold kv;rw[af o1,af o2,af o4,af o3,af o5,aq o6];simp only[hx,hy,Bool.and_self,nk];exact go _ _ hv rfl hp.2.2.1 hp.2.2.2.1 (by rw[hp.1,hp.2.1];simp;omega) (by rw[af hp.2.2.2.2];exact hk) (EA (atA _ _ _) hr)
 by_cases o10:op=10
 ·subst o10;simp[eX] at h2
  obtain _|⟨x,r⟩:=st
  ·simp at h2
  obtain⟨hx,hr⟩:=cT hst
  show Ay p gO nv nodes o.steps (if bu x then some (.go o (-x::r) ((i:Int)+1)) else none)
  rw[aq hx];refine go _ _ hv rfl au au (by simp[eX,kp]) (by simpa using hk) (EA ?_ hr);rw[vC] at hx⊢;omega
 by_cases o14:op=14
 ·subst o14;simp[eX] at h2
  obtain _|⟨x,r⟩:=st
  ·simp at h2
  obtain⟨hx,hr⟩:=cT hst;exact go _ _ hv rfl au au (by simp[eX,kp]) (by simpa using hk) (EA (agK _) hr)
 by_cases o15:op=15
 ·subst o15;have h5:=h3 n (by unfold qp;simp only[Ey];simp);exact⟨hv,rfl,h5.1,⟨_,by rw[h5.2];simp[eX,kp];rfl,by simpa using hk⟩,hst⟩
 by_cases o16:op=16
 ·subst o16;simp[eX] at h2
  obtain _|⟨x,r⟩:=st
  ·simp at h2
  obtain⟨hx,hr⟩:=cT hst
  show Ay p gO nv nodes o.steps (some (.go o r (if x=0 then n else(i:Int)+1)))
  split
  ·have h5:=h3 n (by unfold qp;simp only[Ey];simp);exact⟨hv,rfl,h5.1,⟨_,by rw[h5.2];simp[eX,kp];rfl,by simpa using hk⟩,hr⟩
  ·exact go _ _ hv rfl au au (by simp[eX,kp]) (by simpa using hk) hr
 by_cases o17:op=17
 ·subst o17;simp[eX] at h1 h2
  obtain _|⟨x,_|⟨y,_|⟨t,r⟩⟩⟩:=st
  ·simp at h2
  ·simp at h2
  ·simp at h2
  obtain⟨hx,hr⟩:=cT hst;obtain⟨hy,hr⟩:=cT hr;obtain⟨ht,hr⟩:=cT hr
  show Ay p gO nv nodes o.steps (some (.go (if 0<=t/\t<names.getD 1 0/\nu o.acts<20 then o.act ⟨3,t,n,y,x⟩ else o) r ((i:Int)+1)))
  split
  ·rename_i h;rw[cP] at h;exact go _ _ (hv.act (.inr (.inr (.inl ⟨rfl,h.1,h.2.1,(by omega:0<=n),(by omega:n<=29),hy,hx⟩))) Cn) rfl au au (by simp[eX,kp];omega) (by simpa [eP.act] using hk) hr
  ·exact go _ _ hv rfl au au (by simp[eX,kp];omega) (by simpa using hk) hr
 by_cases o18:op=18
 ·subst o18;simp[eX] at h1;exact go _ _ (hv.act (.inr (.inr (.inr (.inl ⟨.inl rfl,(by omega:0<=n),(by omega:n<=7)⟩)))) Cn) rfl au au (by simp[eX,kp]) (by simpa [eP.act] using hk) hst
 by_cases o19:op=19
 ·subst o19;simp[eX] at h1;exact go _ _ (hv.act (.inr (.inr (.inr (.inl ⟨.inr rfl,(by omega:0<=n),(by omega:n<=7)⟩)))) Cn) rfl au au (by simp[eX,kp]) (by simpa [eP.act] using hk) hst
 by_cases o20:op=20
 ·subst o20;exact go _ _ (hv.act (.inr (.inl rfl)) Cn) rfl au au (by simp[eX,kp]) (by simpa [eP.act] using hk) hst
 by_cases o21:op=21
 ·subst o21;simp[eX] at h2
  obtain _|⟨x,_|⟨y,r⟩⟩:=st
  ·simp at h2
  ·simp at h2
  obtain⟨hx,hr⟩:=cT hst;obtain⟨hy,hr⟩:=cT hr;exact go _ _ (hv.act (.inr (.inr (.inr (.inr (.inl ⟨rfl,hx⟩))))) Cn) rfl au au (by simp[eX,kp];omega) (by simpa [eP.act] using hk) hr
 by_cases o22:op=22
 ·subst o22;simp[eX] at h2
  obtain _|⟨x,r⟩:=st
  ·simp at h2
  obtain⟨hx,hr⟩:=cT hst;exact go _ _ (hv.act (.inr (.inr (.inr (.inr (.inr ⟨rfl,hx⟩))))) Cn) rfl au au (by simp[eX,kp]) (by simpa [eP.act] using hk) hr
 unfold kv;rw[af o1,af o2,af o4,af o3,af o5,af o6,af o10,af o14,af o15,af o16,af o17,af o18,af o19,af o20,af o21,af o22];exact⟨hv,ab,rfl⟩
theorem atF{nv:Nat}(qY:names.length=9)(dW:∀x∈names,bu x=true)(cP:names.getD 1 0=nodes)
  (cQ:gO.length=p.code.length) (bU:∀i<p.code.length,Lf p gO i=true) {pc:Int} (h0:0<=pc) (tV:gO.getD pc.toNat none=some (st.length,k))
  (hk:o.asked.length<=k) (hv:vD p nv nodes o) (hst:∀x∈st,bu x=true) (Oo:p.dH+p.jF=nv):
  Ay p gO nv nodes (o.steps+1) (rZ p names answers o st pc):=by
 have hlt:pc.toNat<p.code.length:=by
  apply Decidable.byContradiction;intro h;rw[fo,qh ab] at tV;cases tV
 have hc:p.code[pc.toNat]? =some p.code[pc.toNat]:=by simp[hlt]
 unfold rZ;rw[af ab,hc];generalize p.code[pc.toNat]=x at hc;obtain⟨op,n⟩:=x;have Ez:pc=(pc.toNat:Int):=ab
 have:=atD (o:={ o with covered:=nV o.covered pc,steps:=o.steps+1 }) (answers:=answers) qY dW cP hc tV (bU _ hlt) rfl hk
  ⟨hv.len,hv.vars,hv.acts,rQ hv.Lg,hv.asked,bj (YF _ _) (Nat.succ_le_succ hv.tU),fun x hx=>by
   rcases atB hx with hx|rfl
   ·exact hv.aE x hx
   ·omega⟩ (Nat.succ_le_succ hv.Lg) hst Oo
 rw[<-Ez] at this;exact this
theorem agL {p:Prog}{gO:tT}{nv:Nat}{nodes:Int}{names answers:List Int}(qY:names.length=9)(dW:∀x∈names,bu x=true)(cP:names.getD 1 0=nodes)
  (cQ:gO.length=p.code.length) (bU:∀i<p.code.length,Lf p gO i=true) (ew:∀x∈gO,∀d k,x=some (d,k)->k<=1) (Oo:p.dH+p.jF=nv):
  ∀(f:Nat) (o:eP) (st:List Int) (pc:Int) (k:Nat),0<=pc->gO.getD pc.toNat none=some (st.length,k)->o.asked.length<=k->vD p nv nodes o->(∀x∈st,bu x=true)->
   ∃o',qw p names answers f o st pc=some o'/\vD p nv nodes o'/\o'.asked.length<=1/\o'.steps<=o.steps+f
 |0,o,st,pc,k,h0,tV,hk,hv,hst=>by
  refine⟨_,rfl,⟨hv.len,hv.vars,hv.acts,hv.Lg,hv.asked,hv.tU,hv.aE⟩,?_,cK _⟩
  have hm:gO.getD pc.toNat none∈gO:=by
   rw[fo] at tV⊢
   cases h:gO[pc.toNat]? with
   |none=>rw[h] at tV;cases tV
   |some x=>exact eE h
  have:=ew _ hm _ _ tV
  show o.asked.length<=1
  omega
 |f+1,o,st,pc,k,h0,tV,hk,hv,hst=>by
  have h:=atF (answers:=answers) qY dW cP cQ bU h0 tV hk hv hst Oo;unfold qw;generalize rZ p names answers o st pc=r at h⊢
  match r,h with
  |some (.stop o'),h=>exact⟨o',rfl,h.1,h.2.1,by have:=h.2.2;omega⟩
  |some (.go o' st' Ie),⟨a,b,c,⟨k',e,g⟩,m⟩=>
   obtain⟨o2,h1,h2,h3,h4⟩:=agL qY dW cP cQ bU ew Oo f o' st' Ie k' c e g a m;exact⟨o2,h1,h2,h3,ab⟩
theorem YG(hs:qX p=true)(hh:handler<40){vars:List Int}(uW:(vars.length:Int)=p.dH+p.jF)(SN:∀x∈vars,bu x=true)
  (qY:names.length=9) (dW:∀x∈names,bu x=true):
  ∃o,yn p handler vars names answers=some o/\vD p vars.length (names.getD 1 0) o/\o.asked.length<=1/\o.steps<=500:=by
 unfold qX at hs;simp only[bV,dh,fq] at hs;obtain⟨⟨⟨⟨⟨h1,h2⟩,h3⟩,h4⟩,h5⟩,h6⟩:=hs;have hlt:handler<p.entry.length:=ab;unfold yn
 have he:p.entry[handler]? =some p.entry[handler]:=by simp[hlt]
 have hl:=h2 _ (bP hlt);rw[he];generalize p.entry[handler]=e at hl he
 have h0:vD p vars.length (names.getD 1 0) ⟨vars,[],0,false,[],[]⟩:=⟨rfl,SN,fun a ha=>by simp at ha,ai,fun a ha=>by simp at ha,ai,fun a ha=>by simp at ha⟩
 by_cases qZ:e<0
 ·exact⟨⟨vars,[],0,false,[],[]⟩,by simp[qZ],h0,ai,ai⟩
 ·unfold agG at hl;simp only[bV,uJ,dh,fq,gy] at hl;obtain⟨⟨g1,g2⟩,g3⟩:=hl;have tV:=g2.resolve_left qZ
  have ew:∀x∈agJ p e,∀d k,x=some (d,k)->k<=1:=by
   intro x hx d k lL;obtain⟨i,hi,rfl⟩:=List.getElem_of_mem hx;have:=g3 i ab;unfold Lf at this;rw[fo,cw hi,BI,lL] at this;simp only[bV,dh] at this;exact this.2
  obtain⟨o,a,b,c,d⟩:=agL (answers:=answers) qY dW rfl g1 g3 ew uW.symm 500 _ [] e 0 ab tV ai h0 ai;refine⟨o,?_,b,c,by simpa using d⟩;simp[qZ,a]
structure oR (n:Nat)(d:jL):Prop where
 len:d.cells.length=n
 cells:∀x∈d.cells,bu x=true
 Oq:∀x∈d.pending,0<=x.1/\x.1<n/\bu x.2=true
 sG:d.pending.length<=4
theorem SP {n:Nat}:∀(l:List (Int×Int)) (c:List Int),c.length=n->(∀x∈c,bu x=true)->(∀x∈l,0<=x.1/\x.1<n/\bu x.2=true)->∃c',ky c l=some c'/\c'.length=n/\∀x∈c',bu x=true
 |[],c,hc,hi,_=>⟨c,rfl,hc,hi⟩
 |(i,v)::l,c,hc,hi,h=>by
  have h0:=h (i,v) ai;simp only at h0;unfold ky;rw[aq ⟨h0.1,by rw[hc];exact h0.2.1⟩];refine SP l _ (by simpa using hc) (fun x hx=> ?_) (fun x hx=>h x (by simp[hx]))
  rcases BB hx with hx|rfl
  ·exact hi x hx
  ·exact h0.2.2
theorem YH{n:Nat}(h:oR n d):∃c,wR d=some c/\c.length=n/\∀x∈c,bu x=true:=SP _ _ h.len h.cells h.Oq
theorem atG{n:Nat}(h:oR n d){cell v:Int}(hv:bu v=true):∃d',yo d cell v=some d'/\oR n d':=by
 unfold yo;have hl:=h.len;split
 ·exact⟨d,rfl,h⟩
 ·rename_i h1
  have hp:∀x∈d.pending++[(cell,v)],0<=x.1/\x.1<n/\bu x.2=true:=by
   intro x hx
   rcases fL.1 hx with hx|hx
   ·exact h.Oq x hx
   ·simp only[oB] at hx;subst hx;exact⟨by show 0<=cell;omega,by show cell<n;omega,hv⟩
  split
  ·rename_i h2;obtain⟨c,a,b,e⟩:=SP ((d.pending++[(cell,v)]).take 1) d.cells hl h.cells (fun x hx=>hp x (tu hx));exact⟨_,by rw[a];rfl,⟨b,e,fun x hx=>hp x (Dx hx),by have:=h.sG;simp;omega⟩⟩
  ·rename_i h2;exact⟨_,rfl,⟨hl,h.cells,hp,by simpa using h2⟩⟩
theorem atH{n:Nat}(h:oR n d):∃d',zU d=some d'/\oR n d':=by
 obtain⟨c,a,b,e⟩:=YH h;exact⟨⟨c,[]⟩,by unfold zU;rw[a];rfl,⟨b,e,fun x hx=>by simp at hx,ai⟩⟩
theorem YI:∀{l:List (Int×Int)} {m:List Bool} {x:Int×Int},x∈jm l m->x∈l
 |[],m,x,h=>by simp[jm] at h
 |y::l,[],x,h=>by simp[jm] at h
 |y::l,k::m,x,h=>by
  unfold jm at h;split at h
  ·rcases cz.1 h with rfl|h
   ·simp
   ·exact jC _ (YI h)
  ·exact jC _ (YI h)
theorem atJ{n:Nat}(h:oR n d)(keep:List Bool):∃d',BS d keep=some d'/\oR n d':=by
 obtain⟨c,a,b,e⟩:=SP (jm d.pending keep) d.cells h.len h.cells (fun x hx=>h.Oq x (YI hx));exact⟨⟨c,[]⟩,by unfold BS;rw[a];rfl,⟨b,e,fun x hx=>by simp at hx,ai⟩⟩
theorem YJ{n:Nat}(h:oR n d)(m:Nat):∃d',wS d m=some d'/\oR m d':=by
 obtain⟨c,a,b,e⟩:=YH h;refine⟨_,by unfold wS;rw[a];rfl,⟨by simp;omega,fun x hx=> ?_,fun x hx=>by simp at hx,ai⟩⟩;have:=tu hx
 rcases fL.1 this with h1|h1
 ·exact e x h1
 ·rw[FV h1];decide
structure jV (ps:List Prog)(fB k:Nat)(s:Node):Prop where
 nc:s.counts.length=41
 counts:∀x∈s.counts,0<=x/\x<=k
 fb:0<=s.fb/\s.fb<=k
 clock:0<=s.clock/\s.clock<=5*k
 version: -1<=s.version/\s.version<ps.length
 aZ:oR s.aZ.cells.length s.aZ
 sH:s.aZ.cells.length<=16
 fx:∀x∈s.fx,bu x=true
 Az:s.fx.length<=16
 timers:∀t∈s.timers,0<=t/\t<=7
 vE:s.timers.length<=8
 waiting: -1<=s.waiting/\s.waiting<fB
 dropped:0<=s.dropped/\s.dropped<=k
 dY:0<=s.dY/\s.dY<=k
 run:s.up=true->0<=s.version/\∀p,ps[s.version.toNat]? =some p->(s.aZ.cells.length:Int)=p.dH/\(s.fx.length:Int)=p.jF
theorem jV.more{s:Node}(h:jV ps fB k s):jV ps fB (k+1) s:=
 { h with counts:=fun x hx=>by have:=h.counts x hx;omega,fb:=by have:=h.fb;omega,clock:=by have:=h.clock;omega,dropped:=by have:=h.dropped;omega,dY:=by have:=h.dY;omega }
theorem atK(ps:List Prog)(fB k:Nat):jV ps fB k lD:=
 ⟨by simp[lD],fun x hx=>by rw[FV hx];omega,by simp[lD],by simp[lD];omega,by simp[lD];omega,⟨rfl,fun x hx=>by simp[lD] at hx,fun x hx=>by simp[lD] at hx,by simp[lD]⟩,by simp[lD],
  fun x hx=>by simp[lD] at hx,by simp[lD],fun x hx=>by simp[lD] at hx,by simp[lD],by simp[lD];omega,by simp[lD],by simp[lD],fun h=>by simp[lD] at h⟩
theorem SQ{s:Node}(h:jV ps fB k s):∃l,zV s=some l/\l.length=s.aZ.cells.length+s.fx.length/\∀x∈l,bu x=true:=by
 obtain⟨c,a,b,e⟩:=YH h.aZ;refine⟨c++s.fx,by unfold zV;rw[a];rfl,by simp[b],fun x hx=> ?_⟩
 rcases fL.1 hx with hx|hx
 ·exact e x hx
 ·exact h.fx x hx
theorem agM(l:List Int)(k:Int)(b:Bool):(∀t∈zW l k b,0<=t/\t<=7)/\(zW l k b).length<=8:=by
 unfold zW;refine⟨fun t ht=> ?_,bj (nQ _ _) ai⟩;have:=(nj.1 ht).1;rw[dm] at this;obtain⟨i,hi,rfl⟩:=this;rw[gy] at hi;simp;omega
theorem Ig(l:List aL)(q:Qn){k:Int}(h:0<k):0<=fX l q k/\fX l q k<k:=⟨Int.tmod_nonneg _ (apg _ _),Int.tmod_lt_of_pos _ h⟩
def Ot (c:aT)(a:Ask):Prop:=a.node=c.node/\a.handler=c.handler/\a.count=c.count/\(1<=a.kind/\a.kind<=3)/\(0<=a.index/\a.index<=500)/\(2<=a.arity/\a.arity<=4)/\0<=a.n/\a.n<a.arity
structure tW (ps:List Prog)(fB k:Nat)(nodes:Int)(c:aT)(xx:Int)(r:Rr):Prop where
 s:jV ps fB k r.s
 asks:∀a∈r.asks,Ot c a
 Co:r.asks.length<=4
 sent:∀e∈r.sent,e.msg.node=c.node/\e.msg.handler=c.handler/\e.msg.count=c.count/\(0<=e.msg.index/\e.msg.index<=500)/\e.msg.copy=0/\(0<=e.kM/\e.kM<nodes)/\(0<=e.kind/\e.kind<=29)/\bu e.a=true/\bu e.b=true
 value:bu r.value=true
 bC:∀x∈r.bC,bu x=true
 gB:r.gB=c
 aE:∀x∈r.covered,0<=x/\x<400
 tU:r.covered.length<=500
 version:r.s.version=xx
 Ou:r.out.asked.length<=1
theorem atL{c:aT}{xx:Int}{r:Rr}(h:tW ps fB k nodes c xx r)(ha:SM p nodes a){m:Nat}(hm:r.sent.length<=m/\r.bC.length<=m)(hm5:m<500):
  ∃r',uO r a=some r'/\tW ps fB k nodes c xx r'/\r'.sent.length<=m+1/\r'.bC.length<=m+1:=by
 unfold uO;by_cases k1:a.kind=1
 ·rw[aq k1]
  have hb:bu a.b=true:=by
   rcases ha with ha|ha|ha|ha|ha|ha
   ·exact ha.2.2.2
   all_goals omega
  obtain⟨d,e,f⟩:=atG h.s.aZ (cell:=a.a) hb;rw[e];have hl:d.cells.length=r.s.aZ.cells.length:=f.len;exact⟨_,rfl,{ h with s:={ h.s with aZ:=by show oR d.cells.length d;rw[hl];exact f,sH:=by show d.cells.length<=16;rw[hl];exact h.s.sH,run:=fun hu=>⟨(h.s.run hu).1,fun p hp=>by show(d.cells.length:Int)=_/\_;rw[hl];exact(h.s.run hu).2 p hp⟩ } },by show r.sent.length<=_;omega,by show r.bC.length<=_;omega⟩
 rw[af k1];by_cases k2:a.kind=2
 ·rw[aq k2];obtain⟨d,e,f⟩:=atH h.s.aZ;rw[e];have hl:d.cells.length=r.s.aZ.cells.length:=f.len;exact⟨_,rfl,{ h with s:={ h.s with aZ:=by show oR d.cells.length d;rw[hl];exact f,sH:=by show d.cells.length<=16;rw[hl];exact h.s.sH,run:=fun hu=>⟨(h.s.run hu).1,fun p hp=>by show(d.cells.length:Int)=_/\_;rw[hl];exact(h.s.run hu).2 p hp⟩ } },by show r.sent.length<=_;omega,by show r.bC.length<=_;omega⟩
 rw[af k2];by_cases k4:a.kind=4
 ·rw[aq k4];have ht:=agM r.s.timers a.a true;exact⟨_,rfl,{ h with s:={ h.s with timers:=ht.1,vE:=ht.2 } },by show r.sent.length<=_;omega,by show r.bC.length<=_;omega⟩
 rw[af k4];by_cases k5:a.kind=5
 ·rw[aq k5];have ht:=agM r.s.timers a.a false;exact⟨_,rfl,{ h with s:={ h.s with timers:=ht.1,vE:=ht.2 } },by show r.sent.length<=_;omega,by show r.bC.length<=_;omega⟩
 rw[af k5];by_cases k3:a.kind=3
 ·rw[aq k3]
  have h3:0<=a.a/\a.a<nodes/\0<=a.b/\a.b<=29/\bu a.c=true/\bu a.d=true:=by
   rcases ha with ha|ha|ha|ha|ha|ha
   ·omega
   ·omega
   ·exact ha.2
   all_goals omega
  refine⟨_,rfl,{ h with sent:=fun e he=> ?_ },by show(r.sent++[_]).length<=_;simp;omega,by show r.bC.length<=_;omega⟩
  rcases fL.1 he with he|he
  ·exact h.sent e he
  ·simp only[oB] at he;subst he;refine⟨by rw[h.gB],by rw[h.gB],by rw[h.gB],⟨ai,?_⟩,rfl,⟨h3.1,h3.2.1⟩,⟨h3.2.2.1,h3.2.2.2.1⟩,h3.2.2.2.2.1,h3.2.2.2.2.2⟩
   show((r.sent.length:Nat):Int)<=500
   omega
 rw[af k3];by_cases k6:a.kind=6
 ·rw[aq k6]
  have hb:bu a.b=true:=by
   rcases ha with ha|ha|ha|ha|ha|ha
   ·omega
   ·omega
   ·omega
   ·omega
   ·exact ha.2
   ·omega
  split
  ·refine⟨_,rfl,{ h with s:={ h.s with waiting:=by show -1<=(-1:Int)/\(-1:Int)<fB;omega },value:=hb },by show r.sent.length<=_;omega,by show r.bC.length<=_;omega⟩
  ·exact⟨r,rfl,h,ab,ab⟩
 rw[af k6]
 have k7:a.kind=7/\bu a.a=true:=by
  rcases ha with ha|ha|ha|ha|ha|ha
  ·omega
  ·omega
  ·omega
  ·omega
  ·omega
  ·exact ha
 rw[aq k7.1];refine⟨_,rfl,{ h with bC:=fun x hx=> ?_ },by show r.sent.length<=_;omega,by show(r.bC++[_]).length<=_;simp;omega⟩
 rcases fL.1 hx with hx|hx
 ·exact h.bC x hx
 ·simp only[oB] at hx;subst hx;exact k7.2
theorem agN {ps:List Prog}{fB k:Nat}{nodes:Int}{c:aT}{xx:Int}{p:Prog}:∀(l:List fW) (r:Rr) (m:Nat),tW ps fB k nodes c xx r->(∀a∈l,SM p nodes a)->r.sent.length<=m/\r.bC.length<=m->m+l.length<=500->
  ∃r',uP r l=some r'/\tW ps fB k nodes c xx r'/\r'.sent.length<=500/\r'.bC.length<=500
 |[],r,m,h,_,hm,hl=>⟨r,rfl,h,by simp at hl;omega,by simp at hl;omega⟩
 |a::l,r,m,h,ha,hm,hl=>by
  simp only[List.length_cons] at hl;obtain⟨r1,e,h1,h2,h3⟩:=atL h (ha a ai) hm ab;unfold uP;rw[e];exact agN l r1 (m+1) h1 (fun b hb=>ha b (by simp[hb])) ⟨h2,h3⟩ ab
theorem YK (l:List aL)(c:aT):∀(m:List Int) (i:Nat),(∀k∈m,2<=k/\k<=4)->i+m.length<=500->(∀a∈kz l c i m,Ot c a)/\(kz l c i m).length=m.length
 |[],i,_,_=>⟨fun a ha=>by simp[kz] at ha,rfl⟩
 |k::m,i,h,hi=>by
  simp only[List.length_cons] at hi;obtain⟨h1,h2⟩:=YK l c m (i+1) (fun x hx=>h x (by simp[hx])) ab;have hk:=h k ai;have hn:=Ig l (c.qn 1 i) (show 0<k by omega);refine⟨fun a ha=> ?_,by simp[kz,h2]⟩;unfold kz at ha
  rcases cz.1 ha with rfl|ha
  ·exact⟨rfl,rfl,rfl,by simp[ig,aT.qn],by simp[ig,aT.qn];omega,hk,hn.1,hn.2⟩
  ·exact h1 a ha
theorem Ov{s:Node}(h:jV ps fB k s)(hp:ps[s.version.toNat]? =some p)(hs:qX p=true)(fY:s.up=true)(hh:handler<40)
  (Cp:bu self=true) (AA:bu nodes=true) (kU:0<=drift/\drift<=3) (qY:names.length=9) (dW:∀x∈names,bu x=true) (l:List aL) (hk:k<=5000):
  ∃r,po s p handler self nodes drift names l=some r/\tW ps fB (k+1) nodes ⟨self,handler,s.counts.getD handler 0⟩ s.version r/\r.sent.length<=500/\r.bC.length<=500:=by
 have hlt:handler<s.counts.length:=by rw[h.nc];omega
 have hc:s.counts[handler]? =some (s.counts[handler]):=by simp[hlt]
 have dp:s.counts.getD handler 0=s.counts[handler]:=by rw[fo,hc];rfl
 have nY:=h.counts _ (bP hlt);unfold po;rw[dp,hc];generalize s.counts[handler]=kX at hc dp nY;obtain⟨vars,iZ,pI,yQ⟩:=SQ h
 obtain⟨n,hn,RD⟩:∃n:Int,n=(if 0<drift then fX l (aT.qn ⟨self,handler,kX⟩ 2 0) (drift+1) else 0)/\0<=n/\n<=drift:=by
  refine⟨_,rfl,?_⟩;split
  ·have:=Ig l (aT.qn ⟨self,handler,kX⟩ 2 0) (show 0<drift+1 by omega);omega
  ·omega
 simp only[iZ,<-hn];have atM:=h.clock;have hr:=h.run fY;have eA:=hr.2 p hp
 have atN:∀x∈yq names self nodes (s.clock+1+n),bu x=true:=by
  intro x hx;unfold yq at hx
  rcases BB hx with hx|rfl
  ·rcases BB hx with hx|rfl
   ·rcases BB hx with hx|rfl
    ·exact dW x hx
    ·exact Cp
   ·exact AA
  ·rw[vC];omega
 have ju:(yq names self nodes (s.clock+1+n)).length=9:=by simp[yq,qY]
 have iN:(yq names self nodes (s.clock+1+n)).getD 1 0=nodes:=by
  unfold yq;rw[fo,uH ab,BD bq];rfl
 obtain⟨o,a1,a2,a3,a4⟩:=YG hs hh (vars:=vars) (names:=yq names self nodes (s.clock+1+n)) (answers:=uN l ⟨self,handler,kX⟩) (by rw[pI];omega) yQ ju atN;rw[a1];rw[iN] at a2;have SR:0<=p.dH:=ab;simp only;rw[aq ⟨SR,by rw[a2.len,pI];omega⟩];have agO:=YK l ⟨self,handler,kX⟩ o.asked 0 a2.asked ab
 have AB:(∀a∈(if 0<drift then [ig (aT.qn ⟨self,handler,kX⟩ 2 0) (drift+1) n] else []),Ot ⟨self,handler,kX⟩ a)/\(if 0<drift then [ig (aT.qn ⟨self,handler,kX⟩ 2 0) (drift+1) n] else []).length<=1:=by
  split
  ·refine⟨fun a ha=> ?_,ai⟩;simp only[oB] at ha;subst ha;exact⟨rfl,rfl,rfl,by simp[ig,aT.qn],by simp[ig,aT.qn],by simp[ig];omega,RD.1,by simp[ig];omega⟩
  ·exact⟨fun a ha=>by simp at ha,ai⟩
 have agP:p.code.length<=400:=by
  unfold qX at hs;simp only[bV,dh] at hs;exact hs.2
 refine agN (p:=p) o.acts _ 0 ?_ a2.acts ⟨ai,ai⟩ (by have:=a2.Lg;omega);refine⟨?_,fun a ha=> ?_,?_,fun e he=>by simp at he,by show bu 0=true;decide,fun x hx=>by simp at hx,rfl,fun x hx=> ?_,by have:=a2.tU;show o.covered.length<=500;omega,rfl,by show o.asked.length<=1;omega⟩
 ·have dB:=h.fb
  have uW:((o.vars.drop p.dH.toNat).take 16).length=s.fx.length:=by
   have:=a2.len;have:=h.Az;simp;omega
  refine⟨by simp[h.nc],fun x hx=> ?_,by have:=h.fb;show 0<=s.fb/\s.fb<=_;omega,by show 0<=s.clock+1+n/\s.clock+1+n<=_;omega,h.version,h.aZ,h.sH,fun x hx=>a2.vars x (Dx (tu hx)),?_,h.timers,h.vE,h.waiting,
   by have:=h.dropped;show 0<=s.dropped/\s.dropped<=_;omega,by have:=h.dY;show 0<=s.dY/\s.dY<=_;omega,fun _=>⟨hr.1,fun q hq=>⟨(hr.2 q hq).1,?_⟩⟩⟩
  ·rcases BB hx with hx|rfl
   ·have:=h.counts x hx;omega
   ·omega
  ·show((o.vars.drop p.dH.toNat).take 16).length<=16
   rw[uW];exact h.Az
  ·show((((o.vars.drop p.dH.toNat).take 16).length:Nat):Int)=q.jF
   rw[uW];exact(hr.2 q hq).2
 ·rcases fL.1 ha with ha|ha
  ·exact AB.1 a ha
  ·exact agO.1 a ha
 ·show(_++_:List Ask).length<=4
  rw[List.length_append,agO.2];have:=AB.2;omega
 ·have:=a2.aE x hx;omega
theorem YL{s:Node}(h:jV ps fB k s){version:Int}(hv:0<=version/\version<ps.length)(hp:ps[version.toNat]? =some p)(hs:qX p=true)
  (Cp:bu self=true) (AA:bu nodes=true) (kU:0<=drift/\drift<=3) (l:List aL) (hk:k<=5000):
  ∃r,BU s p version self nodes drift l=some r/\tW ps fB (k+1) nodes ⟨self,0,s.counts.getD 0 0⟩ version r/\r.sent.length<=500/\r.bC.length<=500:=by
 have eo:=hs;unfold qX at eo;simp only[bV,dh] at eo;obtain⟨⟨⟨⟨⟨h1,h2⟩,h3⟩,h4⟩,h5⟩,h6⟩:=eo;unfold BU;rw[af ab]
 have key:∃d,(if(s.aZ.cells.length:Int)=p.dH then some s.aZ else wS s.aZ p.dH.toNat)=some d/\oR p.dH.toNat d:=by
  split
  ·rename_i he;refine⟨_,rfl,?_⟩;have:p.dH.toNat=s.aZ.cells.length:=ab;rw[this];exact h.aZ
  ·exact YJ h.aZ _
 obtain⟨d,e,f⟩:=key;rw[e];simp only;refine Ov (s:={ s with version:=version,aZ:=d,fx:=List.replicate p.jF.toNat 0,timers:=[],waiting:= -1,up:=true }) ?_ hp hs rfl ab Cp AA kU ai (fun x hx=>by rw[FV hx];decide) l hk;have hl:=f.len
 exact { h with
  version:=by show -1<=version/\version<_;omega
  aZ:=by show oR d.cells.length d;rw[hl];exact f
  sH:=by show d.cells.length<=16;omega
  fx:=fun x hx=>by rw[FV hx];decide
  Az:=by show(List.replicate p.jF.toNat (0:Int)).length<=16;simp;omega
  timers:=fun t ht=>by simp at ht
  vE:=by show([]:List Int).length<=8;simp
  waiting:=by show -1<=(-1:Int)/\(-1:Int)<fB;omega
  run:=fun _=>⟨hv.1,fun q hq=>by
   have:q=p:=by rw[show ps[version.toNat]? =some q from hq] at hp;injection hp
   subst this
   show(d.cells.length:Int)=_/\((List.replicate q.jF.toNat (0:Int)).length:Int)=_
   simp
   omega⟩ }
theorem YM{s:Node}(h:jV ps fB k s)(self nodes:Int)(l:List aL):
  ∃r,se s self l=some r/\tW ps fB (k+1) nodes ⟨self,40,s.counts.getD 40 0⟩ s.version r/\r.sent.length<=500/\r.bC.length<=500:=by
 have hlt:40<s.counts.length:=by rw[h.nc];omega
 have hc:s.counts[40]? =some (s.counts[40]):=by simp[hlt]
 have dp:s.counts.getD 40 0=s.counts[40]:=by rw[fo,hc];rfl
 have nY:=h.counts _ (bP hlt);unfold se;rw[dp,hc];generalize s.counts[40]=kX at hc dp nY;simp only;obtain⟨d,e,f⟩:=atJ h.aZ ((mI l ⟨self,40,kX⟩ s.aZ.pending.length).map fun(a:Ask)=>decide (a.n=1));rw[e];have hl:=f.len;refine⟨_,rfl,⟨?_,fun a ha=> ?_,?_,fun e he=>by simp at he,by show bu 0=true;decide,fun x hx=>by simp at hx,rfl,fun x hx=>by simp at hx,ai,rfl,by show Rp.asked.length<=1;decide⟩,ai,ai⟩
 ·have he:=h.fb
  exact⟨by simp[h.nc],fun x hx=>by
    rcases BB hx with hx|rfl
    ·have:=h.counts x hx;omega
    ·omega,by show 0<=s.fb+1/\s.fb+1<=_;omega,by have:=h.clock;show 0<=s.clock/\s.clock<=_;omega,h.version,by show oR d.cells.length d;rw[hl];exact f,by show d.cells.length<=16;rw[hl];exact h.sH,
   fun x hx=>by rw[FV hx];decide,by show(List.replicate s.fx.length (0:Int)).length<=16;simpa using h.Az,fun t ht=>by simp at ht,ai,by show -1<=(-1:Int)/\(-1:Int)<fB;omega,
   by have:=h.dropped;show 0<=s.dropped/\s.dropped<=_;omega,by have:=h.dY;show 0<=s.dY/\s.dY<=_;omega,fun hu=>by simp at hu⟩
 ·unfold mI at ha;rw[dm] at ha;obtain⟨i,hi,rfl⟩:=ha;rw[gy] at hi;have hn:=Ig l (aT.qn ⟨self,40,kX⟩ 3 i) (show(0:Int)<2 by omega);have:=h.aZ.sG;exact⟨rfl,rfl,rfl,by simp[ig,aT.qn],by simp[ig,aT.qn];omega,by simp[ig],hn.1,hn.2⟩
 ·show(mI l ⟨self,40,kX⟩ s.aZ.pending.length).length<=4
  unfold mI;simpa using h.aZ.sG
end aD
end Go.Proofs.YtkanpepkdcmpmaaGreatDoor
