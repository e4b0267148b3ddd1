import Derived.Test.YtngblilamkkikaaGreatDoorW0
set_option maxHeartbeats 40000000
set_option maxRecDepth 100000
set_option linter.all false
namespace Go.Proofs.YtngblilamkkikaaGreatDoor
namespace jc
theorem asF:sources.all (fun s=>match build s with |some p=>decide (verify p=0)|none=>false)=true:=by decide+kernel
end jc
namespace aD
open jc
variable {a:fm} {answers names st:List Int} {d:jk} {drift nodes self:Int} {handler k eV:Nat} {o:eo} {p:Prog} {ps:List Prog}
abbrev sj:=List (Option (Nat×Nat))
variable {fQ:sj}
def JG (p:Prog)(fQ:sj)(i:Nat):Bool:=
 match fQ.getD i none with
 |none=>true
 |some (d,k)=>
  UM p (p.code.getD i (0,0)) && decide (eA (p.opAt i)<=d) &&
  (pd p i).all (fun t=>decide (0<=t) && decide (fQ.getD t.toNat none=some ((d-eA (p.opAt i)+jA (p.opAt i)).toNat,if p.opAt i=5 then k+1 else k))) && decide (k<=1)
def afK (p:Prog)(fQ:sj)(e:Int):Bool:=
 decide (fQ.length=p.code.length) && (decide (e<0)||decide (fQ.getD e.toNat none=some (0,0))) && (List.range p.code.length).all (JG p fQ)
def asG (v:Nat×Nat)(l:sj)(t:Int):sj:=match l.getD t.toNat none with
 |none=>l.set t.toNat (some v)
 |some _=>l
def asH (p:Prog)(l:sj)(i:Nat):sj:=match l.getD i none with
 |none=>l
 |some (d,k)=>(pd p i).foldl (asG ((d-eA (p.opAt i)+jA (p.opAt i)).toNat,if p.opAt i=5 then k+1 else k)) l
def afL (p:Prog)(l:sj):sj:=(List.range p.code.length).foldl (asH p) l
def afM (p:Prog):Nat->sj->sj
 |0,l=>l
 |f+1,l=>if afL p l=l then l else afM p f (afL p l)
def afN (p:Prog)(e:Int):sj:=afM p p.code.length ((List.replicate p.code.length none).set e.toNat (if e<0 then none else some (0,0)))
def pN (p:Prog):Bool:=
 decide (p.entry.length=40) && p.entry.all (fun e=>afK p (afN p e) e) && decide (0<=p.cZ) && decide (0<=p.jd) && decide (p.cZ+p.jd<=16) && decide (p.code.length<=400)
theorem asI:sources.all (fun s=>match build s with |some p=>pN p|none=>false)=true:=by decide+kernel
theorem tT{n:Int}:bq n=true↔-2147483647<=n/\n<=2147483647:=by simp[bq]
theorem asJ(n:Int):bq (rV n)=true:=by
 rw[tT];unfold rV;omega
theorem afO(b:Bool):bq (yn b)=true:=by cases b<;>decide
theorem asK(op y x:Int):bq (Am op y x)=true:=by
 unfold Am
 repeat' split
 all_goals first|exact asJ _|exact afO _|decide
def Rp (p:Prog)(nodes:Int)(a:fm):Prop:=
 (a.kind=1/\0<=a.a/\a.a<p.cZ/\bq a.b=true)\/a.kind=2\/
 (a.kind=3/\0<=a.a/\a.a<nodes/\0<=a.b/\a.b<=29/\bq a.c=true/\bq a.d=true)\/
 ((a.kind=4\/a.kind=5)/\0<=a.a/\a.a<=7)\/(a.kind=6/\bq a.b=true)\/(a.kind=7/\bq a.a=true)
structure tU (p:Prog)(nv:Nat)(nodes:Int)(o:eo):Prop where
 len:o.vars.length=nv
 vars:∀x∈o.vars,bq x=true
 acts:∀a∈o.acts,Rp p nodes a
 JH:o.acts.length<=o.steps
 asked:∀k∈o.asked,2<=k/\k<=4
 sk:o.covered.length<=o.steps
 aE:∀k∈o.covered,0<=k/\k<p.code.length
theorem tU.act{nv:Nat}(h:tU p nv nodes o)(ha:Rp p nodes a)(hn:o.acts.length+1<=o.steps):tU p nv nodes (o.act a):=
 ⟨h.len,h.vars,fun b hb=>by
  rcases fJ.1 hb with hb|hb
  ·exact h.acts b hb
  ·simp at hb;subst hb;exact ha,by simp[eo.act];exact hn,h.asked,h.sk,h.aE⟩
theorem Xz(l:List Int)(n:Int):(nk l n).length<=l.length+1:=by
 unfold nk;split
 ·omega
 ·have:=aG List.length (Io (p:=fun x=>decide (x<n)) (l:=l));rw[List.length_append] at this;rw[List.length_append,List.length_cons];omega
theorem asL{l:List Int}{n x:Int}(h:x∈nk l n):x∈l\/x=n:=by
 unfold nk at h;split at h
 ·exact .inl h
 ·rcases fJ.1 h with h|h
  ·exact .inl (List.takeWhile_sublist _|>.mem h)
  ·rcases bZ.1 h with h|h
   ·exact .inr h
   ·exact .inl (List.dropWhile_sublist _|>.mem h)
def zc (p:Prog)(fQ:sj)(nv:Nat)(nodes:Int)(s:Nat):Option yo->Prop
 |none=>False
 |some (.stop o)=>tU p nv nodes o/\o.asked.length<=1/\o.steps=s
 |some (.go o st pc)=>tU p nv nodes o/\o.steps=s/\0<=pc/\(∃k,fQ.getD pc.toNat none=some (st.length,k)/\o.asked.length<=k)/\∀x∈st,bq x=true
theorem asM(l:List Int)(i:Nat)(k:Int)(h:2<=k/\k<=4):bq (sZ l i k)=true:=by
 rw[tT];unfold sZ;split
 ·omega
 ·rename_i a _;have h1:=Int.tmod_lt_of_pos (a.tmod k+k) (by omega:0<k)
  have h2: -k<(a.tmod k+k).tmod k:=by
   have:=Int.lt_tmod_of_pos (a.tmod k+k) (by omega:0<k);omega
  omega
theorem asN{nv:Nat}(pO:names.length=9)(dF:∀x∈names,bq x=true)(cB:names.getD 1 0=nodes)
  {i:Nat} {op n:Int} (hc:p.code[i]? =some (op,n)) {d:Nat} (sq:fQ.getD i none=some (d,k)) (ct:JG p fQ i=true) (hd:d=st.length)
  (hk:o.asked.length<=k) (hv:tU p nv nodes o) (AP:o.acts.length+1<=o.steps) (hst:∀x∈st,bq x=true) (MI:p.cZ+p.jd=nv):
  zc p fQ nv nodes o.steps (jC p.cZ names answers op n o st ((i:Int)+1)):=by
 have Dh:p.code.getD i (0,0)=(op,n):=by simp[List.getD,hc]
 have hop:p.opAt i=op:=by unfold Prog.opAt;rw[Dh]
 unfold JG at ct;rw[sq] at ct;simp only[hop,Dh,bO,cP,fg] at ct;obtain⟨⟨⟨h1,h2⟩,h3⟩,h4⟩:=ct;subst hd;have MJ:((i:Int)+1).toNat=i+1:=ab
 have nx:op≠23->op≠15->fQ.getD (i+1) none=some (((st.length:Int)-eA op+jA op).toNat,if op=5 then k+1 else k):=by
  intro a b;have:=h3 ((i:Int)+1) (by unfold pd;simp only[Dh];rw[af a,af b];split<;>simp);rw[MJ] at this;exact this.2
 have go:∀(o':eo) (st':List Int),tU p nv nodes o'->o'.steps=o.steps->op≠23->op≠15->((st.length:Int)-eA op+jA op).toNat=st'.length->(o'.asked.length<=if op=5 then k+1 else k)->(∀x∈st',bq x=true)->
   zc p fQ nv nodes o.steps (some (.go o' st' ((i:Int)+1))):=by
  intro o' st' a b c e f g h;exact⟨a,b,ab,⟨_,by rw[MJ,nx c e,f],g⟩,h⟩
 have cC:∀{x:Int} {r:List Int},(∀y∈x::r,bq y=true)->bq x=true/\∀y∈r,bq y=true:=fun h=>⟨h _ ai,fun y hy=>h y (by simp[hy])⟩
 have Di:∀{x:Int} {r:List Int},bq x=true->(∀y∈r,bq y=true)->∀y∈x::r,bq y=true:=fun h h' y hy=>by
  rcases bZ.1 hy with rfl|hy
  ·exact h
  ·exact h' y hy
 unfold UM at h1;by_cases o1:op=1
 ·subst o1
  have hn:bq n=true:=by rw[tT];simpa using h1
  exact go _ _ hv rfl aq aq (by simp[eA,jA]) (by simpa using hk) (Di hn hst)
 by_cases o2:op=2
 ·subst o2;simp[eA] at h1
  have hlt:n.toNat<o.vars.length:=by have:=hv.len;omega
  have hx:o.vars[n.toNat]? =some o.vars[n.toNat]:=by simp[hlt]
  show zc p fQ nv nodes o.steps (if n<0 then none else o.vars[n.toNat]?.map fun v=> .go o (v::st) ((i:Int)+1))
  rw[af ab,hx];exact go _ _ hv rfl aq aq (by simp[eA,jA]) (by simpa using hk) (Di (hv.vars _ (cA hlt)) hst)
 by_cases o4:op=4
 ·subst o4;simp[eA] at h1;have hlt:n.toNat<names.length:=ab
  have hx:names[n.toNat]? =some names[n.toNat]:=by simp[hlt]
  show zc p fQ nv nodes o.steps (if n<0 then none else names[n.toNat]?.map fun v=> .go o (v::st) ((i:Int)+1))
  rw[af ab,hx];exact go _ _ hv rfl aq aq (by simp[eA,jA]) (by simpa using hk) (Di (dF _ (cA hlt)) hst)
 by_cases o3:op=3
 ·subst o3;simp[eA] at h1 h2
  obtain _|⟨x,r⟩:=st
  ·simp at h2
  obtain⟨hx,hr⟩:=cC hst
  have hlt:n.toNat<o.vars.length:=by have:=hv.len;omega
  show zc p fQ nv nodes o.steps (if n<0\/(o.vars.length:Int)<=n then none else some (.go { o with vars:=o.vars.set n.toNat x,acts:=if n<p.cZ then o.acts++[⟨1,n,x,0,0⟩] else o.acts } r ((i:Int)+1)))
  rw[af ab];refine go _ _ ⟨by simp[hv.len],fun y hy=> ?_,fun a ha=> ?_,?_,hv.asked,hv.sk,hv.aE⟩ rfl aq aq (by simp[eA,jA]<;>omega) (by simpa using hk) hr
  ·rcases Cc hy with hy|rfl
   ·exact hv.vars y hy
   ·exact hx
  ·by_cases iN:n<p.cZ
   ·simp only[aj iN] at ha
    rcases fJ.1 ha with ha|ha
    ·exact hv.acts a ha
    ·simp at ha;subst ha;exact .inl ⟨rfl,(by omega:0<=n),iN,hx⟩
   ·simp only[af iN] at ha;exact hv.acts a ha
  ·by_cases iN:n<p.cZ
   ·simp only[aj iN];simpa using AP
   ·simp only[af iN];omega
 by_cases o5:op=5
 ·subst o5;simp[eA] at h1 h2
  obtain _|⟨x,r⟩:=st
  ·simp at h2
  obtain⟨hx,hr⟩:=cC hst
  show zc p fQ nv nodes o.steps (if 1<max 1 (min x 4) then some (.go { o with asked:=o.asked++[max 1 (min x 4)] } (sZ answers o.asked.length (max 1 (min x 4))::r) ((i:Int)+1)) else some (.go o (0::r) ((i:Int)+1)))
  split
  ·rename_i h;refine go _ _ ⟨hv.len,hv.vars,hv.acts,by simpa using hv.JH,fun y hy=> ?_,hv.sk,hv.aE⟩ rfl aq aq (by simp[eA,jA]) bC (Di (asM _ _ _ ab) hr)
   rcases fJ.1 hy with hy|hy
   ·exact hv.asked y hy
   ·simp only[rO] at hy;subst hy;omega
  ·exact go _ _ hv rfl aq aq (by simp[eA,jA]) bC (Di aq hr)
 by_cases o6:op=6\/op=7\/op=8\/op=9\/op=11\/op=12\/op=13
 ·have hp:eA op=2/\jA op=1/\op≠23/\op≠15/\op≠5:=by rcases o6 with rfl|rfl|rfl|rfl|rfl|rfl|rfl<;>decide
  rw[hp.1] at h2
  obtain _|⟨x,_|⟨y,r⟩⟩:=st
  ·simp at h2
  ·simp at h2
  obtain⟨hx,hr⟩:=cC hst;obtain⟨hy,hr⟩:=cC hr;unfold jC;rw[af o1,af o2,af o4,af o3,af o5,aj o6];simp only[hx,hy,Bool.and_self,mr];exact go _ _ hv rfl hp.2.2.1 hp.2.2.2.1 (by rw[hp.1,hp.2.1];simp;omega) (by rw[af hp.2.2.2.2];exact hk) (Di (asK _ _ _) hr)
 by_cases o10:op=10
 ·subst o10;simp[eA] at h2
  obtain _|⟨x,r⟩:=st
  ·simp at h2
  obtain⟨hx,hr⟩:=cC hst
  show zc p fQ nv nodes o.steps (if bq x then some (.go o (-x::r) ((i:Int)+1)) else none)
  rw[aj hx];refine go _ _ hv rfl aq aq (by simp[eA,jA]) (by simpa using hk) (Di ?_ hr);rw[tT] at hx⊢;omega
 by_cases o14:op=14
 ·subst o14;simp[eA] at h2
  obtain _|⟨x,r⟩:=st
  ·simp at h2
  obtain⟨hx,hr⟩:=cC hst;exact go _ _ hv rfl aq aq (by simp[eA,jA]) (by simpa using hk) (Di (afO _) hr)
 by_cases o15:op=15
 ·subst o15;have h5:=h3 n (by unfold pd;simp only[Dh];simp);exact⟨hv,rfl,h5.1,⟨_,by rw[h5.2];simp[eA,jA];rfl,by simpa using hk⟩,hst⟩
 by_cases o16:op=16
 ·subst o16;simp[eA] at h2
  obtain _|⟨x,r⟩:=st
  ·simp at h2
  obtain⟨hx,hr⟩:=cC hst
  show zc p fQ nv nodes o.steps (some (.go o r (if x=0 then n else(i:Int)+1)))
  split
  ·have h5:=h3 n (by unfold pd;simp only[Dh];simp);exact⟨hv,rfl,h5.1,⟨_,by rw[h5.2];simp[eA,jA];rfl,by simpa using hk⟩,hr⟩
  ·exact go _ _ hv rfl aq aq (by simp[eA,jA]) (by simpa using hk) hr
 by_cases o17:op=17
 ·subst o17;simp[eA] at h1 h2
  obtain _|⟨x,_|⟨y,_|⟨t,r⟩⟩⟩:=st
  ·simp at h2
  ·simp at h2
  ·simp at h2
  obtain⟨hx,hr⟩:=cC hst;obtain⟨hy,hr⟩:=cC hr;obtain⟨ht,hr⟩:=cC hr
  show zc p fQ nv nodes o.steps (some (.go (if 0<=t/\t<names.getD 1 0/\mB o.acts<20 then o.act ⟨3,t,n,y,x⟩ else o) r ((i:Int)+1)))
  split
  ·rename_i h;rw[cB] at h;exact go _ _ (hv.act (.inr (.inr (.inl ⟨rfl,h.1,h.2.1,(by omega:0<=n),(by omega:n<=29),hy,hx⟩))) AP) rfl aq aq (by simp[eA,jA];omega) (by simpa [eo.act] using hk) hr
  ·exact go _ _ hv rfl aq aq (by simp[eA,jA];omega) (by simpa using hk) hr
 by_cases o18:op=18
 ·subst o18;simp[eA] at h1;exact go _ _ (hv.act (.inr (.inr (.inr (.inl ⟨.inl rfl,(by omega:0<=n),(by omega:n<=7)⟩)))) AP) rfl aq aq (by simp[eA,jA]) (by simpa [eo.act] using hk) hst
 by_cases o19:op=19
 ·subst o19;simp[eA] at h1;exact go _ _ (hv.act (.inr (.inr (.inr (.inl ⟨.inr rfl,(by omega:0<=n),(by omega:n<=7)⟩)))) AP) rfl aq aq (by simp[eA,jA]) (by simpa [eo.act] using hk) hst
 by_cases o20:op=20
 ·subst o20;exact go _ _ (hv.act (.inr (.inl rfl)) AP) rfl aq aq (by simp[eA,jA]) (by simpa [eo.act] using hk) hst
 by_cases o21:op=21
 ·subst o21;simp[eA] at h2
  obtain _|⟨x,_|⟨y,r⟩⟩:=st
  ·simp at h2
  ·simp at h2
  obtain⟨hx,hr⟩:=cC hst;obtain⟨hy,hr⟩:=cC hr;exact go _ _ (hv.act (.inr (.inr (.inr (.inr (.inl ⟨rfl,hx⟩))))) AP) rfl aq aq (by simp[eA,jA];omega) (by simpa [eo.act] using hk) hr
 by_cases o22:op=22
 ·subst o22;simp[eA] at h2
  obtain _|⟨x,r⟩:=st
  ·simp at h2
  obtain⟨hx,hr⟩:=cC hst;exact go _ _ (hv.act (.inr (.inr (.inr (.inr (.inr ⟨rfl,hx⟩))))) AP) rfl aq aq (by simp[eA,jA]) (by simpa [eo.act] using hk) hr
 unfold jC;rw[af o1,af o2,af o4,af o3,af o5,af o6,af o10,af o14,af o15,af o16,af o17,af o18,af o19,af o20,af o21,af o22];exact⟨hv,ab,rfl⟩
theorem asO{nv:Nat}(pO:names.length=9)(dF:∀x∈names,bq x=true)(cB:names.getD 1 0=nodes)
  (cE:fQ.length=p.code.length) (ct:∀i<p.code.length,JG p fQ i=true) {pc:Int} (h0:0<=pc) (sq:fQ.getD pc.toNat none=some (st.length,k))
  (hk:o.asked.length<=k) (hv:tU p nv nodes o) (hst:∀x∈st,bq x=true) (MI:p.cZ+p.jd=nv):
  zc p fQ nv nodes (o.steps+1) (qD p names answers o st pc):=by
 have hlt:pc.toNat<p.code.length:=by
  apply Decidable.byContradiction;intro h;rw[ff,oW ab] at sq;cases sq
 have hc:p.code[pc.toNat]? =some p.code[pc.toNat]:=by simp[hlt]
 unfold qD;rw[af ab,hc];generalize p.code[pc.toNat]=x at hc;obtain⟨op,n⟩:=x;have MJ:pc=(pc.toNat:Int):=ab
 have:=asN (o:={ o with covered:=nk o.covered pc,steps:=o.steps+1 }) (answers:=answers) pO dF cB hc sq (ct _ hlt) rfl hk
  ⟨hv.len,hv.vars,hv.acts,qx hv.JH,hv.asked,bh (Xz _ _) (Nat.succ_le_succ hv.sk),fun x hx=>by
   rcases asL hx with hx|rfl
   ·exact hv.aE x hx
   ·omega⟩ (Nat.succ_le_succ hv.JH) hst MI
 rw[<-MJ] at this;exact this
theorem afP {p:Prog}{fQ:sj}{nv:Nat}{nodes:Int}{names answers:List Int}(pO:names.length=9)(dF:∀x∈names,bq x=true)(cB:names.getD 1 0=nodes)
  (cE:fQ.length=p.code.length) (ct:∀i<p.code.length,JG p fQ i=true) (fM:∀x∈fQ,∀d k,x=some (d,k)->k<=1) (MI:p.cZ+p.jd=nv):
  ∀(f:Nat) (o:eo) (st:List Int) (pc:Int) (k:Nat),0<=pc->fQ.getD pc.toNat none=some (st.length,k)->o.asked.length<=k->tU p nv nodes o->(∀x∈st,bq x=true)->
   ∃o',pj p names answers f o st pc=some o'/\tU p nv nodes o'/\o'.asked.length<=1/\o'.steps<=o.steps+f
 |0,o,st,pc,k,h0,sq,hk,hv,hst=>by
  refine⟨_,rfl,⟨hv.len,hv.vars,hv.acts,hv.JH,hv.asked,hv.sk,hv.aE⟩,?_,cI _⟩
  have hm:fQ.getD pc.toNat none∈fQ:=by
   rw[ff] at sq⊢
   cases h:fQ[pc.toNat]? with
   |none=>rw[h] at sq;cases sq
   |some x=>exact dD h
  have:=fM _ hm _ _ sq
  show o.asked.length<=1
  omega
 |f+1,o,st,pc,k,h0,sq,hk,hv,hst=>by
  have h:=asO (answers:=answers) pO dF cB cE ct h0 sq hk hv hst MI;unfold pj;generalize qD p names answers o st pc=r at h⊢
  match r,h with
  |some (.stop o'),h=>exact⟨o',rfl,h.1,h.2.1,by have:=h.2.2;omega⟩
  |some (.go o' st' FQ),⟨a,b,c,⟨k',e,g⟩,m⟩=>
   obtain⟨o2,h1,h2,h3,h4⟩:=afP pO dF cB cE ct fM MI f o' st' FQ k' c e g a m;exact⟨o2,h1,h2,h3,ab⟩
theorem XA(hs:pN p=true)(hh:handler<40){vars:List Int}(tA:(vars.length:Int)=p.cZ+p.jd)(Rq:∀x∈vars,bq x=true)
  (pO:names.length=9) (dF:∀x∈names,bq x=true):
  ∃o,wC p handler vars names answers=some o/\tU p vars.length (names.getD 1 0) o/\o.asked.length<=1/\o.steps<=500:=by
 unfold pN at hs;simp only[bO,cP,fg] at hs;obtain⟨⟨⟨⟨⟨h1,h2⟩,h3⟩,h4⟩,h5⟩,h6⟩:=hs;have hlt:handler<p.entry.length:=ab;unfold wC
 have he:p.entry[handler]? =some p.entry[handler]:=by simp[hlt]
 have hl:=h2 _ (cA hlt);rw[he];generalize p.entry[handler]=e at hl he
 have h0:tU p vars.length (names.getD 1 0) ⟨vars,[],0,false,[],[]⟩:=⟨rfl,Rq,fun a ha=>by simp at ha,ai,fun a ha=>by simp at ha,ai,fun a ha=>by simp at ha⟩
 by_cases pP:e<0
 ·exact⟨⟨vars,[],0,false,[],[]⟩,by simp[pP],h0,ai,ai⟩
 ·unfold afK at hl;simp only[bO,uN,cP,fg,fK] at hl;obtain⟨⟨g1,g2⟩,g3⟩:=hl;have sq:=g2.resolve_left pP
  have fM:∀x∈afN p e,∀d k,x=some (d,k)->k<=1:=by
   intro x hx d k mL;obtain⟨i,hi,rfl⟩:=List.getElem_of_mem hx;have:=g3 i ab;unfold JG at this;rw[ff,cy hi,Ad,mL] at this;simp only[bO,cP] at this;exact this.2
  obtain⟨o,a,b,c,d⟩:=afP (answers:=answers) pO dF rfl g1 g3 fM tA.symm 500 _ [] e 0 ab sq ai h0 ai;refine⟨o,?_,b,c,by simpa using d⟩;simp[pP,a]
structure nQ (n:Nat)(d:jk):Prop where
 len:d.cells.length=n
 cells:∀x∈d.cells,bq x=true
 MK:∀x∈d.pending,0<=x.1/\x.1<n/\bq x.2=true
 lG:d.pending.length<=4
theorem Rs {n:Nat}:∀(l:List (Int×Int)) (c:List Int),c.length=n->(∀x∈c,bq x=true)->(∀x∈l,0<=x.1/\x.1<n/\bq x.2=true)->∃c',jD c l=some c'/\c'.length=n/\∀x∈c',bq x=true
 |[],c,hc,hi,_=>⟨c,rfl,hc,hi⟩
 |(i,v)::l,c,hc,hi,h=>by
  have h0:=h (i,v) ai;simp only at h0;unfold jD;rw[aj ⟨h0.1,by rw[hc];exact h0.2.1⟩];refine Rs l _ (by simpa using hc) (fun x hx=> ?_) (fun x hx=>h x (by simp[hx]))
  rcases Cc hx with hx|rfl
  ·exact hi x hx
  ·exact h0.2.2
theorem XB{n:Nat}(h:nQ n d):∃c,uY d=some c/\c.length=n/\∀x∈c,bq x=true:=Rs _ _ h.len h.cells h.MK
theorem asP{n:Nat}(h:nQ n d){cell v:Int}(hv:bq v=true):∃d',wD d cell v=some d'/\nQ n d':=by
 unfold wD;have hl:=h.len;split
 ·exact⟨d,rfl,h⟩
 ·rename_i h1
  have hp:∀x∈d.pending++[(cell,v)],0<=x.1/\x.1<n/\bq x.2=true:=by
   intro x hx
   rcases fJ.1 hx with hx|hx
   ·exact h.MK x hx
   ·simp only[rO] at hx;subst hx;exact⟨by show 0<=cell;omega,by show cell<n;omega,hv⟩
  split
  ·rename_i h2;obtain⟨c,a,b,e⟩:=Rs ((d.pending++[(cell,v)]).take 1) d.cells hl h.cells (fun x hx=>hp x (uH hx));exact⟨_,by rw[a];rfl,⟨b,e,fun x hx=>hp x (Ce hx),by have:=h.lG;simp;omega⟩⟩
  ·rename_i h2;exact⟨_,rfl,⟨hl,h.cells,hp,by simpa using h2⟩⟩
theorem asQ{n:Nat}(h:nQ n d):∃d',yq d=some d'/\nQ n d':=by
 obtain⟨c,a,b,e⟩:=XB h;exact⟨⟨c,[]⟩,by unfold yq;rw[a];rfl,⟨b,e,fun x hx=>by simp at hx,ai⟩⟩
theorem XC:∀{l:List (Int×Int)} {m:List Bool} {x:Int×Int},x∈iD l m->x∈l
 |[],m,x,h=>by simp[iD] at h
 |y::l,[],x,h=>by simp[iD] at h
 |y::l,k::m,x,h=>by
  unfold iD at h;split at h
  ·rcases bZ.1 h with rfl|h
   ·simp
   ·exact kA _ (XC h)
  ·exact kA _ (XC h)
theorem asR{n:Nat}(h:nQ n d)(keep:List Bool):∃d',Ao d keep=some d'/\nQ n d':=by
 obtain⟨c,a,b,e⟩:=Rs (iD d.pending keep) d.cells h.len h.cells (fun x hx=>h.MK x (XC hx));exact⟨⟨c,[]⟩,by unfold Ao;rw[a];rfl,⟨b,e,fun x hx=>by simp at hx,ai⟩⟩
theorem XD{n:Nat}(h:nQ n d)(m:Nat):∃d',uZ d m=some d'/\nQ m d':=by
 obtain⟨c,a,b,e⟩:=XB h;refine⟨_,by unfold uZ;rw[a];rfl,⟨by simp;omega,fun x hx=> ?_,fun x hx=>by simp at hx,ai⟩⟩;have:=uH hx
 rcases fJ.1 this with h1|h1
 ·exact e x h1
 ·rw[EF h1];decide
structure js (ps:List Prog)(eV k:Nat)(s:Node):Prop where
 nc:s.counts.length=41
 counts:∀x∈s.counts,0<=x/\x<=k
 eC:0<=s.eC/\s.eC<=k
 clock:0<=s.clock/\s.clock<=5*k
 version: -1<=s.version/\s.version<ps.length
 aY:nQ s.aY.cells.length s.aY
 qU:s.aY.cells.length<=16
 eO:∀x∈s.eO,bq x=true
 zd:s.eO.length<=16
 timers:∀t∈s.timers,0<=t/\t<=7
 tV:s.timers.length<=8
 waiting: -1<=s.waiting/\s.waiting<eV
 dropped:0<=s.dropped/\s.dropped<=k
 dJ:0<=s.dJ/\s.dJ<=k
 run:s.up=true->0<=s.version/\∀p,ps[s.version.toNat]? =some p->(s.aY.cells.length:Int)=p.cZ/\(s.eO.length:Int)=p.jd
theorem js.more{s:Node}(h:js ps eV k s):js ps eV (k+1) s:=
 { h with counts:=fun x hx=>by have:=h.counts x hx;omega,eC:=by have:=h.eC;omega,clock:=by have:=h.clock;omega,dropped:=by have:=h.dropped;omega,dJ:=by have:=h.dJ;omega }
theorem asS(ps:List Prog)(eV k:Nat):js ps eV k kI:=
 ⟨by simp[kI],fun x hx=>by rw[EF hx];omega,by simp[kI],by simp[kI];omega,by simp[kI];omega,⟨rfl,fun x hx=>by simp[kI] at hx,fun x hx=>by simp[kI] at hx,by simp[kI]⟩,by simp[kI],
  fun x hx=>by simp[kI] at hx,by simp[kI],fun x hx=>by simp[kI] at hx,by simp[kI],by simp[kI];omega,by simp[kI],by simp[kI],fun h=>by simp[kI] at h⟩
theorem Rt{s:Node}(h:js ps eV k s):∃l,yr s=some l/\l.length=s.aY.cells.length+s.eO.length/\∀x∈l,bq x=true:=by
 obtain⟨c,a,b,e⟩:=XB h.aY;refine⟨c++s.eO,by unfold yr;rw[a];rfl,by simp[b],fun x hx=> ?_⟩
 rcases fJ.1 hx with hx|hx
 ·exact e x hx
 ·exact h.eO x hx
theorem afQ(l:List Int)(k:Int)(b:Bool):(∀t∈yt l k b,0<=t/\t<=7)/\(yt l k b).length<=8:=by
 unfold yt;refine⟨fun t ht=> ?_,bh (nb _ _) ai⟩;have:=(mq.1 ht).1;rw[dh] at this;obtain⟨i,hi,rfl⟩:=this;rw[fK] at hi;simp;omega
theorem FR(l:List aI)(q:Qn){k:Int}(h:0<k):0<=fo l q k/\fo l q k<k:=⟨Int.tmod_nonneg _ (anj _ _),Int.tmod_lt_of_pos _ h⟩
def ML (c:aT)(a:Ask):Prop:=a.node=c.node/\a.handler=c.handler/\a.count=c.count/\(1<=a.kind/\a.kind<=3)/\(0<=a.index/\a.index<=500)/\(2<=a.arity/\a.arity<=4)/\0<=a.n/\a.n<a.arity
structure sr (ps:List Prog)(eV k:Nat)(nodes:Int)(c:aT)(vD:Int)(r:Rr):Prop where
 s:js ps eV k r.s
 asks:∀a∈r.asks,ML c a
 AQ:r.asks.length<=4
 sent:∀e∈r.sent,e.msg.node=c.node/\e.msg.handler=c.handler/\e.msg.count=c.count/\(0<=e.msg.index/\e.msg.index<=500)/\e.msg.copy=0/\(0<=e.nE/\e.nE<nodes)/\(0<=e.kind/\e.kind<=29)/\bq e.a=true/\bq e.b=true
 value:bq r.value=true
 bB:∀x∈r.bB,bq x=true
 fy:r.fy=c
 aE:∀x∈r.covered,0<=x/\x<400
 sk:r.covered.length<=500
 version:r.s.version=vD
 MN:r.out.asked.length<=1
theorem asT{c:aT}{vD:Int}{r:Rr}(h:sr ps eV k nodes c vD r)(ha:Rp p nodes a){m:Nat}(hm:r.sent.length<=m/\r.bB.length<=m)(hm5:m<500):
  ∃r',td r a=some r'/\sr ps eV k nodes c vD r'/\r'.sent.length<=m+1/\r'.bB.length<=m+1:=by
 unfold td;by_cases k1:a.kind=1
 ·rw[aj k1]
  have hb:bq a.b=true:=by
   rcases ha with ha|ha|ha|ha|ha|ha
   ·exact ha.2.2.2
   all_goals omega
  obtain⟨d,e,f⟩:=asP h.s.aY (cell:=a.a) hb;rw[e];have hl:d.cells.length=r.s.aY.cells.length:=f.len;exact⟨_,rfl,{ h with s:={ h.s with aY:=by show nQ d.cells.length d;rw[hl];exact f,qU:=by show d.cells.length<=16;rw[hl];exact h.s.qU,run:=fun hu=>⟨(h.s.run hu).1,fun p hp=>by show(d.cells.length:Int)=_/\_;rw[hl];exact(h.s.run hu).2 p hp⟩ } },by show r.sent.length<=_;omega,by show r.bB.length<=_;omega⟩
 rw[af k1];by_cases k2:a.kind=2
 ·rw[aj k2];obtain⟨d,e,f⟩:=asQ h.s.aY;rw[e];have hl:d.cells.length=r.s.aY.cells.length:=f.len;exact⟨_,rfl,{ h with s:={ h.s with aY:=by show nQ d.cells.length d;rw[hl];exact f,qU:=by show d.cells.length<=16;rw[hl];exact h.s.qU,run:=fun hu=>⟨(h.s.run hu).1,fun p hp=>by show(d.cells.length:Int)=_/\_;rw[hl];exact(h.s.run hu).2 p hp⟩ } },by show r.sent.length<=_;omega,by show r.bB.length<=_;omega⟩
 rw[af k2];by_cases k4:a.kind=4
 ·rw[aj k4];have ht:=afQ r.s.timers a.a true;exact⟨_,rfl,{ h with s:={ h.s with timers:=ht.1,tV:=ht.2 } },by show r.sent.length<=_;omega,by show r.bB.length<=_;omega⟩
 rw[af k4];by_cases k5:a.kind=5
 ·rw[aj k5];have ht:=afQ r.s.timers a.a false;exact⟨_,rfl,{ h with s:={ h.s with timers:=ht.1,tV:=ht.2 } },by show r.sent.length<=_;omega,by show r.bB.length<=_;omega⟩
 rw[af k5];by_cases k3:a.kind=3
 ·rw[aj k3]
  have h3:0<=a.a/\a.a<nodes/\0<=a.b/\a.b<=29/\bq a.c=true/\bq a.d=true:=by
   rcases ha with ha|ha|ha|ha|ha|ha
   ·omega
   ·omega
   ·exact ha.2
   all_goals omega
  refine⟨_,rfl,{ h with sent:=fun e he=> ?_ },by show(r.sent++[_]).length<=_;simp;omega,by show r.bB.length<=_;omega⟩
  rcases fJ.1 he with he|he
  ·exact h.sent e he
  ·simp only[rO] at he;subst he;refine⟨by rw[h.fy],by rw[h.fy],by rw[h.fy],⟨ai,?_⟩,rfl,⟨h3.1,h3.2.1⟩,⟨h3.2.2.1,h3.2.2.2.1⟩,h3.2.2.2.2.1,h3.2.2.2.2.2⟩
   show((r.sent.length:Nat):Int)<=500
   omega
 rw[af k3];by_cases k6:a.kind=6
 ·rw[aj k6]
  have hb:bq a.b=true:=by
   rcases ha with ha|ha|ha|ha|ha|ha
   ·omega
   ·omega
   ·omega
   ·omega
   ·exact ha.2
   ·omega
  split
  ·refine⟨_,rfl,{ h with s:={ h.s with waiting:=by show -1<=(-1:Int)/\(-1:Int)<eV;omega },value:=hb },by show r.sent.length<=_;omega,by show r.bB.length<=_;omega⟩
  ·exact⟨r,rfl,h,ab,ab⟩
 rw[af k6]
 have k7:a.kind=7/\bq a.a=true:=by
  rcases ha with ha|ha|ha|ha|ha|ha
  ·omega
  ·omega
  ·omega
  ·omega
  ·omega
  ·exact ha
 rw[aj k7.1];refine⟨_,rfl,{ h with bB:=fun x hx=> ?_ },by show r.sent.length<=_;omega,by show(r.bB++[_]).length<=_;simp;omega⟩
 rcases fJ.1 hx with hx|hx
 ·exact h.bB x hx
 ·simp only[rO] at hx;subst hx;exact k7.2
theorem afR {ps:List Prog}{eV k:Nat}{nodes:Int}{c:aT}{vD:Int}{p:Prog}:∀(l:List fm) (r:Rr) (m:Nat),sr ps eV k nodes c vD r->(∀a∈l,Rp p nodes a)->r.sent.length<=m/\r.bB.length<=m->m+l.length<=500->
  ∃r',tf r l=some r'/\sr ps eV k nodes c vD r'/\r'.sent.length<=500/\r'.bB.length<=500
 |[],r,m,h,_,hm,hl=>⟨r,rfl,h,by simp at hl;omega,by simp at hl;omega⟩
 |a::l,r,m,h,ha,hm,hl=>by
  simp only[List.length_cons] at hl;obtain⟨r1,e,h1,h2,h3⟩:=asT h (ha a ai) hm ab;unfold tf;rw[e];exact afR l r1 (m+1) h1 (fun b hb=>ha b (by simp[hb])) ⟨h2,h3⟩ ab
theorem XE (l:List aI)(c:aT):∀(m:List Int) (i:Nat),(∀k∈m,2<=k/\k<=4)->i+m.length<=500->(∀a∈jE l c i m,ML c a)/\(jE l c i m).length=m.length
 |[],i,_,_=>⟨fun a ha=>by simp[jE] at ha,rfl⟩
 |k::m,i,h,hi=>by
  simp only[List.length_cons] at hi;obtain⟨h1,h2⟩:=XE l c m (i+1) (fun x hx=>h x (by simp[hx])) ab;have hk:=h k ai;have hn:=FR l (c.qn 1 i) (show 0<k by omega);refine⟨fun a ha=> ?_,by simp[jE,h2]⟩;unfold jE at ha
  rcases bZ.1 ha with rfl|ha
  ·exact⟨rfl,rfl,rfl,by simp[gC,aT.qn],by simp[gC,aT.qn];omega,hk,hn.1,hn.2⟩
  ·exact h1 a ha
theorem MO{s:Node}(h:js ps eV k s)(hp:ps[s.version.toNat]? =some p)(hs:pN p=true)(ft:s.up=true)(hh:handler<40)
  (AR:bq self=true) (ze:bq nodes=true) (mc:0<=drift/\drift<=3) (pO:names.length=9) (dF:∀x∈names,bq x=true) (l:List aI) (hk:k<=5000):
  ∃r,oh s p handler self nodes drift names l=some r/\sr ps eV (k+1) nodes ⟨self,handler,s.counts.getD handler 0⟩ s.version r/\r.sent.length<=500/\r.bB.length<=500:=by
 have hlt:handler<s.counts.length:=by rw[h.nc];omega
 have hc:s.counts[handler]? =some (s.counts[handler]):=by simp[hlt]
 have db:s.counts.getD handler 0=s.counts[handler]:=by rw[ff,hc];rfl
 have oI:=h.counts _ (cA hlt);unfold oh;rw[db,hc];generalize s.counts[handler]=qV at hc db oI;obtain⟨vars,iO,qW,xh⟩:=Rt h
 obtain⟨n,hn,Vv⟩:∃n:Int,n=(if 0<drift then fo l (aT.qn ⟨self,handler,qV⟩ 2 0) (drift+1) else 0)/\0<=n/\n<=drift:=by
  refine⟨_,rfl,?_⟩;split
  ·have:=FR l (aT.qn ⟨self,handler,qV⟩ 2 0) (show 0<drift+1 by omega);omega
  ·omega
 simp only[iO,<-hn];have asU:=h.clock;have hr:=h.run ft;have fC:=hr.2 p hp
 have asV:∀x∈wE names self nodes (s.clock+1+n),bq x=true:=by
  intro x hx;unfold wE at hx
  rcases Cc hx with hx|rfl
  ·rcases Cc hx with hx|rfl
   ·rcases Cc hx with hx|rfl
    ·exact dF x hx
    ·exact AR
   ·exact ze
  ·rw[tT];omega
 have jP:(wE names self nodes (s.clock+1+n)).length=9:=by simp[wE,pO]
 have fD:(wE names self nodes (s.clock+1+n)).getD 1 0=nodes:=by
  unfold wE;rw[ff,sX ab,zW bC];rfl
 obtain⟨o,a1,a2,a3,a4⟩:=XA hs hh (vars:=vars) (names:=wE names self nodes (s.clock+1+n)) (answers:=ta l ⟨self,handler,qV⟩) (by rw[qW];omega) xh jP asV;rw[a1];rw[fD] at a2;have hd0:0<=p.cZ:=ab;simp only;rw[aj ⟨hd0,by rw[a2.len,qW];omega⟩];have afS:=XE l ⟨self,handler,qV⟩ o.asked 0 a2.asked ab
 have zf:(∀a∈(if 0<drift then [gC (aT.qn ⟨self,handler,qV⟩ 2 0) (drift+1) n] else []),ML ⟨self,handler,qV⟩ a)/\(if 0<drift then [gC (aT.qn ⟨self,handler,qV⟩ 2 0) (drift+1) n] else []).length<=1:=by
  split
  ·refine⟨fun a ha=> ?_,ai⟩;simp only[rO] at ha;subst ha;exact⟨rfl,rfl,rfl,by simp[gC,aT.qn],by simp[gC,aT.qn],by simp[gC];omega,Vv.1,by simp[gC];omega⟩
  ·exact⟨fun a ha=>by simp at ha,ai⟩
 have afT:p.code.length<=400:=by
  unfold pN at hs;simp only[bO,cP] at hs;exact hs.2
 refine afR (p:=p) o.acts _ 0 ?_ a2.acts ⟨ai,ai⟩ (by have:=a2.JH;omega);refine⟨?_,fun a ha=> ?_,?_,fun e he=>by simp at he,by show bq 0=true;decide,fun x hx=>by simp at hx,rfl,fun x hx=> ?_,by have:=a2.sk;show o.covered.length<=500;omega,rfl,by show o.asked.length<=1;omega⟩
 ·have dp:=h.eC
  have tA:((o.vars.drop p.cZ.toNat).take 16).length=s.eO.length:=by
   have:=a2.len;have:=h.zd;simp;omega
  refine⟨by simp[h.nc],fun x hx=> ?_,by have:=h.eC;show 0<=s.eC/\s.eC<=_;omega,by show 0<=s.clock+1+n/\s.clock+1+n<=_;omega,h.version,h.aY,h.qU,fun x hx=>a2.vars x (Ce (uH hx)),?_,h.timers,h.tV,h.waiting,
   by have:=h.dropped;show 0<=s.dropped/\s.dropped<=_;omega,by have:=h.dJ;show 0<=s.dJ/\s.dJ<=_;omega,fun _=>⟨hr.1,fun q hq=>⟨(hr.2 q hq).1,?_⟩⟩⟩
  ·rcases Cc hx with hx|rfl
   ·have:=h.counts x hx;omega
   ·omega
  ·show((o.vars.drop p.cZ.toNat).take 16).length<=16
   rw[tA];exact h.zd
  ·show((((o.vars.drop p.cZ.toNat).take 16).length:Nat):Int)=q.jd
   rw[tA];exact(hr.2 q hq).2
 ·rcases fJ.1 ha with ha|ha
  ·exact zf.1 a ha
  ·exact afS.1 a ha
 ·show(_++_:List Ask).length<=4
  rw[List.length_append,afS.2];have:=zf.2;omega
 ·have:=a2.aE x hx;omega
theorem XF{s:Node}(h:js ps eV k s){version:Int}(hv:0<=version/\version<ps.length)(hp:ps[version.toNat]? =some p)(hs:pN p=true)
  (AR:bq self=true) (ze:bq nodes=true) (mc:0<=drift/\drift<=3) (l:List aI) (hk:k<=5000):
  ∃r,Ap s p version self nodes drift l=some r/\sr ps eV (k+1) nodes ⟨self,0,s.counts.getD 0 0⟩ version r/\r.sent.length<=500/\r.bB.length<=500:=by
 have dm:=hs;unfold pN at dm;simp only[bO,cP] at dm;obtain⟨⟨⟨⟨⟨h1,h2⟩,h3⟩,h4⟩,h5⟩,h6⟩:=dm;unfold Ap;rw[af ab]
 have key:∃d,(if(s.aY.cells.length:Int)=p.cZ then some s.aY else uZ s.aY p.cZ.toNat)=some d/\nQ p.cZ.toNat d:=by
  split
  ·rename_i he;refine⟨_,rfl,?_⟩;have:p.cZ.toNat=s.aY.cells.length:=ab;rw[this];exact h.aY
  ·exact XD h.aY _
 obtain⟨d,e,f⟩:=key;rw[e];simp only;refine MO (s:={ s with version:=version,aY:=d,eO:=List.replicate p.jd.toNat 0,timers:=[],waiting:= -1,up:=true }) ?_ hp hs rfl ab AR ze mc ai (fun x hx=>by rw[EF hx];decide) l hk;have hl:=f.len
 exact { h with
  version:=by show -1<=version/\version<_;omega
  aY:=by show nQ d.cells.length d;rw[hl];exact f
  qU:=by show d.cells.length<=16;omega
  eO:=fun x hx=>by rw[EF hx];decide
  zd:=by show(List.replicate p.jd.toNat (0:Int)).length<=16;simp;omega
  timers:=fun t ht=>by simp at ht
  tV:=by show([]:List Int).length<=8;simp
  waiting:=by show -1<=(-1:Int)/\(-1:Int)<eV;omega
  run:=fun _=>⟨hv.1,fun q hq=>by
   have:q=p:=by rw[show ps[version.toNat]? =some q from hq] at hp;injection hp
   subst this
   show(d.cells.length:Int)=_/\((List.replicate q.jd.toNat (0:Int)).length:Int)=_
   simp
   omega⟩ }
theorem XG{s:Node}(h:js ps eV k s)(self nodes:Int)(l:List aI):
  ∃r,qG s self l=some r/\sr ps eV (k+1) nodes ⟨self,40,s.counts.getD 40 0⟩ s.version r/\r.sent.length<=500/\r.bB.length<=500:=by
 have hlt:40<s.counts.length:=by rw[h.nc];omega
 have hc:s.counts[40]? =some (s.counts[40]):=by simp[hlt]
 have db:s.counts.getD 40 0=s.counts[40]:=by rw[ff,hc];rfl
 have oI:=h.counts _ (cA hlt);unfold qG;rw[db,hc];generalize s.counts[40]=qV at hc db oI;simp only;obtain⟨d,e,f⟩:=asR h.aY ((lS l ⟨self,40,qV⟩ s.aY.pending.length).map fun(a:Ask)=>decide (a.n=1));rw[e];have hl:=f.len;refine⟨_,rfl,⟨?_,fun a ha=> ?_,?_,fun e he=>by simp at he,by show bq 0=true;decide,fun x hx=>by simp at hx,rfl,fun x hx=>by simp at hx,ai,rfl,by show PQ.asked.length<=1;decide⟩,ai,ai⟩
 ·have he:=h.eC
  exact⟨by simp[h.nc],fun x hx=>by
    rcases Cc hx with hx|rfl
    ·have:=h.counts x hx;omega
    ·omega,by show 0<=s.eC+1/\s.eC+1<=_;omega,by have:=h.clock;show 0<=s.clock/\s.clock<=_;omega,h.version,by show nQ d.cells.length d;rw[hl];exact f,by show d.cells.length<=16;rw[hl];exact h.qU,
   fun x hx=>by rw[EF hx];decide,by show(List.replicate s.eO.length (0:Int)).length<=16;simpa using h.zd,fun t ht=>by simp at ht,ai,by show -1<=(-1:Int)/\(-1:Int)<eV;omega,
   by have:=h.dropped;show 0<=s.dropped/\s.dropped<=_;omega,by have:=h.dJ;show 0<=s.dJ/\s.dJ<=_;omega,fun hu=>by simp at hu⟩
 ·unfold lS at ha;rw[dh] at ha;obtain⟨i,hi,rfl⟩:=ha;rw[fK] at hi;have hn:=FR l (aT.qn ⟨self,40,qV⟩ 3 i) (show(0:Int)<2 by omega);have:=h.aY.lG;exact⟨rfl,rfl,rfl,by simp[gC,aT.qn],by simp[gC,aT.qn];omega,by simp[gC],hn.1,hn.2⟩
 ·show(lS l ⟨self,40,qV⟩ s.aY.pending.length).length<=4
  unfold lS;simpa using h.aY.lG
end aD
end Go.Proofs.YtngblilamkkikaaGreatDoor
