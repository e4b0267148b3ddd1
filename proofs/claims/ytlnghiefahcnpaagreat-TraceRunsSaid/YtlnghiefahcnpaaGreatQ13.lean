import Derived.Test.YtlnghiefahcnpaaGreatQ8
import Derived.Test.YtlnghiefahcnpaaGreatQ12
set_option maxHeartbeats 40000000
set_option maxRecDepth 100000
set_option linter.all false
namespace Go.Proofs.YtlnghiefahcnpaaGreat
namespace dL
theorem apK:sources.all (fun s=>match build s with |some p=>decide (verify p=0)|none=>false)=true:=by decide+kernel
end dL
namespace aq
open dL
abbrev nR:=List (Option (Nat×Nat))
def CW (p:Prog)(et:nR)(i:Nat):Bool:=
 match et.getD i none with
 |none=>true
 |some (d,k)=>
  MA p (p.code.getD i (0,0)) && decide (dE (p.opAt i)<=d) &&
  (mi p i).all (fun t=>decide (0<=t) && decide (et.getD t.toNat none=some ((d-dE (p.opAt i)+gU (p.opAt i)).toNat,if p.opAt i=5 then k+1 else k))) && decide (k<=1)
def adg (p:Prog)(et:nR)(e:Int):Bool:=
 decide (et.length=p.code.length) && (decide (e<0)||decide (et.getD e.toNat none=some (0,0))) && (List.range p.code.length).all (CW p et)
def apL (v:Nat×Nat)(l:nR)(t:Int):nR:=match l.getD t.toNat none with
 |none=>l.set t.toNat (some v)
 |some _=>l
def apM (p:Prog)(l:nR)(i:Nat):nR:=match l.getD i none with
 |none=>l
 |some (d,k)=>(mi p i).foldl (apL ((d-dE (p.opAt i)+gU (p.opAt i)).toNat,if p.opAt i=5 then k+1 else k)) l
def adh (p:Prog)(l:nR):nR:=(List.range p.code.length).foldl (apM p) l
def adi (p:Prog):Nat->nR->nR
 |0,l=>l
 |f+1,l=>if adh p l=l then l else adi p f (adh p l)
def adj (p:Prog)(e:Int):nR:=adi p p.code.length ((List.replicate p.code.length none).set e.toNat (if e<0 then none else some (0,0)))
def mI (p:Prog):Bool:=
 decide (p.entry.length=40) && p.entry.all (fun e=>adg p (adj p e) e) && decide (0<=p.cC) && decide (0<=p.gG) && decide (p.cC+p.gG<=16) && decide (p.code.length<=400)
theorem apN:sources.all (fun s=>match build s with |some p=>mI p|none=>false)=true:=by decide+kernel
theorem qd {n:Int}:bp n=true↔-2147483647<=n/\n<=2147483647:=by simp[bp]
theorem apO (n:Int):bp (tJ n)=true:=by
 rw[qd];unfold tJ;omega
theorem adk (b:Bool):bp (tK b)=true:=by cases b<;>decide
theorem apP (op y x:Int):bp (np op y x)=true:=by
 unfold np
 repeat' split
 all_goals first|exact apO _|exact adk _|decide
def JU (p:Prog)(nodes:Int)(a:dF):Prop:=
 (a.kind=1/\0<=a.a/\a.a<p.cC/\bp a.b=true)\/a.kind=2\/
 (a.kind=3/\0<=a.a/\a.a<nodes/\0<=a.b/\a.b<=29/\bp a.c=true/\bp a.d=true)\/
 ((a.kind=4\/a.kind=5)/\0<=a.a/\a.a<=7)\/(a.kind=6/\bp a.b=true)\/(a.kind=7/\bp a.a=true)
structure qf (p:Prog)(nv:Nat)(nodes:Int)(o:de):Prop where
 len:o.vars.length=nv
 vars:∀x∈o.vars,bp x=true
 acts:∀a∈o.acts,JU p nodes a
 CX:o.acts.length<=o.steps
 asked:∀k∈o.asked,2<=k/\k<=4
 oQ:o.covered.length<=o.steps
 au:∀k∈o.covered,0<=k/\k<p.code.length
theorem qf.act {p:Prog}{nv:Nat}{nodes:Int}{o:de}(h:qf p nv nodes o){a:dF}(ha:JU p nodes a)(hn:o.acts.length+1<=o.steps):qf p nv nodes (o.act a):=
 ⟨h.len,h.vars,fun b hb=>by
  rcases fA.1 hb with hb|hb
  ·exact h.acts b hb
  ·simp at hb;subst hb;exact ha,by simp[de.act];exact hn,h.asked,h.oQ,h.au⟩
theorem Oe (l:List Int)(n:Int):(kv l n).length<=l.length+1:=by
 unfold kv;split
 ·omega
 ·have:=kp List.length (Bf (p:=fun x=>decide (x<n)) (l:=l));rw[List.length_append] at this;rw[List.length_append,List.length_cons];omega
theorem apQ {l:List Int}{n x:Int}(h:x∈kv l n):x∈l\/x=n:=by
 unfold kv at h;split at h
 ·exact .inl h
 ·rcases fA.1 h with h|h
  ·exact .inl (List.takeWhile_sublist _|>.mem h)
  ·rcases eM.1 h with h|h
   ·exact .inr h
   ·exact .inl (List.dropWhile_sublist _|>.mem h)
def uu (p:Prog)(et:nR)(nv:Nat)(nodes:Int)(s:Nat):Option tM->Prop
 |none=>False
 |some (.stop o)=>qf p nv nodes o/\o.asked.length<=1/\o.steps=s
 |some (.go o st pc)=>qf p nv nodes o/\o.steps=s/\0<=pc/\(∃k,et.getD pc.toNat none=some (st.length,k)/\o.asked.length<=k)/\∀x∈st,bp x=true
theorem apR (l:List Int)(i:Nat)(k:Int)(h:2<=k/\k<=4):bp (pN l i k)=true:=by
 rw[qd];unfold pN;split
 ·omega
 ·rename_i a _;have h1:=Int.tmod_lt_of_pos (a.tmod k+k) (by omega:0<k)
  have h2: -k<(a.tmod k+k).tmod k:=by
   have:=Int.lt_tmod_of_pos (a.tmod k+k) (by omega:0<k);omega
  omega
theorem apS {p:Prog}{et:nR}{nv:Nat}{nodes:Int}{names answers:List Int}(mJ:names.length=9)(bg:∀x∈names,bp x=true)(ct:names.getD 1 0=nodes)
  {i:Nat} {op n:Int} (hc:p.code[i]? =some (op,n)) {d k:Nat} (oR:et.getD i none=some (d,k)) (eg:CW p et i=true) {o:de} {st:List Int} (hd:d=st.length)
  (hk:o.asked.length<=k) (hv:qf p nv nodes o) (xd:o.acts.length+1<=o.steps) (hst:∀x∈st,bp x=true) (Fw:p.cC+p.gG=nv):
  uu p et nv nodes o.steps (eS p.cC names answers op n o st ((i:Int)+1)):=by
 have Fx:p.code.getD i (0,0)=(op,n):=by simp[List.getD,hc]
 have hop:p.opAt i=op:=by unfold Prog.opAt;rw[Fx]
 unfold CW at eg;rw[oR] at eg;simp only[hop,Fx,bN,dv,dY] at eg;obtain⟨⟨⟨h1,h2⟩,h3⟩,h4⟩:=eg;subst hd;have Fo:((i:Int)+1).toNat=i+1:=aa
 have nx:op≠23->op≠15->et.getD (i+1) none=some (((st.length:Int)-dE op+gU op).toNat,if op=5 then k+1 else k):=by
  intro a b;have:=h3 ((i:Int)+1) (by unfold mi;simp only[Fx];rw[if_neg a,if_neg b];split<;>simp);rw[Fo] at this;exact this.2
 have go:∀(o':de) (st':List Int),qf p nv nodes o'->o'.steps=o.steps->op≠23->op≠15->((st.length:Int)-dE op+gU op).toNat=st'.length->(o'.asked.length<=if op=5 then k+1 else k)->(∀x∈st',bp x=true)->
   uu p et nv nodes o.steps (some (.go o' st' ((i:Int)+1))):=by
  intro o' st' a b c e f g h;exact⟨a,b,aa,⟨_,by rw[Fo,nx c e,f],g⟩,h⟩
 have bH:∀{x:Int} {r:List Int},(∀y∈x::r,bp y=true)->bp x=true/\∀y∈r,bp y=true:=fun h=>⟨h _ ae,fun y hy=>h y (by simp[hy])⟩
 have yT:∀{x:Int} {r:List Int},bp x=true->(∀y∈r,bp y=true)->∀y∈x::r,bp y=true:=fun h h' y hy=>by
  rcases eM.1 hy with rfl|hy
  ·exact h
  ·exact h' y hy
 unfold MA at h1;by_cases o1:op=1
 ·subst o1
  have hn:bp n=true:=by rw[qd];simpa using h1
  exact go _ _ hv rfl ai ai (by simp[dE,gU]) (by simpa using hk) (yT hn hst)
 by_cases o2:op=2
 ·subst o2;simp[dE] at h1
  have hlt:n.toNat<o.vars.length:=by have:=hv.len;omega
  have hx:o.vars[n.toNat]? =some o.vars[n.toNat]:=by simp[hlt]
  show uu p et nv nodes o.steps (if n<0 then none else o.vars[n.toNat]?.map fun v=> .go o (v::st) ((i:Int)+1))
  rw[if_neg aa,hx];exact go _ _ hv rfl ai ai (by simp[dE,gU]) (by simpa using hk) (yT (hv.vars _ (cT hlt)) hst)
 by_cases o4:op=4
 ·subst o4;simp[dE] at h1;have hlt:n.toNat<names.length:=aa
  have hx:names[n.toNat]? =some names[n.toNat]:=by simp[hlt]
  show uu p et nv nodes o.steps (if n<0 then none else names[n.toNat]?.map fun v=> .go o (v::st) ((i:Int)+1))
  rw[if_neg aa,hx];exact go _ _ hv rfl ai ai (by simp[dE,gU]) (by simpa using hk) (yT (bg _ (cT hlt)) hst)
 by_cases o3:op=3
 ·subst o3;simp[dE] at h1 h2
  obtain _|⟨x,r⟩:=st
  ·simp at h2
  obtain⟨hx,hr⟩:=bH hst
  have hlt:n.toNat<o.vars.length:=by have:=hv.len;omega
  show uu p et nv nodes o.steps (if n<0\/(o.vars.length:Int)<=n then none else some (.go { o with vars:=o.vars.set n.toNat x,acts:=if n<p.cC then o.acts++[⟨1,n,x,0,0⟩] else o.acts } r ((i:Int)+1)))
  rw[if_neg aa];refine go _ _ ⟨by simp[hv.len],fun y hy=> ?_,fun a ha=> ?_,?_,hv.asked,hv.oQ,hv.au⟩ rfl ai ai (by simp[dE,gU]<;>omega) (by simpa using hk) hr
  ·rcases xt hy with hy|rfl
   ·exact hv.vars y hy
   ·exact hx
  ·by_cases iw:n<p.cC
   ·simp only[if_pos iw] at ha
    rcases fA.1 ha with ha|ha
    ·exact hv.acts a ha
    ·simp at ha;subst ha;exact .inl ⟨rfl,(by omega:0<=n),iw,hx⟩
   ·simp only[if_neg iw] at ha;exact hv.acts a ha
  ·by_cases iw:n<p.cC
   ·simp only[if_pos iw];simpa using xd
   ·simp only[if_neg iw];omega
 by_cases o5:op=5
 ·subst o5;simp[dE] at h1 h2
  obtain _|⟨x,r⟩:=st
  ·simp at h2
  obtain⟨hx,hr⟩:=bH hst
  show uu p et nv nodes o.steps (if 1<max 1 (min x 4) then some (.go { o with asked:=o.asked++[max 1 (min x 4)] } (pN answers o.asked.length (max 1 (min x 4))::r) ((i:Int)+1)) else some (.go o (0::r) ((i:Int)+1)))
  split
  ·rename_i h;refine go _ _ ⟨hv.len,hv.vars,hv.acts,by simpa using hv.CX,fun y hy=> ?_,hv.oQ,hv.au⟩ rfl ai ai (by simp[dE,gU]) (by simp;omega) (yT (apR _ _ _ aa) hr)
   rcases fA.1 hy with hy|hy
   ·exact hv.asked y hy
   ·simp only[qx] at hy;subst hy;omega
  ·exact go _ _ hv rfl ai ai (by simp[dE,gU]) (by simp;omega) (yT ai hr)
 by_cases o6:op=6\/op=7\/op=8\/op=9\/op=11\/op=12\/op=13
 ·have hp:dE op=2/\gU op=1/\op≠23/\op≠15/\op≠5:=by rcases o6 with rfl|rfl|rfl|rfl|rfl|rfl|rfl<;>decide
  rw[hp.1] at h2
  obtain _|⟨x,_|⟨y,r⟩⟩:=st
  ·simp at h2
  ·simp at h2
  obtain⟨hx,hr⟩:=bH hst;obtain⟨hy,hr⟩:=bH hr;unfold eS;rw[if_neg o1,if_neg o2,if_neg o4,if_neg o3,if_neg o5,if_pos o6];simp only[hx,hy,Bool.and_self,lX];exact go _ _ hv rfl hp.2.2.1 hp.2.2.2.1 (by rw[hp.1,hp.2.1];simp;omega) (by rw[if_neg hp.2.2.2.2];exact hk) (yT (apP _ _ _) hr)
 by_cases o10:op=10
 ·subst o10;simp[dE] at h2
  obtain _|⟨x,r⟩:=st
  ·simp at h2
  obtain⟨hx,hr⟩:=bH hst
  show uu p et nv nodes o.steps (if bp x then some (.go o (-x::r) ((i:Int)+1)) else none)
  rw[if_pos hx];refine go _ _ hv rfl ai ai (by simp[dE,gU]) (by simpa using hk) (yT ?_ hr);rw[qd] at hx⊢;omega
 by_cases o14:op=14
 ·subst o14;simp[dE] at h2
  obtain _|⟨x,r⟩:=st
  ·simp at h2
  obtain⟨hx,hr⟩:=bH hst;exact go _ _ hv rfl ai ai (by simp[dE,gU]) (by simpa using hk) (yT (adk _) hr)
 by_cases o15:op=15
 ·subst o15;have h5:=h3 n (by unfold mi;simp only[Fx];simp);exact⟨hv,rfl,h5.1,⟨_,by rw[h5.2];simp[dE,gU];rfl,by simpa using hk⟩,hst⟩
 by_cases o16:op=16
 ·subst o16;simp[dE] at h2
  obtain _|⟨x,r⟩:=st
  ·simp at h2
  obtain⟨hx,hr⟩:=bH hst
  show uu p et nv nodes o.steps (some (.go o r (if x=0 then n else(i:Int)+1)))
  split
  ·have h5:=h3 n (by unfold mi;simp only[Fx];simp);exact⟨hv,rfl,h5.1,⟨_,by rw[h5.2];simp[dE,gU];rfl,by simpa using hk⟩,hr⟩
  ·exact go _ _ hv rfl ai ai (by simp[dE,gU]) (by simpa using hk) hr
 by_cases o17:op=17
 ·subst o17;simp[dE] at h1 h2
  obtain _|⟨x,_|⟨y,_|⟨t,r⟩⟩⟩:=st
  ·simp at h2
  ·simp at h2
  ·simp at h2
  obtain⟨hx,hr⟩:=bH hst;obtain⟨hy,hr⟩:=bH hr;obtain⟨ht,hr⟩:=bH hr
  show uu p et nv nodes o.steps (some (.go (if 0<=t/\t<names.getD 1 0/\jO o.acts<20 then o.act ⟨3,t,n,y,x⟩ else o) r ((i:Int)+1)))
  split
  ·rename_i h;rw[ct] at h;exact go _ _ (hv.act (.inr (.inr (.inl ⟨rfl,h.1,h.2.1,(by omega:0<=n),(by omega:n<=29),hy,hx⟩))) xd) rfl ai ai (by simp[dE,gU];omega) (by simpa [de.act] using hk) hr
  ·exact go _ _ hv rfl ai ai (by simp[dE,gU];omega) (by simpa using hk) hr
 by_cases o18:op=18
 ·subst o18;simp[dE] at h1;exact go _ _ (hv.act (.inr (.inr (.inr (.inl ⟨.inl rfl,(by omega:0<=n),(by omega:n<=7)⟩)))) xd) rfl ai ai (by simp[dE,gU]) (by simpa [de.act] using hk) hst
 by_cases o19:op=19
 ·subst o19;simp[dE] at h1;exact go _ _ (hv.act (.inr (.inr (.inr (.inl ⟨.inr rfl,(by omega:0<=n),(by omega:n<=7)⟩)))) xd) rfl ai ai (by simp[dE,gU]) (by simpa [de.act] using hk) hst
 by_cases o20:op=20
 ·subst o20;exact go _ _ (hv.act (.inr (.inl rfl)) xd) rfl ai ai (by simp[dE,gU]) (by simpa [de.act] using hk) hst
 by_cases o21:op=21
 ·subst o21;simp[dE] at h2
  obtain _|⟨x,_|⟨y,r⟩⟩:=st
  ·simp at h2
  ·simp at h2
  obtain⟨hx,hr⟩:=bH hst;obtain⟨hy,hr⟩:=bH hr;exact go _ _ (hv.act (.inr (.inr (.inr (.inr (.inl ⟨rfl,hx⟩))))) xd) rfl ai ai (by simp[dE,gU];omega) (by simpa [de.act] using hk) hr
 by_cases o22:op=22
 ·subst o22;simp[dE] at h2
  obtain _|⟨x,r⟩:=st
  ·simp at h2
  obtain⟨hx,hr⟩:=bH hst;exact go _ _ (hv.act (.inr (.inr (.inr (.inr (.inr ⟨rfl,hx⟩))))) xd) rfl ai ai (by simp[dE,gU]) (by simpa [de.act] using hk) hr
 unfold eS;rw[if_neg o1,if_neg o2,if_neg o4,if_neg o3,if_neg o5,if_neg o6,if_neg o10,if_neg o14,if_neg o15,if_neg o16,if_neg o17,if_neg o18,if_neg o19,if_neg o20,if_neg o21,if_neg o22];exact⟨hv,aa,rfl⟩
theorem apT {p:Prog}{et:nR}{nv:Nat}{nodes:Int}{names answers:List Int}(mJ:names.length=9)(bg:∀x∈names,bp x=true)(ct:names.getD 1 0=nodes)
  (ba:et.length=p.code.length) (eg:∀i<p.code.length,CW p et i=true) {o:de} {st:List Int} {pc:Int} (h0:0<=pc) {k:Nat} (oR:et.getD pc.toNat none=some (st.length,k))
  (hk:o.asked.length<=k) (hv:qf p nv nodes o) (hst:∀x∈st,bp x=true) (Fw:p.cC+p.gG=nv):
  uu p et nv nodes (o.steps+1) (nr p names answers o st pc):=by
 have hlt:pc.toNat<p.code.length:=by
  apply Decidable.byContradiction;intro h;rw[eu,List.getElem?_eq_none aa] at oR;cases oR
 have hc:p.code[pc.toNat]? =some p.code[pc.toNat]:=by simp[hlt]
 unfold nr;rw[if_neg aa,hc];generalize p.code[pc.toNat]=x at hc;obtain⟨op,n⟩:=x;have Fo:pc=(pc.toNat:Int):=aa
 have:=apS (o:={ o with covered:=kv o.covered pc,steps:=o.steps+1 }) (answers:=answers) mJ bg ct hc oR (eg _ hlt) rfl hk
  ⟨hv.len,hv.vars,hv.acts,mM hv.CX,hv.asked,Nat.le_trans (Oe _ _) (Nat.succ_le_succ hv.oQ),fun x hx=>by
   rcases apQ hx with hx|rfl
   ·exact hv.au x hx
   ·omega⟩ (Nat.succ_le_succ hv.CX) hst Fw
 rw[<-Fo] at this;exact this
theorem adl {p:Prog}{et:nR}{nv:Nat}{nodes:Int}{names answers:List Int}(mJ:names.length=9)(bg:∀x∈names,bp x=true)(ct:names.getD 1 0=nodes)
  (ba:et.length=p.code.length) (eg:∀i<p.code.length,CW p et i=true) (fu:∀x∈et,∀d k,x=some (d,k)->k<=1) (Fw:p.cC+p.gG=nv):
  ∀(f:Nat) (o:de) (st:List Int) (pc:Int) (k:Nat),0<=pc->et.getD pc.toNat none=some (st.length,k)->o.asked.length<=k->qf p nv nodes o->(∀x∈st,bp x=true)->
   ∃o',mj p names answers f o st pc=some o'/\qf p nv nodes o'/\o'.asked.length<=1/\o'.steps<=o.steps+f
 |0,o,st,pc,k,h0,oR,hk,hv,hst=>by
  refine⟨_,rfl,⟨hv.len,hv.vars,hv.acts,hv.CX,hv.asked,hv.oQ,hv.au⟩,?_,di _⟩
  have hm:et.getD pc.toNat none∈et:=by
   rw[eu] at oR⊢
   cases h:et[pc.toNat]? with
   |none=>rw[h] at oR;cases oR
   |some x=>exact dJ h
  have:=fu _ hm _ _ oR
  show o.asked.length<=1
  omega
 |f+1,o,st,pc,k,h0,oR,hk,hv,hst=>by
  have h:=apT (answers:=answers) mJ bg ct ba eg h0 oR hk hv hst Fw;unfold mj;generalize nr p names answers o st pc=r at h⊢
  match r,h with
  |some (.stop o'),h=>exact⟨o',rfl,h.1,h.2.1,by have:=h.2.2;omega⟩
  |some (.go o' st' Aw),⟨a,b,c,⟨k',e,g⟩,m⟩=>
   obtain⟨o2,h1,h2,h3,h4⟩:=adl mJ bg ct ba eg fu Fw f o' st' Aw k' c e g a m;exact⟨o2,h1,h2,h3,aa⟩
theorem OP {p:Prog}(hs:mI p=true){handler:Nat}(hh:handler<40){vars names answers:List Int}(pF:(vars.length:Int)=p.cC+p.gG)(JF:∀x∈vars,bp x=true)
  (mJ:names.length=9) (bg:∀x∈names,bp x=true):
  ∃o,sq p handler vars names answers=some o/\qf p vars.length (names.getD 1 0) o/\o.asked.length<=1/\o.steps<=500:=by
 unfold mI at hs;simp only[bN,dv,dY] at hs;obtain⟨⟨⟨⟨⟨h1,h2⟩,h3⟩,h4⟩,h5⟩,h6⟩:=hs;have hlt:handler<p.entry.length:=aa;unfold sq
 have he:p.entry[handler]? =some p.entry[handler]:=by simp[hlt]
 have hl:=h2 _ (cT hlt);rw[he];generalize p.entry[handler]=e at hl he
 have h0:qf p vars.length (names.getD 1 0) ⟨vars,[],0,false,[],[]⟩:=⟨rfl,JF,fun a ha=>by simp at ha,ae,fun a ha=>by simp at ha,ae,fun a ha=>by simp at ha⟩
 by_cases kG:e<0
 ·exact⟨⟨vars,[],0,false,[],[]⟩,by simp[kG],h0,ae,ae⟩
 ·unfold adg at hl;simp only[bN,og,dv,dY,eF] at hl;obtain⟨⟨g1,g2⟩,g3⟩:=hl;have oR:=g2.resolve_left kG
  have fu:∀x∈adj p e,∀d k,x=some (d,k)->k<=1:=by
   intro x hx d k ke;obtain⟨i,hi,rfl⟩:=List.getElem_of_mem hx;have:=g3 i aa;unfold CW at this;rw[eu,List.getElem?_eq_getElem hi,Bo,ke] at this;simp only[bN,dv] at this;exact this.2
  obtain⟨o,a,b,c,d⟩:=adl (answers:=answers) mJ bg rfl g1 g3 fu pF.symm 500 _ [] e 0 aa oR ae h0 ae;refine⟨o,?_,b,c,by simpa using d⟩;simp[kG,a]
end aq
namespace aq
open dL
structure kY (n:Nat)(d:fg):Prop where
 len:d.cells.length=n
 cells:∀x∈d.cells,bp x=true
 FK:∀x∈d.pending,0<=x.1/\x.1<n/\bp x.2=true
 nS:d.pending.length<=4
theorem JV {n:Nat}:∀(l:List (Int×Int)) (c:List Int),c.length=n->(∀x∈c,bp x=true)->(∀x∈l,0<=x.1/\x.1<n/\bp x.2=true)->∃c',gV c l=some c'/\c'.length=n/\∀x∈c',bp x=true
 |[],c,hc,hi,_=>⟨c,rfl,hc,hi⟩
 |(i,v)::l,c,hc,hi,h=>by
  have h0:=h (i,v) ae;simp only at h0;unfold gV;rw[if_pos ⟨h0.1,by rw[hc];exact h0.2.1⟩];refine JV l _ (by simpa using hc) (fun x hx=> ?_) (fun x hx=>h x (by simp[hx]))
  rcases xt hx with hx|rfl
  ·exact hi x hx
  ·exact h0.2.2
theorem OQ {n:Nat}{d:fg}(h:kY n d):∃c,qR d=some c/\c.length=n/\∀x∈c,bp x=true:=JV _ _ h.len h.cells h.FK
theorem apU {n:Nat}{d:fg}(h:kY n d){cell v:Int}(hv:bp v=true):∃d',sr d cell v=some d'/\kY n d':=by
 unfold sr;have hl:=h.len;split
 ·exact⟨d,rfl,h⟩
 ·rename_i h1
  have hp:∀x∈d.pending++[(cell,v)],0<=x.1/\x.1<n/\bp x.2=true:=by
   intro x hx
   rcases fA.1 hx with hx|hx
   ·exact h.FK x hx
   ·simp only[qx] at hx;subst hx;exact⟨by show 0<=cell;omega,by show cell<n;omega,hv⟩
  split
  ·rename_i h2;obtain⟨c,a,b,e⟩:=JV ((d.pending++[(cell,v)]).take 1) d.cells hl h.cells (fun x hx=>hp x (vP hx));exact⟨_,by rw[a];rfl,⟨b,e,fun x hx=>hp x (List.mem_of_mem_drop hx),by have:=h.nS;simp;omega⟩⟩
  ·rename_i h2;exact⟨_,rfl,⟨hl,h.cells,hp,by simpa using h2⟩⟩
theorem apV {n:Nat}{d:fg}(h:kY n d):∃d',tN d=some d'/\kY n d':=by
 obtain⟨c,a,b,e⟩:=OQ h;exact⟨⟨c,[]⟩,by unfold tN;rw[a];rfl,⟨b,e,fun x hx=>by simp at hx,ae⟩⟩
theorem OS:∀{l:List (Int×Int)} {m:List Bool} {x:Int×Int},x∈fO l m->x∈l
 |[],m,x,h=>by simp[fO] at h
 |y::l,[],x,h=>by simp[fO] at h
 |y::l,k::m,x,h=>by
  unfold fO at h;split at h
  ·rcases eM.1 h with rfl|h
   ·simp
   ·exact zm _ (OS h)
  ·exact zm _ (OS h)
theorem apW {n:Nat}{d:fg}(h:kY n d)(keep:List Bool):∃d',wG d keep=some d'/\kY n d':=by
 obtain⟨c,a,b,e⟩:=JV (fO d.pending keep) d.cells h.len h.cells (fun x hx=>h.FK x (OS hx));exact⟨⟨c,[]⟩,by unfold wG;rw[a];rfl,⟨b,e,fun x hx=>by simp at hx,ae⟩⟩
theorem OU {n:Nat}{d:fg}(h:kY n d)(m:Nat):∃d',qU d m=some d'/\kY m d':=by
 obtain⟨c,a,b,e⟩:=OQ h;refine⟨_,by unfold qU;rw[a];rfl,⟨by simp;omega,fun x hx=> ?_,fun x hx=>by simp at hx,ae⟩⟩;have:=vP hx
 rcases fA.1 this with h1|h1
 ·exact e x h1
 ·rw[zl h1];decide
structure gN (ps:List Prog)(dm k:Nat)(s:Node):Prop where
 nc:s.counts.length=41
 counts:∀x∈s.counts,0<=x/\x<=k
 dH:0<=s.dH/\s.dH<=k
 clock:0<=s.clock/\s.clock<=5*k
 version: -1<=s.version/\s.version<ps.length
 aS:kY s.aS.cells.length s.aS
 nT:s.aS.cells.length<=16
 dO:∀x∈s.dO,bp x=true
 uv:s.dO.length<=16
 timers:∀t∈s.timers,0<=t/\t<=7
 qg:s.timers.length<=8
 waiting: -1<=s.waiting/\s.waiting<dm
 dropped:0<=s.dropped/\s.dropped<=k
 cI:0<=s.cI/\s.cI<=k
 run:s.up=true->0<=s.version/\∀p,ps[s.version.toNat]? =some p->(s.aS.cells.length:Int)=p.cC/\(s.dO.length:Int)=p.gG
theorem gN.more {ps:List Prog}{dm k:Nat}{s:Node}(h:gN ps dm k s):gN ps dm (k+1) s:=
 { h with counts:=fun x hx=>by have:=h.counts x hx;omega,dH:=by have:=h.dH;omega,clock:=by have:=h.clock;omega,dropped:=by have:=h.dropped;omega,cI:=by have:=h.cI;omega }
theorem apX (ps:List Prog)(dm k:Nat):gN ps dm k iN:=
 ⟨by simp[iN],fun x hx=>by rw[zl hx];omega,by simp[iN],by simp[iN];omega,by simp[iN];omega,⟨rfl,fun x hx=>by simp[iN] at hx,fun x hx=>by simp[iN] at hx,by simp[iN]⟩,by simp[iN],
  fun x hx=>by simp[iN] at hx,by simp[iN],fun x hx=>by simp[iN] at hx,by simp[iN],by simp[iN];omega,by simp[iN],by simp[iN],fun h=>by simp[iN] at h⟩
theorem JW {ps:List Prog}{dm k:Nat}{s:Node}(h:gN ps dm k s):∃l,tO s=some l/\l.length=s.aS.cells.length+s.dO.length/\∀x∈l,bp x=true:=by
 obtain⟨c,a,b,e⟩:=OQ h.aS;refine⟨c++s.dO,by unfold tO;rw[a];rfl,by simp[b],fun x hx=> ?_⟩
 rcases fA.1 hx with hx|hx
 ·exact e x hx
 ·exact h.dO x hx
theorem adm (l:List Int)(k:Int)(b:Bool):(∀t∈tP l k b,0<=t/\t<=7)/\(tP l k b).length<=8:=by
 unfold tP;refine⟨fun t ht=> ?_,Nat.le_trans (List.length_filter_le _ _) ae⟩;have:=(jG.1 ht).1;rw[fZ] at this;obtain⟨i,hi,rfl⟩:=this;rw[eF] at hi;simp;omega
theorem Ax (l:List bf)(q:Qn){k:Int}(h:0<k):0<=eh l q k/\eh l q k<k:=⟨Int.tmod_nonneg _ (alA _ _),Int.tmod_lt_of_pos _ h⟩
def FL (c:aL)(a:Ask):Prop:=a.node=c.node/\a.handler=c.handler/\a.count=c.count/\(1<=a.kind/\a.kind<=3)/\(0<=a.index/\a.index<=500)/\(2<=a.arity/\a.arity<=4)/\0<=a.n/\a.n<a.arity
structure oT (ps:List Prog)(dm k:Nat)(nodes:Int)(c:aL)(qh:Int)(r:Rr):Prop where
 s:gN ps dm k r.s
 asks:∀a∈r.asks,FL c a
 uw:r.asks.length<=4
 sent:∀e∈r.sent,e.msg.node=c.node/\e.msg.handler=c.handler/\e.msg.count=c.count/\(0<=e.msg.index/\e.msg.index<=500)/\e.msg.copy=0/\(0<=e.eO/\e.eO<nodes)/\(0<=e.kind/\e.kind<=29)/\bp e.a=true/\bp e.b=true
 value:bp r.value=true
 br:∀x∈r.br,bp x=true
 dA:r.dA=c
 au:∀x∈r.covered,0<=x/\x<400
 oQ:r.covered.length<=500
 version:r.s.version=qh
 FM:r.out.asked.length<=1
theorem apY {ps:List Prog}{dm k:Nat}{nodes:Int}{c:aL}{qh:Int}{p:Prog}{r:Rr}(h:oT ps dm k nodes c qh r){a:dF}(ha:JU p nodes a){m:Nat}(hm:r.sent.length<=m/\r.br.length<=m)(hm5:m<500):
  ∃r',mn r a=some r'/\oT ps dm k nodes c qh r'/\r'.sent.length<=m+1/\r'.br.length<=m+1:=by
 unfold mn;by_cases k1:a.kind=1
 ·rw[if_pos k1]
  have hb:bp a.b=true:=by
   rcases ha with ha|ha|ha|ha|ha|ha
   ·exact ha.2.2.2
   all_goals omega
  obtain⟨d,e,f⟩:=apU h.s.aS (cell:=a.a) hb;rw[e];have hl:d.cells.length=r.s.aS.cells.length:=f.len;exact⟨_,rfl,{ h with s:={ h.s with aS:=by show kY d.cells.length d;rw[hl];exact f,nT:=by show d.cells.length<=16;rw[hl];exact h.s.nT,run:=fun hu=>⟨(h.s.run hu).1,fun p hp=>by show(d.cells.length:Int)=_/\_;rw[hl];exact(h.s.run hu).2 p hp⟩ } },by show r.sent.length<=_;omega,by show r.br.length<=_;omega⟩
 rw[if_neg k1];by_cases k2:a.kind=2
 ·rw[if_pos k2];obtain⟨d,e,f⟩:=apV h.s.aS;rw[e];have hl:d.cells.length=r.s.aS.cells.length:=f.len;exact⟨_,rfl,{ h with s:={ h.s with aS:=by show kY d.cells.length d;rw[hl];exact f,nT:=by show d.cells.length<=16;rw[hl];exact h.s.nT,run:=fun hu=>⟨(h.s.run hu).1,fun p hp=>by show(d.cells.length:Int)=_/\_;rw[hl];exact(h.s.run hu).2 p hp⟩ } },by show r.sent.length<=_;omega,by show r.br.length<=_;omega⟩
 rw[if_neg k2];by_cases k4:a.kind=4
 ·rw[if_pos k4];have ht:=adm r.s.timers a.a true;exact⟨_,rfl,{ h with s:={ h.s with timers:=ht.1,qg:=ht.2 } },by show r.sent.length<=_;omega,by show r.br.length<=_;omega⟩
 rw[if_neg k4];by_cases k5:a.kind=5
 ·rw[if_pos k5];have ht:=adm r.s.timers a.a false;exact⟨_,rfl,{ h with s:={ h.s with timers:=ht.1,qg:=ht.2 } },by show r.sent.length<=_;omega,by show r.br.length<=_;omega⟩
 rw[if_neg k5];by_cases k3:a.kind=3
 ·rw[if_pos k3]
  have h3:0<=a.a/\a.a<nodes/\0<=a.b/\a.b<=29/\bp a.c=true/\bp a.d=true:=by
   rcases ha with ha|ha|ha|ha|ha|ha
   ·omega
   ·omega
   ·exact ha.2
   all_goals omega
  refine⟨_,rfl,{ h with sent:=fun e he=> ?_ },by show(r.sent++[_]).length<=_;simp;omega,by show r.br.length<=_;omega⟩
  rcases fA.1 he with he|he
  ·exact h.sent e he
  ·simp only[qx] at he;subst he;refine⟨by rw[h.dA],by rw[h.dA],by rw[h.dA],⟨ae,?_⟩,rfl,⟨h3.1,h3.2.1⟩,⟨h3.2.2.1,h3.2.2.2.1⟩,h3.2.2.2.2.1,h3.2.2.2.2.2⟩
   show((r.sent.length:Nat):Int)<=500
   omega
 rw[if_neg k3];by_cases k6:a.kind=6
 ·rw[if_pos k6]
  have hb:bp a.b=true:=by
   rcases ha with ha|ha|ha|ha|ha|ha
   ·omega
   ·omega
   ·omega
   ·omega
   ·exact ha.2
   ·omega
  split
  ·refine⟨_,rfl,{ h with s:={ h.s with waiting:=by show -1<=(-1:Int)/\(-1:Int)<dm;omega },value:=hb },by show r.sent.length<=_;omega,by show r.br.length<=_;omega⟩
  ·exact⟨r,rfl,h,aa,aa⟩
 rw[if_neg k6]
 have k7:a.kind=7/\bp a.a=true:=by
  rcases ha with ha|ha|ha|ha|ha|ha
  ·omega
  ·omega
  ·omega
  ·omega
  ·omega
  ·exact ha
 rw[if_pos k7.1];refine⟨_,rfl,{ h with br:=fun x hx=> ?_ },by show r.sent.length<=_;omega,by show(r.br++[_]).length<=_;simp;omega⟩
 rcases fA.1 hx with hx|hx
 ·exact h.br x hx
 ·simp only[qx] at hx;subst hx;exact k7.2
theorem adn {ps:List Prog}{dm k:Nat}{nodes:Int}{c:aL}{qh:Int}{p:Prog}:∀(l:List dF) (r:Rr) (m:Nat),oT ps dm k nodes c qh r->(∀a∈l,JU p nodes a)->r.sent.length<=m/\r.br.length<=m->m+l.length<=500->
  ∃r',ny r l=some r'/\oT ps dm k nodes c qh r'/\r'.sent.length<=500/\r'.br.length<=500
 |[],r,m,h,_,hm,hl=>⟨r,rfl,h,by simp at hl;omega,by simp at hl;omega⟩
 |a::l,r,m,h,ha,hm,hl=>by
  simp only[List.length_cons] at hl;obtain⟨r1,e,h1,h2,h3⟩:=apY h (ha a ae) hm aa;unfold ny;rw[e];exact adn l r1 (m+1) h1 (fun b hb=>ha b (by simp[hb])) ⟨h2,h3⟩ aa
theorem OV (l:List bf)(c:aL):∀(m:List Int) (i:Nat),(∀k∈m,2<=k/\k<=4)->i+m.length<=500->(∀a∈gW l c i m,FL c a)/\(gW l c i m).length=m.length
 |[],i,_,_=>⟨fun a ha=>by simp[gW] at ha,rfl⟩
 |k::m,i,h,hi=>by
  simp only[List.length_cons] at hi;obtain⟨h1,h2⟩:=OV l c m (i+1) (fun x hx=>h x (by simp[hx])) aa;have hk:=h k ae;have hn:=Ax l (c.qn 1 i) (show 0<k by omega);refine⟨fun a ha=> ?_,by simp[gW,h2]⟩;unfold gW at ha
  rcases eM.1 ha with rfl|ha
  ·exact⟨rfl,rfl,rfl,by simp[eU,aL.qn],by simp[eU,aL.qn];omega,hk,hn.1,hn.2⟩
  ·exact h1 a ha
theorem FN {ps:List Prog}{dm k:Nat}{s:Node}(h:gN ps dm k s){p:Prog}(hp:ps[s.version.toNat]? =some p)(hs:mI p=true)(ej:s.up=true){handler:Nat}(hh:handler<40){self nodes drift:Int}
  (xe:bp self=true) (ux:bp nodes=true) (lA:0<=drift/\drift<=3) {names:List Int} (mJ:names.length=9) (bg:∀x∈names,bp x=true) (l:List bf) (hk:k<=5000):
  ∃r,ky s p handler self nodes drift names l=some r/\oT ps dm (k+1) nodes ⟨self,handler,s.counts.getD handler 0⟩ s.version r/\r.sent.length<=500/\r.br.length<=500:=by
 have hlt:handler<s.counts.length:=by rw[h.nc];omega
 have hc:s.counts[handler]? =some (s.counts[handler]):=by simp[hlt]
 have ez:s.counts.getD handler 0=s.counts[handler]:=by rw[eu,hc];rfl
 have lR:=h.counts _ (cT hlt);unfold ky;rw[ez,hc];generalize s.counts[handler]=iM at hc ez lR;obtain⟨vars,jt,rV,rW⟩:=JW h
 obtain⟨n,hn,MT⟩:∃n:Int,n=(if 0<drift then eh l (aL.qn ⟨self,handler,iM⟩ 2 0) (drift+1) else 0)/\0<=n/\n<=drift:=by
  refine⟨_,rfl,?_⟩;split
  ·have:=Ax l (aL.qn ⟨self,handler,iM⟩ 2 0) (show 0<drift+1 by omega);omega
  ·omega
 simp only[jt,<-hn];have apZ:=h.clock;have hr:=h.run ej;have oB:=hr.2 p hp
 have aqa:∀x∈su names self nodes (s.clock+1+n),bp x=true:=by
  intro x hx;unfold su at hx
  rcases xt hx with hx|rfl
  ·rcases xt hx with hx|rfl
   ·rcases xt hx with hx|rfl
    ·exact bg x hx
    ·exact xe
   ·exact ux
  ·rw[qd];omega
 have tE:(su names self nodes (s.clock+1+n)).length=9:=by simp[su,mJ]
 have ei:(su names self nodes (s.clock+1+n)).getD 1 0=nodes:=by
  unfold su;rw[eu,pd aa,vN (by simp;omega)];rfl
 obtain⟨o,a1,a2,a3,a4⟩:=OP hs hh (vars:=vars) (names:=su names self nodes (s.clock+1+n)) (answers:=pO l ⟨self,handler,iM⟩) (by rw[rV];omega) rW tE aqa;rw[a1];rw[ei] at a2;have hd0:0<=p.cC:=aa;simp only;rw[if_pos ⟨hd0,by rw[a2.len,rV];omega⟩];have ado:=OV l ⟨self,handler,iM⟩ o.asked 0 a2.asked aa
 have uy:(∀a∈(if 0<drift then [eU (aL.qn ⟨self,handler,iM⟩ 2 0) (drift+1) n] else []),FL ⟨self,handler,iM⟩ a)/\(if 0<drift then [eU (aL.qn ⟨self,handler,iM⟩ 2 0) (drift+1) n] else []).length<=1:=by
  split
  ·refine⟨fun a ha=> ?_,ae⟩;simp only[qx] at ha;subst ha;exact⟨rfl,rfl,rfl,by simp[eU,aL.qn],by simp[eU,aL.qn],by simp[eU];omega,MT.1,by simp[eU];omega⟩
  ·exact⟨fun a ha=>by simp at ha,ae⟩
 have adq:p.code.length<=400:=by
  unfold mI at hs;simp only[bN,dv] at hs;exact hs.2
 refine adn (p:=p) o.acts _ 0 ?_ a2.acts ⟨ae,ae⟩ (by have:=a2.CX;omega);refine⟨?_,fun a ha=> ?_,?_,fun e he=>by simp at he,by show bp 0=true;decide,fun x hx=>by simp at hx,rfl,fun x hx=> ?_,by have:=a2.oQ;show o.covered.length<=500;omega,rfl,by show o.asked.length<=1;omega⟩
 ·have dc:=h.dH
  have pF:((o.vars.drop p.cC.toNat).take 16).length=s.dO.length:=by
   have:=a2.len;have:=h.uv;simp;omega
  refine⟨by simp[h.nc],fun x hx=> ?_,by have:=h.dH;show 0<=s.dH/\s.dH<=_;omega,by show 0<=s.clock+1+n/\s.clock+1+n<=_;omega,h.version,h.aS,h.nT,fun x hx=>a2.vars x (List.mem_of_mem_drop (vP hx)),?_,h.timers,h.qg,h.waiting,
   by have:=h.dropped;show 0<=s.dropped/\s.dropped<=_;omega,by have:=h.cI;show 0<=s.cI/\s.cI<=_;omega,fun _=>⟨hr.1,fun q hq=>⟨(hr.2 q hq).1,?_⟩⟩⟩
  ·rcases xt hx with hx|rfl
   ·have:=h.counts x hx;omega
   ·omega
  ·show((o.vars.drop p.cC.toNat).take 16).length<=16
   rw[pF];exact h.uv
  ·show((((o.vars.drop p.cC.toNat).take 16).length:Nat):Int)=q.gG
   rw[pF];exact(hr.2 q hq).2
 ·rcases fA.1 ha with ha|ha
  ·exact uy.1 a ha
  ·exact ado.1 a ha
 ·show(_++_:List Ask).length<=4
  rw[List.length_append,ado.2];have:=uy.2;omega
 ·have:=a2.au x hx;omega
theorem OW {ps:List Prog}{dm k:Nat}{s:Node}(h:gN ps dm k s){p:Prog}{version:Int}(hv:0<=version/\version<ps.length)(hp:ps[version.toNat]? =some p)(hs:mI p=true){self nodes drift:Int}
  (xe:bp self=true) (ux:bp nodes=true) (lA:0<=drift/\drift<=3) (l:List bf) (hk:k<=5000):
  ∃r,sv s p version self nodes drift l=some r/\oT ps dm (k+1) nodes ⟨self,0,s.counts.getD 0 0⟩ version r/\r.sent.length<=500/\r.br.length<=500:=by
 have cR:=hs;unfold mI at cR;simp only[bN,dv] at cR;obtain⟨⟨⟨⟨⟨h1,h2⟩,h3⟩,h4⟩,h5⟩,h6⟩:=cR;unfold sv;rw[if_neg aa]
 have key:∃d,(if(s.aS.cells.length:Int)=p.cC then some s.aS else qU s.aS p.cC.toNat)=some d/\kY p.cC.toNat d:=by
  split
  ·rename_i he;refine⟨_,rfl,?_⟩;have:p.cC.toNat=s.aS.cells.length:=aa;rw[this];exact h.aS
  ·exact OU h.aS _
 obtain⟨d,e,f⟩:=key;rw[e];simp only;refine FN (s:={ s with version:=version,aS:=d,dO:=List.replicate p.gG.toNat 0,timers:=[],waiting:= -1,up:=true }) ?_ hp hs rfl aa xe ux lA ae (fun x hx=>by rw[zl hx];decide) l hk;have hl:=f.len
 exact { h with
  version:=by show -1<=version/\version<_;omega
  aS:=by show kY d.cells.length d;rw[hl];exact f
  nT:=by show d.cells.length<=16;omega
  dO:=fun x hx=>by rw[zl hx];decide
  uv:=by show(List.replicate p.gG.toNat (0:Int)).length<=16;simp;omega
  timers:=fun t ht=>by simp at ht
  qg:=by show([]:List Int).length<=8;simp
  waiting:=by show -1<=(-1:Int)/\(-1:Int)<dm;omega
  run:=fun _=>⟨hv.1,fun q hq=>by
   have:q=p:=by rw[show ps[version.toNat]? =some q from hq] at hp;injection hp
   subst this
   show(d.cells.length:Int)=_/\((List.replicate q.gG.toNat (0:Int)).length:Int)=_
   simp
   omega⟩ }
theorem OX {ps:List Prog}{dm k:Nat}{s:Node}(h:gN ps dm k s)(self nodes:Int)(l:List bf):
  ∃r,lC s self l=some r/\oT ps dm (k+1) nodes ⟨self,40,s.counts.getD 40 0⟩ s.version r/\r.sent.length<=500/\r.br.length<=500:=by
 have hlt:40<s.counts.length:=by rw[h.nc];omega
 have hc:s.counts[40]? =some (s.counts[40]):=by simp[hlt]
 have ez:s.counts.getD 40 0=s.counts[40]:=by rw[eu,hc];rfl
 have lR:=h.counts _ (cT hlt);unfold lC;rw[ez,hc];generalize s.counts[40]=iM at hc ez lR;simp only;obtain⟨d,e,f⟩:=apW h.aS ((jy l ⟨self,40,iM⟩ s.aS.pending.length).map fun(a:Ask)=>decide (a.n=1));rw[e];have hl:=f.len;refine⟨_,rfl,⟨?_,fun a ha=> ?_,?_,fun e he=>by simp at he,by show bp 0=true;decide,fun x hx=>by simp at hx,rfl,fun x hx=>by simp at hx,ae,rfl,by show IQ.asked.length<=1;decide⟩,ae,ae⟩
 ·have he:=h.dH
  exact⟨by simp[h.nc],fun x hx=>by
    rcases xt hx with hx|rfl
    ·have:=h.counts x hx;omega
    ·omega,by show 0<=s.dH+1/\s.dH+1<=_;omega,by have:=h.clock;show 0<=s.clock/\s.clock<=_;omega,h.version,by show kY d.cells.length d;rw[hl];exact f,by show d.cells.length<=16;rw[hl];exact h.nT,
   fun x hx=>by rw[zl hx];decide,by show(List.replicate s.dO.length (0:Int)).length<=16;simpa using h.uv,fun t ht=>by simp at ht,ae,by show -1<=(-1:Int)/\(-1:Int)<dm;omega,
   by have:=h.dropped;show 0<=s.dropped/\s.dropped<=_;omega,by have:=h.cI;show 0<=s.cI/\s.cI<=_;omega,fun hu=>by simp at hu⟩
 ·unfold jy at ha;rw[fZ] at ha;obtain⟨i,hi,rfl⟩:=ha;rw[eF] at hi;have hn:=Ax l (aL.qn ⟨self,40,iM⟩ 3 i) (show(0:Int)<2 by omega);have:=h.aS.nS;exact⟨rfl,rfl,rfl,by simp[eU,aL.qn],by simp[eU,aL.qn];omega,by simp[eU],hn.1,hn.2⟩
 ·show(jy l ⟨self,40,iM⟩ s.aS.pending.length).length<=4
  unfold jy;simpa using h.aS.nS
end aq
section
open Go.RowKit
def adr (e:Ev):Prop:=
 0<=e.node/\e.node<=11/\
 (((e.kind=1\/e.kind=2\/e.kind=4)/\(0<=e.arg/\e.arg<=2147483647)/\e.msg=⟨0,0,0,0,0⟩)\/
  ((e.kind=3\/e.kind=5\/e.kind=6)/\e.arg=0/\((0<=e.msg.node/\e.msg.node<12)/\(0<=e.msg.handler/\e.msg.handler<40)/\0<=e.msg.count/\e.msg.count<=2147483647)/\(0<=e.msg.index/\e.msg.index<=2147483647)/\0<=e.msg.copy/\e.msg.copy<=2147483647)\/
  (e.kind=7/\e.arg=0/\e.msg=⟨0,0,0,0,0⟩))
def aqb (q:Qn):Prop:=(1<=q.kind/\q.kind<=3)/\((0<=q.node/\q.node<12)/\(0<=q.handler/\q.handler<41)/\0<=q.count/\q.count<=2147483647)/\0<=q.index/\q.index<=2147483647
def Ask.qn (a:Ask):Qn:=⟨a.node,a.handler,a.count,a.kind,a.index⟩
def OY (a:Ask):Prop:=aqb a.qn/\0<=a.n/\a.n<a.arity/\a.arity<=2147483647
def fS (a:Ask):bf:=⟨a.qn,a.n⟩
end
namespace aq
open dL
structure fy (c:bR):Prop where
 aqc:1<=c.cQ.length/\c.cQ.length<=64
 safe:∀p∈c.cQ,mI p=true
 xf:1<=c.first.length/\c.first.length<=12
 first:∀v∈c.first,0<=v/\v<c.cQ.length
 mq:∀v∈c.mq,0<=v/\v<c.cQ.length
 aqd:c.mq.length<=64
 dm:c.dg.length<=300
 jX:∀r∈c.dg,bp r.op=true/\bp r.key=true/\bp r.arg=true
 mr:0<=c.mr/\c.mr<=10
 jA:0<=c.jA/\c.jA<=10
 kz:0<=c.kz/\c.kz<=10
 drift:0<=c.drift/\c.drift<=3
def OZ (N k:Nat)(m:bm):Prop:=(0<=m.node/\m.node<N)/\(0<=m.handler/\m.handler<40)/\(0<=m.count/\m.count<=k)/\(0<=m.index/\m.index<=500)/\0<=m.copy/\m.copy<=k
def JX (N k:Nat)(e:Env):Prop:=OZ N k e.msg/\(0<=e.eO/\e.eO<N)/\(0<=e.kind/\e.kind<=29)/\bp e.a=true/\bp e.b=true
structure du (c:bR)(k j:Nat)(w:aE):Prop where
 cfg:w.c=c
 nodes:w.nodes.length=c.first.length
 next:w.next.length=c.first.length
 br:w.br.length=c.first.length
 traces:w.traces.length=c.first.length
 node:∀s∈w.nodes,gN c.cQ c.dg.length k s
 aX:∀e∈w.aX,JX c.first.length k e
 qj:w.aX.length<=501*k
 mi:∀x∈w.next,-1<=x/\x<c.dg.length
 oU:w.ax.length<=j
 FO:∀f∈w.br,f.length<=500*k
 xg:∀t∈w.traces,t.length<=k
 oQ:w.covered.length<=500*k
theorem JY (c:bR)(node i:Int): -1<=after c node i/\after c node i<c.dg.length:=by
 have key:∀(l:List mo) (k:Nat),-1<=qW node k l/\qW node k l<(k+l.length:Nat)\/qW node k l= -1:=by
  intro l
  induction l with
  |nil=>intro k;exact .inr rfl
  |cons r l ih=>
   intro k;unfold qW;split
   ·exact .inl ⟨aa,by simp;omega⟩
   ·rcases ih (k+1) with h|h
    ·exact .inl ⟨h.1,by simp;omega⟩
    ·exact .inr h
 unfold after
 rcases key (c.dg.drop (i+1).toNat) (i+1).toNat with h|h
 ·refine⟨h.1,?_⟩;have h2:=h.2;by_cases hl:(i+1).toNat<=c.dg.length
  ·simp only[lj] at h2;omega
  ·rw[Hl aa] at h2⊢;simp only[qW];omega
 ·rw[h];omega
theorem Pa {c:bR}(h:fy c):du c 0 0 (iO c):=
 ⟨rfl,by simp[iO],by simp[iO],by simp[iO],by simp[iO],fun s hs=>by
   simp only[iO,fZ] at hs;obtain⟨_,_,rfl⟩:=hs
   exact apX _ _ _,fun e he=>by simp[iO] at he,by simp[iO],fun x hx=>by
   simp only[iO,fZ] at hx;obtain⟨n,_,rfl⟩:=hx
   exact JY _ _ _,by simp[iO],fun f hf=>by
   simp only[iO,fZ] at hf;obtain⟨_,_,rfl⟩:=hf
   simp,fun f hf=>by
   simp only[iO,fZ] at hf;obtain⟨_,_,rfl⟩:=hf
   simp,by simp[iO]⟩
theorem Ay {l:List Ev}{x e:Ev}(h:e∈bl l x):e∈l\/e=x:=by
 unfold bl at h;split at h
 ·exact .inl h
 ·rcases fA.1 h with h|h
  ·exact .inl ((List.takeWhile_sublist _).mem h)
  ·rcases eM.1 h with h|h
   ·exact .inr h
   ·exact .inl ((List.dropWhile_sublist _).mem h)
theorem FP (l:List Ev)(x:Ev):(bl l x).length<=l.length+1:=by
 unfold bl;split
 ·omega
 ·have:=kp List.length (Bf (p:=fun y=>decide (aQ y.ints x.ints<0)) (l:=l));rw[List.length_append] at this;rw[List.length_append,List.length_cons];omega
def nU (w:aE)(n:Nat)(s:Node)(e:Ev):Prop:=e.node=n/\(
 (e.kind=1/\s.up=false/\e.arg∈ja w n s/\e.msg=jB)\/
 (e.kind=2/\s.up=true/\s.waiting<0/\0<=e.arg/\e.arg=w.next.getD n 0/\e.msg=jB)\/
 ((e.kind=3/\s.up=true\/e.kind=5\/e.kind=6)/\e.arg=0/\e.msg∈fH w.aX n)\/
 (e.kind=4/\s.up=true/\e.arg∈s.timers/\e.msg=jB)\/
 (e.kind=7/\s.up=true/\s.counts.getD 40 0<w.c.mr/\e.arg=0/\e.msg=jB))
theorem JZ {α:Type}{Q:Ev->Prop}{f:List Ev->α->List Ev}:∀(l:List α) (out:List Ev),(∀o,∀x∈l,∀e∈f o x,e∈o\/Q e)->∀e∈l.foldl f out,e∈out\/Q e
 |[],out,_,e,he=> .inl he
 |x::l,out,h,e,he=>by
  rcases JZ l (f out x) (fun o y hy=>h o y (by simp[hy])) e he with h1|h1
  ·exact h out x ae e h1
  ·exact .inr h1
theorem CY {α:Type}{f:List Ev->α->List Ev}{m:Nat}(h:∀o x,(f o x).length<=o.length+m):∀(l:List α) (out:List Ev),(l.foldl f out).length<=out.length+m*l.length
 |[],out=>ae
 |x::l,out=>by
  have h1:=CY h l (f out x);have h2:=h out x;simp only[xD,List.length_cons,Nat.mul_add];omega
theorem aqe {w:aE}{n:Nat}{s:Node}{out:List Ev}{m:bm}(hm:m∈fH w.aX n){e:Ev}(h:e∈eJ w n s out m):e∈out\/nU w n s e:=by
 unfold eJ at h
 have k1:∀e∈(if s.up then bl out ⟨3,n,0,m⟩ else out),e∈out\/nU w n s e:=by
  intro e he;split at he
  ·rename_i hu
   rcases Ay he with h|rfl
   ·exact .inl h
   ·exact .inr ⟨rfl,.inr (.inr (.inl ⟨.inl ⟨rfl,hu⟩,rfl,hm⟩))⟩
  ·exact .inl he
 revert h;generalize(if s.up then bl out ⟨3,n,0,m⟩ else out)=o1 at k1;intro h
 have k2:∀e∈(if s.dropped<w.c.jA then bl o1 ⟨5,n,0,m⟩ else o1),e∈out\/nU w n s e:=by
  intro e he;split at he
  ·rcases Ay he with h|rfl
   ·exact k1 e h
   ·exact .inr ⟨rfl,.inr (.inr (.inl ⟨.inr (.inl rfl),rfl,hm⟩))⟩
  ·exact k1 e he
 revert h;simp only;generalize(if s.dropped<w.c.jA then bl o1 ⟨5,n,0,m⟩ else o1)=o2 at k2;intro h;split at h
 ·rcases Ay h with h|rfl
  ·exact k2 e h
  ·exact .inr ⟨rfl,.inr (.inr (.inl ⟨.inr (.inr rfl),rfl,hm⟩))⟩
 ·exact k2 e h
theorem aqf {w:aE}{out:List Ev}{n:Nat}{s:Node}{e:Ev}(h:e∈wH w out n s):e∈out\/nU w n s e:=by
 unfold wH at h
 have k1:∀e∈(if s.up then out else(ja w n s).foldl (fun o v=>bl o ⟨1,n,v,jB⟩) out),e∈out\/nU w n s e:=by
  intro e he;split at he
  ·exact .inl he
  ·rename_i hu;refine JZ _ _ (fun o v hv e he=> ?_) e he
   rcases Ay he with h|rfl
   ·exact .inl h
   ·exact .inr ⟨rfl,.inl ⟨rfl,by simpa using hu,hv,rfl⟩⟩
 revert h;generalize(if s.up then out else(ja w n s).foldl (fun o v=>bl o ⟨1,n,v,jB⟩) out)=o1 at k1;simp only
 have k2:∀e∈(fH w.aX n).foldl (eJ w n s) o1,e∈out\/nU w n s e:=by
  intro e he
  rcases JZ (Q:=nU w n s) _ _ (fun o m hm e he=>aqe hm he) e he with h|h
  ·exact k1 e h
  ·exact .inr h
 generalize(fH w.aX n).foldl (eJ w n s) o1=o2 at k2
 have k3:∀e∈(if s.up/\s.waiting<0/\0<=w.next.getD n 0 then bl o2 ⟨2,n,w.next.getD n 0,jB⟩ else o2),e∈out\/nU w n s e:=by
  intro e he;split at he
  ·rename_i hc
   rcases Ay he with h|rfl
   ·exact k2 e h
   ·exact .inr ⟨rfl,.inr (.inl ⟨rfl,hc.1,hc.2.1,hc.2.2,rfl,rfl⟩)⟩
  ·exact k2 e he
 generalize(if s.up/\s.waiting<0/\0<=w.next.getD n 0 then bl o2 ⟨2,n,w.next.getD n 0,jB⟩ else o2)=o3 at k3
 have k4:∀e∈(if s.up then s.timers.foldl (fun o t=>bl o ⟨4,n,t,jB⟩) o3 else o3),e∈out\/nU w n s e:=by
  intro e he;split at he
  ·rename_i hu
   rcases JZ (Q:=nU w n s) _ _ (fun o t ht e he=>by
    rcases Ay he with h|rfl
    ·exact .inl h
    ·exact .inr ⟨rfl,.inr (.inr (.inr (.inl ⟨rfl,hu,ht,rfl⟩)))⟩) e he with h|h
   ·exact k3 e h
   ·exact .inr h
  ·exact k3 e he
 generalize(if s.up then s.timers.foldl (fun o t=>bl o ⟨4,n,t,jB⟩) o3 else o3)=o4 at k4;intro h;split at h
 ·rename_i hc
  rcases Ay h with h|rfl
  ·exact k4 e h
  ·exact .inr ⟨rfl,.inr (.inr (.inr (.inr ⟨rfl,hc.1,hc.2,rfl,rfl⟩)))⟩
 ·exact k4 e h
theorem ads {w:aE}:∀(l:List Node) (n:Nat) (out:List Ev) (e:Ev),e∈nz w n out l->e∈out\/∃i s,l[i]? =some s/\nU w (n+i) s e
 |[],n,out,e,h=> .inl h
 |s::l,n,out,e,h=>by
  rcases ads l (n+1) _ e h with h1|⟨i,s',h1,h2⟩
  ·rcases aqf h1 with h2|h2
   ·exact .inl h2
   ·exact .inr ⟨0,s,rfl,h2⟩
  ·exact .inr ⟨i+1,s',by simpa using h1,by rw[show n+(i+1)=n+1+i by omega];exact h2⟩
theorem FQ {w:aE}{e:Ev}(h:e∈enabled w):∃n s,w.nodes[n]? =some s/\nU w n s e:=by
 rcases ads _ _ _ _ h with h|⟨i,s,h1,h2⟩
 ·simp at h
 ·exact⟨i,s,h1,by simpa using h2⟩
theorem Pb {l:List Env}{n:Int}{m:bm}(h:m∈fH l n):∃e∈l,e.msg=m/\e.eO=n:=by
 unfold fH at h;rw[fZ] at h;obtain⟨e,he,rfl⟩:=h;obtain⟨h1,h2⟩:=jG.1 he;exact⟨e,h1,rfl,by simpa using h2⟩
theorem Ka {c:bR}(hc:fy c){k j:Nat}{w:aE}(h:du c k j w){n:Nat}{s:Node}(hs:w.nodes[n]? =some s){v:Int}(hv:v∈ja w n s):0<=v/\v<c.cQ.length:=by
 have hn:n<c.first.length:=by rw[<-h.nodes];exact(bk.1 hs).1
 have hI:=h.node s (dJ hs);unfold ja at hv;rw[h.cfg] at hv;split at hv
 ·simp only[qx] at hv;rw[hv,eu,List.getElem?_eq_getElem hn];exact hc.first _ (cT hn)
 ·rename_i h0;split at hv
  ·simp only[qx] at hv;have:=hI.version;omega
  ·exact hc.mq v hv
theorem nU.ok {c:bR}(hc:fy c){k j:Nat}(hk:k<=5000){w:aE}(h:du c k j w){n:Nat}{s:Node}(hs:w.nodes[n]? =some s){e:Ev}(he:nU w n s e):adr e:=by
 have hn:n<c.first.length:=by rw[<-h.nodes];exact(bk.1 hs).1
 have hI:=h.node s (dJ hs);have h12:=hc.xf;have h64:=hc.aqc;obtain⟨he1,he⟩:=he;refine⟨aa,aa,?_⟩
 rcases he with⟨a,b,d,m⟩|⟨a,b,d,f,g,m⟩|⟨a,b,d⟩|⟨a,b,d,m⟩|⟨a,b,d,f,m⟩
 ·have:=Ka hc h hs d;exact .inl ⟨.inl a,aa,m⟩
 ·refine .inl ⟨.inr (.inl a),⟨f,?_⟩,m⟩
  have hlt:n<w.next.length:=by rw[h.next];exact hn
  have:=h.mi _ (cT hlt);rw[eu,List.getElem?_eq_getElem hlt] at g;have h3:=hc.dm;simp only[Bo] at g;omega
 ·obtain⟨x,hx,hm,ht⟩:=Pb d;have hE:=(h.aX x hx).1;rw[hm] at hE;obtain⟨h1,h2,h3,h4,h5⟩:=hE;refine .inr (.inl ⟨aa,b,⟨aa,aa,aa,aa⟩,aa,aa⟩)
 ·have:=hI.timers _ d;exact .inl ⟨.inr (.inr a),aa,m⟩
 ·exact .inr (.inr ⟨a,f,m⟩)
theorem aqg {l:List Env}{x e:Env}(h:e∈qV l x):e∈l\/e=x:=by
 unfold qV at h
 rcases fA.1 h with h|h
 ·exact .inl ((List.takeWhile_sublist _).mem h)
 ·rcases eM.1 h with h|h
  ·exact .inr h
  ·exact .inl ((List.dropWhile_sublist _).mem h)
theorem aqh (l:List Env)(x:Env):(qV l x).length=l.length+1:=by
 unfold qV;have:=kp List.length (Bf (p:=fun y:Env=>decide (aQ y.msg.ints x.msg.ints<0)) (l:=l));rw[List.length_append] at this;rw[List.length_append,List.length_cons];omega
theorem Pc {l:List Env}{x e:Env}(h:e∈gH l x):e∈l\/e=x:=by
 unfold gH at h;split at h
 ·simp at h
 ·exact aqg h
theorem adt (l:List Env)(x:Env):(gH l x).length<=l.length+1:=by
 unfold gH;split
 ·simp
 ·rw[aqh];omega
theorem Pd:∀(m l:List Env) (e:Env),e∈m.foldl gH l->e∈l\/e∈m
 |[],l,e,h=> .inl h
 |x::m,l,e,h=>by
  rcases Pd m _ e h with h|h
  ·rcases Pc h with h|rfl
   ·exact .inl h
   ·exact .inr ae
  ·exact .inr (by simp[h])
theorem Kb:∀(m l:List Env),(m.foldl gH l).length<=l.length+m.length
 |[],l=>ae
 |x::m,l=>by
  have:=Kb m (gH l x);have:=adt l x;simp only[xD,List.length_cons];omega
theorem aqi (l:List (Int×Int))(x:Int×Int):(nA l x).length<=l.length+1:=by
 unfold nA;split
 ·omega
 ·have:=kp List.length (Bf (p:=fun y=>sx y x) (l:=l));rw[List.length_append] at this;rw[List.length_append,List.length_cons];omega
theorem Kc:∀(m l:List (Int×Int)),(m.foldl nA l).length<=l.length+m.length
 |[],l=>ae
 |x::m,l=>by
  have:=Kc m (nA l x);have:=aqi l x;simp only[xD,List.length_cons];omega
end aq
namespace aq
open dL
theorem mem_set {α:Type}{l:List α}{n:Nat}{x y:α}(h:y∈l.set n x):y∈l\/y=x:=xt h
theorem rz {n:Nat}(h:n<=2147483647):bp (n:Int)=true:=by rw[qd];omega
structure Pe (N k:Nat)(node:Int)(r:Rr):Prop where
 asks:∀a∈r.asks,OY a/\a.node=node
 uw:r.asks.length<=4
 sent:∀e∈r.sent,OZ N k e.msg/\e.msg.node=node
 FR:r.sent.length<=500
 nS:∀a∈r.asks,2<=a.arity/\a.arity<=4
 FM:r.out.asked.length<=1
theorem FL.adu {c:aL}{a:Ask}(h:FL c a)(h1:0<=c.node/\c.node<12)(h2:0<=c.handler/\c.handler<41)(h3:0<=c.count/\c.count<=2147483647):OY a/\a.node=c.node:=by
 obtain⟨a1,a2,a3,a4,a5,a6,a7,a8⟩:=h;refine⟨⟨⟨a4,⟨?_,?_,?_⟩,?_⟩,a7,a8,aa⟩,a1⟩
 ·show 0<=a.node/\a.node<12;omega
 ·show 0<=a.handler/\a.handler<41;omega
 ·show 0<=a.count/\a.count<=2147483647;omega
 ·show 0<=a.index/\a.index<=2147483647;omega
theorem adw {c:bR}{k j:Nat}{w:aE}{n:Nat}(hn:n<w.nodes.length)(uz:n<w.traces.length)(hs:∀s∈w.nodes,gN c.cQ c.dg.length k s):
  ∃t v,w.traces[n]? =some t/\tQ w n=some { w with traces:=w.traces.set n (t++[v]) }:=by
 have h1:w.nodes[n]? =some w.nodes[n]:=by simp[hn]
 have h2:w.traces[n]? =some w.traces[n]:=by simp[uz]
 obtain⟨v,hv,_⟩:=JW (hs _ (cT hn));exact⟨_,v,h2,by unfold tQ;rw[h1,h2];simp only[hv];rfl⟩
theorem adx {c:bR}{k j:Nat}{w:aE}(h:du c k j w){n:Nat}(hn:n<c.first.length){cs:aL}{qh:Int}{r:Rr}(hr:oT c.cQ c.dg.length (k+1) c.first.length cs qh r)
  (h1:0<=cs.node/\cs.node<c.first.length) (h2:0<=cs.handler/\cs.handler<40) (h3:0<=cs.count/\cs.count<=k) (cA:r.sent.length<=500) (dM:r.br.length<=500) (waiting:Int):
  ∃w',qX w n r waiting=some w'/\du c (k+1) (j+1) w'/\w'.c=w.c/\w'.nodes.length=w.nodes.length:=by
 have wV:n<w.br.length:=by rw[h.br];exact hn
 have jb:n<w.nodes.length:=by rw[h.nodes];exact hn
 have uz:n<w.traces.length:=by rw[h.traces];exact hn
 unfold qX;rw[if_pos jb,List.getElem?_eq_getElem wV];simp only
 have jh:∀s∈w.nodes.set n r.s,gN c.cQ c.dg.length (k+1) s:=by
  intro s hs
  rcases mem_set hs with hs|rfl
  ·exact(h.node s hs).more
  ·exact hr.s
 obtain⟨t,v,e1,e2⟩:=adw (c:=c) (k:=k+1) (j:=j) (n:=n) (w:={ w with
    nodes:=w.nodes.set n r.s
    aX:=r.sent.foldl gH w.aX
    ax:=if r.nu then w.ax++[⟨true,waiting,n,r.s.dH,r.value⟩] else w.ax
    br:=w.br.set n (w.br[n]++r.br.map fun k=>⟨r.dA,k⟩)
    covered:=(r.covered.map fun k=>(r.s.version,k)).foldl nA w.covered }) (by simpa using jb) uz jh
 rw[e2];have ht:=h.xg t (dJ e1);refine⟨_,rfl,⟨h.cfg,by simp[h.nodes],h.next,by simp[h.br],by simp[h.traces],jh,fun e he=> ?_,?_,h.mi,?_,fun f hf=> ?_,fun f hf=> ?_,?_⟩,rfl,ae⟩
 ·rcases Pd _ _ _ he with he|he
  ·obtain⟨⟨a1,a2,a3,a4,a5⟩,a6⟩:=h.aX e he;exact⟨⟨a1,a2,aa,a4,aa⟩,a6⟩
  ·obtain⟨a1,a2,a3,a4,a5,a6,a7,a8,a9⟩:=hr.sent e he;exact⟨⟨aa,aa,aa,a4,aa⟩,a6,a7,a8,a9⟩
 ·have:=Kb r.sent w.aX;have:=h.qj
  show(r.sent.foldl gH w.aX).length<=_
  omega
 ·have:=h.oU
  show(if r.nu then w.ax++[_] else w.ax:List Ob).length<=_
  split
  ·simp;omega
  ·omega
 ·rcases mem_set hf with hf|rfl
  ·have:=h.FO f hf;omega
  ·have:=h.FO _ (cT wV);simp;omega
 ·rcases mem_set hf with hf|rfl
  ·have:=h.xg f hf;omega
  ·simp;exact ht
 ·have:=Kc (r.covered.map fun k=>(r.s.version,k)) w.covered;have:=h.oQ;have:=hr.oQ;simp only[List.length_map] at*
  show((r.covered.map fun k=>(r.s.version,k)).foldl nA w.covered).length<=_
  omega
theorem oT.show {ps:List Prog}{dm k N:Nat}{cs:aL}{qh:Int}{r:Rr}(hr:oT ps dm (k+1) N cs qh r)(h1:0<=cs.node/\cs.node<N)(hN:N<=12)(h2:0<=cs.handler/\cs.handler<40)(h3:0<=cs.count/\cs.count<=k)(hk:k<=5000)(cA:r.sent.length<=500):Pe N (k+1) cs.node r:=
 ⟨fun a ha=>(hr.asks a ha).adu aa aa aa,hr.uw,fun e he=>by
  obtain⟨a1,a2,a3,a4,a5,_⟩:=hr.sent e he
  exact⟨⟨aa,aa,aa,a4,aa⟩,a1⟩,cA,fun a ha=>(hr.asks a ha).2.2.2.2.2.1,hr.FM⟩
theorem Pg {c:bR}(hc:fy c){k j:Nat}(hk:k<=5000){w:aE}(h:du c k j w){n:Nat}{s:Node}(hs:w.nodes[n]? =some s)(ej:s.up=true){handler:Int}(hh:0<=handler/\handler<40)
  {names:List Int} (mJ:names.length=9) (bg:∀x∈names,bp x=true) (l:List bf):
  ∃w' r,nC w n handler names l=some (w',r)/\du c (k+1) (j+1) w'/\Pe c.first.length (k+1) n r:=by
 have hlt:=(bk.1 hs).1
 have hn:n<c.first.length:=by rw[<-h.nodes];exact hlt
 have hI:=h.node s (dJ hs);have hr:=hI.run ej;have hv:=hI.version;have h12:=hc.xf;have fF:s.version.toNat<c.cQ.length:=aa
 have hp:c.cQ[s.version.toNat]? =some c.cQ[s.version.toNat]:=by simp[fF]
 have qk:=hc.safe _ (cT fF);generalize c.cQ[s.version.toNat]=p at hp qk;unfold nC;rw[hs];simp only;rw[if_neg aa,h.cfg,hp];simp only;obtain⟨r,e,a1,a2,a3⟩:=FN hI hp qk ej (handler:=handler.toNat) (self:=n) (nodes:=w.nodes.length) (drift:=c.drift) (names:=names) aa (rz aa) (rz (by rw[h.nodes];omega)) hc.drift mJ bg l hk;rw[e];simp only;rw[h.nodes] at a1
 have dc:handler.toNat<s.counts.length:=by rw[hI.nc];omega
 have lR:=hI.counts _ (cT dc)
 have ez:s.counts.getD handler.toNat 0=s.counts[handler.toNat]:=by rw[eu,List.getElem?_eq_getElem dc];rfl
 rw[<-ez] at lR;have g1:(0:Int)<=(n:Int)/\(n:Int)<c.first.length:=aa;have g2:(0:Int)<=((handler.toNat:Nat):Int)/\((handler.toNat:Nat):Int)<40:=aa;obtain⟨w',e1,e2,_⟩:=adx h hn a1 g1 g2 lR a2 a3 s.waiting;rw[e1];exact⟨w',r,rfl,e2,a1.show g1 aa g2 lR hk a2⟩
theorem du.setNode {c:bR}{k j:Nat}{w:aE}(h:du c k j w)(n:Nat){s:Node}(hs:gN c.cQ c.dg.length k s):du c k j (w.setNode n s):=
 { h with
  nodes:=by show(w.nodes.set n s).length=_;simp[h.nodes]
  node:=fun t ht=>by
   rcases mem_set ht with ht|rfl
   ·exact h.node t ht
   ·exact hs }
theorem du.more {c:bR}{k j:Nat}{w:aE}(h:du c k j w):du c (k+1) (j+2) w:=
 { h with
  node:=fun s hs=>(h.node s hs).more
  aX:=fun e he=>by
   obtain⟨⟨a1,a2,a3,a4,a5⟩,a6⟩:=h.aX e he;exact⟨⟨a1,a2,aa,a4,aa⟩,a6⟩
  qj:=by have:=h.qj;omega
  oU:=by have:=h.oU;omega
  FO:=fun f hf=>by have:=h.FO f hf;omega
  xg:=fun f hf=>by have:=h.xg f hf;omega
  oQ:=by have:=h.oQ;omega }
theorem FT {l:List Env}{m:bm}{e:Env}(h:e∈jz l m):e∈l:=(jG.1 h).1
theorem Ph (l:List Env)(m:bm):(jz l m).length<=l.length:=List.length_filter_le _ _
theorem Pj {l:List Env}{m:bm}{n:Int}(h:m∈fH l n):∃e,kN l m=some e/\e∈l/\e.msg=m:=by
 obtain⟨x,hx,hm,_⟩:=Pb h
 cases hf:kN l m with
 |none=>
  have:=List.find?_eq_none.1 hf x hx;simp[hm] at this
 |some e=>
  have h1:=List.find?_some hf;exact⟨e,rfl,List.mem_of_find?_eq_some hf,by simpa using h1⟩
theorem FU {c:bR}(hc:fy c){k j:Nat}(hk:k<=5000){w:aE}(h:du c k j w){e:Ev}(he:e∈enabled w)(l:List bf):
  ∃w' r,oH w e l=some (w',r)/\du c (k+1) (j+2) w'/\Pe c.first.length (k+1) e.node r:=by
 obtain⟨n,s,hs,Az⟩:=FQ he;have hlt:=(bk.1 hs).1
 have hn:n<c.first.length:=by rw[<-h.nodes];exact hlt
 have hI:=h.node s (dJ hs);have h12:=hc.xf;obtain⟨jh,Ek⟩:=Az
 have Pk:∀{w'},du c (k+1) (j+1) w'->du c (k+1) (j+2) w':=fun h=>{ h with oU:=by have:=h.oU;omega }
 unfold oH;rw[jh,if_neg aa];simp only[iT,hs]
 rcases Ek with⟨a,b,d,m⟩|⟨a,b,d,f,g,m⟩|⟨a,b,d⟩|⟨a,b,d,m⟩|⟨a,b,d,f,m⟩
 ·have hv:=Ka hc h hs d;have fF:e.arg.toNat<c.cQ.length:=aa
  have hp:c.cQ[e.arg.toNat]? =some c.cQ[e.arg.toNat]:=by simp[fF]
  have qk:=hc.safe _ (cT fF);generalize c.cQ[e.arg.toNat]=p at hp qk;rw[if_pos a,if_neg aa,h.cfg,hp];simp only;obtain⟨r,e1,a1,a2,a3⟩:=OW hI hv hp qk (self:=n) (nodes:=w.nodes.length) (drift:=c.drift) (rz aa) (rz (by rw[h.nodes];omega)) hc.drift l hk;rw[e1];simp only;rw[h.nodes] at a1
  have dc:0<s.counts.length:=by rw[hI.nc];omega
  have lR:=hI.counts _ (cT dc)
  have ez:s.counts.getD 0 0=s.counts[0]:=by rw[eu,List.getElem?_eq_getElem dc];rfl
  rw[<-ez] at lR;have g1:(0:Int)<=(n:Int)/\(n:Int)<c.first.length:=aa;obtain⟨w',e2,e3,_⟩:=adx h hn a1 g1 ae lR a2 a3 (-1);rw[e2];exact⟨w',r,rfl,Pk e3,a1.show g1 aa ae lR hk a2⟩
 ·have tE:n<w.next.length:=by rw[h.next];exact hn
  rw[eu,List.getElem?_eq_getElem tE,Bo] at g;have hx:=h.mi _ (cT tE);rw[<-g] at hx;have eY:e.arg.toNat<c.dg.length:=aa
  have hq:c.dg[e.arg.toNat]? =some c.dg[e.arg.toNat]:=by simp[eY]
  have xh:=hc.jX _ (cT eY);generalize c.dg[e.arg.toNat]=q at hq xh;rw[if_neg aa,if_pos a,if_neg aa,h.cfg,hq];simp only;rw[if_pos tE];have aqj:=hc.dm
  have h1:du c k (j+1) { w with ax:=w.ax++[(⟨false,e.arg,n,s.dH,0⟩:Ob)],next:=w.next.set n (after c n e.arg) }:=
   { h with
    next:=by show(w.next.set n _).length=_;simp[h.next]
    mi:=fun x hx=>by
     rcases mem_set hx with hx|rfl
     ·exact h.mi x hx
     ·exact JY _ _ _
    oU:=by have:=h.oU;show(w.ax++[_]).length<=_;simp;exact this }
  have sQ:gN c.cQ c.dg.length k { s with waiting:=e.arg }:={ hI with waiting:=by show -1<=e.arg/\e.arg<_;omega }
  have h2:=h1.setNode n sQ
  obtain⟨w',r,e1,e2,e3⟩:=Pg hc hk h2 (n:=n) (s:={ s with waiting:=e.arg }) (by show(w.nodes.set n _)[n]? =_;simp[hlt]) b (handler:=1) aa (names:=[0,0,0,0,q.arg,0,e.arg,q.op,q.key]) rfl (fun x hx=>by
   simp only[eM,qz,qD] at hx
   rcases hx with rfl|rfl|rfl|rfl|rfl|rfl|rfl|rfl|rfl
   any_goals decide
   ·exact xh.2.2
   ·rw[qd];omega
   ·exact xh.1
   ·exact xh.2.1) l
  rw[h.cfg] at e1;exact⟨w',r,e1,e2,e3⟩
 ·obtain⟨x,hf,hx,hm⟩:=Pj d;have sR:=h.aX x hx
  have dM:∀e'∈jz w.aX e.msg,JX c.first.length k e':=fun e' AA=>h.aX e' (FT AA)
  have h1:du c k j { w with aX:=jz w.aX e.msg }:={ h with aX:=dM,qj:=by have:=Ph w.aX e.msg;have:=h.qj;show(jz w.aX e.msg).length<=_;omega }
  have hd:=hI.dropped;have hdb:=hI.cI
  rcases a with⟨a,hu⟩|a|a
  ·rw[if_neg aa,if_neg aa,if_pos a,hf];simp only
   obtain⟨w',r,e1,e2,e3⟩:=Pg hc hk h1 (n:=n) (s:=s) hs hu (handler:=10+x.kind) (by have:=sR.2.2.1;omega) (names:=[0,0,0,x.msg.node,x.a,x.b,0,0,0]) rfl (fun y hy=>by
    simp only[eM,qz,qD] at hy
    rcases hy with rfl|rfl|rfl|rfl|rfl|rfl|rfl|rfl|rfl
    any_goals decide
    ·rw[qd];have:=sR.1.1;omega
    ·exact sR.2.2.2.1
    ·exact sR.2.2.2.2) l
   exact⟨w',r,e1,Pk e2,e3⟩
  ·rw[if_neg aa,if_neg aa,if_neg aa,if_neg aa,if_pos a]
   have ei:gN c.cQ c.dg.length (k+1) { s with dropped:=s.dropped+1 }:={ hI.more with dropped:=by show 0<=s.dropped+1/\s.dropped+1<=_;omega }
   exact⟨_,_,rfl,h1.more.setNode n ei,⟨fun a ha=>by simp[nB] at ha,by simp[nB],fun a ha=>by simp[nB] at ha,by simp[nB],fun a ha=>by simp[nB] at ha,ai⟩⟩
  ·rw[if_neg aa,if_neg aa,if_neg aa,if_neg aa,if_neg aa,if_pos a]
   have ei:gN c.cQ c.dg.length (k+1) { s with cI:=s.cI+1 }:={ hI.more with cI:=by show 0<=s.cI+1/\s.cI+1<=_;omega }
   have CZ:(∀e'∈lD w.aX e.msg (s.cI+1),JX c.first.length (k+1) e')/\(lD w.aX e.msg (s.cI+1)).length<=w.aX.length+1:=by
    unfold lD;rw[hf];simp only;refine⟨fun e' AA=> ?_,adt _ _⟩
    rcases Pc AA with AA|rfl
    ·exact h.more.aX e' AA
    ·obtain⟨⟨a1,a2,a3,a4,a5⟩,a6⟩:=sR;exact⟨⟨a1,a2,by show 0<=x.msg.count/\x.msg.count<=_;omega,a4,by show 0<=s.cI+1/\s.cI+1<=_;omega⟩,a6⟩
   have h2:du c (k+1) (j+2) { w with aX:=lD w.aX e.msg (s.cI+1) }:={ h.more with aX:=CZ.1,qj:=by have:=CZ.2;have:=h.qj;show(lD w.aX e.msg (s.cI+1)).length<=_;omega }
   exact⟨_,_,rfl,h2.setNode n ei,⟨fun a ha=>by simp[nB] at ha,by simp[nB],fun a ha=>by simp[nB] at ha,by simp[nB],fun a ha=>by simp[nB] at ha,ai⟩⟩
 ·have ht:=hI.timers _ d;rw[if_neg aa,if_neg aa,if_neg aa,if_pos a]
  have sQ:gN c.cQ c.dg.length k { s with timers:=s.timers.filter fun t=>decide (t≠e.arg) }:={ hI with timers:=fun t ht=>hI.timers t (jG.1 ht).1,qg:=Nat.le_trans (List.length_filter_le _ _) hI.qg }
  obtain⟨w',r,e1,e2,e3⟩:=Pg hc hk (h.setNode n sQ) (n:=n) (s:={ s with timers:=s.timers.filter fun t=>decide (t≠e.arg) }) (by show(w.nodes.set n _)[n]? =_;simp[hlt]) b (handler:=2+e.arg) aa (names:=XJ) rfl (fun x hx=>by
   rw[zl hx];decide) l
  exact⟨w',r,e1,Pk e2,e3⟩
 ·rw[if_neg aa,if_neg aa,if_neg aa,if_neg aa,if_neg aa,if_neg aa];obtain⟨r,e1,a1,a2,a3⟩:=OX hI (n:Int) (c.first.length:Int) l;rw[e1];simp only
  have dc:40<s.counts.length:=by rw[hI.nc];omega
  have lR:=hI.counts _ (cT dc)
  have ez:s.counts.getD 40 0=s.counts[40]:=by rw[eu,List.getElem?_eq_getElem dc];rfl
  rw[<-ez] at lR;have h1:=h.more.setNode n a1.s
  have Eo:r.sent=[]:=by
   unfold lC at e1;split at e1
   ·cases e1
   ·simp only[bz] at e1;obtain⟨d,_,rfl⟩:=e1;rfl
  obtain⟨t,v,e2,e3⟩:=adw (c:=c) (k:=k+1) (j:=j) (n:=n) (w:=w.setNode n r.s) (by show n<(w.nodes.set n r.s).length;simpa using hlt) (by show n<w.traces.length;rw[h.traces];exact hn) h1.node;rw[e3];have ht:=h.xg t (dJ e2);refine⟨_,r,rfl,{ h1 with traces:=by show(w.traces.set n _).length=_;simp[h.traces],xg:=fun f hf=> ?_ },⟨fun a ha=>(a1.asks a ha).adu (by show 0<=(n:Int)/\(n:Int)<12;omega) ae (by show 0<=s.counts.getD 40 0/\s.counts.getD 40 0<=2147483647;omega),a1.uw,fun e he=>by rw[Eo] at he;simp at he,a2,fun a ha=>(a1.asks a ha).2.2.2.2.2.1,a1.FM⟩⟩
  rcases mem_set hf with hf|rfl
  ·have:=h.xg f hf;omega
  ·simp;exact ht
structure Kd (N k:Nat)(s:af):Prop where
 ev:adr s.ev
 asks:∀a∈s.asks,OY a/\a.node=s.ev.node
 uw:s.asks.length<=4
 sent:∀m∈s.sent,OZ N k m/\m.node=s.ev.node
 FR:s.sent.length<=500
 nS:∀a∈s.asks,2<=a.arity/\a.arity<=4
theorem yU {c:bR}(hc:fy c){k j:Nat}(hk:k<5000){w:aE}(h:du c k j w)(hs:w.steps=k){e:Ev}(he:e∈enabled w)(l:List bf):
  ∃w' s,gA w e l=some (some (w',s))/\du c (k+1) (j+2) w'/\w'.steps=k+1/\Kd c.first.length (k+1) s/\s.ev=e:=by
 obtain⟨n,nd,h1,h2⟩:=FQ he;have lH:=h2.ok hc aa h h1;obtain⟨w',r,e1,e2,e3⟩:=FU hc aa h he l;refine⟨{ w' with steps:=w.steps+1 },⟨e,r.asks,decide (w.ax.length<w'.ax.length),r.sent.map Env.msg⟩,?_,{ e2 with },by simp[hs],⟨lH,e3.asks,e3.uw,fun m hm=> ?_,by show(r.sent.map Env.msg).length<=500;simpa using e3.FR,e3.nS⟩,rfl⟩
 ·unfold gA;rw[if_neg aa,if_pos he,e1];rfl
 ·simp only[fZ] at hm;obtain⟨x,hx,rfl⟩:=hm;exact e3.sent x hx
end aq
namespace aq
open dL
def tM.asked:tM->List Int
 | .go o _ _=>o.asked
 | .stop o=>o.asked
theorem aqk {cC:Int}{names answers:List Int}{op n:Int}{o:de}{st:List Int}{pc:Int}{r:tM}(h:eS cC names answers op n o st pc=some r):o.asked<+:r.asked:=by
 have one:∀r':tM,o.asked<+:r'.asked->some r'=some r->o.asked<+:r.asked:=fun r' h1 h2=>by cases h2;exact h1
 have mp:∀(x:Option Int) (f:Int->tM),(∀v,o.asked<+:(f v).asked)->x.map f=some r->o.asked<+:r.asked:=fun x f h1 h2=>by
  rw[bz] at h2;obtain⟨v,_,rfl⟩:=h2;exact h1 v
 unfold eS at h;by_cases o1:op=1
 ·rw[if_pos o1] at h;exact one _ (fj _) h
 rw[if_neg o1] at h;by_cases o2:op=2
 ·rw[if_pos o2] at h
  (repeat' split at h)<;>first|(cases h;done)|exact one _ (fj _) h|exact one _ (qw _ _) h|exact mp _ _ (fun v=>fj _) h
 rw[if_neg o2] at h;by_cases o4:op=4
 ·rw[if_pos o4] at h
  (repeat' split at h)<;>first|(cases h;done)|exact one _ (fj _) h|exact one _ (qw _ _) h|exact mp _ _ (fun v=>fj _) h
 rw[if_neg o4] at h;by_cases o3:op=3
 ·rw[if_pos o3] at h
  (repeat' split at h)<;>first|(cases h;done)|exact one _ (fj _) h|exact one _ (qw _ _) h|exact mp _ _ (fun v=>fj _) h
 rw[if_neg o3] at h;by_cases o5:op=5
 ·rw[if_pos o5] at h
  (repeat' split at h)<;>first|(cases h;done)|exact one _ (fj _) h|exact one _ (qw _ _) h|exact mp _ _ (fun v=>fj _) h
 rw[if_neg o5] at h;by_cases o6:op=6\/op=7\/op=8\/op=9\/op=11\/op=12\/op=13
 ·rw[if_pos o6] at h
  (repeat' split at h)<;>first|(cases h;done)|exact one _ (fj _) h|exact one _ (qw _ _) h|exact mp _ _ (fun v=>fj _) h
 rw[if_neg o6] at h;by_cases o10:op=10
 ·rw[if_pos o10] at h
  (repeat' split at h)<;>first|(cases h;done)|exact one _ (fj _) h|exact one _ (qw _ _) h|exact mp _ _ (fun v=>fj _) h
 rw[if_neg o10] at h;by_cases o14:op=14
 ·rw[if_pos o14] at h
  (repeat' split at h)<;>first|(cases h;done)|exact one _ (fj _) h|exact one _ (qw _ _) h|exact mp _ _ (fun v=>fj _) h
 rw[if_neg o14] at h;by_cases o15:op=15
 ·rw[if_pos o15] at h;exact one _ (fj _) h
 rw[if_neg o15] at h;by_cases o16:op=16
 ·rw[if_pos o16] at h
  (repeat' split at h)<;>first|(cases h;done)|exact one _ (fj _) h|exact one _ (qw _ _) h|exact mp _ _ (fun v=>fj _) h
 rw[if_neg o16] at h;by_cases o17:op=17
 ·rw[if_pos o17] at h
  (repeat' split at h)<;>first|(cases h;done)|exact one _ (fj _) h|exact one _ (qw _ _) h|exact mp _ _ (fun v=>fj _) h
 rw[if_neg o17] at h;by_cases o18:op=18
 ·rw[if_pos o18] at h;exact one _ (fj _) h
 rw[if_neg o18] at h;by_cases o19:op=19
 ·rw[if_pos o19] at h;exact one _ (fj _) h
 rw[if_neg o19] at h;by_cases o20:op=20
 ·rw[if_pos o20] at h;exact one _ (fj _) h
 rw[if_neg o20] at h;by_cases o21:op=21
 ·rw[if_pos o21] at h
  (repeat' split at h)<;>first|(cases h;done)|exact one _ (fj _) h|exact one _ (qw _ _) h|exact mp _ _ (fun v=>fj _) h
 rw[if_neg o21] at h;by_cases o22:op=22
 ·rw[if_pos o22] at h
  (repeat' split at h)<;>first|(cases h;done)|exact one _ (fj _) h|exact one _ (qw _ _) h|exact mp _ _ (fun v=>fj _) h
 rw[if_neg o22] at h;exact one _ (fj _) h
theorem ady {p:Prog}{names answers:List Int}{o:de}{st:List Int}{pc:Int}{r:tM}(h:nr p names answers o st pc=some r):o.asked<+:r.asked:=by
 unfold nr at h;split at h
 ·cases h
 ·split at h
  ·cases h
  ·exact aqk (o:={ o with covered:=kv o.covered pc,steps:=o.steps+1 }) h
theorem Pl {p:Prog}{names answers:List Int}:∀(f:Nat) (o:de) (st:List Int) (pc:Int) (o':de),mj p names answers f o st pc=some o'->o.asked<+:o'.asked
 |0,o,st,pc,o',h=>by
  simp only[mj,ar] at h;subst h;exact fj _
 |f+1,o,st,pc,o',h=>by
  unfold mj at h;split at h
  ·cases h
  ·rename_i o1 hs;simp only[ar] at h;subst h;exact ady hs
  ·rename_i o1 mE pc1 hs;exact List.IsPrefix.trans (ady hs) (Pl f o1 mE pc1 o' h)
theorem adz {l m:List Int}(h:l<+:m)(hl:l≠[])(hm:m.length<=1):m=l:=
 (h.eq_of_length (by have:=h.length_le;have:0<l.length:=HF.2 hl;omega)).symm
theorem aql (p:Prog)(names a1 a2:List Int)(o:de)(st:List Int)(pc:Int):nr p names a1 o st pc=nr p names a2 o st pc\/
  ∃q s1 s2 Aw,nr p names a1 o st pc=some (.go q s1 Aw)/\nr p names a2 o st pc=some (.go q s2 Aw)/\q.asked≠[]:=by
 unfold nr;split
 ·exact .inl rfl
 ·split
  ·exact .inl rfl
  ·rename_i op n _;by_cases h5:op=5
   ·subst h5
    cases st with
    |nil=>exact .inl rfl
    |cons x r=>
     by_cases hx:1<max 1 (min x 4)
     ·right;refine⟨{ o with covered:=kv o.covered pc,steps:=o.steps+1,asked:=o.asked++[max 1 (min x 4)] },pN a1 o.asked.length (max 1 (min x 4))::r,pN a2 o.asked.length (max 1 (min x 4))::r,pc+1,?_,?_,?_⟩
      ·show(if 1<max 1 (min x 4) then _ else _)=_
       rw[if_pos hx]
      ·show(if 1<max 1 (min x 4) then _ else _)=_
       rw[if_pos hx]
      ·simp
     ·left
      show(if 1<max 1 (min x 4) then _ else _)=(if 1<max 1 (min x 4) then _ else _)
      rw[if_neg hx,if_neg hx]
   ·left;unfold eS;simp only[if_neg h5]
theorem adA {p:Prog}{names a1 a2:List Int}:∀(f:Nat) (o:de) (st:List Int) (pc:Int) (o1 o2:de),mj p names a1 f o st pc=some o1->mj p names a2 f o st pc=some o2->o1.asked.length<=1->o2.asked.length<=1->o1.asked=o2.asked
 |0,o,st,pc,o1,o2,h1,h2,_,_=>by
  simp only[mj,ar] at h1 h2;rw[<-h1,<-h2]
 |f+1,o,st,pc,o1,o2,h1,h2,g1,g2=>by
  unfold mj at h1 h2
  rcases aql p names a1 a2 o st pc with e|⟨q,s1,s2,Aw,e1,e2,hq⟩
  ·rw[e] at h1;generalize nr p names a2 o st pc=r at h1 h2
   match r with
   |none=>cases h1
   |some (.stop o')=>
    simp only[ar] at h1 h2;rw[<-h1,<-h2]
   |some (.go o' st' Aw)=>exact adA f o' st' Aw o1 o2 h1 h2 g1 g2
  ·rw[e1] at h1;rw[e2] at h2;rw[adz (Pl _ _ _ _ _ h1) hq g1,adz (Pl _ _ _ _ _ h2) hq g2]
theorem adB {p:Prog}{handler:Nat}{vars names a1 a2:List Int}{o1 o2:de}(h1:sq p handler vars names a1=some o1)(h2:sq p handler vars names a2=some o2)(g1:o1.asked.length<=1)(g2:o2.asked.length<=1):o1.asked=o2.asked:=by
 unfold sq at h1 h2
 cases he:p.entry[handler]? with
 |none=>rw[he] at h1;cases h1
 |some e=>
  rw[he] at h1 h2;dsimp only at h1 h2;split at h1
  ·rename_i kG;rw[if_pos kG] at h2;simp only[ar] at h1 h2;rw[<-h1,<-h2]
  ·rename_i kG;rw[if_neg kG] at h2;exact adA _ _ _ _ _ _ h1 h2 g1 g2
theorem adC (q:Qn):∀(l:List bf) (m:Int),(∀y∈l,y.q≠q)->l.foldl (fun n a=>if a.q=q then max 0 a.n else n) m=m
 |[],m,_=>rfl
 |a::l,m,h=>by
  rw[xD,if_neg (h a ae)]
  exact adC q l m fun y hy=>h y (by simp[hy])
theorem aqm {l1 l2:List bf}{q:Qn}{n:Int}(h:∀y∈l2,y.q≠q):nk (l1++⟨q,n⟩::l2) q=max 0 n:=by
 unfold nk;rw[DR,xD,if_pos rfl,adC _ _ _ h]
theorem Da {l1 l2:List bf}{q:Qn}{n k:Int}(h:∀y∈l2,y.q≠q)(h0:0<=n)(hk:n<k):eh (l1++⟨q,n⟩::l2) q k=n:=by
 unfold eh;rw[aqm h,show max 0 n=n by omega,Int.tmod_eq_of_lt h0 hk]
theorem aqn (q:Qn)(k n:Int):(eU q k n).qn=q:=rfl
theorem aqo {r r':Rr}{a:dF}(h:mn r a=some r'):r'.asks=r.asks/\r'.out=r.out:=by
 unfold mn at h
 repeat' split at h
 all_goals first
  |(simp only[bz] at h;obtain⟨d,_,rfl⟩:=h;exact⟨rfl,rfl⟩)
  |(simp only[ar] at h;subst h;exact⟨rfl,rfl⟩)
theorem adD:∀{l:List dF} {r r':Rr},ny r l=some r'->r'.asks=r.asks/\r'.out=r.out
 |[],r,r',h=>by
  simp only[ny,ar] at h;subst h;exact⟨rfl,rfl⟩
 |a::l,r,r',h=>by
  unfold ny at h;split at h
  ·cases h
  ·rename_i r1 h1;have g:=aqo h1;have g2:=adD h;exact⟨g2.1.trans g.1,g2.2.trans g.2⟩
def nV (_s:Node)(self:Int)(handler:Nat)(k drift:Int)(l:List bf):Int:=if 0<drift then eh l (aL.qn ⟨self,handler,k⟩ 2 0) (drift+1) else 0
theorem adE {s:Node}{p:Prog}{handler:Nat}{self nodes drift:Int}{names:List Int}{l:List bf}{r:Rr}(h:ky s p handler self nodes drift names l=some r):
  ∃k vars,s.counts[handler]? =some k/\tO s=some vars/\sq p handler vars (su names self nodes (s.clock+1+nV s self handler k drift l)) (pO l ⟨self,handler,k⟩)=some r.out/\
   r.asks=(if 0<drift then [eU (aL.qn ⟨self,handler,k⟩ 2 0) (drift+1) (nV s self handler k drift l)] else [])++gW l ⟨self,handler,k⟩ 0 r.out.asked:=by
 unfold ky at h;split at h
 ·cases h
 rename_i k hk;dsimp only at h;split at h
 ·cases h
 rename_i vars hv;split at h
 ·cases h
 rename_i o ho;split at h
 ·have g:=adD h;rw[show r.out=o from g.2];exact⟨k,vars,hk,hv,ho,g.1⟩
 ·cases h
theorem aqp {s:Node}{p:Prog}{handler:Nat}{self nodes drift:Int}{names:List Int}{l0:List bf}{r0 r1:Rr}(h0:ky s p handler self nodes drift names l0=some r0)
  {pr:List Ask} {a:Ask} {rest:List Ask} {m:Int} (e:r0.asks=pr++a::rest) (hm:0<=m/\m<a.arity) (h1:ky s p handler self nodes drift names (pr.map fS++[⟨a.qn,m⟩])=some r1)
  (g0:r0.out.asked.length<=1) (g1:r1.out.asked.length<=1):∃nW,r1.asks=pr++{ a with n:=m }::nW:=by
 obtain⟨k,vars,a1,a2,a3,a4⟩:=adE h0;obtain⟨k',vars',b1,b2,b3,b4⟩:=adE h1;rw[a1] at b1;rw[a2] at b2;cases b1;cases b2;rw[e] at a4
 have dr:∀(l:List bf) (x:List Int),x.length<=1->x=[]\/∃j,x=[j]/\gW l ⟨self,handler,k⟩ 0 x=[eU (aL.qn ⟨self,handler,k⟩ 1 0) j (eh l (aL.qn ⟨self,handler,k⟩ 1 0) j)]:=fun l x hx=>by
  match x,hx with
  |[],_=>exact .inl rfl
  |[j],_=>exact .inr ⟨j,rfl,rfl⟩
 have aqq:∀n:Int,(⟨aL.qn ⟨self,handler,k⟩ 1 0,n⟩:bf).q≠aL.qn ⟨self,handler,k⟩ 2 0:=fun n hh=>by
  have:=kp Qn.kind hh;simp[aL.qn] at this
 by_cases hd:0<drift
 ·rw[if_pos hd] at a4 b4
  cases pr with
  |nil=>
   simp only[List.nil_append,List.cons_append] at a4;injection a4 with c1 c2;subst c1
   have ht:nV s self handler k drift ([].map fS++[⟨aL.qn ⟨self,handler,k⟩ 2 0,m⟩])=m:=by
    unfold nV;rw[if_pos hd];exact Da (l1:=[]) (l2:=[]) (fun y hy=>by simp at hy) hm.1 hm.2
   rw[aqn] at b4;rw[ht] at b4;exact⟨_,by rw[b4];rfl⟩
  |cons t pr=>
   simp only[List.nil_append,List.cons_append] at a4;injection a4 with c1 c2
   rcases dr l0 r0.out.asked g0 with hx|⟨j,hx,hy⟩
   ·rw[hx] at c2;cases pr<;>simp[gW] at c2
   ·rw[hy] at c2
    cases pr with
    |cons t' pr=>cases pr<;>simp at c2
    |nil=>
     simp only[List.nil_append] at c2;injection c2 with c2 c3;subst c1;subst c2;have hb:=Ax l0 (aL.qn ⟨self,handler,k⟩ 2 0) (show 0<drift+1 by omega)
     have cm:nV s self handler k drift l0=eh l0 (aL.qn ⟨self,handler,k⟩ 2 0) (drift+1):=by unfold nV;rw[if_pos hd]
     rw[<-cm] at hb;have Pm:List.map fS [eU (aL.qn ⟨self,handler,k⟩ 2 0) (drift+1) (nV s self handler k drift l0)]++[⟨(eU (aL.qn ⟨self,handler,k⟩ 1 0) j (eh l0 (aL.qn ⟨self,handler,k⟩ 1 0) j)).qn,m⟩]=[(⟨aL.qn ⟨self,handler,k⟩ 2 0,nV s self handler k drift l0⟩:bf),⟨aL.qn ⟨self,handler,k⟩ 1 0,m⟩]:=rfl;rw[Pm] at b3 b4
     have ht:nV s self handler k drift [(⟨aL.qn ⟨self,handler,k⟩ 2 0,nV s self handler k drift l0⟩:bf),⟨aL.qn ⟨self,handler,k⟩ 1 0,m⟩]=nV s self handler k drift l0:=by
      show(if 0<drift then eh _ _ _ else 0)=_
      rw[if_pos hd]
      exact Da (l1:=[]) (l2:=[⟨aL.qn ⟨self,handler,k⟩ 1 0,m⟩]) (fun y hy=>by
       simp only[qx] at hy;subst hy
       exact aqq m) hb.1 hb.2
     rw[ht] at b3 b4;have hs:=adB b3 a3 g1 g0;rw[hs,hx] at b4
     have hl:eh [(⟨aL.qn ⟨self,handler,k⟩ 2 0,nV s self handler k drift l0⟩:bf),⟨aL.qn ⟨self,handler,k⟩ 1 0,m⟩] (aL.qn ⟨self,handler,k⟩ 1 0) j=m:=
      Da (l1:=[⟨aL.qn ⟨self,handler,k⟩ 2 0,nV s self handler k drift l0⟩]) (l2:=[]) (fun y hy=>by simp at hy) hm.1 hm.2
     refine⟨[],?_⟩;rw[b4]
     show [_]++[eU (aL.qn ⟨self,handler,k⟩ 1 0) j (eh _ (aL.qn ⟨self,handler,k⟩ 1 0) j)]=_
     rw[hl];rfl
 ·rw[if_neg hd,List.nil_append] at a4 b4
  rcases dr l0 r0.out.asked g0 with hx|⟨j,hx,hy⟩
  ·rw[hx] at a4;cases pr<;>simp[gW] at a4
  ·rw[hy] at a4
   cases pr with
   |cons t' pr=>cases pr<;>simp at a4
   |nil=>
    simp only[List.nil_append] at a4;injection a4 with c2 c3;subst c2;have Pm:List.map fS []++[⟨(eU (aL.qn ⟨self,handler,k⟩ 1 0) j (eh l0 (aL.qn ⟨self,handler,k⟩ 1 0) j)).qn,m⟩]=[(⟨aL.qn ⟨self,handler,k⟩ 1 0,m⟩:bf)]:=rfl;rw[Pm] at b3 b4
    have ht:∀l,nV s self handler k drift l=0:=fun l=>by unfold nV;rw[if_neg hd]
    rw[ht] at a3 b3;have hs:=adB b3 a3 g1 g0;rw[hs,hx] at b4
    have hl:eh [(⟨aL.qn ⟨self,handler,k⟩ 1 0,m⟩:bf)] (aL.qn ⟨self,handler,k⟩ 1 0) j=m:=
     Da (l1:=[]) (l2:=[]) (fun y hy=>by simp at hy) hm.1 hm.2
    refine⟨[],?_⟩;rw[b4]
    show [eU (aL.qn ⟨self,handler,k⟩ 1 0) j (eh _ (aL.qn ⟨self,handler,k⟩ 1 0) j)]=_
    rw[hl];rfl
theorem adF {s:Node}{self:Int}{l:List bf}{r:Rr}(h:lC s self l=some r):∃k,s.counts[40]? =some k/\r.asks=jy l ⟨self,40,k⟩ s.aS.pending.length:=by
 unfold lC at h;split at h
 ·cases h
 rename_i k hk;simp only[bz] at h;obtain⟨d,_,rfl⟩:=h;exact⟨k,hk,rfl⟩
theorem Ke (l:List bf)(c:aL)(n i:Nat)(h:i<n):(jy l c n)[i]? =some (eU (c.qn 3 i) 2 (eh l (c.qn 3 i) 2)):=by
 unfold jy;simp[h]
theorem aqr {s:Node}{self:Int}{l0:List bf}{r0 r1:Rr}(h0:lC s self l0=some r0){pr:List Ask}{a:Ask}{rest:List Ask}{m:Int}(e:r0.asks=pr++a::rest)(hm:0<=m/\m<a.arity)
  (h1:lC s self (pr.map fS++[⟨a.qn,m⟩])=some r1):∃nW,r1.asks=pr++{ a with n:=m }::nW:=by
 obtain⟨k,a1,a2⟩:=adF h0;obtain⟨k',b1,b2⟩:=adF h1;rw[a1] at b1;cases b1;rw[e] at a2;generalize s.aS.pending.length=n at a2 b2
 have hlen:pr.length+(rest.length+1)=n:=by
  have:=kp List.length a2;simpa [jy] using this
 have hp:∀i,i<pr.length->pr[i]? =some (eU (aL.qn ⟨self,40,k⟩ 3 i) 2 (eh l0 (aL.qn ⟨self,40,k⟩ 3 i) 2)):=fun i hi=>by
  rw[<-Ke l0 ⟨self,40,k⟩ n i aa,<-a2,kj hi]
 have ha:a=eU (aL.qn ⟨self,40,k⟩ 3 pr.length) 2 (eh l0 (aL.qn ⟨self,40,k⟩ 3 pr.length) 2):=by
  have:=Ke l0 ⟨self,40,k⟩ n pr.length aa;rw[<-a2,cD av,Nat.sub_self] at this;simpa using this
 have hne:∀(i j:Nat) (x y:Int),i≠j->(⟨aL.qn ⟨self,40,k⟩ 3 j,x⟩:bf).q≠aL.qn ⟨self,40,k⟩ 3 i:=fun i j x y xY hh=>by
  have:=kp Qn.index hh;simp[aL.qn] at this;omega
 have pQ:∀i,i<pr.length->eh (pr.map fS++[⟨a.qn,m⟩]) (aL.qn ⟨self,40,k⟩ 3 i) 2=eh l0 (aL.qn ⟨self,40,k⟩ 3 i) 2:=fun i hi=>by
  have hx:=hp i hi;have hb:=Ax l0 (aL.qn ⟨self,40,k⟩ 3 i) (show(0:Int)<2 by omega)
  have Fu:pr.map fS++[⟨a.qn,m⟩]=(pr.take i).map fS++(⟨aL.qn ⟨self,40,k⟩ 3 i,eh l0 (aL.qn ⟨self,40,k⟩ 3 i) 2⟩:bf)::((pr.drop (i+1)).map fS++[⟨a.qn,m⟩]):=by
   have h3:pr=pr.take i++eU (aL.qn ⟨self,40,k⟩ 3 i) 2 (eh l0 (aL.qn ⟨self,40,k⟩ 3 i) 2)::pr.drop (i+1):=by
    obtain⟨hi',mZ⟩:=bk.1 hx
    conv=>lhs;rw[<-List.take_append_drop i pr,List.drop_eq_getElem_cons hi',mZ]
   conv=>lhs;rw[h3]
   rw[dw,ey,List.append_assoc,List.cons_append];rfl
  rw[Fu];refine Da (fun y hy=> ?_) hb.1 hb.2
  rcases fA.1 hy with hy|hy
  ·rw[fZ] at hy;obtain⟨z,hz,rfl⟩:=hy;obtain⟨j,hj,rfl⟩:=vQ.1 hz;simp only[lj] at hj;have Pn:=hp (i+1+j) aa;rw[List.getElem_drop];rw[List.getElem?_eq_getElem aa] at Pn;simp only[ar] at Pn;rw[Pn];exact hne i (i+1+j) _ 0 aa
  ·simp only[qx] at hy;subst hy;rw[ha];exact hne i pr.length m 0 aa
 have aqs:eh (pr.map fS++[⟨a.qn,m⟩]) (aL.qn ⟨self,40,k⟩ 3 pr.length) 2=m:=by
  have h2:a.arity=2:=by rw[ha];rfl
  rw[show a.qn=aL.qn ⟨self,40,k⟩ 3 pr.length by rw[ha];rfl];exact Da (fun y hy=>by simp at hy) hm.1 aa
 refine⟨r1.asks.drop (pr.length+1),?_⟩;apply rH;intro i;rw[b2];by_cases hi:i<pr.length
 ·rw[Ke _ _ _ _ aa,kj hi,pQ i hi,hp i hi]
 ·by_cases zT:i=pr.length
  ·subst zT;rw[Ke _ _ _ _ aa,cD av,Nat.sub_self,aqs,ha];rfl
  ·rw[cD aa,show i-pr.length=(i-pr.length-1)+1 by omega,Hk,lW];congr 1;omega
theorem adG {w w':aE}{n:Nat}{handler:Int}{names:List Int}{l:List bf}{r:Rr}(h:nC w n handler names l=some (w',r)):
  ∃s p,w.nodes[n]? =some s/\w.c.cQ[s.version.toNat]? =some p/\ky s p handler.toNat n w.nodes.length w.c.drift names l=some r:=by
 unfold nC at h;split at h
 ·cases h
 rename_i s hs;split at h
 ·cases h
 split at h
 ·cases h
 rename_i p hp;split at h
 ·cases h
 rename_i r' hr;simp only[bz,gR] at h;obtain⟨_,_,_,rfl⟩:=h;exact⟨s,p,hs,hp,hr⟩
theorem Po {w w0 w1:aE}{n:Nat}{handler:Int}{names:List Int}{l0 l1:List bf}{r0 r1:Rr}(h0:nC w n handler names l0=some (w0,r0))(h1:nC w n handler names l1=some (w1,r1)):
  ∃s p hd self nodes drift nm,ky s p hd self nodes drift nm l0=some r0/\ky s p hd self nodes drift nm l1=some r1:=by
 obtain⟨s,p,a1,a2,a3⟩:=adG h0;obtain⟨s',p',b1,b2,b3⟩:=adG h1;rw[a1] at b1;cases b1;rw[a2] at b2;cases b2;exact⟨_,_,_,_,_,_,_,a3,b3⟩
theorem aqt {w w0 w1:aE}{e:Ev}{l0 l1:List bf}{r0 r1:Rr}(h0:oH w e l0=some (w0,r0))(h1:oH w e l1=some (w1,r1)):
  r0.asks=[]\/(∃s p hd self nodes drift nm,ky s p hd self nodes drift nm l0=some r0/\ky s p hd self nodes drift nm l1=some r1)\/∃s self,lC s self l0=some r0/\lC s self l1=some r1:=by
 unfold oH at h0 h1;by_cases hn:e.node<0
 ·rw[if_pos hn] at h0;cases h0
 rw[if_neg hn] at h0 h1
 cases hs:w.nodes[e.node.toNat]? with
 |none=>simp only[hs] at h0;cases h0
 |some s=>
  simp only[hs] at h0 h1;by_cases k1:e.kind=1
  ·rw[if_pos k1] at h0 h1;by_cases ha:e.arg<0
   ·rw[if_pos ha] at h0;cases h0
   rw[if_neg ha] at h0 h1
   cases hp:w.c.cQ[e.arg.toNat]? with
   |none=>simp only[hp] at h0;cases h0
   |some p=>
    simp only[hp] at h0 h1
    have key:∀{l:List bf} {w':aE} {r:Rr},(match sv s p e.arg (e.node.toNat) w.nodes.length w.c.drift l with
      |none=>none
      |some r=>(qX w e.node.toNat r (-1)).map fun w=>(w,r))=some (w',r)->sv s p e.arg (e.node.toNat) w.nodes.length w.c.drift l=some r:=fun {l w' r} h=>by
     split at h
     ·cases h
     rename_i r' hr;simp only[bz,gR] at h;obtain⟨_,_,_,rfl⟩:=h;exact hr
    have e0:=key h0;have e1:=key h1;unfold sv at e0 e1;by_cases hb:p.cC<0\/p.gG<0
    ·rw[if_pos hb] at e0;cases e0
    rw[if_neg hb] at e0 e1;generalize(if(s.aS.cells.length:Int)=p.cC then some s.aS else qU s.aS p.cC.toNat)=od at e0 e1
    cases od with
    |none=>cases e0
    |some d=>exact .inr (.inl ⟨_,_,_,_,_,_,_,e0,e1⟩)
  rw[if_neg k1] at h0 h1;by_cases k2:e.kind=2
  ·rw[if_pos k2] at h0 h1;by_cases ha:e.arg<0
   ·rw[if_pos ha] at h0;cases h0
   rw[if_neg ha] at h0 h1
   cases hp:w.c.dg[e.arg.toNat]? with
   |none=>simp only[hp] at h0;cases h0
   |some q=>
    simp only[hp] at h0 h1;split at h0
    ·rename_i hlt;rw[if_pos hlt] at h1;exact .inr (.inl (Po h0 h1))
    ·cases h0
  rw[if_neg k2] at h0 h1;by_cases k3:e.kind=3
  ·rw[if_pos k3] at h0 h1
   cases hf:kN w.aX e.msg with
   |none=>simp only[hf] at h0;cases h0
   |some m=>
    simp only[hf] at h0 h1;exact .inr (.inl (Po h0 h1))
  rw[if_neg k3] at h0 h1;by_cases k4:e.kind=4
  ·rw[if_pos k4] at h0 h1;exact .inr (.inl (Po h0 h1))
  rw[if_neg k4] at h0 h1;by_cases k5:e.kind=5
  ·rw[if_pos k5] at h0;simp only[ar,gR] at h0;left;rw[<-h0.2];rfl
  rw[if_neg k5] at h0 h1;by_cases k6:e.kind=6
  ·rw[if_pos k6] at h0;simp only[ar,gR] at h0;left;rw[<-h0.2];rfl
  rw[if_neg k6] at h0 h1;right;right
  have key:∀{l:List bf} {w':aE} {r:Rr},(match lC s (e.node.toNat) l with
    |none=>none
    |some r=>(tQ (w.setNode e.node.toNat r.s) e.node.toNat).map fun w=>(w,r))=some (w',r)->lC s (e.node.toNat) l=some r:=fun {l w' r} h=>by
   split at h
   ·cases h
   rename_i r' hr;simp only[bz,gR] at h;obtain⟨_,_,_,rfl⟩:=h;exact hr
  exact⟨_,_,key h0,key h1⟩
end aq
namespace aq
open dL
def iB:Nat->List Ask->Nat
 |0,_=>0
 |_+1,[]=>0
 |d+1,a::l=>a.n.toNat*4^d+iB d l
theorem AB:∀(d:Nat) (l:List Ask),(∀a∈l,0<=a.n/\a.n<4)->iB d l<4^d
 |0,l,_=>by simp[iB]
 |d+1,[],_=>by
  simp only[iB];exact Nat.pow_pos aa
 |d+1,a::l,h=>by
  have h1:=h a ae
  have h2:=AB d l fun b hb=>h b (by simp[hb])
  unfold iB;rw[Nat.pow_succ];have h3:a.n.toNat*4^d<=3*4^d:=pe _ aa;generalize 4^d=P at h2 h3⊢;generalize a.n.toNat*P=Q at h3⊢;omega
theorem adH:∀(d:Nat) (pr:List Ask) (a:Ask) (rest nW:List Ask) (m:Int),pr.length<d->(∀b∈rest,0<=b.n/\b.n<4)->0<=a.n->a.n<m->iB d (pr++a::rest)<iB d (pr++{ a with n:=m }::nW)
 |0,pr,a,rest,nW,m,hd,_,_,_=>aa
 |d+1,[],a,rest,nW,m,hd,hr,h0,hm=>by
  have h2:=AB d rest hr
  show a.n.toNat*4^d+iB d rest<m.toNat*4^d+iB d nW
  have h3:(a.n.toNat+1)*4^d<=m.toNat*4^d:=pe _ aa;rw[tu] at h3;omega
 |d+1,b::pr,a,rest,nW,m,hd,hr,h0,hm=>by
  have h:=adH d pr a rest nW m (by simp only[List.length_cons] at hd;omega) hr h0 hm
  show b.n.toNat*4^d+iB d (pr++a::rest)<b.n.toNat*4^d+iB d (pr++{ a with n:=m }::nW)
  omega
theorem aqu {l:List Ask}{m:List bf}(h:tR l=some m):∃pr a rest,l=pr++a::rest/\a.n+1≠a.arity/\m=pr.map fS++[⟨a.qn,a.n+1⟩]:=by
 unfold tR at h;split at h
 ·cases h
 ·rename_i a r hr;simp only[ar] at h;have hl:=Bf (p:=fun a:Ask=>decide (a.n+1=a.arity)) (l:=l.reverse);rw[hr] at hl;have pE:=kp List.reverse hl;rw[List.reverse_reverse,List.reverse_append,lh,List.append_assoc] at pE;have hd:=List.head?_dropWhile_not (fun a:Ask=>decide (a.n+1=a.arity)) l.reverse;rw[hr] at hd;refine⟨r.reverse,a,(l.reverse.takeWhile fun a:Ask=>decide (a.n+1=a.arity)).reverse,pE.symm,by simpa using hd,h.symm⟩
theorem adI {w w':aE}{e:Ev}{l:List bf}{s:af}(h:gA w e l=some (some (w',s))):∃x,oH w e l=some x/\s.asks=x.2.asks:=by
 unfold gA at h;split at h
 ·cases h
 split at h
 ·simp only[bz,ar,gR] at h;obtain⟨x,hx,_,rfl⟩:=h;exact⟨x,hx,rfl⟩
 ·cases h
def xi (c:bR)(k:Nat)(w:aE)(e:Ev)(s:af):Prop:=Kd c.first.length (k+1) s/\s.ev=e/\∃l0 w0,gA w e l0=some (some (w0,s))
theorem xi.Kf {c:bR}{k:Nat}{w:aE}{e:Ev}{s:af}(h:xi c k w e s):∀a∈s.asks,0<=a.n/\a.n<4:=fun a ha=>by
 have h1:=(h.1.asks a ha).1;have h2:=h.1.nS a ha;obtain⟨_,g1,g2,_⟩:=h1;omega
theorem Pp {c:bR}(hc:fy c){k j:Nat}(hk:k<5000){w:aE}(h:du c k j w){e:Ev}(he:e∈enabled w){s t:af}(hs:xi c k w e s){l:List bf}(hl:tR s.asks=some l){w1:aE}(ht:gA w e l=some (some (w1,t))):
  iB 4 s.asks<iB 4 t.asks:=by
 obtain⟨pr,a,rest,e1,e2,rfl⟩:=aqu hl;have Kg:=hs.Kf;obtain⟨hst,lH,l0,w0,h0⟩:=hs;obtain⟨⟨x0,r0⟩,f0,f1⟩:=adI h0;obtain⟨⟨x1,r1⟩,g0,g1⟩:=adI ht;obtain⟨_,_,i0,_,i1⟩:=FU hc aa h he l0;obtain⟨_,_,j0,_,j1⟩:=FU hc aa h he (pr.map fS++[⟨a.qn,a.n+1⟩]);rw[f0] at i0;rw[g0] at j0;simp only[ar,gR] at i0 j0;obtain⟨rfl,rfl⟩:=i0;obtain⟨rfl,rfl⟩:=j0;dsimp only at f1 g1
 have ham:a∈s.asks:=by rw[e1];simp
 have rS:=(hst.asks a ham).1;obtain⟨_,q1,q2,_⟩:=rS
 have Cp:r0.asks=pr++a::rest:=by rw[<-f1];exact e1
 have key:∃nW,r1.asks=pr++{ a with n:=a.n+1 }::nW:=by
  rcases aqt f0 g0 with hx|⟨sn,p,hd,self,nodes,drift,nm,x1,x2⟩|⟨sn,self,x1,x2⟩
  ·rw[hx] at Cp;cases pr<;>simp at Cp
  ·exact aqp x1 Cp ⟨aa,aa⟩ x2 i1.FM j1.FM
  ·exact aqr x1 Cp ⟨aa,aa⟩ x2
 obtain⟨nW,yz⟩:=key;have hlen:=hst.uw;rw[g1,yz,e1];rw[e1] at hlen;simp only[List.length_append,List.length_cons] at hlen;exact adH 4 pr a rest nW (a.n+1) aa (fun b hb=>Kg b (by rw[e1];simp[hb])) q1 aa
theorem adJ {c:bR}(hc:fy c){k j:Nat}(hk:k<5000){w:aE}(h:du c k j w)(hst:w.steps=k){e:Ev}(he:e∈enabled w):∀(f:Nat) (s:af) (out:List af),xi c k w e s->256<=f+iB 4 s.asks->
  ∃cs,wJ w e f out s=some (out++cs)/\cs≠[]/\cs.length+iB 4 s.asks<=256/\∀t∈cs,xi c k w e t
 |0,s,out,hs,hf=>by
  have:iB 4 s.asks<256:=AB 4 _ hs.Kf;omega
 |f+1,s,out,hs,hf=>by
  have hv:iB 4 s.asks<256:=AB 4 _ hs.Kf;unfold wJ
  cases hn:tR s.asks with
  |none=>exact⟨[s],rfl,ae,by simp;omega,fun t ht=>by simp only[qx] at ht;subst ht;exact hs⟩
  |some l=>
   obtain⟨w1,t,e1,e2,e3,e4,e5⟩:=yU hc hk h hst he l;have hg:=Pp hc hk h he hs hn e1
   have ht:xi c k w e t:=⟨e4,e5,l,w1,e1⟩
   obtain⟨cs,g1,g2,g3,g4⟩:=adJ hc hk h hst he f t (out++[s]) ht aa;dsimp only;rw[e1];dsimp only;rw[g1];refine⟨s::cs,ae,ae,by simp only[List.length_cons];omega,fun x hx=> ?_⟩
   rcases eM.1 hx with rfl|hx
   ·exact hs
   ·exact g4 x hx
theorem Pq {c:bR}(hc:fy c){k j:Nat}(hk:k<5000){w:aE}(h:du c k j w)(hst:w.steps=k){e:Ev}(he:e∈enabled w):
  ∃cs,wK 256 w e=some cs/\cs≠[]/\cs.length<=256/\∀t∈cs,xi c k w e t:=by
 obtain⟨w1,t,e1,e2,e3,e4,e5⟩:=yU hc hk h hst he [];obtain⟨cs,g1,g2,g3,g4⟩:=adJ hc hk h hst he 256 t [] ⟨e4,e5,[],w1,e1⟩ aa;unfold wK;rw[e1];exact⟨cs,by simpa using g1,g2,aa,g4⟩
theorem adK {c:bR}(hc:fy c):∀(l:List Int) (k j:Nat) (w:aE) (run:List af),du c k j w->w.steps=k->k+l.length<=5000->
  ∃run' w',pP 256 l w run=some (run++run',w')/\run'.length<=l.length/\∀s∈run',∃k',k'<=5000/\Kd c.first.length k' s
 |[],k,j,w,run,h,hst,hl=>⟨[],w,by simp[pP],ae,fun s hs=>by simp at hs⟩
 |x::l,k,j,w,run,h,hst,hl=>by
  simp only[List.length_cons] at hl;unfold pP;dsimp only
  cases hx:(enabled w)[around x 1000000%(enabled w).length]? with
  |none=>exact⟨[],w,ae,ae,fun s hs=>by simp at hs⟩
  |some e=>
   have he:=dJ hx;obtain⟨cs,g1,g2,g3,g4⟩:=Pq hc aa h hst he;dsimp only;rw[g1];dsimp only;have Br:0<cs.length:=HF.2 g2;have hlt:around x 1000000/50%cs.length<cs.length:=mN _ Br;rw[List.getElem?_eq_getElem hlt];have hs:=g4 _ (cT hlt);generalize cs[around x 1000000/50%cs.length]=s at hs;obtain⟨sQ,lH,_⟩:=hs;dsimp only;obtain⟨w1,t,e1,e2,e3,_,_⟩:=yU hc aa h hst he (wI s);rw[lH,e1];dsimp only;obtain⟨run',w',q1,q2,q3⟩:=adK hc l (k+1) (j+2) w1 (run++[s]) e2 e3 aa;refine⟨s::run',w',by rw[q1];simp,by simp;omega,fun y hy=> ?_⟩
   rcases eM.1 hy with rfl|hy
   ·exact⟨k+1,aa,sQ⟩
   ·exact q3 y hy
theorem adL {c:bR}(hc:fy c)(l:List Int):∃run w,walk 256 c l=some (run,w)/\run.length<=min l.length 30/\∀s∈run,∃k',k'<=5000/\Kd c.first.length k' s:=by
 obtain⟨run',w',h1,h2,h3⟩:=adK hc (l.take 30) 0 0 (iO c) [] (Pa hc) rfl (by simp;omega);exact⟨run',w',by unfold walk;simpa using h1,by simpa [Nat.min_comm] using h2,h3⟩
end aq
namespace aq
open dL
theorem FV {p:Prop}[Decidable p](o:List Ev)(e:Ev):(if p then bl o e else o).length<=o.length+1:=by
 split
 ·exact FP _ _
 ·omega
theorem Kh (w:aE)(n:Nat)(s:Node)(out:List Ev)(m:bm):(eJ w n s out m).length<=out.length+3:=by
 unfold eJ;dsimp only;have h1:=FV (p:=s.up=true) out ⟨3,n,0,m⟩;generalize(if s.up=true then bl out ⟨3,n,0,m⟩ else out)=o1 at h1⊢;have h2:=FV (p:=s.dropped<w.c.jA) o1 ⟨5,n,0,m⟩;generalize(if s.dropped<w.c.jA then bl o1 ⟨5,n,0,m⟩ else o1)=o2 at h2⊢;have h3:=FV (p:=s.cI<w.c.kz) o2 ⟨6,n,0,m⟩;omega
def rA (w:aE)(n:Nat)(s:Node)(out:List Ev):List Ev:=if s.up then out else(ja w n s).foldl (fun o v=>bl o ⟨1,n,v,jB⟩) out
def sS (w:aE)(n:Nat)(s:Node)(out:List Ev):List Ev:=(fH w.aX n).foldl (eJ w n s) out
def lS (w:aE)(n:Nat)(s:Node)(out:List Ev):List Ev:=if s.up/\s.waiting<0/\0<=w.next.getD n 0 then bl out ⟨2,n,w.next.getD n 0,jB⟩ else out
def xj (n:Nat)(s:Node)(out:List Ev):List Ev:=if s.up then s.timers.foldl (fun o t=>bl o ⟨4,n,t,jB⟩) out else out
def uA (w:aE)(n:Nat)(s:Node)(out:List Ev):List Ev:=if s.up/\s.counts.getD 40 0<w.c.mr then bl out ⟨7,n,0,jB⟩ else out
theorem adM (w:aE)(out:List Ev)(n:Nat)(s:Node):wH w out n s=uA w n s (xj n s (lS w n s (sS w n s (rA w n s out)))):=rfl
theorem Db {α:Type}(f:α->Ev)(l:List α)(out:List Ev):(l.foldl (fun o v=>bl o (f v)) out).length<=out.length+l.length:=by
 have:=CY (f:=fun o v=>bl o (f v)) (m:=1) (fun o x=>FP o (f x)) l out;omega
theorem aqv (w:aE)(n:Nat)(s:Node)(out:List Ev):(rA w n s out).length<=out.length+(ja w n s).length:=by
 unfold rA;split
 ·omega
 ·exact Db (fun v=>⟨1,n,v,jB⟩) _ _
theorem aqw (w:aE)(n:Nat)(s:Node)(out:List Ev):(sS w n s out).length<=out.length+3*w.aX.length:=by
 unfold sS;have h1:=CY (f:=eJ w n s) (m:=3) (fun o x=>Kh w n s o x) (fH w.aX n) out
 have h2:(fH w.aX n).length<=w.aX.length:=by unfold fH;rw[List.length_map];exact List.length_filter_le _ _
 omega
theorem adN (w:aE)(n:Nat)(s:Node)(out:List Ev):(lS w n s out).length<=out.length+1:=by
 unfold lS;exact FV _ _
theorem aqx (n:Nat)(s:Node)(out:List Ev):(xj n s out).length<=out.length+s.timers.length:=by
 unfold xj;split
 ·exact Db (fun v=>⟨4,n,v,jB⟩) _ _
 ·omega
theorem aqy (w:aE)(n:Nat)(s:Node)(out:List Ev):(uA w n s out).length<=out.length+1:=by
 unfold uA;exact FV _ _
theorem adO {c:bR}(hc:fy c){w:aE}(h:w.c=c)(n:Nat)(s:Node):(ja w n s).length<=64:=by
 have:=hc.aqd;unfold ja;rw[h];split
 ·simp
 ·split
  ·simp
  ·exact this
theorem aqz {c:bR}(hc:fy c){w:aE}(h:w.c=c)(out:List Ev)(n:Nat)(s:Node)(ht:s.timers.length<=8):(wH w out n s).length<=out.length+3*w.aX.length+74:=by
 rw[adM];have h1:=aqv w n s out;have h2:=aqw w n s (rA w n s out);have h3:=adN w n s (sS w n s (rA w n s out));have h4:=aqx n s (lS w n s (sS w n s (rA w n s out)));have h5:=aqy w n s (xj n s (lS w n s (sS w n s (rA w n s out))));have hv:=adO hc h n s;omega
theorem adP (w:aE):∀(l:List Node) (n k:Nat) (out:List Ev) (hk:k<l.length),nz w n out (l.take (k+1))=wH w (nz w n out (l.take k)) (n+k) l[k]
 |s::l,n,0,out,hk=>by simp[nz]
 |s::l,n,k+1,out,hk=>by
  have:=adP w l (n+1) k (wH w out n s) (by simpa using hk);simp only[HH,nz,List.getElem_cons_succ];rw[this,show n+1+k=n+(k+1) by omega]
theorem Pr {c:bR}(hc:fy c){w:aE}(h:w.c=c):∀(l:List Node) (n:Nat) (out:List Ev),(∀s∈l,s.timers.length<=8)->(nz w n out l).length<=out.length+l.length*(3*w.aX.length+74)
 |[],n,out,_=>by simp[nz]
 |s::l,n,out,ht=>by
  have h1:=Pr hc h l (n+1) (wH w out n s) (fun x hx=>ht x (by simp[hx]));have h2:=aqz hc h out n s (ht s ae);simp only[nz,List.length_cons,tu];omega
theorem FW {α β:Type}(f:β->α->β)(l:List α)(b:β)(k:Nat)(hk:k<l.length):(l.take (k+1)).foldl f b=f ((l.take k).foldl f b) l[k]:=by
 rw[ki hk,DR];rfl
end aq
namespace Ab
open Go Go.RowKit
attribute [local irreducible] aC bo aU
open aq (bR mo Ob lE aE Env aL qW bl nA sx)
theorem Ki (c:bR)(node i:Int)(hi: -1<=i/\i<=1000000)(hl:c.dg.length<=1000000):bt Tryz.prog 32 [.agg (mH c),.c (iA node),.c (iA i)] (fun x=>x=.w (.c (iA (aq.after c node i)))):=by
 obtain⟨k0,bF⟩:∃k0:Nat,i+1=k0:=⟨(i+1).toNat,aa⟩
 have d1:aY .add (.int .i64 i) (.int .i64 1)=some (.int .i64 (k0:Int)):=by rw[lO aa aa,bF]
 have hst:qW node k0 (c.dg.drop k0)=aq.after c node i:=by unfold aq.after;rw[bF];rfl
 refine bZ aG Tryz.func32 rfl abZ [.t 6] ah _ rfl [3,6,7] [3] ?_;refine bG abZ ?_;dsimp only[V0,uV,S0];have FF:=@d1
 try refine aj ?_
 refine cF (fun n V S=>∃k:Nat,k<=3000000/\(k<=1000001\/k<=c.dg.length)/\n=c.dg.length-k/\qW node k (c.dg.drop k)=aq.after c node i/\
  V=[(0,.w (.agg (mH c))),(1,.w (.c (iA node))),(2,.w (.c (iA i))),(3,.pb 3 1 0),(6,.w (.c (iA 0))),(7,.w (.c (iA k)))]/\S=[(3,.box 1 (mH c))]) (n:=c.dg.length-k0) ⟨k0,aa,aa,rfl,hst,rfl,rfl⟩ ?_
 rintro n V L S ⟨k,hk,mY,rfl,yV,rfl,rfl⟩;by_cases hlt:k<c.dg.length
 ·have cg:k<=1000000000:=aa
  obtain⟨x,hx⟩:∃x,c.dg[k]=x:=⟨_,rfl⟩
  rw[List.drop_eq_getElem_cons hlt,hx] at yV;unfold qW at yV;by_cases he:x.node=node
  ·rw[if_pos he] at yV;have FF:=kh @hlt @hx @he
   try refine aj ?_
   (try dsimp only[aM,aJ])
   exact bd (by simp;try rfl) (by rw[<-yV];rfl)
  ·rw[if_neg he] at yV;have FF:=dW @hlt @hx @he (bL cg)
   try refine aj ?_
   exact⟨c.dg.length-(k+1),aa,k+1,aa,aa,rfl,yV,rfl,rfl⟩
 ·rw[Hl aa] at yV;have FF:=@hlt
  try refine aj ?_
  (try dsimp only[aM,aJ])
  exact bd (by simp;try rfl) (by rw[<-yV];rfl)
theorem adQ {a m:Ev}(h:a≠m):¬(a.kind=m.kind/\a.node=m.node/\a.arg=m.arg/\a.msg.node=m.msg.node/\a.msg.handler=m.msg.handler/\a.msg.count=m.msg.count/\a.msg.index=m.msg.index/\a.msg.copy=m.msg.copy):=fun⟨h1,h2,h3,h4,h5,h6,h7,h8⟩=>h (by
 obtain⟨a1,a2,a3,⟨b1,b2,b3,b4,b5⟩⟩:=a;obtain⟨c1,c2,c3,⟨d1,d2,d3,d4,d5⟩⟩:=m
 simp_all)
theorem xk (a b:Ev):bt Tryz.prog 60 [.agg (dp a),.agg (dp b)] (fun x=>x=.w (.c (iA (aQ a.ints b.ints)))):=aoR _ _ _ _ _ _ _ _ _ _ _ _ _ _ _ _
theorem cL (l:List Ev)(e:Ev)(hl:l.length<=1000000):bt Tryz.prog 33 [.c (evs l),.agg (dp e)] (fun x=>x=.w (.c (evs (bl l e)))):=by
 have uq:l.length+1<=100000000:=aa;refine bZ aG Tryz.func33 rfl acd [.t 4] ah _ rfl [3,4,5,6] [3,6] ?_;refine bG acd ?_;dsimp only[V0,uV,S0];have FF:=trivial
 try refine aj ?_
 refine cF (fun n V S=>∃k:Nat,k<=l.length/\n=l.length-k/\(∀j (hj:j<l.length),j<k->decide (aQ l[j].ints e.ints<0)=true)/\
  V=[(0,.w (.c (evs l))),(1,.w (.agg (dp e))),(3,.pb 3 1 0),(4,.w (.c (.sl []))),(5,.w (.c (iA k))),(6,.u)]/\S=[(3,.box 1 (dp e)),(6,.dead 0)]) (n:=l.length) ⟨0,aa,aa,fun j _ h=>aa,rfl,rfl⟩ ?_
 rintro n V L S ⟨k,hk,rfl,hj,rfl,rfl⟩
 have done:∀(h2:∀h:k<l.length,decide (aQ l[k].ints e.ints<0)=false),bl l e=if(l.drop k).head? =some e then l else l.take k++e::l.drop k:=fun h2=>by
  obtain⟨g1,g2⟩:=EG (p:=fun x:Ev=>decide (aQ x.ints e.ints<0)) hk hj h2;unfold bl;rw[g1,g2]
 by_cases hlt:k<l.length
 ·have cg:k<=1000000000:=aa
  obtain⟨x,hx⟩:∃x,l[k]=x:=⟨_,rfl⟩
  by_cases he:aQ x.ints e.ints<0
  ·have FF:=dW @hlt @hx @he (bL cg)
   repeat first|refine aN (xk x e) ?_|refine aO (xk x e) ?_|refine aP (xk x e) ?_|refine aj ?_
   exact⟨l.length-(k+1),aa,k+1,aa,aa,fun j dD dx=>by
    by_cases dN:j=k
    ·subst dN;rw[hx];exact ll he
    ·exact hj j dD aa,rfl,rfl⟩
  ·have hd:=done (fun _=>by rw[hx];exact pg he);rw[List.drop_eq_getElem_cons hlt,hx] at hd;by_cases ke:x=e
   ·rw[if_pos (by rw[ke];rfl)] at hd;subst ke;have FF:=kh @hlt @hx @he
    repeat first|refine aN (xk x x) ?_|refine aO (xk x x) ?_|refine aP (xk x x) ?_|refine aj ?_
    (try dsimp only[aM,aJ])
    exact bd (by simp;try rfl) (by rw[hd];rfl)
   ·rw[if_neg (by simpa using ke)] at hd;have hne:=adQ ke;have FF:=fX @hlt @hx @he @hne (Nat.le_of_lt hlt)
    repeat first|refine NL (xk x e) ?_|refine NM (xk x e) ?_|refine NN (xk x e) ?_|refine sL ?_
    (try dsimp only[aM,aJ])
    exact bd (by simp;try rfl) (by rw[hd,<-hx,<-List.drop_eq_getElem_cons hlt];simp[List.map_take,List.map_drop];try rfl)
 ·have hd:=done (fun h=>absurd h hlt);rw[if_neg (by rw[Hl aa];simp)] at hd;have FF:=jk @hlt @hk
  try refine sL ?_
  (try dsimp only[aM,aJ])
  exact bd (by simp;try rfl) (by rw[hd];simp[List.map_take,List.map_drop];try rfl)
theorem Ps (l:List (Int×Int))(e:Int×Int)(hl:l.length<=1000000):bt Tryz.prog 108 [.c (sP l),.agg (JT e)] (fun x=>x=.w (.c (sP (nA l e)))):=by
 have uq:l.length+1<=100000000:=aa;refine bZ aG Tryz.func108 rfl acg [.t 4] ah _ rfl [3,4,5,6] [3,6] ?_;refine bG acg ?_;dsimp only[V0,uV,S0];have FF:=trivial
 try refine aj ?_
 refine cF (fun n V S=>∃k:Nat,k<=l.length/\n=l.length-k/\(∀j (hj:j<l.length),j<k->sx l[j] e=true)/\
  V=[(0,.w (.c (sP l))),(1,.w (.agg (JT e))),(3,.pb 3 1 0),(4,.w (.c (.sl []))),(5,.w (.c (iA k))),(6,.u)]/\S=[(3,.box 1 (JT e)),(6,.dead 0)]) (n:=l.length) ⟨0,aa,aa,fun j _ h=>aa,rfl,rfl⟩ ?_
 rintro n V L S ⟨k,hk,rfl,hj,rfl,rfl⟩
 have done:∀(h2:∀h:k<l.length,sx l[k] e=false),nA l e=if(l.drop k).head? =some e then l else l.take k++e::l.drop k:=fun h2=>by
  obtain⟨g1,g2⟩:=EG (p:=fun x:Int×Int=>sx x e) hk hj h2;unfold nA;rw[g1,g2]
 by_cases hlt:k<l.length
 ·have cg:k<=1000000000:=aa
  obtain⟨x,hx⟩:∃x,l[k]=x:=⟨_,rfl⟩
  have next:sx x e=true->∀j (hj:j<l.length),j<k+1->sx l[j] e=true:=fun he j dD dx=>by
   by_cases dN:j=k
   ·subst dN;rw[hx];exact he
   ·exact hj j dD aa
  by_cases h1:x.1<e.1
  ·have he:=next (ll (.inl h1));have FF:=dW @hlt @hx @h1 (bL cg)
   try refine aj ?_
   exact⟨l.length-(k+1),aa,k+1,aa,aa,he,rfl,rfl⟩
  ·by_cases h2:x.1=e.1
   ·by_cases h3:x.2<e.2
    ·have he:=next (ll (.inr ⟨h2,h3⟩));have FF:=eL @hlt @hx @h1 @h2 @h3 (bL cg)
     try refine aj ?_
     exact⟨l.length-(k+1),aa,k+1,aa,aa,he,rfl,rfl⟩
    ·have hd:=done (fun _=>by rw[hx];exact pg (by rintro(h|h);exact h1 h;exact h3 h.2));rw[List.drop_eq_getElem_cons hlt,hx] at hd;by_cases h4:x.2=e.2
     ·have ke:x=e:=Prod.ext h2 h4;rw[if_pos (by rw[ke];rfl)] at hd;have FF:=eL @hlt @hx @h1 @h2 @h3 @h4
      try refine aj ?_
      (try dsimp only[aM,aJ])
      exact bd (by simp;try rfl) (by rw[hd];rfl)
     ·rw[if_neg (by intro hh;simp only[List.head?_cons,ar] at hh;exact h4 (by rw[hh]))] at hd;have FF:=jl @hlt @hx @h1 @h2 @h3 @h4 (Nat.le_of_lt hlt)
      try refine sL ?_
      (try dsimp only[aM,aJ])
      exact bd (by simp;try rfl) (by rw[hd,<-hx,<-List.drop_eq_getElem_cons hlt];simp[List.map_take,List.map_drop];try rfl)
   ·have hd:=done (fun _=>by rw[hx];exact pg (by rintro(h|h);exact h1 h;exact h2 h.1));rw[List.drop_eq_getElem_cons hlt,hx] at hd;rw[if_neg (by intro hh;simp only[List.head?_cons,ar] at hh;exact h2 (by rw[hh]))] at hd;have FF:=fX @hlt @hx @h1 @h2 (Nat.le_of_lt hlt)
    try refine sL ?_
    (try dsimp only[aM,aJ])
    exact bd (by simp;try rfl) (by rw[hd,<-hx,<-List.drop_eq_getElem_cons hlt];simp[List.map_take,List.map_drop];try rfl)
 ·have hd:=done (fun h=>absurd h hlt);rw[if_neg (by rw[Hl aa];simp)] at hd;have FF:=jk @hlt @hk
  try refine sL ?_
  (try dsimp only[aM,aJ])
  exact bd (by simp;try rfl) (by rw[hd];simp[List.map_take,List.map_drop];try rfl)
end Ab
end Go.Proofs.YtlnghiefahcnpaaGreat
