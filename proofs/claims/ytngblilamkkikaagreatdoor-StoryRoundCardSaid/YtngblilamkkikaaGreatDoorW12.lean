import Derived.Test.YtngblilamkkikaaGreatDoorW11
import Derived.Test.YtngblilamkkikaaGreatDoorW10
set_option maxHeartbeats 40000000
set_option maxRecDepth 100000
set_option linter.all false
namespace Go.Proofs.YtngblilamkkikaaGreatDoor
section
open Go.RowKit
def su (e:Ev):Prop:=
 0<=e.node/\e.node<=11/\
 (((e.kind=1\/e.kind=2\/e.kind=4)/\(0<=e.arg/\e.arg<=2147483647)/\e.msg=⟨0,0,0,0,0⟩)\/
  ((e.kind=3\/e.kind=5\/e.kind=6)/\e.arg=0/\((0<=e.msg.node/\e.msg.node<12)/\(0<=e.msg.handler/\e.msg.handler<40)/\0<=e.msg.count/\e.msg.count<=2147483647)/\(0<=e.msg.index/\e.msg.index<=2147483647)/\0<=e.msg.copy/\e.msg.copy<=2147483647)\/
  (e.kind=7/\e.arg=0/\e.msg=⟨0,0,0,0,0⟩))
def Dj (q:Qn):Prop:=(1<=q.kind/\q.kind<=3)/\((0<=q.node/\q.node<12)/\(0<=q.handler/\q.handler<41)/\0<=q.count/\q.count<=2147483647)/\0<=q.index/\q.index<=2147483647
def Ask.qn (a:Ask):Qn:=⟨a.node,a.handler,a.count,a.kind,a.index⟩
def xi (a:Ask):Prop:=Dj a.qn/\0<=a.n/\a.n<a.arity/\a.arity<=2147483647
def fE (a:Ask):aI:=⟨a.qn,a.n⟩
end
namespace aD
open jc
variable {a:Ask} {answers names st:List Int} {c:et} {cs:aT} {drift handler nodes self vD:Int} {e:Ev} {j k:Nat} {l:List Env} {l0 l1 l2:List aI} {m:bQ} {o:eo} {out:List Ev} {p:Prog} {pr rest:List Ask} {q:Qn} {r r0 r1:Rr} {w w' w0 w1:bE} {x:Env}
structure gW (c:et):Prop where
 asW:1<=c.dA.length/\c.dA.length<=64
 safe:∀p∈c.dA,pN p=true
 AU:1<=c.first.length/\c.first.length<=12
 first:∀v∈c.first,0<=v/\v<c.dA.length
 po:∀v∈c.po,0<=v/\v<c.dA.length
 asX:c.po.length<=64
 eV:c.dO.length<=300
 req:∀r∈c.dO,bq r.op=true/\bq r.key=true/\bq r.arg=true
 wF:0<=c.wF/\c.wF<=10
 pq:0<=c.pq/\c.pq<=10
 rW:0<=c.rW/\c.rW<=10
 drift:0<=c.drift/\c.drift<=3
def XH (N k:Nat)(m:bQ):Prop:=(0<=m.node/\m.node<N)/\(0<=m.handler/\m.handler<40)/\(0<=m.count/\m.count<=k)/\(0<=m.index/\m.index<=500)/\0<=m.copy/\m.copy<=k
def Ru (N k:Nat)(e:Env):Prop:=XH N k e.msg/\(0<=e.nE/\e.nE<N)/\(0<=e.kind/\e.kind<=29)/\bq e.a=true/\bq e.b=true
structure dX (c:et)(k j:Nat)(w:bE):Prop where
 cfg:w.c=c
 nodes:w.nodes.length=c.first.length
 next:w.next.length=c.first.length
 bB:w.bB.length=c.first.length
 traces:w.traces.length=c.first.length
 node:∀s∈w.nodes,js c.dA c.dO.length k s
 bD:∀e∈w.bD,Ru c.first.length k e
 tW:w.bD.length<=501*k
 pd:∀x∈w.next,-1<=x/\x<c.dO.length
 sx:w.aX.length<=j
 MP:∀f∈w.bB,f.length<=500*k
 AX:∀t∈w.traces,t.length<=k
 sk:w.covered.length<=500*k
theorem Rv(c:et)(node i:Int): -1<=after c node i/\after c node i<c.dO.length:=by
 have key:∀(l:List pk) (k:Nat),-1<=vf node k l/\vf node k l<(k+l.length:Nat)\/vf node k l= -1:=by
  intro l
  induction l with
  |nil=>intro k;exact .inr rfl
  |cons r l ih=>
   intro k;unfold vf;split
   ·exact .inl ⟨ab,by simp;omega⟩
   ·rcases ih (k+1) with h|h
    ·exact .inl ⟨h.1,by simp;omega⟩
    ·exact .inr h
 unfold after
 rcases key (c.dO.drop (i+1).toNat) (i+1).toNat with h|h
 ·refine⟨h.1,?_⟩;have h2:=h.2;by_cases hl:(i+1).toNat<=c.dO.length
  ·simp only[nf] at h2;omega
  ·rw[EH ab] at h2⊢;simp only[vf];omega
 ·rw[h];omega
theorem XI(h:gW c):dX c 0 0 (mD c):=
 ⟨rfl,by simp[mD],by simp[mD],by simp[mD],by simp[mD],fun s hs=>by
   simp only[mD,dh] at hs;obtain⟨_,_,rfl⟩:=hs
   exact asS _ _ _,fun e he=>by simp[mD] at he,by simp[mD],fun x hx=>by
   simp only[mD,dh] at hx;obtain⟨n,_,rfl⟩:=hx
   exact Rv _ _ _,by simp[mD],fun f hf=>by
   simp only[mD,dh] at hf;obtain⟨_,_,rfl⟩:=hf
   simp,fun f hf=>by
   simp only[mD,dh] at hf;obtain⟨_,_,rfl⟩:=hf
   simp,by simp[mD]⟩
theorem FT{l:List Ev}{x:Ev}(h:e∈bJ l x):e∈l\/e=x:=by
 unfold bJ at h;split at h
 ·exact .inl h
 ·rcases fJ.1 h with h|h
  ·exact .inl ((List.takeWhile_sublist _).mem h)
  ·rcases bZ.1 h with h|h
   ·exact .inr h
   ·exact .inl ((List.dropWhile_sublist _).mem h)
theorem MQ(l:List Ev)(x:Ev):(bJ l x).length<=l.length+1:=by
 unfold bJ;split
 ·omega
 ·have:=aG List.length (Io (p:=fun y=>decide (aK y.ints x.ints<0)) (l:=l));rw[List.length_append] at this;rw[List.length_append,List.length_cons];omega
def qX (w:bE)(n:Nat)(s:Node)(e:Ev):Prop:=e.node=n/\(
 (e.kind=1/\s.up=false/\e.arg∈lq w n s/\e.msg=lT)\/
 (e.kind=2/\s.up=true/\s.waiting<0/\0<=e.arg/\e.arg=w.next.getD n 0/\e.msg=lT)\/
 ((e.kind=3/\s.up=true\/e.kind=5\/e.kind=6)/\e.arg=0/\e.msg∈ib w.bD n)\/
 (e.kind=4/\s.up=true/\e.arg∈s.timers/\e.msg=lT)\/
 (e.kind=7/\s.up=true/\s.counts.getD 40 0<w.c.wF/\e.arg=0/\e.msg=lT))
theorem Rw {α:Type}{Q:Ev->Prop}{f:List Ev->α->List Ev}:∀(l:List α) (out:List Ev),(∀o,∀x∈l,∀e∈f o x,e∈o\/Q e)->∀e∈l.foldl f out,e∈out\/Q e
 |[],out,_,e,he=> .inl he
 |x::l,out,h,e,he=>by
  rcases Rw l (f out x) (fun o y hy=>h o y (by simp[hy])) e he with h1|h1
  ·exact h out x ai e h1
  ·exact .inr h1
theorem JI {α:Type}{f:List Ev->α->List Ev}{m:Nat}(h:∀o x,(f o x).length<=o.length+m):∀(l:List α) (out:List Ev),(l.foldl f out).length<=out.length+m*l.length
 |[],out=>ai
 |x::l,out=>by
  have h1:=JI h l (f out x);have h2:=h out x;simp only[yi,List.length_cons,Nat.mul_add];omega
theorem asY{n:Nat}{s:Node}(hm:m∈ib w.bD n)(h:e∈fV w n s out m):e∈out\/qX w n s e:=by
 unfold fV at h
 have k1:∀e∈(if s.up then bJ out ⟨3,n,0,m⟩ else out),e∈out\/qX w n s e:=by
  intro e he;split at he
  ·rename_i hu
   rcases FT he with h|rfl
   ·exact .inl h
   ·exact .inr ⟨rfl,.inr (.inr (.inl ⟨.inl ⟨rfl,hu⟩,rfl,hm⟩))⟩
  ·exact .inl he
 revert h;generalize(if s.up then bJ out ⟨3,n,0,m⟩ else out)=o1 at k1;intro h
 have k2:∀e∈(if s.dropped<w.c.pq then bJ o1 ⟨5,n,0,m⟩ else o1),e∈out\/qX w n s e:=by
  intro e he;split at he
  ·rcases FT he with h|rfl
   ·exact k1 e h
   ·exact .inr ⟨rfl,.inr (.inr (.inl ⟨.inr (.inl rfl),rfl,hm⟩))⟩
  ·exact k1 e he
 revert h;simp only;generalize(if s.dropped<w.c.pq then bJ o1 ⟨5,n,0,m⟩ else o1)=o2 at k2;intro h;split at h
 ·rcases FT h with h|rfl
  ·exact k2 e h
  ·exact .inr ⟨rfl,.inr (.inr (.inl ⟨.inr (.inr rfl),rfl,hm⟩))⟩
 ·exact k2 e h
theorem asZ{n:Nat}{s:Node}(h:e∈Aq w out n s):e∈out\/qX w n s e:=by
 unfold Aq at h
 have k1:∀e∈(if s.up then out else(lq w n s).foldl (fun o v=>bJ o ⟨1,n,v,lT⟩) out),e∈out\/qX w n s e:=by
  intro e he;split at he
  ·exact .inl he
  ·rename_i hu;refine Rw _ _ (fun o v hv e he=> ?_) e he
   rcases FT he with h|rfl
   ·exact .inl h
   ·exact .inr ⟨rfl,.inl ⟨rfl,by simpa using hu,hv,rfl⟩⟩
 revert h;generalize(if s.up then out else(lq w n s).foldl (fun o v=>bJ o ⟨1,n,v,lT⟩) out)=o1 at k1;simp only
 have k2:∀e∈(ib w.bD n).foldl (fV w n s) o1,e∈out\/qX w n s e:=by
  intro e he
  rcases Rw (Q:=qX w n s) _ _ (fun o m hm e he=>asY hm he) e he with h|h
  ·exact k1 e h
  ·exact .inr h
 generalize(ib w.bD n).foldl (fV w n s) o1=o2 at k2
 have k3:∀e∈(if s.up/\s.waiting<0/\0<=w.next.getD n 0 then bJ o2 ⟨2,n,w.next.getD n 0,lT⟩ else o2),e∈out\/qX w n s e:=by
  intro e he;split at he
  ·rename_i hc
   rcases FT he with h|rfl
   ·exact k2 e h
   ·exact .inr ⟨rfl,.inr (.inl ⟨rfl,hc.1,hc.2.1,hc.2.2,rfl,rfl⟩)⟩
  ·exact k2 e he
 generalize(if s.up/\s.waiting<0/\0<=w.next.getD n 0 then bJ o2 ⟨2,n,w.next.getD n 0,lT⟩ else o2)=o3 at k3
 have k4:∀e∈(if s.up then s.timers.foldl (fun o t=>bJ o ⟨4,n,t,lT⟩) o3 else o3),e∈out\/qX w n s e:=by
  intro e he;split at he
  ·rename_i hu
   rcases Rw (Q:=qX w n s) _ _ (fun o t ht e he=>by
    rcases FT he with h|rfl
    ·exact .inl h
    ·exact .inr ⟨rfl,.inr (.inr (.inr (.inl ⟨rfl,hu,ht,rfl⟩)))⟩) e he with h|h
   ·exact k3 e h
   ·exact .inr h
  ·exact k3 e he
 generalize(if s.up then s.timers.foldl (fun o t=>bJ o ⟨4,n,t,lT⟩) o3 else o3)=o4 at k4;intro h;split at h
 ·rename_i hc
  rcases FT h with h|rfl
  ·exact k4 e h
  ·exact .inr ⟨rfl,.inr (.inr (.inr (.inr ⟨rfl,hc.1,hc.2,rfl,rfl⟩)))⟩
 ·exact k4 e h
theorem afU {w:bE}:∀(l:List Node) (n:Nat) (out:List Ev) (e:Ev),e∈qI w n out l->e∈out\/∃i s,l[i]? =some s/\qX w (n+i) s e
 |[],n,out,e,h=> .inl h
 |s::l,n,out,e,h=>by
  rcases afU l (n+1) _ e h with h1|⟨i,s',h1,h2⟩
  ·rcases asZ h1 with h2|h2
   ·exact .inl h2
   ·exact .inr ⟨0,s,rfl,h2⟩
  ·exact .inr ⟨i+1,s',by simpa using h1,by rw[show n+(i+1)=n+1+i by omega];exact h2⟩
theorem Rx(h:e∈enabled w):∃n s,w.nodes[n]? =some s/\qX w n s e:=by
 rcases afU _ _ _ _ h with h|⟨i,s,h1,h2⟩
 ·simp at h
 ·exact⟨i,s,h1,by simpa using h2⟩
theorem afV{n:Int}(h:m∈ib l n):∃e∈l,e.msg=m/\e.nE=n:=by
 unfold ib at h;rw[dh] at h;obtain⟨e,he,rfl⟩:=h;obtain⟨h1,h2⟩:=mq.1 he;exact⟨e,h1,rfl,by simpa using h2⟩
theorem Ry(hc:gW c)(h:dX c k j w){n:Nat}{s:Node}(hs:w.nodes[n]? =some s){v:Int}(hv:v∈lq w n s):0<=v/\v<c.dA.length:=by
 have hn:n<c.first.length:=by rw[<-h.nodes];exact(bG.1 hs).1
 have hI:=h.node s (dD hs);unfold lq at hv;rw[h.cfg] at hv;split at hv
 ·simp only[rO] at hv;rw[hv,ff,cy hn];exact hc.first _ (cA hn)
 ·rename_i h0;split at hv
  ·simp only[rO] at hv;have:=hI.version;omega
  ·exact hc.po v hv
theorem qX.ok(hc:gW c)(hk:k<=5000)(h:dX c k j w){n:Nat}{s:Node}(hs:w.nodes[n]? =some s)(he:qX w n s e):su e:=by
 have hn:n<c.first.length:=by rw[<-h.nodes];exact(bG.1 hs).1
 have hI:=h.node s (dD hs);have h12:=hc.AU;have h64:=hc.asW;obtain⟨Rz,he⟩:=he;refine⟨ab,ab,?_⟩
 rcases he with⟨a,b,d,m⟩|⟨a,b,d,f,g,m⟩|⟨a,b,d⟩|⟨a,b,d,m⟩|⟨a,b,d,f,m⟩
 ·have:=Ry hc h hs d;exact .inl ⟨.inl a,ab,m⟩
 ·refine .inl ⟨.inr (.inl a),⟨f,?_⟩,m⟩
  have hlt:n<w.next.length:=by rw[h.next];exact hn
  have:=h.pd _ (cA hlt);rw[ff,cy hlt] at g;have h3:=hc.eV;simp only[Ad] at g;omega
 ·obtain⟨x,hx,hm,ht⟩:=afV d;have hE:=(h.bD x hx).1;rw[hm] at hE;obtain⟨h1,h2,h3,h4,h5⟩:=hE;refine .inr (.inl ⟨ab,b,⟨ab,ab,ab,ab⟩,ab,ab⟩)
 ·have:=hI.timers _ d;exact .inl ⟨.inr (.inr a),ab,m⟩
 ·exact .inr (.inr ⟨a,f,m⟩)
theorem ata{e:Env}(h:e∈vd l x):e∈l\/e=x:=by
 unfold vd at h
 rcases fJ.1 h with h|h
 ·exact .inl ((List.takeWhile_sublist _).mem h)
 ·rcases bZ.1 h with h|h
  ·exact .inr h
  ·exact .inl ((List.dropWhile_sublist _).mem h)
theorem atb(l:List Env)(x:Env):(vd l x).length=l.length+1:=by
 unfold vd;have:=aG List.length (Io (p:=fun y:Env=>decide (aK y.msg.ints x.msg.ints<0)) (l:=l));rw[List.length_append] at this;rw[List.length_append,List.length_cons];omega
theorem afW{e:Env}(h:e∈jF l x):e∈l\/e=x:=by
 unfold jF at h;split at h
 ·simp at h
 ·exact ata h
theorem afX(l:List Env)(x:Env):(jF l x).length<=l.length+1:=by
 unfold jF;split
 ·simp
 ·rw[atb];omega
theorem afY:∀(m l:List Env) (e:Env),e∈m.foldl jF l->e∈l\/e∈m
 |[],l,e,h=> .inl h
 |x::m,l,e,h=>by
  rcases afY m _ e h with h|h
  ·rcases afW h with h|rfl
   ·exact .inl h
   ·exact .inr ai
  ·exact .inr (by simp[h])
theorem RA:∀(m l:List Env),(m.foldl jF l).length<=l.length+m.length
 |[],l=>ai
 |x::m,l=>by
  have:=RA m (jF l x);have:=afX l x;simp only[yi,List.length_cons];omega
theorem atc(l:List (Int×Int))(x:Int×Int):(qJ l x).length<=l.length+1:=by
 unfold qJ;split
 ·omega
 ·have:=aG List.length (Io (p:=fun y=>wG y x) (l:=l));rw[List.length_append] at this;rw[List.length_append,List.length_cons];omega
theorem RB:∀(m l:List (Int×Int)),(m.foldl qJ l).length<=l.length+m.length
 |[],l=>ai
 |x::m,l=>by
  have:=RB m (qJ l x);have:=atc l x;simp only[yi,List.length_cons];omega
theorem mem_set{α:Type}{l:List α}{n:Nat}{x y:α}(h:y∈l.set n x):y∈l\/y=x:=Cc h
theorem vE{n:Nat}(h:n<=2147483647):bq (n:Int)=true:=by rw[tT];omega
structure XJ (N k:Nat)(node:Int)(r:Rr):Prop where
 asks:∀a∈r.asks,xi a/\a.node=node
 AQ:r.asks.length<=4
 sent:∀e∈r.sent,XH N k e.msg/\e.msg.node=node
 RD:r.sent.length<=500
 lG:∀a∈r.asks,2<=a.arity/\a.arity<=4
 MN:r.out.asked.length<=1
theorem ML.afZ{c:aT}(h:ML c a)(h1:0<=c.node/\c.node<12)(h2:0<=c.handler/\c.handler<41)(h3:0<=c.count/\c.count<=2147483647):xi a/\a.node=c.node:=by
 obtain⟨a1,a2,a3,a4,a5,a6,a7,a8⟩:=h;refine⟨⟨⟨a4,⟨?_,?_,?_⟩,?_⟩,a7,a8,ab⟩,a1⟩
 ·show 0<=a.node/\a.node<12;omega
 ·show 0<=a.handler/\a.handler<41;omega
 ·show 0<=a.count/\a.count<=2147483647;omega
 ·show 0<=a.index/\a.index<=2147483647;omega
theorem aga{j:Nat}{n:Nat}(hn:n<w.nodes.length)(yW:n<w.traces.length)(hs:∀s∈w.nodes,js c.dA c.dO.length k s):
  ∃t v,w.traces[n]? =some t/\Cv w n=some { w with traces:=w.traces.set n (t++[v]) }:=by
 have h1:w.nodes[n]? =some w.nodes[n]:=by simp[hn]
 have h2:w.traces[n]? =some w.traces[n]:=by simp[yW]
 obtain⟨v,hv,_⟩:=Rt (hs _ (cA hn));exact⟨_,v,h2,by unfold Cv;rw[h1,h2];simp only[hv];rfl⟩
theorem agb(h:dX c k j w){n:Nat}(hn:n<c.first.length)(hr:sr c.dA c.dO.length (k+1) c.first.length cs vD r)
  (h1:0<=cs.node/\cs.node<c.first.length) (h2:0<=cs.handler/\cs.handler<40) (h3:0<=cs.count/\cs.count<=k) (bN:r.sent.length<=500) (cH:r.bB.length<=500) (waiting:Int):
  ∃w',yu w n r waiting=some w'/\dX c (k+1) (j+1) w'/\w'.c=w.c/\w'.nodes.length=w.nodes.length:=by
 have AJ:n<w.bB.length:=by rw[h.bB];exact hn
 have jH:n<w.nodes.length:=by rw[h.nodes];exact hn
 have yW:n<w.traces.length:=by rw[h.traces];exact hn
 unfold yu;rw[aj jH,cy AJ];simp only
 have mf:∀s∈w.nodes.set n r.s,js c.dA c.dO.length (k+1) s:=by
  intro s hs
  rcases mem_set hs with hs|rfl
  ·exact(h.node s hs).more
  ·exact hr.s
 obtain⟨t,v,e1,e2⟩:=aga (c:=c) (k:=k+1) (j:=j) (n:=n) (w:={ w with
    nodes:=w.nodes.set n r.s
    bD:=r.sent.foldl jF w.bD
    aX:=if r.qE then w.aX++[⟨true,waiting,n,r.s.eC,r.value⟩] else w.aX
    bB:=w.bB.set n (w.bB[n]++r.bB.map fun k=>⟨r.fy,k⟩)
    covered:=(r.covered.map fun k=>(r.s.version,k)).foldl qJ w.covered }) (by simpa using jH) yW mf
 rw[e2];have ht:=h.AX t (dD e1);refine⟨_,rfl,⟨h.cfg,by simp[h.nodes],h.next,by simp[h.bB],by simp[h.traces],mf,fun e he=> ?_,?_,h.pd,?_,fun f hf=> ?_,fun f hf=> ?_,?_⟩,rfl,ai⟩
 ·rcases afY _ _ _ he with he|he
  ·obtain⟨⟨a1,a2,a3,a4,a5⟩,a6⟩:=h.bD e he;exact⟨⟨a1,a2,ab,a4,ab⟩,a6⟩
  ·obtain⟨a1,a2,a3,a4,a5,a6,a7,a8,a9⟩:=hr.sent e he;exact⟨⟨ab,ab,ab,a4,ab⟩,a6,a7,a8,a9⟩
 ·have:=RA r.sent w.bD;have:=h.tW
  show(r.sent.foldl jF w.bD).length<=_
  omega
 ·have:=h.sx
  show(if r.qE then w.aX++[_] else w.aX:List Ob).length<=_
  split
  ·simp;omega
  ·omega
 ·rcases mem_set hf with hf|rfl
  ·have:=h.MP f hf;omega
  ·have:=h.MP _ (cA AJ);simp;omega
 ·rcases mem_set hf with hf|rfl
  ·have:=h.AX f hf;omega
  ·simp;exact ht
 ·have:=RB (r.covered.map fun k=>(r.s.version,k)) w.covered;have:=h.sk;have:=hr.sk;simp only[dy] at*
  show((r.covered.map fun k=>(r.s.version,k)).foldl qJ w.covered).length<=_
  omega
theorem sr.show{ps:List Prog}{eV N:Nat}(hr:sr ps eV (k+1) N cs vD r)(h1:0<=cs.node/\cs.node<N)(hN:N<=12)(h2:0<=cs.handler/\cs.handler<40)(h3:0<=cs.count/\cs.count<=k)(hk:k<=5000)(bN:r.sent.length<=500):XJ N (k+1) cs.node r:=
 ⟨fun a ha=>(hr.asks a ha).afZ ab ab ab,hr.AQ,fun e he=>by
  obtain⟨a1,a2,a3,a4,a5,_⟩:=hr.sent e he
  exact⟨⟨ab,ab,ab,a4,ab⟩,a1⟩,bN,fun a ha=>(hr.asks a ha).2.2.2.2.2.1,hr.MN⟩
theorem XK(hc:gW c)(hk:k<=5000)(h:dX c k j w){n:Nat}{s:Node}(hs:w.nodes[n]? =some s)(ft:s.up=true)(hh:0<=handler/\handler<40)
  (pO:names.length=9) (dF:∀x∈names,bq x=true) (l:List aI):
  ∃w' r,tg w n handler names l=some (w',r)/\dX c (k+1) (j+1) w'/\XJ c.first.length (k+1) n r:=by
 have hlt:=(bG.1 hs).1
 have hn:n<c.first.length:=by rw[<-h.nodes];exact hlt
 have hI:=h.node s (dD hs);have hr:=hI.run ft;have hv:=hI.version;have h12:=hc.AU;have ig:s.version.toNat<c.dA.length:=ab
 have hp:c.dA[s.version.toNat]? =some c.dA[s.version.toNat]:=by simp[ig]
 have tX:=hc.safe _ (cA ig);generalize c.dA[s.version.toNat]=p at hp tX;unfold tg;rw[hs];simp only;rw[af ab,h.cfg,hp];simp only;obtain⟨r,e,a1,a2,a3⟩:=MO hI hp tX ft (handler:=handler.toNat) (self:=n) (nodes:=w.nodes.length) (drift:=c.drift) (names:=names) ab (vE ab) (vE (by rw[h.nodes];omega)) hc.drift pO dF l hk;rw[e];simp only;rw[h.nodes] at a1
 have dp:handler.toNat<s.counts.length:=by rw[hI.nc];omega
 have oI:=hI.counts _ (cA dp)
 have db:s.counts.getD handler.toNat 0=s.counts[handler.toNat]:=by rw[ff,cy dp];rfl
 rw[<-db] at oI;have g1:(0:Int)<=(n:Int)/\(n:Int)<c.first.length:=ab;have g2:(0:Int)<=((handler.toNat:Nat):Int)/\((handler.toNat:Nat):Int)<40:=ab;obtain⟨w',e1,e2,_⟩:=agb h hn a1 g1 g2 oI a2 a3 s.waiting;rw[e1];exact⟨w',r,rfl,e2,a1.show g1 ab g2 oI hk a2⟩
theorem dX.setNode(h:dX c k j w)(n:Nat){s:Node}(hs:js c.dA c.dO.length k s):dX c k j (w.setNode n s):=
 { h with
  nodes:=by show(w.nodes.set n s).length=_;simp[h.nodes]
  node:=fun t ht=>by
   rcases mem_set ht with ht|rfl
   ·exact h.node t ht
   ·exact hs }
theorem dX.more(h:dX c k j w):dX c (k+1) (j+2) w:=
 { h with
  node:=fun s hs=>(h.node s hs).more
  bD:=fun e he=>by
   obtain⟨⟨a1,a2,a3,a4,a5⟩,a6⟩:=h.bD e he;exact⟨⟨a1,a2,ab,a4,ab⟩,a6⟩
  tW:=by have:=h.tW;omega
  sx:=by have:=h.sx;omega
  MP:=fun f hf=>by have:=h.MP f hf;omega
  AX:=fun f hf=>by have:=h.AX f hf;omega
  sk:=by have:=h.sk;omega }
theorem XL{e:Env}(h:e∈mC l m):e∈l:=(mq.1 h).1
theorem XM(l:List Env)(m:bQ):(mC l m).length<=l.length:=nb _ _
theorem XN{n:Int}(h:m∈ib l n):∃e,nH l m=some e/\e∈l/\e.msg=m:=by
 obtain⟨x,hx,hm,_⟩:=afV h
 cases hf:nH l m with
 |none=>
  have:=List.find?_eq_none.1 hf x hx;simp[hm] at this
 |some e=>
  have h1:=List.find?_some hf;exact⟨e,rfl,List.mem_of_find?_eq_some hf,by simpa using h1⟩
theorem MR(hc:gW c)(hk:k<=5000)(h:dX c k j w)(he:e∈enabled w)(l:List aI):
  ∃w' r,wH w e l=some (w',r)/\dX c (k+1) (j+2) w'/\XJ c.first.length (k+1) e.node r:=by
 obtain⟨n,s,hs,FU⟩:=Rx he;have hlt:=(bG.1 hs).1
 have hn:n<c.first.length:=by rw[<-h.nodes];exact hlt
 have hI:=h.node s (dD hs);have h12:=hc.AU;obtain⟨mf,MS⟩:=FU
 have bump:∀{w'},dX c (k+1) (j+1) w'->dX c (k+1) (j+2) w':=fun h=>{ h with sx:=by have:=h.sx;omega }
 unfold wH;rw[mf,af ab];simp only[iZ,hs]
 rcases MS with⟨a,b,d,m⟩|⟨a,b,d,f,g,m⟩|⟨a,b,d⟩|⟨a,b,d,m⟩|⟨a,b,d,f,m⟩
 ·have hv:=Ry hc h hs d;have ig:e.arg.toNat<c.dA.length:=ab
  have hp:c.dA[e.arg.toNat]? =some c.dA[e.arg.toNat]:=by simp[ig]
  have tX:=hc.safe _ (cA ig);generalize c.dA[e.arg.toNat]=p at hp tX;rw[aj a,af ab,h.cfg,hp];simp only;obtain⟨r,e1,a1,a2,a3⟩:=XF hI hv hp tX (self:=n) (nodes:=w.nodes.length) (drift:=c.drift) (vE ab) (vE (by rw[h.nodes];omega)) hc.drift l hk;rw[e1];simp only;rw[h.nodes] at a1
  have dp:0<s.counts.length:=by rw[hI.nc];omega
  have oI:=hI.counts _ (cA dp)
  have db:s.counts.getD 0 0=s.counts[0]:=by rw[ff,cy dp];rfl
  rw[<-db] at oI;have g1:(0:Int)<=(n:Int)/\(n:Int)<c.first.length:=ab;obtain⟨w',e2,e3,_⟩:=agb h hn a1 g1 ai oI a2 a3 (-1);rw[e2];exact⟨w',r,rfl,bump e3,a1.show g1 ab ai oI hk a2⟩
 ·have jP:n<w.next.length:=by rw[h.next];exact hn
  rw[ff,cy jP,Ad] at g;have hx:=h.pd _ (cA jP);rw[<-g] at hx;have fu:e.arg.toNat<c.dO.length:=ab
  have hq:c.dO[e.arg.toNat]? =some c.dO[e.arg.toNat]:=by simp[fu]
  have AY:=hc.req _ (cA fu);generalize c.dO[e.arg.toNat]=q at hq AY;rw[af ab,aj a,af ab,h.cfg,hq];simp only;rw[aj jP];have atd:=hc.eV
  have h1:dX c k (j+1) { w with aX:=w.aX++[(⟨false,e.arg,n,s.eC,0⟩:Ob)],next:=w.next.set n (after c n e.arg) }:=
   { h with
    next:=by show(w.next.set n _).length=_;simp[h.next]
    pd:=fun x hx=>by
     rcases mem_set hx with hx|rfl
     ·exact h.pd x hx
     ·exact Rv _ _ _
    sx:=by have:=h.sx;show(w.aX++[_]).length<=_;simp;exact this }
  have sy:js c.dA c.dO.length k { s with waiting:=e.arg }:={ hI with waiting:=by show -1<=e.arg/\e.arg<_;omega }
  have h2:=h1.setNode n sy
  obtain⟨w',r,e1,e2,e3⟩:=XK hc hk h2 (n:=n) (s:={ s with waiting:=e.arg }) (by show(w.nodes.set n _)[n]? =_;simp[hlt]) b (handler:=1) ab (names:=[0,0,0,0,q.arg,0,e.arg,q.op,q.key]) rfl (fun x hx=>by
   simp only[bZ,kB,lO] at hx
   rcases hx with rfl|rfl|rfl|rfl|rfl|rfl|rfl|rfl|rfl
   any_goals decide
   ·exact AY.2.2
   ·rw[tT];omega
   ·exact AY.1
   ·exact AY.2.1) l
  rw[h.cfg] at e1;exact⟨w',r,e1,e2,e3⟩
 ·obtain⟨x,hf,hx,hm⟩:=XN d;have xj:=h.bD x hx
  have cH:∀e'∈mC w.bD e.msg,Ru c.first.length k e':=fun e' FV=>h.bD e' (XL FV)
  have h1:dX c k j { w with bD:=mC w.bD e.msg }:={ h with bD:=cH,tW:=by have:=XM w.bD e.msg;have:=h.tW;show(mC w.bD e.msg).length<=_;omega }
  have hd:=hI.dropped;have hdb:=hI.dJ
  rcases a with⟨a,hu⟩|a|a
  ·rw[af ab,af ab,aj a,hf];simp only
   obtain⟨w',r,e1,e2,e3⟩:=XK hc hk h1 (n:=n) (s:=s) hs hu (handler:=10+x.kind) (by have:=xj.2.2.1;omega) (names:=[0,0,0,x.msg.node,x.a,x.b,0,0,0]) rfl (fun y hy=>by
    simp only[bZ,kB,lO] at hy
    rcases hy with rfl|rfl|rfl|rfl|rfl|rfl|rfl|rfl|rfl
    any_goals decide
    ·rw[tT];have:=xj.1.1;omega
    ·exact xj.2.2.2.1
    ·exact xj.2.2.2.2) l
   exact⟨w',r,e1,bump e2,e3⟩
  ·rw[af ab,af ab,af ab,af ab,aj a]
   have fD:js c.dA c.dO.length (k+1) { s with dropped:=s.dropped+1 }:={ hI.more with dropped:=by show 0<=s.dropped+1/\s.dropped+1<=_;omega }
   exact⟨_,_,rfl,h1.more.setNode n fD,⟨fun a ha=>by simp[qK] at ha,by simp[qK],fun a ha=>by simp[qK] at ha,by simp[qK],fun a ha=>by simp[qK] at ha,aq⟩⟩
  ·rw[af ab,af ab,af ab,af ab,af ab,aj a]
   have fD:js c.dA c.dO.length (k+1) { s with dJ:=s.dJ+1 }:={ hI.more with dJ:=by show 0<=s.dJ+1/\s.dJ+1<=_;omega }
   have JJ:(∀e'∈qH w.bD e.msg (s.dJ+1),Ru c.first.length (k+1) e')/\(qH w.bD e.msg (s.dJ+1)).length<=w.bD.length+1:=by
    unfold qH;rw[hf];simp only;refine⟨fun e' FV=> ?_,afX _ _⟩
    rcases afW FV with FV|rfl
    ·exact h.more.bD e' FV
    ·obtain⟨⟨a1,a2,a3,a4,a5⟩,a6⟩:=xj;exact⟨⟨a1,a2,by show 0<=x.msg.count/\x.msg.count<=_;omega,a4,by show 0<=s.dJ+1/\s.dJ+1<=_;omega⟩,a6⟩
   have h2:dX c (k+1) (j+2) { w with bD:=qH w.bD e.msg (s.dJ+1) }:={ h.more with bD:=JJ.1,tW:=by have:=JJ.2;have:=h.tW;show(qH w.bD e.msg (s.dJ+1)).length<=_;omega }
   exact⟨_,_,rfl,h2.setNode n fD,⟨fun a ha=>by simp[qK] at ha,by simp[qK],fun a ha=>by simp[qK] at ha,by simp[qK],fun a ha=>by simp[qK] at ha,aq⟩⟩
 ·have ht:=hI.timers _ d;rw[af ab,af ab,af ab,aj a]
  have sy:js c.dA c.dO.length k { s with timers:=s.timers.filter fun t=>decide (t≠e.arg) }:={ hI with timers:=fun t ht=>hI.timers t (mq.1 ht).1,tV:=bh (nb _ _) hI.tV }
  obtain⟨w',r,e1,e2,e3⟩:=XK hc hk (h.setNode n sy) (n:=n) (s:={ s with timers:=s.timers.filter fun t=>decide (t≠e.arg) }) (by show(w.nodes.set n _)[n]? =_;simp[hlt]) b (handler:=2+e.arg) ab (names:=acv) rfl (fun x hx=>by
   rw[EF hx];decide) l
  exact⟨w',r,e1,bump e2,e3⟩
 ·rw[af ab,af ab,af ab,af ab,af ab,af ab];obtain⟨r,e1,a1,a2,a3⟩:=XG hI (n:Int) (c.first.length:Int) l;rw[e1];simp only
  have dp:40<s.counts.length:=by rw[hI.nc];omega
  have oI:=hI.counts _ (cA dp)
  have db:s.counts.getD 40 0=s.counts[40]:=by rw[ff,cy dp];rfl
  rw[<-db] at oI;have h1:=h.more.setNode n a1.s
  have xk:r.sent=[]:=by
   unfold qG at e1;split at e1
   ·cases e1
   ·simp only[bK] at e1;obtain⟨d,_,rfl⟩:=e1;rfl
  obtain⟨t,v,e2,e3⟩:=aga (c:=c) (k:=k+1) (j:=j) (n:=n) (w:=w.setNode n r.s) (by show n<(w.nodes.set n r.s).length;simpa using hlt) (by show n<w.traces.length;rw[h.traces];exact hn) h1.node;rw[e3];have ht:=h.AX t (dD e2);refine⟨_,r,rfl,{ h1 with traces:=by show(w.traces.set n _).length=_;simp[h.traces],AX:=fun f hf=> ?_ },⟨fun a ha=>(a1.asks a ha).afZ (by show 0<=(n:Int)/\(n:Int)<12;omega) ai (by show 0<=s.counts.getD 40 0/\s.counts.getD 40 0<=2147483647;omega),a1.AQ,fun e he=>by rw[xk] at he;simp at he,a2,fun a ha=>(a1.asks a ha).2.2.2.2.2.1,a1.MN⟩⟩
  rcases mem_set hf with hf|rfl
  ·have:=h.AX f hf;omega
  ·simp;exact ht
structure RE (N k:Nat)(s:az):Prop where
 ev:su s.ev
 asks:∀a∈s.asks,xi a/\a.node=s.ev.node
 AQ:s.asks.length<=4
 sent:∀m∈s.sent,XH N k m/\m.node=s.ev.node
 RD:s.sent.length<=500
 lG:∀a∈s.asks,2<=a.arity/\a.arity<=4
theorem Dk(hc:gW c)(hk:k<5000)(h:dX c k j w)(hs:w.steps=k)(he:e∈enabled w)(l:List aI):
  ∃w' s,lU w e l=some (some (w',s))/\dX c (k+1) (j+2) w'/\w'.steps=k+1/\RE c.first.length (k+1) s/\s.ev=e:=by
 obtain⟨n,nd,h1,h2⟩:=Rx he;have aF:=h2.ok hc ab h h1;obtain⟨w',r,e1,e2,e3⟩:=MR hc ab h he l;refine⟨{ w' with steps:=w.steps+1 },⟨e,r.asks,decide (w.aX.length<w'.aX.length),r.sent.map Env.msg⟩,?_,{ e2 with },by simp[hs],⟨aF,e3.asks,e3.AQ,fun m hm=> ?_,by show(r.sent.map Env.msg).length<=500;simpa using e3.RD,e3.lG⟩,rfl⟩
 ·unfold lU;rw[af ab,aj he,e1];rfl
 ·simp only[dh] at hm;obtain⟨x,hx,rfl⟩:=hm;exact e3.sent x hx
def yo.asked:yo->List Int
 | .go o _ _=>o.asked
 | .stop o=>o.asked
theorem ate{cZ:Int}{op n:Int}{pc:Int}{r:yo}(h:jC cZ names answers op n o st pc=some r):o.asked<+:r.asked:=by
 have one:∀r':yo,o.asked<+:r'.asked->some r'=some r->o.asked<+:r.asked:=fun r' h1 h2=>by cases h2;exact h1
 have mp:∀(x:Option Int) (f:Int->yo),(∀v,o.asked<+:(f v).asked)->x.map f=some r->o.asked<+:r.asked:=fun x f h1 h2=>by
  rw[bK] at h2;obtain⟨v,_,rfl⟩:=h2;exact h1 v
 unfold jC at h;by_cases o1:op=1
 ·rw[aj o1] at h;exact one _ (gU _) h
 rw[af o1] at h;by_cases o2:op=2
 ·rw[aj o2] at h
  (repeat' split at h)<;>first|(cases h;done)|exact one _ (gU _) h|exact one _ (uJ _ _) h|exact mp _ _ (fun v=>gU _) h
 rw[af o2] at h;by_cases o4:op=4
 ·rw[aj o4] at h
  (repeat' split at h)<;>first|(cases h;done)|exact one _ (gU _) h|exact one _ (uJ _ _) h|exact mp _ _ (fun v=>gU _) h
 rw[af o4] at h;by_cases o3:op=3
 ·rw[aj o3] at h
  (repeat' split at h)<;>first|(cases h;done)|exact one _ (gU _) h|exact one _ (uJ _ _) h|exact mp _ _ (fun v=>gU _) h
 rw[af o3] at h;by_cases o5:op=5
 ·rw[aj o5] at h
  (repeat' split at h)<;>first|(cases h;done)|exact one _ (gU _) h|exact one _ (uJ _ _) h|exact mp _ _ (fun v=>gU _) h
 rw[af o5] at h;by_cases o6:op=6\/op=7\/op=8\/op=9\/op=11\/op=12\/op=13
 ·rw[aj o6] at h
  (repeat' split at h)<;>first|(cases h;done)|exact one _ (gU _) h|exact one _ (uJ _ _) h|exact mp _ _ (fun v=>gU _) h
 rw[af o6] at h;by_cases o10:op=10
 ·rw[aj o10] at h
  (repeat' split at h)<;>first|(cases h;done)|exact one _ (gU _) h|exact one _ (uJ _ _) h|exact mp _ _ (fun v=>gU _) h
 rw[af o10] at h;by_cases o14:op=14
 ·rw[aj o14] at h
  (repeat' split at h)<;>first|(cases h;done)|exact one _ (gU _) h|exact one _ (uJ _ _) h|exact mp _ _ (fun v=>gU _) h
 rw[af o14] at h;by_cases o15:op=15
 ·rw[aj o15] at h;exact one _ (gU _) h
 rw[af o15] at h;by_cases o16:op=16
 ·rw[aj o16] at h
  (repeat' split at h)<;>first|(cases h;done)|exact one _ (gU _) h|exact one _ (uJ _ _) h|exact mp _ _ (fun v=>gU _) h
 rw[af o16] at h;by_cases o17:op=17
 ·rw[aj o17] at h
  (repeat' split at h)<;>first|(cases h;done)|exact one _ (gU _) h|exact one _ (uJ _ _) h|exact mp _ _ (fun v=>gU _) h
 rw[af o17] at h;by_cases o18:op=18
 ·rw[aj o18] at h;exact one _ (gU _) h
 rw[af o18] at h;by_cases o19:op=19
 ·rw[aj o19] at h;exact one _ (gU _) h
 rw[af o19] at h;by_cases o20:op=20
 ·rw[aj o20] at h;exact one _ (gU _) h
 rw[af o20] at h;by_cases o21:op=21
 ·rw[aj o21] at h
  (repeat' split at h)<;>first|(cases h;done)|exact one _ (gU _) h|exact one _ (uJ _ _) h|exact mp _ _ (fun v=>gU _) h
 rw[af o21] at h;by_cases o22:op=22
 ·rw[aj o22] at h
  (repeat' split at h)<;>first|(cases h;done)|exact one _ (gU _) h|exact one _ (uJ _ _) h|exact mp _ _ (fun v=>gU _) h
 rw[af o22] at h;exact one _ (gU _) h
theorem agc{pc:Int}{r:yo}(h:qD p names answers o st pc=some r):o.asked<+:r.asked:=by
 unfold qD at h;split at h
 ·cases h
 ·split at h
  ·cases h
  ·exact ate (o:={ o with covered:=nk o.covered pc,steps:=o.steps+1 }) h
theorem XO {p:Prog}{names answers:List Int}:∀(f:Nat) (o:eo) (st:List Int) (pc:Int) (o':eo),pj p names answers f o st pc=some o'->o.asked<+:o'.asked
 |0,o,st,pc,o',h=>by
  simp only[pj,aC] at h;subst h;exact gU _
 |f+1,o,st,pc,o',h=>by
  unfold pj at h;split at h
  ·cases h
  ·rename_i o1 hs;simp only[aC] at h;subst h;exact agc hs
  ·rename_i o1 st1 pc1 hs;exact List.IsPrefix.trans (agc hs) (XO f o1 st1 pc1 o' h)
theorem agd{l m:List Int}(h:l<+:m)(hl:l≠[])(hm:m.length<=1):m=l:=
 (h.eq_of_length (by have:=h.length_le;have:0<l.length:=Cf.2 hl;omega)).symm
theorem atf(p:Prog)(names a1 a2:List Int)(o:eo)(st:List Int)(pc:Int):qD p names a1 o st pc=qD p names a2 o st pc\/
  ∃q s1 s2 FQ,qD p names a1 o st pc=some (.go q s1 FQ)/\qD p names a2 o st pc=some (.go q s2 FQ)/\q.asked≠[]:=by
 unfold qD;split
 ·exact .inl rfl
 ·split
  ·exact .inl rfl
  ·rename_i op n _;by_cases h5:op=5
   ·subst h5
    cases st with
    |nil=>exact .inl rfl
    |cons x r=>
     by_cases hx:1<max 1 (min x 4)
     ·right;refine⟨{ o with covered:=nk o.covered pc,steps:=o.steps+1,asked:=o.asked++[max 1 (min x 4)] },sZ a1 o.asked.length (max 1 (min x 4))::r,sZ a2 o.asked.length (max 1 (min x 4))::r,pc+1,?_,?_,?_⟩
      ·show(if 1<max 1 (min x 4) then _ else _)=_
       rw[aj hx]
      ·show(if 1<max 1 (min x 4) then _ else _)=_
       rw[aj hx]
      ·simp
     ·left
      show(if 1<max 1 (min x 4) then _ else _)=(if 1<max 1 (min x 4) then _ else _)
      rw[af hx,af hx]
   ·left;unfold jC;simp only[af h5]
theorem age {p:Prog}{names a1 a2:List Int}:∀(f:Nat) (o:eo) (st:List Int) (pc:Int) (o1 o2:eo),pj p names a1 f o st pc=some o1->pj p names a2 f o st pc=some o2->o1.asked.length<=1->o2.asked.length<=1->o1.asked=o2.asked
 |0,o,st,pc,o1,o2,h1,h2,_,_=>by
  simp only[pj,aC] at h1 h2;rw[<-h1,<-h2]
 |f+1,o,st,pc,o1,o2,h1,h2,g1,g2=>by
  unfold pj at h1 h2
  rcases atf p names a1 a2 o st pc with e|⟨q,s1,s2,FQ,e1,e2,hq⟩
  ·rw[e] at h1;generalize qD p names a2 o st pc=r at h1 h2
   match r with
   |none=>cases h1
   |some (.stop o')=>
    simp only[aC] at h1 h2;rw[<-h1,<-h2]
   |some (.go o' st' FQ)=>exact age f o' st' FQ o1 o2 h1 h2 g1 g2
  ·rw[e1] at h1;rw[e2] at h2;rw[agd (XO _ _ _ _ _ h1) hq g1,agd (XO _ _ _ _ _ h2) hq g2]
theorem agf{handler:Nat}{vars a1 a2:List Int}{o1 o2:eo}(h1:wC p handler vars names a1=some o1)(h2:wC p handler vars names a2=some o2)(g1:o1.asked.length<=1)(g2:o2.asked.length<=1):o1.asked=o2.asked:=by
 unfold wC at h1 h2
 cases he:p.entry[handler]? with
 |none=>rw[he] at h1;cases h1
 |some e=>
  rw[he] at h1 h2;dsimp only at h1 h2;split at h1
  ·rename_i pP;rw[aj pP] at h2;simp only[aC] at h1 h2;rw[<-h1,<-h2]
  ·rename_i pP;rw[af pP] at h2;exact age _ _ _ _ _ _ h1 h2 g1 g2
theorem agh (q:Qn):∀(l:List aI) (m:Int),(∀y∈l,y.q≠q)->l.foldl (fun n a=>if a.q=q then max 0 a.n else n) m=m
 |[],m,_=>rfl
 |a::l,m,h=>by
  rw[yi,af (h a ai)]
  exact agh q l m fun y hy=>h y (by simp[hy])
theorem atg{n:Int}(h:∀y∈l2,y.q≠q):ek (l1++⟨q,n⟩::l2) q=max 0 n:=by
 unfold ek;rw[yg,yi,aj rfl,agh _ _ _ h]
theorem JK{n k:Int}(h:∀y∈l2,y.q≠q)(h0:0<=n)(hk:n<k):fo (l1++⟨q,n⟩::l2) q k=n:=by
 unfold fo;rw[atg h,show max 0 n=n by omega,Int.tmod_eq_of_lt h0 hk]
theorem ath(q:Qn)(k n:Int):(gC q k n).qn=q:=rfl
theorem ati{r':Rr}{a:fm}(h:td r a=some r'):r'.asks=r.asks/\r'.out=r.out:=by
 unfold td at h
 repeat' split at h
 all_goals first
  |(simp only[bK] at h;obtain⟨d,_,rfl⟩:=h;exact⟨rfl,rfl⟩)
  |(simp only[aC] at h;subst h;exact⟨rfl,rfl⟩)
theorem agi:∀{l:List fm} {r r':Rr},tf r l=some r'->r'.asks=r.asks/\r'.out=r.out
 |[],r,r',h=>by
  simp only[tf,aC] at h;subst h;exact⟨rfl,rfl⟩
 |a::l,r,r',h=>by
  unfold tf at h;split at h
  ·cases h
  ·rename_i r1 h1;have g:=ati h1;have g2:=agi h;exact⟨g2.1.trans g.1,g2.2.trans g.2⟩
def qY (_s:Node)(self:Int)(handler:Nat)(k drift:Int)(l:List aI):Int:=if 0<drift then fo l (aT.qn ⟨self,handler,k⟩ 2 0) (drift+1) else 0
theorem agj{s:Node}{handler:Nat}{l:List aI}(h:oh s p handler self nodes drift names l=some r):
  ∃k vars,s.counts[handler]? =some k/\yr s=some vars/\wC p handler vars (wE names self nodes (s.clock+1+qY s self handler k drift l)) (ta l ⟨self,handler,k⟩)=some r.out/\
   r.asks=(if 0<drift then [gC (aT.qn ⟨self,handler,k⟩ 2 0) (drift+1) (qY s self handler k drift l)] else [])++jE l ⟨self,handler,k⟩ 0 r.out.asked:=by
 unfold oh at h;split at h
 ·cases h
 rename_i k hk;dsimp only at h;split at h
 ·cases h
 rename_i vars hv;split at h
 ·cases h
 rename_i o ho;split at h
 ·have g:=agi h;rw[show r.out=o from g.2];exact⟨k,vars,hk,hv,ho,g.1⟩
 ·cases h
theorem atj{s:Node}{handler:Nat}(h0:oh s p handler self nodes drift names l0=some r0)
  {m:Int} (e:r0.asks=pr++a::rest) (hm:0<=m/\m<a.arity) (h1:oh s p handler self nodes drift names (pr.map fE++[⟨a.qn,m⟩])=some r1)
  (g0:r0.out.asked.length<=1) (g1:r1.out.asked.length<=1):∃qZ,r1.asks=pr++{ a with n:=m }::qZ:=by
 obtain⟨k,vars,a1,a2,a3,a4⟩:=agj h0;obtain⟨k',vars',b1,b2,b3,b4⟩:=agj h1;rw[a1] at b1;rw[a2] at b2;cases b1;cases b2;rw[e] at a4
 have dr:∀(l:List aI) (x:List Int),x.length<=1->x=[]\/∃j,x=[j]/\jE l ⟨self,handler,k⟩ 0 x=[gC (aT.qn ⟨self,handler,k⟩ 1 0) j (fo l (aT.qn ⟨self,handler,k⟩ 1 0) j)]:=fun l x hx=>by
  match x,hx with
  |[],_=>exact .inl rfl
  |[j],_=>exact .inr ⟨j,rfl,rfl⟩
 have atk:∀n:Int,(⟨aT.qn ⟨self,handler,k⟩ 1 0,n⟩:aI).q≠aT.qn ⟨self,handler,k⟩ 2 0:=fun n hh=>by
  have:=aG Qn.kind hh;simp[aT.qn] at this
 by_cases hd:0<drift
 ·rw[aj hd] at a4 b4
  cases pr with
  |nil=>
   simp only[List.nil_append,List.cons_append] at a4;injection a4 with c1 c2;subst c1
   have ht:qY s self handler k drift ([].map fE++[⟨aT.qn ⟨self,handler,k⟩ 2 0,m⟩])=m:=by
    unfold qY;rw[aj hd];exact JK (l1:=[]) (l2:=[]) (fun y hy=>by simp at hy) hm.1 hm.2
   rw[ath] at b4;rw[ht] at b4;exact⟨_,by rw[b4];rfl⟩
  |cons t pr=>
   simp only[List.nil_append,List.cons_append] at a4;injection a4 with c1 c2
   rcases dr l0 r0.out.asked g0 with hx|⟨j,hx,hy⟩
   ·rw[hx] at c2;cases pr<;>simp[jE] at c2
   ·rw[hy] at c2
    cases pr with
    |cons t' pr=>cases pr<;>simp at c2
    |nil=>
     simp only[List.nil_append] at c2;injection c2 with c2 c3;subst c1;subst c2;have hb:=FR l0 (aT.qn ⟨self,handler,k⟩ 2 0) (show 0<drift+1 by omega)
     have cM:qY s self handler k drift l0=fo l0 (aT.qn ⟨self,handler,k⟩ 2 0) (drift+1):=by unfold qY;rw[aj hd]
     rw[<-cM] at hb;have XP:List.map fE [gC (aT.qn ⟨self,handler,k⟩ 2 0) (drift+1) (qY s self handler k drift l0)]++[⟨(gC (aT.qn ⟨self,handler,k⟩ 1 0) j (fo l0 (aT.qn ⟨self,handler,k⟩ 1 0) j)).qn,m⟩]=[(⟨aT.qn ⟨self,handler,k⟩ 2 0,qY s self handler k drift l0⟩:aI),⟨aT.qn ⟨self,handler,k⟩ 1 0,m⟩]:=rfl;rw[XP] at b3 b4
     have ht:qY s self handler k drift [(⟨aT.qn ⟨self,handler,k⟩ 2 0,qY s self handler k drift l0⟩:aI),⟨aT.qn ⟨self,handler,k⟩ 1 0,m⟩]=qY s self handler k drift l0:=by
      show(if 0<drift then fo _ _ _ else 0)=_
      rw[aj hd]
      exact JK (l1:=[]) (l2:=[⟨aT.qn ⟨self,handler,k⟩ 1 0,m⟩]) (fun y hy=>by
       simp only[rO] at hy;subst hy
       exact atk m) hb.1 hb.2
     rw[ht] at b3 b4;have hs:=agf b3 a3 g1 g0;rw[hs,hx] at b4
     have hl:fo [(⟨aT.qn ⟨self,handler,k⟩ 2 0,qY s self handler k drift l0⟩:aI),⟨aT.qn ⟨self,handler,k⟩ 1 0,m⟩] (aT.qn ⟨self,handler,k⟩ 1 0) j=m:=
      JK (l1:=[⟨aT.qn ⟨self,handler,k⟩ 2 0,qY s self handler k drift l0⟩]) (l2:=[]) (fun y hy=>by simp at hy) hm.1 hm.2
     refine⟨[],?_⟩;rw[b4]
     show [_]++[gC (aT.qn ⟨self,handler,k⟩ 1 0) j (fo _ (aT.qn ⟨self,handler,k⟩ 1 0) j)]=_
     rw[hl];rfl
 ·rw[af hd,List.nil_append] at a4 b4
  rcases dr l0 r0.out.asked g0 with hx|⟨j,hx,hy⟩
  ·rw[hx] at a4;cases pr<;>simp[jE] at a4
  ·rw[hy] at a4
   cases pr with
   |cons t' pr=>cases pr<;>simp at a4
   |nil=>
    simp only[List.nil_append] at a4;injection a4 with c2 c3;subst c2;have XP:List.map fE []++[⟨(gC (aT.qn ⟨self,handler,k⟩ 1 0) j (fo l0 (aT.qn ⟨self,handler,k⟩ 1 0) j)).qn,m⟩]=[(⟨aT.qn ⟨self,handler,k⟩ 1 0,m⟩:aI)]:=rfl;rw[XP] at b3 b4
    have ht:∀l,qY s self handler k drift l=0:=fun l=>by unfold qY;rw[af hd]
    rw[ht] at a3 b3;have hs:=agf b3 a3 g1 g0;rw[hs,hx] at b4
    have hl:fo [(⟨aT.qn ⟨self,handler,k⟩ 1 0,m⟩:aI)] (aT.qn ⟨self,handler,k⟩ 1 0) j=m:=
     JK (l1:=[]) (l2:=[]) (fun y hy=>by simp at hy) hm.1 hm.2
    refine⟨[],?_⟩;rw[b4]
    show [gC (aT.qn ⟨self,handler,k⟩ 1 0) j (fo _ (aT.qn ⟨self,handler,k⟩ 1 0) j)]=_
    rw[hl];rfl
theorem agk{s:Node}{l:List aI}(h:qG s self l=some r):∃k,s.counts[40]? =some k/\r.asks=lS l ⟨self,40,k⟩ s.aY.pending.length:=by
 unfold qG at h;split at h
 ·cases h
 rename_i k hk;simp only[bK] at h;obtain⟨d,_,rfl⟩:=h;exact⟨k,hk,rfl⟩
theorem RF(l:List aI)(c:aT)(n i:Nat)(h:i<n):(lS l c n)[i]? =some (gC (c.qn 3 i) 2 (fo l (c.qn 3 i) 2)):=by
 unfold lS;simp[h]
theorem atl{s:Node}(h0:qG s self l0=some r0){m:Int}(e:r0.asks=pr++a::rest)(hm:0<=m/\m<a.arity)
  (h1:qG s self (pr.map fE++[⟨a.qn,m⟩])=some r1):∃qZ,r1.asks=pr++{ a with n:=m }::qZ:=by
 obtain⟨k,a1,a2⟩:=agk h0;obtain⟨k',b1,b2⟩:=agk h1;rw[a1] at b1;cases b1;rw[e] at a2;generalize s.aY.pending.length=n at a2 b2
 have hlen:pr.length+(rest.length+1)=n:=by
  have:=aG List.length a2;simpa [lS] using this
 have hp:∀i,i<pr.length->pr[i]? =some (gC (aT.qn ⟨self,40,k⟩ 3 i) 2 (fo l0 (aT.qn ⟨self,40,k⟩ 3 i) 2)):=fun i hi=>by
  rw[<-RF l0 ⟨self,40,k⟩ n i ab,<-a2,lJ hi]
 have ha:a=gC (aT.qn ⟨self,40,k⟩ 3 pr.length) 2 (fo l0 (aT.qn ⟨self,40,k⟩ 3 pr.length) 2):=by
  have:=RF l0 ⟨self,40,k⟩ n pr.length ab;rw[<-a2,jz aA,Nat.sub_self] at this;simpa using this
 have hne:∀(i j:Nat) (x y:Int),i≠j->(⟨aT.qn ⟨self,40,k⟩ 3 j,x⟩:aI).q≠aT.qn ⟨self,40,k⟩ 3 i:=fun i j x y yz hh=>by
  have:=aG Qn.index hh;simp[aT.qn] at this;omega
 have th:∀i,i<pr.length->fo (pr.map fE++[⟨a.qn,m⟩]) (aT.qn ⟨self,40,k⟩ 3 i) 2=fo l0 (aT.qn ⟨self,40,k⟩ 3 i) 2:=fun i hi=>by
  have hx:=hp i hi;have hb:=FR l0 (aT.qn ⟨self,40,k⟩ 3 i) (show(0:Int)<2 by omega)
  have MG:pr.map fE++[⟨a.qn,m⟩]=(pr.take i).map fE++(⟨aT.qn ⟨self,40,k⟩ 3 i,fo l0 (aT.qn ⟨self,40,k⟩ 3 i) 2⟩:aI)::((pr.drop (i+1)).map fE++[⟨a.qn,m⟩]):=by
   have h3:pr=pr.take i++gC (aT.qn ⟨self,40,k⟩ 3 i) 2 (fo l0 (aT.qn ⟨self,40,k⟩ 3 i) 2)::pr.drop (i+1):=by
    obtain⟨hi',qL⟩:=bG.1 hx
    conv=>lhs;rw[<-List.take_append_drop i pr,List.drop_eq_getElem_cons hi',qL]
   conv=>lhs;rw[h3]
   rw[cU,cY,List.append_assoc,List.cons_append];rfl
  rw[MG];refine JK (fun y hy=> ?_) hb.1 hb.2
  rcases fJ.1 hy with hy|hy
  ·rw[dh] at hy;obtain⟨z,hz,rfl⟩:=hy;obtain⟨j,hj,rfl⟩:=EI.1 hz;simp only[nf] at hj;have XQ:=hp (i+1+j) ab;rw[List.getElem_drop];rw[cy ab] at XQ;simp only[aC] at XQ;rw[XQ];exact hne i (i+1+j) _ 0 ab
  ·simp only[rO] at hy;subst hy;rw[ha];exact hne i pr.length m 0 ab
 have atm:fo (pr.map fE++[⟨a.qn,m⟩]) (aT.qn ⟨self,40,k⟩ 3 pr.length) 2=m:=by
  have h2:a.arity=2:=by rw[ha];rfl
  rw[show a.qn=aT.qn ⟨self,40,k⟩ 3 pr.length by rw[ha];rfl];exact JK (fun y hy=>by simp at hy) hm.1 ab
 refine⟨r1.asks.drop (pr.length+1),?_⟩;apply wm;intro i;rw[b2];by_cases hi:i<pr.length
 ·rw[RF _ _ _ _ ab,lJ hi,th i hi,hp i hi]
 ·by_cases Fh:i=pr.length
  ·subst Fh;rw[RF _ _ _ _ ab,jz aA,Nat.sub_self,atm,ha];rfl
  ·rw[jz ab,show i-pr.length=(i-pr.length-1)+1 by omega,Iq,nD];congr 1;omega
theorem agl{n:Nat}{l:List aI}(h:tg w n handler names l=some (w',r)):
  ∃s p,w.nodes[n]? =some s/\w.c.dA[s.version.toNat]? =some p/\oh s p handler.toNat n w.nodes.length w.c.drift names l=some r:=by
 unfold tg at h;split at h
 ·cases h
 rename_i s hs;split at h
 ·cases h
 split at h
 ·cases h
 rename_i p hp;split at h
 ·cases h
 rename_i r' hr;simp only[bK,jb] at h;obtain⟨_,_,_,rfl⟩:=h;exact⟨s,p,hs,hp,hr⟩
theorem XR{n:Nat}(h0:tg w n handler names l0=some (w0,r0))(h1:tg w n handler names l1=some (w1,r1)):
  ∃s p hd self nodes drift nm,oh s p hd self nodes drift nm l0=some r0/\oh s p hd self nodes drift nm l1=some r1:=by
 obtain⟨s,p,a1,a2,a3⟩:=agl h0;obtain⟨s',p',b1,b2,b3⟩:=agl h1;rw[a1] at b1;cases b1;rw[a2] at b2;cases b2;exact⟨_,_,_,_,_,_,_,a3,b3⟩
theorem atn(h0:wH w e l0=some (w0,r0))(h1:wH w e l1=some (w1,r1)):
  r0.asks=[]\/(∃s p hd self nodes drift nm,oh s p hd self nodes drift nm l0=some r0/\oh s p hd self nodes drift nm l1=some r1)\/∃s self,qG s self l0=some r0/\qG s self l1=some r1:=by
 unfold wH at h0 h1;by_cases hn:e.node<0
 ·rw[aj hn] at h0;cases h0
 rw[af hn] at h0 h1
 cases hs:w.nodes[e.node.toNat]? with
 |none=>simp only[hs] at h0;cases h0
 |some s=>
  simp only[hs] at h0 h1;by_cases k1:e.kind=1
  ·rw[aj k1] at h0 h1;by_cases ha:e.arg<0
   ·rw[aj ha] at h0;cases h0
   rw[af ha] at h0 h1
   cases hp:w.c.dA[e.arg.toNat]? with
   |none=>simp only[hp] at h0;cases h0
   |some p=>
    simp only[hp] at h0 h1
    have key:∀{l:List aI} {w':bE} {r:Rr},(match Ap s p e.arg (e.node.toNat) w.nodes.length w.c.drift l with
      |none=>none
      |some r=>(yu w e.node.toNat r (-1)).map fun w=>(w,r))=some (w',r)->Ap s p e.arg (e.node.toNat) w.nodes.length w.c.drift l=some r:=fun {l w' r} h=>by
     split at h
     ·cases h
     rename_i r' hr;simp only[bK,jb] at h;obtain⟨_,_,_,rfl⟩:=h;exact hr
    have e0:=key h0;have e1:=key h1;unfold Ap at e0 e1;by_cases hb:p.cZ<0\/p.jd<0
    ·rw[aj hb] at e0;cases e0
    rw[af hb] at e0 e1;generalize(if(s.aY.cells.length:Int)=p.cZ then some s.aY else uZ s.aY p.cZ.toNat)=od at e0 e1
    cases od with
    |none=>cases e0
    |some d=>exact .inr (.inl ⟨_,_,_,_,_,_,_,e0,e1⟩)
  rw[af k1] at h0 h1;by_cases k2:e.kind=2
  ·rw[aj k2] at h0 h1;by_cases ha:e.arg<0
   ·rw[aj ha] at h0;cases h0
   rw[af ha] at h0 h1
   cases hp:w.c.dO[e.arg.toNat]? with
   |none=>simp only[hp] at h0;cases h0
   |some q=>
    simp only[hp] at h0 h1;split at h0
    ·rename_i hlt;rw[aj hlt] at h1;exact .inr (.inl (XR h0 h1))
    ·cases h0
  rw[af k2] at h0 h1;by_cases k3:e.kind=3
  ·rw[aj k3] at h0 h1
   cases hf:nH w.bD e.msg with
   |none=>simp only[hf] at h0;cases h0
   |some m=>
    simp only[hf] at h0 h1;exact .inr (.inl (XR h0 h1))
  rw[af k3] at h0 h1;by_cases k4:e.kind=4
  ·rw[aj k4] at h0 h1;exact .inr (.inl (XR h0 h1))
  rw[af k4] at h0 h1;by_cases k5:e.kind=5
  ·rw[aj k5] at h0;simp only[aC,jb] at h0;left;rw[<-h0.2];rfl
  rw[af k5] at h0 h1;by_cases k6:e.kind=6
  ·rw[aj k6] at h0;simp only[aC,jb] at h0;left;rw[<-h0.2];rfl
  rw[af k6] at h0 h1;right;right
  have key:∀{l:List aI} {w':bE} {r:Rr},(match qG s (e.node.toNat) l with
    |none=>none
    |some r=>(Cv (w.setNode e.node.toNat r.s) e.node.toNat).map fun w=>(w,r))=some (w',r)->qG s (e.node.toNat) l=some r:=fun {l w' r} h=>by
   split at h
   ·cases h
   rename_i r' hr;simp only[bK,jb] at h;obtain⟨_,_,_,rfl⟩:=h;exact hr
  exact⟨_,_,key h0,key h1⟩
def kh:Nat->List Ask->Nat
 |0,_=>0
 |_+1,[]=>0
 |d+1,a::l=>a.n.toNat*4^d+kh d l
theorem FW:∀(d:Nat) (l:List Ask),(∀a∈l,0<=a.n/\a.n<4)->kh d l<4^d
 |0,l,_=>by simp[kh]
 |d+1,[],_=>by
  simp only[kh];exact Nat.pow_pos ab
 |d+1,a::l,h=>by
  have h1:=h a ai
  have h2:=FW d l fun b hb=>h b (by simp[hb])
  unfold kh;rw[Nat.pow_succ];have h3:a.n.toNat*4^d<=3*4^d:=sW _ ab;generalize 4^d=P at h2 h3⊢;generalize a.n.toNat*P=Q at h3⊢;omega
theorem agm:∀(d:Nat) (pr:List Ask) (a:Ask) (rest qZ:List Ask) (m:Int),pr.length<d->(∀b∈rest,0<=b.n/\b.n<4)->0<=a.n->a.n<m->kh d (pr++a::rest)<kh d (pr++{ a with n:=m }::qZ)
 |0,pr,a,rest,qZ,m,hd,_,_,_=>ab
 |d+1,[],a,rest,qZ,m,hd,hr,h0,hm=>by
  have h2:=FW d rest hr
  show a.n.toNat*4^d+kh d rest<m.toNat*4^d+kh d qZ
  have h3:(a.n.toNat+1)*4^d<=m.toNat*4^d:=sW _ ab;rw[wy] at h3;omega
 |d+1,b::pr,a,rest,qZ,m,hd,hr,h0,hm=>by
  have h:=agm d pr a rest qZ m (by simp only[List.length_cons] at hd;omega) hr h0 hm
  show b.n.toNat*4^d+kh d (pr++a::rest)<b.n.toNat*4^d+kh d (pr++{ a with n:=m }::qZ)
  omega
theorem ato{l:List Ask}{m:List aI}(h:yv l=some m):∃pr a rest,l=pr++a::rest/\a.n+1≠a.arity/\m=pr.map fE++[⟨a.qn,a.n+1⟩]:=by
 unfold yv at h;split at h
 ·cases h
 ·rename_i a r hr;simp only[aC] at h;have hl:=Io (p:=fun a:Ask=>decide (a.n+1=a.arity)) (l:=l.reverse);rw[hr] at hl;have jY:=aG List.reverse hl;rw[List.reverse_reverse,List.reverse_append,uM,List.append_assoc] at jY;have hd:=List.head?_dropWhile_not (fun a:Ask=>decide (a.n+1=a.arity)) l.reverse;rw[hr] at hd;refine⟨r.reverse,a,(l.reverse.takeWhile fun a:Ask=>decide (a.n+1=a.arity)).reverse,jY.symm,by simpa using hd,h.symm⟩
theorem agn{l:List aI}{s:az}(h:lU w e l=some (some (w',s))):∃x,wH w e l=some x/\s.asks=x.2.asks:=by
 unfold lU at h;split at h
 ·cases h
 split at h
 ·simp only[bK,aC,jb] at h;obtain⟨x,hx,_,rfl⟩:=h;exact⟨x,hx,rfl⟩
 ·cases h
def AZ (c:et)(k:Nat)(w:bE)(e:Ev)(s:az):Prop:=RE c.first.length (k+1) s/\s.ev=e/\∃l0 w0,lU w e l0=some (some (w0,s))
theorem AZ.RG{s:az}(h:AZ c k w e s):∀a∈s.asks,0<=a.n/\a.n<4:=fun a ha=>by
 have h1:=(h.1.asks a ha).1;have h2:=h.1.lG a ha;obtain⟨_,g1,g2,_⟩:=h1;omega
theorem XS(hc:gW c)(hk:k<5000)(h:dX c k j w)(he:e∈enabled w){s t:az}(hs:AZ c k w e s){l:List aI}(hl:yv s.asks=some l)(ht:lU w e l=some (some (w1,t))):
  kh 4 s.asks<kh 4 t.asks:=by
 obtain⟨pr,a,rest,e1,e2,rfl⟩:=ato hl;have RH:=hs.RG;obtain⟨hst,aF,l0,w0,h0⟩:=hs;obtain⟨⟨x0,r0⟩,f0,f1⟩:=agn h0;obtain⟨⟨x1,r1⟩,g0,g1⟩:=agn ht;obtain⟨_,_,i0,_,i1⟩:=MR hc ab h he l0;obtain⟨_,_,j0,_,j1⟩:=MR hc ab h he (pr.map fE++[⟨a.qn,a.n+1⟩]);rw[f0] at i0;rw[g0] at j0;simp only[aC,jb] at i0 j0;obtain⟨rfl,rfl⟩:=i0;obtain⟨rfl,rfl⟩:=j0;dsimp only at f1 g1
 have XT:a∈s.asks:=by rw[e1];simp
 have wK:=(hst.asks a XT).1;obtain⟨_,q1,q2,_⟩:=wK
 have IV:r0.asks=pr++a::rest:=by rw[<-f1];exact e1
 have key:∃qZ,r1.asks=pr++{ a with n:=a.n+1 }::qZ:=by
  rcases atn f0 g0 with hx|⟨sn,p,hd,self,nodes,drift,nm,x1,x2⟩|⟨sn,self,x1,x2⟩
  ·rw[hx] at IV;cases pr<;>simp at IV
  ·exact atj x1 IV ⟨ab,ab⟩ x2 i1.MN j1.MN
  ·exact atl x1 IV ⟨ab,ab⟩ x2
 obtain⟨qZ,CJ⟩:=key;have hlen:=hst.AQ;rw[g1,CJ,e1];rw[e1] at hlen;simp only[List.length_append,List.length_cons] at hlen;exact agm 4 pr a rest qZ (a.n+1) ab (fun b hb=>RH b (by rw[e1];simp[hb])) q1 ab
theorem ago {c:et}(hc:gW c){k j:Nat}(hk:k<5000){w:bE}(h:dX c k j w)(hst:w.steps=k){e:Ev}(he:e∈enabled w):∀(f:Nat) (s:az) (out:List az),AZ c k w e s->256<=f+kh 4 s.asks->
  ∃cs,EY w e f out s=some (out++cs)/\cs≠[]/\cs.length+kh 4 s.asks<=256/\∀t∈cs,AZ c k w e t
 |0,s,out,hs,hf=>by
  have:kh 4 s.asks<256:=FW 4 _ hs.RG;omega
 |f+1,s,out,hs,hf=>by
  have hv:kh 4 s.asks<256:=FW 4 _ hs.RG;unfold EY
  cases hn:yv s.asks with
  |none=>exact⟨[s],rfl,ai,by simp;omega,fun t ht=>by simp only[rO] at ht;subst ht;exact hs⟩
  |some l=>
   obtain⟨w1,t,e1,e2,e3,e4,e5⟩:=Dk hc hk h hst he l;have hg:=XS hc hk h he hs hn e1
   have ht:AZ c k w e t:=⟨e4,e5,l,w1,e1⟩
   obtain⟨cs,g1,g2,g3,g4⟩:=ago hc hk h hst he f t (out++[s]) ht ab;dsimp only;rw[e1];dsimp only;rw[g1];refine⟨s::cs,ai,ai,by simp only[List.length_cons];omega,fun x hx=> ?_⟩
   rcases bZ.1 hx with rfl|hx
   ·exact hs
   ·exact g4 x hx
theorem XU(hc:gW c)(hk:k<5000)(h:dX c k j w)(hst:w.steps=k)(he:e∈enabled w):
  ∃cs,EZ 256 w e=some cs/\cs≠[]/\cs.length<=256/\∀t∈cs,AZ c k w e t:=by
 obtain⟨w1,t,e1,e2,e3,e4,e5⟩:=Dk hc hk h hst he [];obtain⟨cs,g1,g2,g3,g4⟩:=ago hc hk h hst he 256 t [] ⟨e4,e5,[],w1,e1⟩ ab;unfold EZ;rw[e1];exact⟨cs,by simpa using g1,g2,ab,g4⟩
theorem agp {c:et}(hc:gW c):∀(l:List Int) (k j:Nat) (w:bE) (run:List az),dX c k j w->w.steps=k->k+l.length<=5000->
  ∃run' w',yw 256 l w run=some (run++run',w')/\run'.length<=l.length/\∀s∈run',∃k',k'<=5000/\RE c.first.length k' s
 |[],k,j,w,run,h,hst,hl=>⟨[],w,by simp[yw],ai,fun s hs=>by simp at hs⟩
 |x::l,k,j,w,run,h,hst,hl=>by
  simp only[List.length_cons] at hl;unfold yw;dsimp only
  cases hx:(enabled w)[around x 1000000%(enabled w).length]? with
  |none=>exact⟨[],w,ai,ai,fun s hs=>by simp at hs⟩
  |some e=>
   have he:=dD hx;obtain⟨cs,g1,g2,g3,g4⟩:=XU hc ab h hst he;dsimp only;rw[g1];dsimp only;have Cn:0<cs.length:=Cf.2 g2;have hlt:around x 1000000/50%cs.length<cs.length:=oZ _ Cn;rw[cy hlt];have hs:=g4 _ (cA hlt);generalize cs[around x 1000000/50%cs.length]=s at hs;obtain⟨sy,aF,_⟩:=hs;dsimp only;obtain⟨w1,t,e1,e2,e3,_,_⟩:=Dk hc ab h hst he (Ar s);rw[aF,e1];dsimp only;obtain⟨run',w',q1,q2,q3⟩:=agp hc l (k+1) (j+2) w1 (run++[s]) e2 e3 ab;refine⟨s::run',w',by rw[q1];simp,by simp;omega,fun y hy=> ?_⟩
   rcases bZ.1 hy with rfl|hy
   ·exact⟨k+1,ab,sy⟩
   ·exact q3 y hy
theorem atp(hc:gW c)(l:List Int):∃run w,walk 256 c l=some (run,w)/\run.length<=min l.length 30/\∀s∈run,∃k',k'<=5000/\RE c.first.length k' s:=by
 obtain⟨run',w',h1,h2,h3⟩:=agp hc (l.take 30) 0 0 (mD c) [] (XI hc) rfl bC;exact⟨run',w',by unfold walk;simpa using h1,by simpa [Nat.min_comm] using h2,h3⟩
theorem MT{p:Prop}[Decidable p](o:List Ev)(e:Ev):(if p then bJ o e else o).length<=o.length+1:=by
 split
 ·exact MQ _ _
 ·omega
theorem RI(w:bE)(n:Nat)(s:Node)(out:List Ev)(m:bQ):(fV w n s out m).length<=out.length+3:=by
 unfold fV;dsimp only;have h1:=MT (p:=s.up=true) out ⟨3,n,0,m⟩;generalize(if s.up=true then bJ out ⟨3,n,0,m⟩ else out)=o1 at h1⊢;have h2:=MT (p:=s.dropped<w.c.pq) o1 ⟨5,n,0,m⟩;generalize(if s.dropped<w.c.pq then bJ o1 ⟨5,n,0,m⟩ else o1)=o2 at h2⊢;have h3:=MT (p:=s.dJ<w.c.rW) o2 ⟨6,n,0,m⟩;omega
def vF (w:bE)(n:Nat)(s:Node)(out:List Ev):List Ev:=if s.up then out else(lq w n s).foldl (fun o v=>bJ o ⟨1,n,v,lT⟩) out
def xl (w:bE)(n:Nat)(s:Node)(out:List Ev):List Ev:=(ib w.bD n).foldl (fV w n s) out
def oJ (w:bE)(n:Nat)(s:Node)(out:List Ev):List Ev:=if s.up/\s.waiting<0/\0<=w.next.getD n 0 then bJ out ⟨2,n,w.next.getD n 0,lT⟩ else out
def Ba (n:Nat)(s:Node)(out:List Ev):List Ev:=if s.up then s.timers.foldl (fun o t=>bJ o ⟨4,n,t,lT⟩) out else out
def zg (w:bE)(n:Nat)(s:Node)(out:List Ev):List Ev:=if s.up/\s.counts.getD 40 0<w.c.wF then bJ out ⟨7,n,0,lT⟩ else out
theorem agq(w:bE)(out:List Ev)(n:Nat)(s:Node):Aq w out n s=zg w n s (Ba n s (oJ w n s (xl w n s (vF w n s out)))):=rfl
theorem JL{α:Type}(f:α->Ev)(l:List α)(out:List Ev):(l.foldl (fun o v=>bJ o (f v)) out).length<=out.length+l.length:=by
 have:=JI (f:=fun o v=>bJ o (f v)) (m:=1) (fun o x=>MQ o (f x)) l out;omega
theorem atq(w:bE)(n:Nat)(s:Node)(out:List Ev):(vF w n s out).length<=out.length+(lq w n s).length:=by
 unfold vF;split
 ·omega
 ·exact JL (fun v=>⟨1,n,v,lT⟩) _ _
theorem atr(w:bE)(n:Nat)(s:Node)(out:List Ev):(xl w n s out).length<=out.length+3*w.bD.length:=by
 unfold xl;have h1:=JI (f:=fV w n s) (m:=3) (fun o x=>RI w n s o x) (ib w.bD n) out
 have h2:(ib w.bD n).length<=w.bD.length:=by unfold ib;rw[dy];exact nb _ _
 omega
theorem agr(w:bE)(n:Nat)(s:Node)(out:List Ev):(oJ w n s out).length<=out.length+1:=by
 unfold oJ;exact MT _ _
theorem att(n:Nat)(s:Node)(out:List Ev):(Ba n s out).length<=out.length+s.timers.length:=by
 unfold Ba;split
 ·exact JL (fun v=>⟨4,n,v,lT⟩) _ _
 ·omega
theorem atu(w:bE)(n:Nat)(s:Node)(out:List Ev):(zg w n s out).length<=out.length+1:=by
 unfold zg;exact MT _ _
theorem ags(hc:gW c)(h:w.c=c)(n:Nat)(s:Node):(lq w n s).length<=64:=by
 have:=hc.asX;unfold lq;rw[h];split
 ·simp
 ·split
  ·simp
  ·exact this
theorem atv(hc:gW c)(h:w.c=c)(out:List Ev)(n:Nat)(s:Node)(ht:s.timers.length<=8):(Aq w out n s).length<=out.length+3*w.bD.length+74:=by
 rw[agq];have h1:=atq w n s out;have h2:=atr w n s (vF w n s out);have h3:=agr w n s (xl w n s (vF w n s out));have h4:=att n s (oJ w n s (xl w n s (vF w n s out)));have h5:=atu w n s (Ba n s (oJ w n s (xl w n s (vF w n s out))));have hv:=ags hc h n s;omega
theorem agt (w:bE):∀(l:List Node) (n k:Nat) (out:List Ev) (hk:k<l.length),qI w n out (l.take (k+1))=Aq w (qI w n out (l.take k)) (n+k) l[k]
 |s::l,n,0,out,hk=>by simp[qI]
 |s::l,n,k+1,out,hk=>by
  have:=agt w l (n+1) k (Aq w out n s) (by simpa using hk);simp only[List.take_succ_cons,qI,List.getElem_cons_succ];rw[this,show n+1+k=n+(k+1) by omega]
theorem XV {c:et}(hc:gW c){w:bE}(h:w.c=c):∀(l:List Node) (n:Nat) (out:List Ev),(∀s∈l,s.timers.length<=8)->(qI w n out l).length<=out.length+l.length*(3*w.bD.length+74)
 |[],n,out,_=>by simp[qI]
 |s::l,n,out,ht=>by
  have h1:=XV hc h l (n+1) (Aq w out n s) (fun x hx=>ht x (by simp[hx]));have h2:=atv hc h out n s (ht s ai);simp only[qI,List.length_cons,wy];omega
theorem MU{α β:Type}(f:β->α->β)(l:List α)(b:β)(k:Nat)(hk:k<l.length):(l.take (k+1)).foldl f b=f ((l.take k).foldl f b) l[k]:=by
 rw[List.take_succ_eq_append_getElem hk,yg];rfl
theorem Yl {α:Type}{p:α->Bool}:∀{a b:List α},(∀x∈a,p x=true)->(a++b).dropWhile p=b.dropWhile p
 |[],b,_=>rfl
 |x::a,b,h=>by
  rw[List.cons_append,List.dropWhile_cons_of_pos (h x ai)]
  exact Yl fun y hy=>h y (by simp[hy])
theorem agS{l:List Ask}(h:∀a∈l,a.n+1=a.arity):yv l=none:=by
 unfold yv;have:=Yl (p:=fun a:Ask=>decide (a.n+1=a.arity)) (a:=l.reverse) (b:=[]) (fun x hx=>fh (h x (by simpa using hx)));rw[uO] at this;rw[this];rfl
theorem agT{l:List Ask}(hk:k<l.length)(h:l[k].n+1≠l[k].arity)(ha:∀j (hj:j<l.length),k<j->l[j].n+1=l[j].arity):
  yv l=some ((l.take k).map fE++[⟨l[k].qn,l[k].n+1⟩]):=by
 have hl:l=l.take k++l[k]::l.drop (k+1):=by
  conv=>lhs;rw[<-List.take_append_drop k l,List.drop_eq_getElem_cons hk]
 have hr:l.reverse=(l.drop (k+1)).reverse++(l[k]::(l.take k).reverse):=by
  conv=>lhs;rw[hl]
  simp
 have hd:l.reverse.dropWhile (fun a:Ask=>decide (a.n+1=a.arity))=l[k]::(l.take k).reverse:=by
  rw[hr,Yl (fun x hx=> ?_),List.dropWhile_cons_of_neg (by simpa using h)];rw[List.mem_reverse] at hx;obtain⟨j,hj,rfl⟩:=EI.1 hx;simp only[nf] at hj;rw[List.getElem_drop];exact fh (ha _ ab ab)
 unfold yv;rw[hd];simp only[List.reverse_reverse];rfl
theorem agU(hk:k<12):∃p,build (sources.getD k [])=some p/\pN p=true:=by
 have h:=asI;rw[fg] at h;have hl:sources.length=12:=iY
 have hm:sources.getD k []∈sources:=by
  rw[ff,cy ab,Ad];exact cA _
 have h1:=h _ hm;split at h1
 ·rename_i p hp;exact⟨p,hp,h1⟩
 ·cases h1
theorem Ym(l:List Int):∃c,config l=some c/\gW c:=by
 unfold config;dsimp only;obtain⟨p,hp,kP⟩:=agU (k:=pick l 0 1000000%12) (oZ _ aq);rw[hp];dsimp only
 have key:∃ps,(if pick l 1 1000000%3=0 then(build (sources.getD (pick l 1 1000000/3%12) [])).map fun q=>[p,q] else some [p])=some ps/\1<=ps.length/\ps.length<=2/\∀q∈ps,pN q=true:=by
  split
  ·obtain⟨q,hq,wS⟩:=agU (k:=pick l 1 1000000/3%12) (oZ _ aq);rw[hq]
   exact⟨[p,q],rfl,ai,ai,fun x hx=>by
    simp only[bZ,kB,lO] at hx
    rcases hx with rfl|rfl
    ·exact kP
    ·exact wS⟩
  ·exact⟨[p],rfl,ai,ai,fun x hx=>by
    simp only[rO] at hx;subst hx
    exact kP⟩
 obtain⟨ps,e,h1,h2,h3⟩:=key;rw[e];dsimp only;generalize pick l 2 1000000=k2;generalize pick l 4 1000000=k4;generalize pick l 5 1000000=k5
 have hm:∀a:Nat,(0:Int)<=((a%ps.length:Nat):Int)/\((a%ps.length:Nat):Int)<ps.length:=fun a=>by
  have:=oZ a (show 0<ps.length by omega);omega
 refine⟨_,rfl,⟨⟨h1,by show ps.length<=64;omega⟩,h3,?_,fun v hv=> ?_,fun v hv=> ?_,?_,?_,fun r hr=> ?_,?_,?_,?_,?_⟩⟩
 ·show 1<=((List.range _).map _).length/\((List.range _).map _).length<=12
  simp only[dy,Aa];omega
 ·simp only[dh] at hv;obtain⟨n,_,rfl⟩:=hv;exact hm _
 ·dsimp only at hv;split at hv
  ·simp only[bZ,kB,lO] at hv
   rcases hv with rfl|rfl
   ·exact hm _
   ·show(0:Int)<=0/\(0:Int)<ps.length
    omega
  ·simp at hv
 ·show(if _ then _ else _:List Int).length<=64
  split<;>simp
 ·show((List.range _).map _).length<=300
  simp only[dy,Aa];omega
 ·simp only[dh,fK] at hr;obtain⟨i,hi,rfl⟩:=hr;refine⟨?_,?_,?_⟩
  ·have h8:∀j:Fin 8,bq ([0,1,2,3,4,0,1,3].getD j.val 0)=true:=aq;exact h8 ⟨pick l (6+i) 1000000/3%8,oZ _ aq⟩
  ·show bq ((1+pick l (6+i) 1000000/24%5/4:Nat):Int)=true
   rw[tT];omega
  ·show bq ((1+i:Nat):Int)=true
   rw[tT];omega
 ·show(0:Int)<=((k4%3/2:Nat):Int)/\((k4%3/2:Nat):Int)<=10
  omega
 ·show(0:Int)<=((k4/3%4/3:Nat):Int)/\((k4/3%4/3:Nat):Int)<=10
  omega
 ·show(0:Int)<=((k4/12%4/3:Nat):Int)/\((k4/12%4/3:Nat):Int)<=10
  omega
 ·show(0:Int)<=((k4/48%5/4:Nat):Int)/\((k4/48%5/4:Nat):Int)<=3
  omega
end aD
namespace Ab
open Go Go.RowKit
attribute [local irreducible] aL bm aU
open aD (et pk Ob om bE Env aT vf bJ qJ wG)
theorem agu (c:et)(node i:Int)(hi: -1<=i/\i<=1000000)(hl:c.dO.length<=1000000):bu Tryz.prog 84 [.agg (zb c),.c (iA node),.c (iA i)] (fun x=>x=.w (.c (iA (aD.after c node i)))):=by
 obtain⟨k0,bj⟩:∃k0:Nat,i+1=k0:=⟨(i+1).toNat,ab⟩
 have d1:bt .add (.int .i64 i) (.int .i64 1)=some (.int .i64 (k0:Int)):=by rw[oC ab ab,bj]
 have hst:vf node k0 (c.dO.drop k0)=aD.after c node i:=by unfold aD.after;rw[bj];rfl
 refine cD Tryz.func84 aN [] [.t 6] [3,6,7] [3] ?_;have FF:=@d1
 try refine aJ ?_
 refine dB (fun n V S=>∃k:Nat,k<=3000000/\(k<=1000001\/k<=c.dO.length)/\n=c.dO.length-k/\vf node k (c.dO.drop k)=aD.after c node i/\
  V=[(0,.w (.agg (zb c))),(1,.w (.c (iA node))),(2,.w (.c (iA i))),(3,.pb 3 1 0),(6,.w (.c (iA 0))),(7,.w (.c (iA k)))]/\S=[(3,.box 1 (zb c))]) (n:=c.dO.length-k0) ⟨k0,ab,ab,rfl,hst,rfl,rfl⟩ ?_
 rintro n V L S ⟨k,hk,nJ,rfl,vG,rfl,rfl⟩;by_cases hlt:k<c.dO.length
 ·have cL:k<=1000000000:=ab
  obtain⟨x,hx⟩:∃x,c.dO[k]=x:=⟨_,rfl⟩
  rw[List.drop_eq_getElem_cons hlt,hx] at vG;unfold vf at vG;by_cases he:x.node=node
  ·rw[aj he] at vG;have FF:=na @hlt @hx @he
   try refine aJ ?_
   refine zE ?_;exact(by rw[<-vG];rfl)
  ·rw[af he] at vG;have FF:=fT @hlt @hx @he (bT cL)
   try refine aJ ?_
   exact⟨c.dO.length-(k+1),ab,k+1,ab,ab,rfl,vG,rfl,rfl⟩
 ·rw[EH ab] at vG;have FF:=@hlt
  try refine aJ ?_
  refine zE ?_;exact(by rw[<-vG];rfl)
theorem agv {a m:Ev}(h:a≠m):¬(a.kind=m.kind/\a.node=m.node/\a.arg=m.arg/\a.msg.node=m.msg.node/\a.msg.handler=m.msg.handler/\a.msg.count=m.msg.count/\a.msg.index=m.msg.index/\a.msg.copy=m.msg.copy):=fun⟨h1,h2,h3,h4,h5,h6,h7,h8⟩=>h (by
 obtain⟨a1,a2,a3,⟨b1,b2,b3,b4,b5⟩⟩:=a;obtain⟨c1,c2,c3,⟨d1,d2,d3,d4,d5⟩⟩:=m
 simp_all)
theorem XW (a b:Ev):bu Tryz.prog 119 [.agg (kR a),.agg (kR b)] (fun x=>x=.w (.c (iA (aK a.ints b.ints)))):=arJ _ _ _ _ _ _ _ _ _ _ _ _ _ _ _ _
theorem pQ (l:List Ev)(e:Ev)(hl:l.length<=1000000):bu Tryz.prog 85 [.c (evs l),.agg (kR e)] (fun x=>x=.w (.c (evs (bJ l e)))):=by
 have yR:l.length+1<=100000000:=ab;refine cD Tryz.func85 (aO [6]) [tz 2 10,tz 4 10] [.t 4] [3,4,5,6] [3,6] ?_;have FF:=trivial
 try refine aJ ?_
 refine dB (fun n V S=>∃k:Nat,k<=l.length/\n=l.length-k/\(∀j (hj:j<l.length),j<k->decide (aK l[j].ints e.ints<0)=true)/\
  V=[(0,.w (.c (evs l))),(1,.w (.agg (kR e))),(3,.pb 3 1 0),(4,.w (.c (.sl []))),(5,.w (.c (iA k))),(6,.u)]/\S=[(3,.box 1 (kR e)),(6,.dead 0)]) (n:=l.length) ⟨0,ab,ab,fun j _ h=>ab,rfl,rfl⟩ ?_
 rintro n V L S ⟨k,hk,rfl,hj,rfl,rfl⟩
 have done:∀(h2:∀h:k<l.length,decide (aK l[k].ints e.ints<0)=false),bJ l e=if(l.drop k).head? =some e then l else l.take k++e::l.drop k:=fun h2=>by
  obtain⟨g1,g2⟩:=LL (p:=fun x:Ev=>decide (aK x.ints e.ints<0)) hk hj h2;unfold bJ;rw[g1,g2]
 by_cases hlt:k<l.length
 ·have cL:k<=1000000000:=ab
  obtain⟨x,hx⟩:∃x,l[k]=x:=⟨_,rfl⟩
  by_cases he:aK x.ints e.ints<0
  ·have FF:=fT @hlt @hx @he (bT cL);refine bU (XW x e) ?_
   exact⟨l.length-(k+1),ab,k+1,ab,ab,fun j dV iC=>by
    by_cases gV:j=k
    ·subst gV;rw[hx];exact fh he
    ·exact hj j dV ab,rfl,rfl⟩
  ·have hd:=done (fun _=>by rw[hx];exact ja he);rw[List.drop_eq_getElem_cons hlt,hx] at hd;by_cases mL:x=e
   ·rw[aj (by rw[mL];rfl)] at hd;subst mL;have FF:=na @hlt @hx @he;refine bU (XW x x) ?_;refine zE ?_;exact(by rw[hd];rfl)
   ·rw[af (by simpa using mL)] at hd;have hne:=agv mL;have FF:=jT @hlt @hx @he @hne (Ah hlt);refine Wu (XW x e) ?_;refine zE ?_;exact(by rw[hd,<-hx,<-List.drop_eq_getElem_cons hlt];simp[List.map_take,List.map_drop];try rfl)
 ·have hd:=done (fun h=>absurd h hlt);rw[af (by rw[EH ab];simp)] at hd;have FF:=lI @hlt @hk
  try refine AK ?_
  refine zE ?_;exact(by rw[hd];simp[List.map_take,List.map_drop];try rfl)
theorem atw (l:List (Int×Int))(e:Int×Int)(hl:l.length<=1000000):bu Tryz.prog 165 [.c (eU l),.agg (Ro e)] (fun x=>x=.w (.c (eU (qJ l e)))):=by
 have yR:l.length+1<=100000000:=ab;refine cD Tryz.func165 (aO [6]) [tz 2 30,tz 4 10] [.t 4] [3,4,5,6] [3,6] ?_;have FF:=trivial
 try refine aJ ?_
 refine dB (fun n V S=>∃k:Nat,k<=l.length/\n=l.length-k/\(∀j (hj:j<l.length),j<k->wG l[j] e=true)/\
  V=[(0,.w (.c (eU l))),(1,.w (.agg (Ro e))),(3,.pb 3 1 0),(4,.w (.c (.sl []))),(5,.w (.c (iA k))),(6,.u)]/\S=[(3,.box 1 (Ro e)),(6,.dead 0)]) (n:=l.length) ⟨0,ab,ab,fun j _ h=>ab,rfl,rfl⟩ ?_
 rintro n V L S ⟨k,hk,rfl,hj,rfl,rfl⟩
 have done:∀(h2:∀h:k<l.length,wG l[k] e=false),qJ l e=if(l.drop k).head? =some e then l else l.take k++e::l.drop k:=fun h2=>by
  obtain⟨g1,g2⟩:=LL (p:=fun x:Int×Int=>wG x e) hk hj h2;unfold qJ;rw[g1,g2]
 by_cases hlt:k<l.length
 ·have cL:k<=1000000000:=ab
  obtain⟨x,hx⟩:∃x,l[k]=x:=⟨_,rfl⟩
  have next:wG x e=true->∀j (hj:j<l.length),j<k+1->wG l[j] e=true:=fun he j dV iC=>by
   by_cases gV:j=k
   ·subst gV;rw[hx];exact he
   ·exact hj j dV ab
  by_cases h1:x.1<e.1
  ·have he:=next (fh (.inl h1));have FF:=fT @hlt @hx @h1 (bT cL)
   try refine aJ ?_
   exact⟨l.length-(k+1),ab,k+1,ab,ab,he,rfl,rfl⟩
  ·by_cases h2:x.1=e.1
   ·by_cases h3:x.2<e.2
    ·have he:=next (fh (.inr ⟨h2,h3⟩));have FF:=gA @hlt @hx @h1 @h2 @h3 (bT cL)
     try refine aJ ?_
     exact⟨l.length-(k+1),ab,k+1,ab,ab,he,rfl,rfl⟩
    ·have hd:=done (fun _=>by rw[hx];exact ja (by rintro(h|h);exact h1 h;exact h3 h.2));rw[List.drop_eq_getElem_cons hlt,hx] at hd;by_cases h4:x.2=e.2
     ·have mL:x=e:=Prod.ext h2 h4;rw[aj (by rw[mL];rfl)] at hd;have FF:=gA @hlt @hx @h1 @h2 @h3 @h4
      try refine aJ ?_
      refine zE ?_;exact(by rw[hd];rfl)
     ·rw[af (by intro hh;simp only[List.head?_cons,aC] at hh;exact h4 (by rw[hh]))] at hd;have FF:=kz @hlt @hx @h1 @h2 @h3 @h4 (Ah hlt)
      try refine AK ?_
      refine zE ?_;exact(by rw[hd,<-hx,<-List.drop_eq_getElem_cons hlt];simp[List.map_take,List.map_drop];try rfl)
   ·have hd:=done (fun _=>by rw[hx];exact ja (by rintro(h|h);exact h1 h;exact h2 h.1));rw[List.drop_eq_getElem_cons hlt,hx] at hd;rw[af (by intro hh;simp only[List.head?_cons,aC] at hh;exact h2 (by rw[hh]))] at hd;have FF:=jT @hlt @hx @h1 @h2 (Ah hlt)
    try refine AK ?_
    refine zE ?_;exact(by rw[hd,<-hx,<-List.drop_eq_getElem_cons hlt];simp[List.map_take,List.map_drop];try rfl)
 ·have hd:=done (fun h=>absurd h hlt);rw[af (by rw[EH ab];simp)] at hd;have FF:=lI @hlt @hk
  try refine AK ?_
  refine zE ?_;exact(by rw[hd];simp[List.map_take,List.map_drop];try rfl)
end Ab
end Go.Proofs.YtngblilamkkikaaGreatDoor
