import Derived.Test.YtkanpepkdcmpmaaGreatDoorW8
import Derived.Test.YtkanpepkdcmpmaaGreatDoorW26
set_option maxHeartbeats 40000000
set_option maxRecDepth 100000
set_option linter.all false
namespace Go.Proofs.YtkanpepkdcmpmaaGreatDoor
section
open Go.RowKit
def sV (e:Ev):Prop:=
 0<=e.node/\e.node<=11/\
 (((e.kind=1\/e.kind=2\/e.kind=4)/\(0<=e.arg/\e.arg<=2147483647)/\e.msg=⟨0,0,0,0,0⟩)\/
  ((e.kind=3\/e.kind=5\/e.kind=6)/\e.arg=0/\((0<=e.msg.node/\e.msg.node<12)/\(0<=e.msg.handler/\e.msg.handler<40)/\0<=e.msg.count/\e.msg.count<=2147483647)/\(0<=e.msg.index/\e.msg.index<=2147483647)/\0<=e.msg.copy/\e.msg.copy<=2147483647)\/
  (e.kind=7/\e.arg=0/\e.msg=⟨0,0,0,0,0⟩))
def CY (q:Qn):Prop:=(1<=q.kind/\q.kind<=3)/\((0<=q.node/\q.node<12)/\(0<=q.handler/\q.handler<41)/\0<=q.count/\q.count<=2147483647)/\0<=q.index/\q.index<=2147483647
def Ask.qn (a:Ask):Qn:=⟨a.node,a.handler,a.count,a.kind,a.index⟩
def zo (a:Ask):Prop:=CY a.qn/\0<=a.n/\a.n<a.arity/\a.arity<=2147483647
def gP (a:Ask):aL:=⟨a.qn,a.n⟩
end
namespace aD
open mQ
variable {a:Ask} {answers names st:List Int} {c:eX} {cs:aU} {drift handler nodes self xn:Int} {e:Ev} {j k:Nat} {l:List Env} {l0 l1 l2:List aL} {m:bR} {o:eW} {out:List Ev} {p:Prog} {pr rest:List Ask} {q:Qn} {r r0 r1:Rr} {w w' w0 w1:bL} {x:Env}
structure iZ (c:eX):Prop where
 azf:1<=c.dU.length/\c.dU.length<=64
 safe:∀p∈c.dU,rp p=true
 CZ:1<=c.first.length/\c.first.length<=12
 first:∀v∈c.first,0<=v/\v<c.dU.length
 qG:∀v∈c.qG,0<=v/\v<c.dU.length
 azg:c.qG.length<=64
 fM:c.eu.length<=300
 req:∀r∈c.eu,bD r.op=true/\bD r.key=true/\bD r.arg=true
 ym:0<=c.ym/\c.ym<=10
 qH:0<=c.qH/\c.qH<=10
 tI:0<=c.tI/\c.tI<=10
 drift:0<=c.drift/\c.drift<=3
def aaX (N k:Nat)(m:bR):Prop:=(0<=m.node/\m.node<N)/\(0<=m.handler/\m.handler<40)/\(0<=m.count/\m.count<=k)/\(0<=m.index/\m.index<=500)/\0<=m.copy/\m.copy<=k
def Uo (N k:Nat)(e:Env):Prop:=aaX N k e.msg/\(0<=e.kW/\e.kW<N)/\(0<=e.kind/\e.kind<=29)/\bD e.a=true/\bD e.b=true
structure eO (c:eX)(k j:Nat)(w:bL):Prop where
 cfg:w.c=c
 nodes:w.nodes.length=c.first.length
 next:w.next.length=c.first.length
 bH:w.bH.length=c.first.length
 traces:w.traces.length=c.first.length
 node:∀s∈w.nodes,ko c.dU c.eu.length k s
 bI:∀e∈w.bI,Uo c.first.length k e
 vY:w.bI.length<=501*k
 qB:∀x∈w.next,-1<=x/\x<c.eu.length
 uo:w.aK.length<=j
 Pz:∀f∈w.bH,f.length<=500*k
 Da:∀t∈w.traces,t.length<=k
 tV:w.covered.length<=500*k
theorem Up(c:eX)(node i:Int): -1<=after c node i/\after c node i<c.eu.length:=by
 have key:∀(l:List qF) (k:Nat),-1<=wY node k l/\wY node k l<(k+l.length:Nat)\/wY node k l= -1:=by
  intro l
  induction l with
  |nil=>intro k;exact .inr rfl
  |cons r l ih=>
   intro k;unfold wY;split
   ·exact .inl ⟨ab,by simp;omega⟩
   ·rcases ih (k+1) with h|h
    ·exact .inl ⟨h.1,by simp;omega⟩
    ·exact .inr h
 unfold after
 rcases key (c.eu.drop (i+1).toNat) (i+1).toNat with h|h
 ·refine⟨h.1,?_⟩;have h2:=h.2;by_cases hl:(i+1).toNat<=c.eu.length
  ·simp only[ml] at h2;omega
  ·rw[Gn ab] at h2⊢;simp only[wY];omega
 ·rw[h];omega
theorem aaY(h:iZ c):eO c 0 0 (nJ c):=
 ⟨rfl,by simp[nJ],by simp[nJ],by simp[nJ],by simp[nJ],fun s hs=>by
   simp only[nJ,dp] at hs;obtain⟨_,_,rfl⟩:=hs
   exact atV _ _ _,fun e he=>by simp[nJ] at he,by simp[nJ],fun x hx=>by
   simp only[nJ,dp] at hx;obtain⟨n,_,rfl⟩:=hx
   exact Up _ _ _,by simp[nJ],fun f hf=>by
   simp only[nJ,dp] at hf;obtain⟨_,_,rfl⟩:=hf
   simp,fun f hf=>by
   simp only[nJ,dp] at hf;obtain⟨_,_,rfl⟩:=hf
   simp,by simp[nJ]⟩
theorem Jq{l:List Ev}{x:Ev}(h:e∈bV l x):e∈l\/e=x:=by
 unfold bV at h;split at h
 ·exact .inl h
 ·rcases fU.1 h with h|h
  ·exact .inl ((List.takeWhile_sublist _).mem h)
  ·rcases cA.1 h with h|h
   ·exact .inr h
   ·exact .inl ((List.dropWhile_sublist _).mem h)
theorem PA(l:List Ev)(x:Ev):(bV l x).length<=l.length+1:=by
 unfold bV;split
 ·omega
 ·have:=aF List.length (Kd (p:=fun y=>decide (aM y.ints x.ints<0)) (l:=l));rw[List.length_append] at this;rw[List.length_append,List.length_cons];omega
def sW (w:bL)(n:Nat)(s:Node)(e:Ev):Prop:=e.node=n/\(
 (e.kind=1/\s.up=false/\e.arg∈mr w n s/\e.msg=mV)\/
 (e.kind=2/\s.up=true/\s.waiting<0/\0<=e.arg/\e.arg=w.next.getD n 0/\e.msg=mV)\/
 ((e.kind=3/\s.up=true\/e.kind=5\/e.kind=6)/\e.arg=0/\e.msg∈jd w.bI n)\/
 (e.kind=4/\s.up=true/\e.arg∈s.timers/\e.msg=mV)\/
 (e.kind=7/\s.up=true/\s.counts.getD 40 0<w.c.ym/\e.arg=0/\e.msg=mV))
theorem Uq {α:Type}{Q:Ev->Prop}{f:List Ev->α->List Ev}:∀(l:List α) (out:List Ev),(∀o,∀x∈l,∀e∈f o x,e∈o\/Q e)->∀e∈l.foldl f out,e∈out\/Q e
 |[],out,_,e,he=> .inl he
 |x::l,out,h,e,he=>by
  rcases Uq l (f out x) (fun o y hy=>h o y (by simp[hy])) e he with h1|h1
  ·exact h out x ai e h1
  ·exact .inr h1
theorem Mk {α:Type}{f:List Ev->α->List Ev}{m:Nat}(h:∀o x,(f o x).length<=o.length+m):∀(l:List α) (out:List Ev),(l.foldl f out).length<=out.length+m*l.length
 |[],out=>ai
 |x::l,out=>by
  have h1:=Mk h l (f out x);have h2:=h out x;simp only[zP,List.length_cons,Nat.mul_add];omega
theorem azh{n:Nat}{s:Node}(hm:m∈jd w.bI n)(h:e∈ig w n s out m):e∈out\/sW w n s e:=by
 unfold ig at h
 have k1:∀e∈(if s.up then bV out ⟨3,n,0,m⟩ else out),e∈out\/sW w n s e:=by
  intro e he;split at he
  ·rename_i hu
   rcases Jq he with h|rfl
   ·exact .inl h
   ·exact .inr ⟨rfl,.inr (.inr (.inl ⟨.inl ⟨rfl,hu⟩,rfl,hm⟩))⟩
  ·exact .inl he
 revert h;generalize(if s.up then bV out ⟨3,n,0,m⟩ else out)=o1 at k1;intro h
 have k2:∀e∈(if s.dropped<w.c.qH then bV o1 ⟨5,n,0,m⟩ else o1),e∈out\/sW w n s e:=by
  intro e he;split at he
  ·rcases Jq he with h|rfl
   ·exact k1 e h
   ·exact .inr ⟨rfl,.inr (.inr (.inl ⟨.inr (.inl rfl),rfl,hm⟩))⟩
  ·exact k1 e he
 revert h;simp only;generalize(if s.dropped<w.c.qH then bV o1 ⟨5,n,0,m⟩ else o1)=o2 at k2;intro h;split at h
 ·rcases Jq h with h|rfl
  ·exact k2 e h
  ·exact .inr ⟨rfl,.inr (.inr (.inl ⟨.inr (.inr rfl),rfl,hm⟩))⟩
 ·exact k2 e h
theorem azi{n:Nat}{s:Node}(h:e∈Ce w out n s):e∈out\/sW w n s e:=by
 unfold Ce at h
 have k1:∀e∈(if s.up then out else(mr w n s).foldl (fun o v=>bV o ⟨1,n,v,mV⟩) out),e∈out\/sW w n s e:=by
  intro e he;split at he
  ·exact .inl he
  ·rename_i hu;refine Uq _ _ (fun o v hv e he=> ?_) e he
   rcases Jq he with h|rfl
   ·exact .inl h
   ·exact .inr ⟨rfl,.inl ⟨rfl,by simpa using hu,hv,rfl⟩⟩
 revert h;generalize(if s.up then out else(mr w n s).foldl (fun o v=>bV o ⟨1,n,v,mV⟩) out)=o1 at k1;simp only
 have k2:∀e∈(jd w.bI n).foldl (ig w n s) o1,e∈out\/sW w n s e:=by
  intro e he
  rcases Uq (Q:=sW w n s) _ _ (fun o m hm e he=>azh hm he) e he with h|h
  ·exact k1 e h
  ·exact .inr h
 generalize(jd w.bI n).foldl (ig w n s) o1=o2 at k2
 have k3:∀e∈(if s.up/\s.waiting<0/\0<=w.next.getD n 0 then bV o2 ⟨2,n,w.next.getD n 0,mV⟩ else o2),e∈out\/sW w n s e:=by
  intro e he;split at he
  ·rename_i hc
   rcases Jq he with h|rfl
   ·exact k2 e h
   ·exact .inr ⟨rfl,.inr (.inl ⟨rfl,hc.1,hc.2.1,hc.2.2,rfl,rfl⟩)⟩
  ·exact k2 e he
 generalize(if s.up/\s.waiting<0/\0<=w.next.getD n 0 then bV o2 ⟨2,n,w.next.getD n 0,mV⟩ else o2)=o3 at k3
 have k4:∀e∈(if s.up then s.timers.foldl (fun o t=>bV o ⟨4,n,t,mV⟩) o3 else o3),e∈out\/sW w n s e:=by
  intro e he;split at he
  ·rename_i hu
   rcases Uq (Q:=sW w n s) _ _ (fun o t ht e he=>by
    rcases Jq he with h|rfl
    ·exact .inl h
    ·exact .inr ⟨rfl,.inr (.inr (.inr (.inl ⟨rfl,hu,ht,rfl⟩)))⟩) e he with h|h
   ·exact k3 e h
   ·exact .inr h
  ·exact k3 e he
 generalize(if s.up then s.timers.foldl (fun o t=>bV o ⟨4,n,t,mV⟩) o3 else o3)=o4 at k4;intro h;split at h
 ·rename_i hc
  rcases Jq h with h|rfl
  ·exact k4 e h
  ·exact .inr ⟨rfl,.inr (.inr (.inr (.inr ⟨rfl,hc.1,hc.2,rfl,rfl⟩)))⟩
 ·exact k4 e h
theorem ajR {w:bL}:∀(l:List Node) (n:Nat) (out:List Ev) (e:Ev),e∈sy w n out l->e∈out\/∃i s,l[i]? =some s/\sW w (n+i) s e
 |[],n,out,e,h=> .inl h
 |s::l,n,out,e,h=>by
  rcases ajR l (n+1) _ e h with h1|⟨i,s',h1,h2⟩
  ·rcases azi h1 with h2|h2
   ·exact .inl h2
   ·exact .inr ⟨0,s,rfl,h2⟩
  ·exact .inr ⟨i+1,s',by simpa using h1,by rw[show n+(i+1)=n+1+i by omega];exact h2⟩
theorem Ur(h:e∈enabled w):∃n s,w.nodes[n]? =some s/\sW w n s e:=by
 rcases ajR _ _ _ _ h with h|⟨i,s,h1,h2⟩
 ·simp at h
 ·exact⟨i,s,h1,by simpa using h2⟩
theorem ajS{n:Int}(h:m∈jd l n):∃e∈l,e.msg=m/\e.kW=n:=by
 unfold jd at h;rw[dp] at h;obtain⟨e,he,rfl⟩:=h;obtain⟨h1,h2⟩:=nD.1 he;exact⟨e,h1,rfl,by simpa using h2⟩
theorem Us(hc:iZ c)(h:eO c k j w){n:Nat}{s:Node}(hs:w.nodes[n]? =some s){v:Int}(hv:v∈mr w n s):0<=v/\v<c.dU.length:=by
 have hn:n<c.first.length:=by rw[<-h.nodes];exact(bN.1 hs).1
 have hI:=h.node s (eI hs);unfold mr at hv;rw[h.cfg] at hv;split at hv
 ·simp only[oK] at hv;rw[hv,fC,cz hn];exact hc.first _ (bW hn)
 ·rename_i h0;split at hv
  ·simp only[oK] at hv;have:=hI.version;omega
  ·exact hc.qG v hv
theorem sW.ok(hc:iZ c)(hk:k<=5000)(h:eO c k j w){n:Nat}{s:Node}(hs:w.nodes[n]? =some s)(he:sW w n s e):sV e:=by
 have hn:n<c.first.length:=by rw[<-h.nodes];exact(bN.1 hs).1
 have hI:=h.node s (eI hs);have h12:=hc.CZ;have h64:=hc.azf;obtain⟨TW,he⟩:=he;refine⟨ab,ab,?_⟩
 rcases he with⟨a,b,d,m⟩|⟨a,b,d,f,g,m⟩|⟨a,b,d⟩|⟨a,b,d,m⟩|⟨a,b,d,f,m⟩
 ·have:=Us hc h hs d;exact .inl ⟨.inl a,ab,m⟩
 ·refine .inl ⟨.inr (.inl a),⟨f,?_⟩,m⟩
  have hlt:n<w.next.length:=by rw[h.next];exact hn
  have:=h.qB _ (bW hlt);rw[fC,cz hlt] at g;have h3:=hc.fM;simp only[BQ] at g;omega
 ·obtain⟨x,hx,hm,ht⟩:=ajS d;have hE:=(h.bI x hx).1;rw[hm] at hE;obtain⟨h1,h2,h3,h4,h5⟩:=hE;refine .inr (.inl ⟨ab,b,⟨ab,ab,ab,ab⟩,ab,ab⟩)
 ·have:=hI.timers _ d;exact .inl ⟨.inr (.inr a),ab,m⟩
 ·exact .inr (.inr ⟨a,f,m⟩)
theorem azj{e:Env}(h:e∈wW l x):e∈l\/e=x:=by
 unfold wW at h
 rcases fU.1 h with h|h
 ·exact .inl ((List.takeWhile_sublist _).mem h)
 ·rcases cA.1 h with h|h
  ·exact .inr h
  ·exact .inl ((List.dropWhile_sublist _).mem h)
theorem azk(l:List Env)(x:Env):(wW l x).length=l.length+1:=by
 unfold wW;have:=aF List.length (Kd (p:=fun y:Env=>decide (aM y.msg.ints x.msg.ints<0)) (l:=l));rw[List.length_append] at this;rw[List.length_append,List.length_cons];omega
theorem ajT{e:Env}(h:e∈kH l x):e∈l\/e=x:=by
 unfold kH at h;split at h
 ·simp at h
 ·exact azj h
theorem ajU(l:List Env)(x:Env):(kH l x).length<=l.length+1:=by
 unfold kH;split
 ·simp
 ·rw[azk];omega
theorem ajV:∀(m l:List Env) (e:Env),e∈m.foldl kH l->e∈l\/e∈m
 |[],l,e,h=> .inl h
 |x::m,l,e,h=>by
  rcases ajV m _ e h with h|h
  ·rcases ajT h with h|rfl
   ·exact .inl h
   ·exact .inr ai
  ·exact .inr (by simp[h])
theorem Ut:∀(m l:List Env),(m.foldl kH l).length<=l.length+m.length
 |[],l=>ai
 |x::m,l=>by
  have:=Ut m (kH l x);have:=ajU l x;simp only[zP,List.length_cons];omega
theorem azl(l:List (Int×Int))(x:Int×Int):(sB l x).length<=l.length+1:=by
 unfold sB;split
 ·omega
 ·have:=aF List.length (Kd (p:=fun y=>yn y x) (l:=l));rw[List.length_append] at this;rw[List.length_append,List.length_cons];omega
theorem Uu:∀(m l:List (Int×Int)),(m.foldl sB l).length<=l.length+m.length
 |[],l=>ai
 |x::m,l=>by
  have:=Uu m (sB l x);have:=azl l x;simp only[zP,List.length_cons];omega
theorem mem_set{α:Type}{l:List α}{n:Nat}{x y:α}(h:y∈l.set n x):y∈l\/y=x:=BJ h
theorem xD{n:Nat}(h:n<=2147483647):bD (n:Int)=true:=by rw[vF];omega
structure aaZ (N k:Nat)(node:Int)(r:Rr):Prop where
 asks:∀a∈r.asks,zo a/\a.node=node
 Cx:r.asks.length<=4
 sent:∀e∈r.sent,aaX N k e.msg/\e.msg.node=node
 Uv:r.sent.length<=500
 mI:∀a∈r.asks,2<=a.arity/\a.arity<=4
 OG:r.out.asked.length<=1
theorem OE.ajW{c:aU}(h:OE c a)(h1:0<=c.node/\c.node<12)(h2:0<=c.handler/\c.handler<41)(h3:0<=c.count/\c.count<=2147483647):zo a/\a.node=c.node:=by
 obtain⟨a1,a2,a3,a4,a5,a6,a7,a8⟩:=h;refine⟨⟨⟨a4,⟨?_,?_,?_⟩,?_⟩,a7,a8,ab⟩,a1⟩
 ·show 0<=a.node/\a.node<12;omega
 ·show 0<=a.handler/\a.handler<41;omega
 ·show 0<=a.count/\a.count<=2147483647;omega
 ·show 0<=a.index/\a.index<=2147483647;omega
theorem ajX{j:Nat}{n:Nat}(hn:n<w.nodes.length)(AJ:n<w.traces.length)(hs:∀s∈w.nodes,ko c.dU c.eu.length k s):
  ∃t v,w.traces[n]? =some t/\Eb w n=some { w with traces:=w.traces.set n (t++[v]) }:=by
 have h1:w.nodes[n]? =some w.nodes[n]:=by simp[hn]
 have h2:w.traces[n]? =some w.traces[n]:=by simp[AJ]
 obtain⟨v,hv,_⟩:=Tc (hs _ (bW hn));exact⟨_,v,h2,by unfold Eb;rw[h1,h2];simp only[hv];rfl⟩
theorem ajY(h:eO c k j w){n:Nat}(hn:n<c.first.length)(hr:tX c.dU c.eu.length (k+1) c.first.length cs xn r)
  (h1:0<=cs.node/\cs.node<c.first.length) (h2:0<=cs.handler/\cs.handler<40) (h3:0<=cs.count/\cs.count<=k) (bF:r.sent.length<=500) (cS:r.bH.length<=500) (waiting:Int):
  ∃w',Aa w n r waiting=some w'/\eO c (k+1) (j+1) w'/\w'.c=w.c/\w'.nodes.length=w.nodes.length:=by
 have Cu:n<w.bH.length:=by rw[h.bH];exact hn
 have kI:n<w.nodes.length:=by rw[h.nodes];exact hn
 have AJ:n<w.traces.length:=by rw[h.traces];exact hn
 unfold Aa;rw[aj kI,cz Cu];simp only
 have nj:∀s∈w.nodes.set n r.s,ko c.dU c.eu.length (k+1) s:=by
  intro s hs
  rcases mem_set hs with hs|rfl
  ·exact(h.node s hs).more
  ·exact hr.s
 obtain⟨t,v,e1,e2⟩:=ajX (c:=c) (k:=k+1) (j:=j) (n:=n) (w:={ w with
    nodes:=w.nodes.set n r.s
    bI:=r.sent.foldl kH w.bI
    aK:=if r.sq then w.aK++[⟨true,waiting,n,r.s.fo,r.value⟩] else w.aK
    bH:=w.bH.set n (w.bH[n]++r.bH.map fun k=>⟨r.gJ,k⟩)
    covered:=(r.covered.map fun k=>(r.s.version,k)).foldl sB w.covered }) (by simpa using kI) AJ nj
 rw[e2];have ht:=h.Da t (eI e1);refine⟨_,rfl,⟨h.cfg,by simp[h.nodes],h.next,by simp[h.bH],by simp[h.traces],nj,fun e he=> ?_,?_,h.qB,?_,fun f hf=> ?_,fun f hf=> ?_,?_⟩,rfl,ai⟩
 ·rcases ajV _ _ _ he with he|he
  ·obtain⟨⟨a1,a2,a3,a4,a5⟩,a6⟩:=h.bI e he;exact⟨⟨a1,a2,ab,a4,ab⟩,a6⟩
  ·obtain⟨a1,a2,a3,a4,a5,a6,a7,a8,a9⟩:=hr.sent e he;exact⟨⟨ab,ab,ab,a4,ab⟩,a6,a7,a8,a9⟩
 ·have:=Ut r.sent w.bI;have:=h.vY
  show(r.sent.foldl kH w.bI).length<=_
  omega
 ·have:=h.uo
  show(if r.sq then w.aK++[_] else w.aK:List Ob).length<=_
  split
  ·simp;omega
  ·omega
 ·rcases mem_set hf with hf|rfl
  ·have:=h.Pz f hf;omega
  ·have:=h.Pz _ (bW Cu);simp;omega
 ·rcases mem_set hf with hf|rfl
  ·have:=h.Da f hf;omega
  ·simp;exact ht
 ·have:=Uu (r.covered.map fun k=>(r.s.version,k)) w.covered;have:=h.tV;have:=hr.tV;simp only[dI] at*
  show((r.covered.map fun k=>(r.s.version,k)).foldl sB w.covered).length<=_
  omega
theorem tX.show{ps:List Prog}{fM N:Nat}(hr:tX ps fM (k+1) N cs xn r)(h1:0<=cs.node/\cs.node<N)(hN:N<=12)(h2:0<=cs.handler/\cs.handler<40)(h3:0<=cs.count/\cs.count<=k)(hk:k<=5000)(bF:r.sent.length<=500):aaZ N (k+1) cs.node r:=
 ⟨fun a ha=>(hr.asks a ha).ajW ab ab ab,hr.Cx,fun e he=>by
  obtain⟨a1,a2,a3,a4,a5,_⟩:=hr.sent e he
  exact⟨⟨ab,ab,ab,a4,ab⟩,a1⟩,bF,fun a ha=>(hr.asks a ha).2.2.2.2.2.1,hr.OG⟩
theorem aba(hc:iZ c)(hk:k<=5000)(h:eO c k j w){n:Nat}{s:Node}(hs:w.nodes[n]? =some s)(gC:s.up=true)(hh:0<=handler/\handler<40)
  (rq:names.length=9) (dZ:∀x∈names,bD x=true) (l:List aL):
  ∃w' r,uT w n handler names l=some (w',r)/\eO c (k+1) (j+1) w'/\aaZ c.first.length (k+1) n r:=by
 have hlt:=(bN.1 hs).1
 have hn:n<c.first.length:=by rw[<-h.nodes];exact hlt
 have hI:=h.node s (eI hs);have hr:=hI.run gC;have hv:=hI.version;have h12:=hc.CZ;have je:s.version.toNat<c.dU.length:=ab
 have hp:c.dU[s.version.toNat]? =some c.dU[s.version.toNat]:=by simp[je]
 have vZ:=hc.safe _ (bW je);generalize c.dU[s.version.toNat]=p at hp vZ;unfold uT;rw[hs];simp only;rw[af ab,h.cfg,hp];simp only;obtain⟨r,e,a1,a2,a3⟩:=OH hI hp vZ gC (handler:=handler.toNat) (self:=n) (nodes:=w.nodes.length) (drift:=c.drift) (names:=names) ab (xD ab) (xD (by rw[h.nodes];omega)) hc.drift rq dZ l hk;rw[e];simp only;rw[h.nodes] at a1
 have dE:handler.toNat<s.counts.length:=by rw[hI.nc];omega
 have ox:=hI.counts _ (bW dE)
 have dw:s.counts.getD handler.toNat 0=s.counts[handler.toNat]:=by rw[fC,cz dE];rfl
 rw[<-dw] at ox;have g1:(0:Int)<=(n:Int)/\(n:Int)<c.first.length:=ab;have g2:(0:Int)<=((handler.toNat:Nat):Int)/\((handler.toNat:Nat):Int)<40:=ab;obtain⟨w',e1,e2,_⟩:=ajY h hn a1 g1 g2 ox a2 a3 s.waiting;rw[e1];exact⟨w',r,rfl,e2,a1.show g1 ab g2 ox hk a2⟩
theorem eO.setNode(h:eO c k j w)(n:Nat){s:Node}(hs:ko c.dU c.eu.length k s):eO c k j (w.setNode n s):=
 { h with
  nodes:=by show(w.nodes.set n s).length=_;simp[h.nodes]
  node:=fun t ht=>by
   rcases mem_set ht with ht|rfl
   ·exact h.node t ht
   ·exact hs }
theorem eO.more(h:eO c k j w):eO c (k+1) (j+2) w:=
 { h with
  node:=fun s hs=>(h.node s hs).more
  bI:=fun e he=>by
   obtain⟨⟨a1,a2,a3,a4,a5⟩,a6⟩:=h.bI e he;exact⟨⟨a1,a2,ab,a4,ab⟩,a6⟩
  vY:=by have:=h.vY;omega
  uo:=by have:=h.uo;omega
  Pz:=fun f hf=>by have:=h.Pz f hf;omega
  Da:=fun f hf=>by have:=h.Da f hf;omega
  tV:=by have:=h.tV;omega }
theorem abb{e:Env}(h:e∈nI l m):e∈l:=(nD.1 h).1
theorem abc(l:List Env)(m:bR):(nI l m).length<=l.length:=oc _ _
theorem abd{n:Int}(h:m∈jd l n):∃e,oQ l m=some e/\e∈l/\e.msg=m:=by
 obtain⟨x,hx,hm,_⟩:=ajS h
 cases hf:oQ l m with
 |none=>
  have:=List.find?_eq_none.1 hf x hx;simp[hm] at this
 |some e=>
  have h1:=List.find?_some hf;exact⟨e,rfl,List.mem_of_find?_eq_some hf,by simpa using h1⟩
theorem PB(hc:iZ c)(hk:k<=5000)(h:eO c k j w)(he:e∈enabled w)(l:List aL):
  ∃w' r,yo w e l=some (w',r)/\eO c (k+1) (j+2) w'/\aaZ c.first.length (k+1) e.node r:=by
 obtain⟨n,s,hs,Ja⟩:=Ur he;have hlt:=(bN.1 hs).1
 have hn:n<c.first.length:=by rw[<-h.nodes];exact hlt
 have hI:=h.node s (eI hs);have h12:=hc.CZ;obtain⟨nj,OI⟩:=Ja
 have bump:∀{w'},eO c (k+1) (j+1) w'->eO c (k+1) (j+2) w':=fun h=>{ h with uo:=by have:=h.uo;omega }
 unfold yo;rw[nj,af ab];simp only[gF,hs]
 rcases OI with⟨a,b,d,m⟩|⟨a,b,d,f,g,m⟩|⟨a,b,d⟩|⟨a,b,d,m⟩|⟨a,b,d,f,m⟩
 ·have hv:=Us hc h hs d;have je:e.arg.toNat<c.dU.length:=ab
  have hp:c.dU[e.arg.toNat]? =some c.dU[e.arg.toNat]:=by simp[je]
  have vZ:=hc.safe _ (bW je);generalize c.dU[e.arg.toNat]=p at hp vZ;rw[aj a,af ab,h.cfg,hp];simp only;obtain⟨r,e1,a1,a2,a3⟩:=YT hI hv hp vZ (self:=n) (nodes:=w.nodes.length) (drift:=c.drift) (xD ab) (xD (by rw[h.nodes];omega)) hc.drift l hk;rw[e1];simp only;rw[h.nodes] at a1
  have dE:0<s.counts.length:=by rw[hI.nc];omega
  have ox:=hI.counts _ (bW dE)
  have dw:s.counts.getD 0 0=s.counts[0]:=by rw[fC,cz dE];rfl
  rw[<-dw] at ox;have g1:(0:Int)<=(n:Int)/\(n:Int)<c.first.length:=ab;obtain⟨w',e2,e3,_⟩:=ajY h hn a1 g1 ai ox a2 a3 (-1);rw[e2];exact⟨w',r,rfl,bump e3,a1.show g1 ab ai ox hk a2⟩
 ·have jF:n<w.next.length:=by rw[h.next];exact hn
  rw[fC,cz jF,BQ] at g;have hx:=h.qB _ (bW jF);rw[<-g] at hx;have fO:e.arg.toNat<c.eu.length:=ab
  have hq:c.eu[e.arg.toNat]? =some c.eu[e.arg.toNat]:=by simp[fO]
  have Db:=hc.req _ (bW fO);generalize c.eu[e.arg.toNat]=q at hq Db;rw[af ab,aj a,af ab,h.cfg,hq];simp only;rw[aj jF];have azm:=hc.fM
  have h1:eO c k (j+1) { w with aK:=w.aK++[(⟨false,e.arg,n,s.fo,0⟩:Ob)],next:=w.next.set n (after c n e.arg) }:=
   { h with
    next:=by show(w.next.set n _).length=_;simp[h.next]
    qB:=fun x hx=>by
     rcases mem_set hx with hx|rfl
     ·exact h.qB x hx
     ·exact Up _ _ _
    uo:=by have:=h.uo;show(w.aK++[_]).length<=_;simp;exact this }
  have pY:ko c.dU c.eu.length k { s with waiting:=e.arg }:={ hI with waiting:=by show -1<=e.arg/\e.arg<_;omega }
  have h2:=h1.setNode n pY
  obtain⟨w',r,e1,e2,e3⟩:=aba hc hk h2 (n:=n) (s:={ s with waiting:=e.arg }) (by show(w.nodes.set n _)[n]? =_;simp[hlt]) b (handler:=1) ab (names:=[0,0,0,0,q.arg,0,e.arg,q.op,q.key]) rfl (fun x hx=>by
   simp only[cA,jL,kV] at hx
   rcases hx with rfl|rfl|rfl|rfl|rfl|rfl|rfl|rfl|rfl
   any_goals decide
   ·exact Db.2.2
   ·rw[vF];omega
   ·exact Db.1
   ·exact Db.2.1) l
  rw[h.cfg] at e1;exact⟨w',r,e1,e2,e3⟩
 ·obtain⟨x,hf,hx,hm⟩:=abd d;have zp:=h.bI x hx
  have cS:∀e'∈nI w.bI e.msg,Uo c.first.length k e':=fun e' Jr=>h.bI e' (abb Jr)
  have h1:eO c k j { w with bI:=nI w.bI e.msg }:={ h with bI:=cS,vY:=by have:=abc w.bI e.msg;have:=h.vY;show(nI w.bI e.msg).length<=_;omega }
  have hd:=hI.dropped;have hdb:=hI.ed
  rcases a with⟨a,hu⟩|a|a
  ·rw[af ab,af ab,aj a,hf];simp only
   obtain⟨w',r,e1,e2,e3⟩:=aba hc hk h1 (n:=n) (s:=s) hs hu (handler:=10+x.kind) (by have:=zp.2.2.1;omega) (names:=[0,0,0,x.msg.node,x.a,x.b,0,0,0]) rfl (fun y hy=>by
    simp only[cA,jL,kV] at hy
    rcases hy with rfl|rfl|rfl|rfl|rfl|rfl|rfl|rfl|rfl
    any_goals decide
    ·rw[vF];have:=zp.1.1;omega
    ·exact zp.2.2.2.1
    ·exact zp.2.2.2.2) l
   exact⟨w',r,e1,bump e2,e3⟩
  ·rw[af ab,af ab,af ab,af ab,aj a]
   have iY:ko c.dU c.eu.length (k+1) { s with dropped:=s.dropped+1 }:={ hI.more with dropped:=by show 0<=s.dropped+1/\s.dropped+1<=_;omega }
   exact⟨_,_,rfl,h1.more.setNode n iY,⟨fun a ha=>by simp[sC] at ha,by simp[sC],fun a ha=>by simp[sC] at ha,by simp[sC],fun a ha=>by simp[sC] at ha,au⟩⟩
  ·rw[af ab,af ab,af ab,af ab,af ab,aj a]
   have iY:ko c.dU c.eu.length (k+1) { s with ed:=s.ed+1 }:={ hI.more with ed:=by show 0<=s.ed+1/\s.ed+1<=_;omega }
   have Ml:(∀e'∈sx w.bI e.msg (s.ed+1),Uo c.first.length (k+1) e')/\(sx w.bI e.msg (s.ed+1)).length<=w.bI.length+1:=by
    unfold sx;rw[hf];simp only;refine⟨fun e' Jr=> ?_,ajU _ _⟩
    rcases ajT Jr with Jr|rfl
    ·exact h.more.bI e' Jr
    ·obtain⟨⟨a1,a2,a3,a4,a5⟩,a6⟩:=zp;exact⟨⟨a1,a2,by show 0<=x.msg.count/\x.msg.count<=_;omega,a4,by show 0<=s.ed+1/\s.ed+1<=_;omega⟩,a6⟩
   have h2:eO c (k+1) (j+2) { w with bI:=sx w.bI e.msg (s.ed+1) }:={ h.more with bI:=Ml.1,vY:=by have:=Ml.2;have:=h.vY;show(sx w.bI e.msg (s.ed+1)).length<=_;omega }
   exact⟨_,_,rfl,h2.setNode n iY,⟨fun a ha=>by simp[sC] at ha,by simp[sC],fun a ha=>by simp[sC] at ha,by simp[sC],fun a ha=>by simp[sC] at ha,au⟩⟩
 ·have ht:=hI.timers _ d;rw[af ab,af ab,af ab,aj a]
  have pY:ko c.dU c.eu.length k { s with timers:=s.timers.filter fun t=>decide (t≠e.arg) }:={ hI with timers:=fun t ht=>hI.timers t (nD.1 ht).1,vH:=bm (oc _ _) hI.vH }
  obtain⟨w',r,e1,e2,e3⟩:=aba hc hk (h.setNode n pY) (n:=n) (s:={ s with timers:=s.timers.filter fun t=>decide (t≠e.arg) }) (by show(w.nodes.set n _)[n]? =_;simp[hlt]) b (handler:=2+e.arg) ab (names:=aeh) rfl (fun x hx=>by
   rw[Gk hx];decide) l
  exact⟨w',r,e1,bump e2,e3⟩
 ·rw[af ab,af ab,af ab,af ab,af ab,af ab];obtain⟨r,e1,a1,a2,a3⟩:=YU hI (n:Int) (c.first.length:Int) l;rw[e1];simp only
  have dE:40<s.counts.length:=by rw[hI.nc];omega
  have ox:=hI.counts _ (bW dE)
  have dw:s.counts.getD 40 0=s.counts[40]:=by rw[fC,cz dE];rfl
  rw[<-dw] at ox;have h1:=h.more.setNode n a1.s
  have vP:r.sent=[]:=by
   unfold su at e1;split at e1
   ·cases e1
   ·simp only[bU] at e1;obtain⟨d,_,rfl⟩:=e1;rfl
  obtain⟨t,v,e2,e3⟩:=ajX (c:=c) (k:=k+1) (j:=j) (n:=n) (w:=w.setNode n r.s) (by show n<(w.nodes.set n r.s).length;simpa using hlt) (by show n<w.traces.length;rw[h.traces];exact hn) h1.node;rw[e3];have ht:=h.Da t (eI e2);refine⟨_,r,rfl,{ h1 with traces:=by show(w.traces.set n _).length=_;simp[h.traces],Da:=fun f hf=> ?_ },⟨fun a ha=>(a1.asks a ha).ajW (by show 0<=(n:Int)/\(n:Int)<12;omega) ai (by show 0<=s.counts.getD 40 0/\s.counts.getD 40 0<=2147483647;omega),a1.Cx,fun e he=>by rw[vP] at he;simp at he,a2,fun a ha=>(a1.asks a ha).2.2.2.2.2.1,a1.OG⟩⟩
  rcases mem_set hf with hf|rfl
  ·have:=h.Da f hf;omega
  ·simp;exact ht
structure Uw (N k:Nat)(s:az):Prop where
 ev:sV s.ev
 asks:∀a∈s.asks,zo a/\a.node=s.ev.node
 Cx:s.asks.length<=4
 sent:∀m∈s.sent,aaX N k m/\m.node=s.ev.node
 Uv:s.sent.length<=500
 mI:∀a∈s.asks,2<=a.arity/\a.arity<=4
theorem Fw(hc:iZ c)(hk:k<5000)(h:eO c k j w)(hs:w.steps=k)(he:e∈enabled w)(l:List aL):
  ∃w' s,mW w e l=some (some (w',s))/\eO c (k+1) (j+2) w'/\w'.steps=k+1/\Uw c.first.length (k+1) s/\s.ev=e:=by
 obtain⟨n,nd,h1,h2⟩:=Ur he;have aI:=h2.ok hc ab h h1;obtain⟨w',r,e1,e2,e3⟩:=PB hc ab h he l;refine⟨{ w' with steps:=w.steps+1 },⟨e,r.asks,decide (w.aK.length<w'.aK.length),r.sent.map Env.msg⟩,?_,{ e2 with },by simp[hs],⟨aI,e3.asks,e3.Cx,fun m hm=> ?_,by show(r.sent.map Env.msg).length<=500;simpa using e3.Uv,e3.mI⟩,rfl⟩
 ·unfold mW;rw[af ab,aj he,e1];rfl
 ·simp only[dp] at hm;obtain⟨x,hx,rfl⟩:=hm;exact e3.sent x hx
def zW.asked:zW->List Int
 | .go o _ _=>o.asked
 | .stop o=>o.asked
theorem azn{dK:Int}{op n:Int}{pc:Int}{r:zW}(h:kE dK names answers op n o st pc=some r):o.asked<+:r.asked:=by
 have one:∀r':zW,o.asked<+:r'.asked->some r'=some r->o.asked<+:r.asked:=fun r' h1 h2=>by cases h2;exact h1
 have mp:∀(x:Option Int) (f:Int->zW),(∀v,o.asked<+:(f v).asked)->x.map f=some r->o.asked<+:r.asked:=fun x f h1 h2=>by
  rw[bU] at h2;obtain⟨v,_,rfl⟩:=h2;exact h1 v
 unfold kE at h;by_cases o1:op=1
 ·rw[aj o1] at h;exact one _ (iU _) h
 rw[af o1] at h;by_cases o2:op=2
 ·rw[aj o2] at h
  (repeat' split at h)<;>first|(cases h;done)|exact one _ (iU _) h|exact one _ (wL _ _) h|exact mp _ _ (fun v=>iU _) h
 rw[af o2] at h;by_cases o4:op=4
 ·rw[aj o4] at h
  (repeat' split at h)<;>first|(cases h;done)|exact one _ (iU _) h|exact one _ (wL _ _) h|exact mp _ _ (fun v=>iU _) h
 rw[af o4] at h;by_cases o3:op=3
 ·rw[aj o3] at h
  (repeat' split at h)<;>first|(cases h;done)|exact one _ (iU _) h|exact one _ (wL _ _) h|exact mp _ _ (fun v=>iU _) h
 rw[af o3] at h;by_cases o5:op=5
 ·rw[aj o5] at h
  (repeat' split at h)<;>first|(cases h;done)|exact one _ (iU _) h|exact one _ (wL _ _) h|exact mp _ _ (fun v=>iU _) h
 rw[af o5] at h;by_cases o6:op=6\/op=7\/op=8\/op=9\/op=11\/op=12\/op=13
 ·rw[aj o6] at h
  (repeat' split at h)<;>first|(cases h;done)|exact one _ (iU _) h|exact one _ (wL _ _) h|exact mp _ _ (fun v=>iU _) h
 rw[af o6] at h;by_cases o10:op=10
 ·rw[aj o10] at h
  (repeat' split at h)<;>first|(cases h;done)|exact one _ (iU _) h|exact one _ (wL _ _) h|exact mp _ _ (fun v=>iU _) h
 rw[af o10] at h;by_cases o14:op=14
 ·rw[aj o14] at h
  (repeat' split at h)<;>first|(cases h;done)|exact one _ (iU _) h|exact one _ (wL _ _) h|exact mp _ _ (fun v=>iU _) h
 rw[af o14] at h;by_cases o15:op=15
 ·rw[aj o15] at h;exact one _ (iU _) h
 rw[af o15] at h;by_cases o16:op=16
 ·rw[aj o16] at h
  (repeat' split at h)<;>first|(cases h;done)|exact one _ (iU _) h|exact one _ (wL _ _) h|exact mp _ _ (fun v=>iU _) h
 rw[af o16] at h;by_cases o17:op=17
 ·rw[aj o17] at h
  (repeat' split at h)<;>first|(cases h;done)|exact one _ (iU _) h|exact one _ (wL _ _) h|exact mp _ _ (fun v=>iU _) h
 rw[af o17] at h;by_cases o18:op=18
 ·rw[aj o18] at h;exact one _ (iU _) h
 rw[af o18] at h;by_cases o19:op=19
 ·rw[aj o19] at h;exact one _ (iU _) h
 rw[af o19] at h;by_cases o20:op=20
 ·rw[aj o20] at h;exact one _ (iU _) h
 rw[af o20] at h;by_cases o21:op=21
 ·rw[aj o21] at h
  (repeat' split at h)<;>first|(cases h;done)|exact one _ (iU _) h|exact one _ (wL _ _) h|exact mp _ _ (fun v=>iU _) h
 rw[af o21] at h;by_cases o22:op=22
 ·rw[aj o22] at h
  (repeat' split at h)<;>first|(cases h;done)|exact one _ (iU _) h|exact one _ (wL _ _) h|exact mp _ _ (fun v=>iU _) h
 rw[af o22] at h;exact one _ (iU _) h
theorem ajZ{pc:Int}{r:zW}(h:sj p names answers o st pc=some r):o.asked<+:r.asked:=by
 unfold sj at h;split at h
 ·cases h
 ·split at h
  ·cases h
  ·exact azn (o:={ o with covered:=ot o.covered pc,steps:=o.steps+1 }) h
theorem abe {p:Prog}{names answers:List Int}:∀(f:Nat) (o:eW) (st:List Int) (pc:Int) (o':eW),qE p names answers f o st pc=some o'->o.asked<+:o'.asked
 |0,o,st,pc,o',h=>by
  simp only[qE,aA] at h;subst h;exact iU _
 |f+1,o,st,pc,o',h=>by
  unfold qE at h;split at h
  ·cases h
  ·rename_i o1 hs;simp only[aA] at h;subst h;exact ajZ hs
  ·rename_i o1 st1 pc1 hs;exact List.IsPrefix.trans (ajZ hs) (abe f o1 st1 pc1 o' h)
theorem aka{l m:List Int}(h:l<+:m)(hl:l≠[])(hm:m.length<=1):m=l:=
 (h.eq_of_length (by have:=h.length_le;have:0<l.length:=DI.2 hl;omega)).symm
theorem azo(p:Prog)(names a1 a2:List Int)(o:eW)(st:List Int)(pc:Int):sj p names a1 o st pc=sj p names a2 o st pc\/
  ∃q s1 s2 Ip,sj p names a1 o st pc=some (.go q s1 Ip)/\sj p names a2 o st pc=some (.go q s2 Ip)/\q.asked≠[]:=by
 unfold sj;split
 ·exact .inl rfl
 ·split
  ·exact .inl rfl
  ·rename_i op n _;by_cases h5:op=5
   ·subst h5
    cases st with
    |nil=>exact .inl rfl
    |cons x r=>
     by_cases hx:1<max 1 (min x 4)
     ·right;refine⟨{ o with covered:=ot o.covered pc,steps:=o.steps+1,asked:=o.asked++[max 1 (min x 4)] },uO a1 o.asked.length (max 1 (min x 4))::r,uO a2 o.asked.length (max 1 (min x 4))::r,pc+1,?_,?_,?_⟩
      ·show(if 1<max 1 (min x 4) then _ else _)=_
       rw[aj hx]
      ·show(if 1<max 1 (min x 4) then _ else _)=_
       rw[aj hx]
      ·simp
     ·left
      show(if 1<max 1 (min x 4) then _ else _)=(if 1<max 1 (min x 4) then _ else _)
      rw[af hx,af hx]
   ·left;unfold kE;simp only[af h5]
theorem akb {p:Prog}{names a1 a2:List Int}:∀(f:Nat) (o:eW) (st:List Int) (pc:Int) (o1 o2:eW),qE p names a1 f o st pc=some o1->qE p names a2 f o st pc=some o2->o1.asked.length<=1->o2.asked.length<=1->o1.asked=o2.asked
 |0,o,st,pc,o1,o2,h1,h2,_,_=>by
  simp only[qE,aA] at h1 h2;rw[<-h1,<-h2]
 |f+1,o,st,pc,o1,o2,h1,h2,g1,g2=>by
  unfold qE at h1 h2
  rcases azo p names a1 a2 o st pc with e|⟨q,s1,s2,Ip,e1,e2,hq⟩
  ·rw[e] at h1;generalize sj p names a2 o st pc=r at h1 h2
   match r with
   |none=>cases h1
   |some (.stop o')=>
    simp only[aA] at h1 h2;rw[<-h1,<-h2]
   |some (.go o' st' Ip)=>exact akb f o' st' Ip o1 o2 h1 h2 g1 g2
  ·rw[e1] at h1;rw[e2] at h2;rw[aka (abe _ _ _ _ _ h1) hq g1,aka (abe _ _ _ _ _ h2) hq g2]
theorem akc{handler:Nat}{vars a1 a2:List Int}{o1 o2:eW}(h1:yj p handler vars names a1=some o1)(h2:yj p handler vars names a2=some o2)(g1:o1.asked.length<=1)(g2:o2.asked.length<=1):o1.asked=o2.asked:=by
 unfold yj at h1 h2
 cases he:p.entry[handler]? with
 |none=>rw[he] at h1;cases h1
 |some e=>
  rw[he] at h1 h2;dsimp only at h1 h2;split at h1
  ·rename_i ru;rw[aj ru] at h2;simp only[aA] at h1 h2;rw[<-h1,<-h2]
  ·rename_i ru;rw[af ru] at h2;exact akb _ _ _ _ _ _ h1 h2 g1 g2
theorem akd (q:Qn):∀(l:List aL) (m:Int),(∀y∈l,y.q≠q)->l.foldl (fun n a=>if a.q=q then max 0 a.n else n) m=m
 |[],m,_=>rfl
 |a::l,m,h=>by
  rw[zP,af (h a ai)]
  exact akd q l m fun y hy=>h y (by simp[hy])
theorem azp{n:Int}(h:∀y∈l2,y.q≠q):eV (l1++⟨q,n⟩::l2) q=max 0 n:=by
 unfold eV;rw[zN,zP,aj rfl,akd _ _ _ h]
theorem Mm{n k:Int}(h:∀y∈l2,y.q≠q)(h0:0<=n)(hk:n<k):gB (l1++⟨q,n⟩::l2) q k=n:=by
 unfold gB;rw[azp h,show max 0 n=n by omega,Int.tmod_eq_of_lt h0 hk]
theorem azq(q:Qn)(k n:Int):(iw q k n).qn=q:=rfl
theorem azr{r':Rr}{a:gA}(h:uQ r a=some r'):r'.asks=r.asks/\r'.out=r.out:=by
 unfold uQ at h
 repeat' split at h
 all_goals first
  |(simp only[bU] at h;obtain⟨d,_,rfl⟩:=h;exact⟨rfl,rfl⟩)
  |(simp only[aA] at h;subst h;exact⟨rfl,rfl⟩)
theorem ake:∀{l:List gA} {r r':Rr},uR r l=some r'->r'.asks=r.asks/\r'.out=r.out
 |[],r,r',h=>by
  simp only[uR,aA] at h;subst h;exact⟨rfl,rfl⟩
 |a::l,r,r',h=>by
  unfold uR at h;split at h
  ·cases h
  ·rename_i r1 h1;have g:=azr h1;have g2:=ake h;exact⟨g2.1.trans g.1,g2.2.trans g.2⟩
def sX (_s:Node)(self:Int)(handler:Nat)(k drift:Int)(l:List aL):Int:=if 0<drift then gB l (aU.qn ⟨self,handler,k⟩ 2 0) (drift+1) else 0
theorem akf{s:Node}{handler:Nat}{l:List aL}(h:pD s p handler self nodes drift names l=some r):
  ∃k vars,s.counts[handler]? =some k/\zY s=some vars/\yj p handler vars (yl names self nodes (s.clock+1+sX s self handler k drift l)) (uP l ⟨self,handler,k⟩)=some r.out/\
   r.asks=(if 0<drift then [iw (aU.qn ⟨self,handler,k⟩ 2 0) (drift+1) (sX s self handler k drift l)] else [])++kG l ⟨self,handler,k⟩ 0 r.out.asked:=by
 unfold pD at h;split at h
 ·cases h
 rename_i k hk;dsimp only at h;split at h
 ·cases h
 rename_i vars hv;split at h
 ·cases h
 rename_i o ho;split at h
 ·have g:=ake h;rw[show r.out=o from g.2];exact⟨k,vars,hk,hv,ho,g.1⟩
 ·cases h
theorem azs{s:Node}{handler:Nat}(h0:pD s p handler self nodes drift names l0=some r0)
  {m:Int} (e:r0.asks=pr++a::rest) (hm:0<=m/\m<a.arity) (h1:pD s p handler self nodes drift names (pr.map gP++[⟨a.qn,m⟩])=some r1)
  (g0:r0.out.asked.length<=1) (g1:r1.out.asked.length<=1):∃sY,r1.asks=pr++{ a with n:=m }::sY:=by
 obtain⟨k,vars,a1,a2,a3,a4⟩:=akf h0;obtain⟨k',vars',b1,b2,b3,b4⟩:=akf h1;rw[a1] at b1;rw[a2] at b2;cases b1;cases b2;rw[e] at a4
 have dr:∀(l:List aL) (x:List Int),x.length<=1->x=[]\/∃j,x=[j]/\kG l ⟨self,handler,k⟩ 0 x=[iw (aU.qn ⟨self,handler,k⟩ 1 0) j (gB l (aU.qn ⟨self,handler,k⟩ 1 0) j)]:=fun l x hx=>by
  match x,hx with
  |[],_=>exact .inl rfl
  |[j],_=>exact .inr ⟨j,rfl,rfl⟩
 have azt:∀n:Int,(⟨aU.qn ⟨self,handler,k⟩ 1 0,n⟩:aL).q≠aU.qn ⟨self,handler,k⟩ 2 0:=fun n hh=>by
  have:=aF Qn.kind hh;simp[aU.qn] at this
 by_cases hd:0<drift
 ·rw[aj hd] at a4 b4
  cases pr with
  |nil=>
   simp only[List.nil_append,List.cons_append] at a4;injection a4 with c1 c2;subst c1
   have ht:sX s self handler k drift ([].map gP++[⟨aU.qn ⟨self,handler,k⟩ 2 0,m⟩])=m:=by
    unfold sX;rw[aj hd];exact Mm (l1:=[]) (l2:=[]) (fun y hy=>by simp at hy) hm.1 hm.2
   rw[azq] at b4;rw[ht] at b4;exact⟨_,by rw[b4];rfl⟩
  |cons t pr=>
   simp only[List.nil_append,List.cons_append] at a4;injection a4 with c1 c2
   rcases dr l0 r0.out.asked g0 with hx|⟨j,hx,hy⟩
   ·rw[hx] at c2;cases pr<;>simp[kG] at c2
   ·rw[hy] at c2
    cases pr with
    |cons t' pr=>cases pr<;>simp at c2
    |nil=>
     simp only[List.nil_append] at c2;injection c2 with c2 c3;subst c1;subst c2;have hb:=Iq l0 (aU.qn ⟨self,handler,k⟩ 2 0) (show 0<drift+1 by omega)
     have de:sX s self handler k drift l0=gB l0 (aU.qn ⟨self,handler,k⟩ 2 0) (drift+1):=by unfold sX;rw[aj hd]
     rw[<-de] at hb;have abf:List.map gP [iw (aU.qn ⟨self,handler,k⟩ 2 0) (drift+1) (sX s self handler k drift l0)]++[⟨(iw (aU.qn ⟨self,handler,k⟩ 1 0) j (gB l0 (aU.qn ⟨self,handler,k⟩ 1 0) j)).qn,m⟩]=[(⟨aU.qn ⟨self,handler,k⟩ 2 0,sX s self handler k drift l0⟩:aL),⟨aU.qn ⟨self,handler,k⟩ 1 0,m⟩]:=rfl;rw[abf] at b3 b4
     have ht:sX s self handler k drift [(⟨aU.qn ⟨self,handler,k⟩ 2 0,sX s self handler k drift l0⟩:aL),⟨aU.qn ⟨self,handler,k⟩ 1 0,m⟩]=sX s self handler k drift l0:=by
      show(if 0<drift then gB _ _ _ else 0)=_
      rw[aj hd]
      exact Mm (l1:=[]) (l2:=[⟨aU.qn ⟨self,handler,k⟩ 1 0,m⟩]) (fun y hy=>by
       simp only[oK] at hy;subst hy
       exact azt m) hb.1 hb.2
     rw[ht] at b3 b4;have hs:=akc b3 a3 g1 g0;rw[hs,hx] at b4
     have hl:gB [(⟨aU.qn ⟨self,handler,k⟩ 2 0,sX s self handler k drift l0⟩:aL),⟨aU.qn ⟨self,handler,k⟩ 1 0,m⟩] (aU.qn ⟨self,handler,k⟩ 1 0) j=m:=
      Mm (l1:=[⟨aU.qn ⟨self,handler,k⟩ 2 0,sX s self handler k drift l0⟩]) (l2:=[]) (fun y hy=>by simp at hy) hm.1 hm.2
     refine⟨[],?_⟩;rw[b4]
     show [_]++[iw (aU.qn ⟨self,handler,k⟩ 1 0) j (gB _ (aU.qn ⟨self,handler,k⟩ 1 0) j)]=_
     rw[hl];rfl
 ·rw[af hd,List.nil_append] at a4 b4
  rcases dr l0 r0.out.asked g0 with hx|⟨j,hx,hy⟩
  ·rw[hx] at a4;cases pr<;>simp[kG] at a4
  ·rw[hy] at a4
   cases pr with
   |cons t' pr=>cases pr<;>simp at a4
   |nil=>
    simp only[List.nil_append] at a4;injection a4 with c2 c3;subst c2;have abf:List.map gP []++[⟨(iw (aU.qn ⟨self,handler,k⟩ 1 0) j (gB l0 (aU.qn ⟨self,handler,k⟩ 1 0) j)).qn,m⟩]=[(⟨aU.qn ⟨self,handler,k⟩ 1 0,m⟩:aL)]:=rfl;rw[abf] at b3 b4
    have ht:∀l,sX s self handler k drift l=0:=fun l=>by unfold sX;rw[af hd]
    rw[ht] at a3 b3;have hs:=akc b3 a3 g1 g0;rw[hs,hx] at b4
    have hl:gB [(⟨aU.qn ⟨self,handler,k⟩ 1 0,m⟩:aL)] (aU.qn ⟨self,handler,k⟩ 1 0) j=m:=
     Mm (l1:=[]) (l2:=[]) (fun y hy=>by simp at hy) hm.1 hm.2
    refine⟨[],?_⟩;rw[b4]
    show [iw (aU.qn ⟨self,handler,k⟩ 1 0) j (gB _ (aU.qn ⟨self,handler,k⟩ 1 0) j)]=_
    rw[hl];rfl
theorem akg{s:Node}{l:List aL}(h:su s self l=some r):∃k,s.counts[40]? =some k/\r.asks=mU l ⟨self,40,k⟩ s.aY.pending.length:=by
 unfold su at h;split at h
 ·cases h
 rename_i k hk;simp only[bU] at h;obtain⟨d,_,rfl⟩:=h;exact⟨k,hk,rfl⟩
theorem Ux(l:List aL)(c:aU)(n i:Nat)(h:i<n):(mU l c n)[i]? =some (iw (c.qn 3 i) 2 (gB l (c.qn 3 i) 2)):=by
 unfold mU;simp[h]
theorem azu{s:Node}(h0:su s self l0=some r0){m:Int}(e:r0.asks=pr++a::rest)(hm:0<=m/\m<a.arity)
  (h1:su s self (pr.map gP++[⟨a.qn,m⟩])=some r1):∃sY,r1.asks=pr++{ a with n:=m }::sY:=by
 obtain⟨k,a1,a2⟩:=akg h0;obtain⟨k',b1,b2⟩:=akg h1;rw[a1] at b1;cases b1;rw[e] at a2;generalize s.aY.pending.length=n at a2 b2
 have hlen:pr.length+(rest.length+1)=n:=by
  have:=aF List.length a2;simpa [mU] using this
 have hp:∀i,i<pr.length->pr[i]? =some (iw (aU.qn ⟨self,40,k⟩ 3 i) 2 (gB l0 (aU.qn ⟨self,40,k⟩ 3 i) 2)):=fun i hi=>by
  rw[<-Ux l0 ⟨self,40,k⟩ n i ab,<-a2,mj hi]
 have ha:a=iw (aU.qn ⟨self,40,k⟩ 3 pr.length) 2 (gB l0 (aU.qn ⟨self,40,k⟩ 3 pr.length) 2):=by
  have:=Ux l0 ⟨self,40,k⟩ n pr.length ab;rw[<-a2,jc ax,Nat.sub_self] at this;simpa using this
 have hne:∀(i j:Nat) (x y:Int),i≠j->(⟨aU.qn ⟨self,40,k⟩ 3 j,x⟩:aL).q≠aU.qn ⟨self,40,k⟩ 3 i:=fun i j x y Ag hh=>by
  have:=aF Qn.index hh;simp[aU.qn] at this;omega
 have uU:∀i,i<pr.length->gB (pr.map gP++[⟨a.qn,m⟩]) (aU.qn ⟨self,40,k⟩ 3 i) 2=gB l0 (aU.qn ⟨self,40,k⟩ 3 i) 2:=fun i hi=>by
  have hx:=hp i hi;have hb:=Iq l0 (aU.qn ⟨self,40,k⟩ 3 i) (show(0:Int)<2 by omega)
  have Pv:pr.map gP++[⟨a.qn,m⟩]=(pr.take i).map gP++(⟨aU.qn ⟨self,40,k⟩ 3 i,gB l0 (aU.qn ⟨self,40,k⟩ 3 i) 2⟩:aL)::((pr.drop (i+1)).map gP++[⟨a.qn,m⟩]):=by
   have h3:pr=pr.take i++iw (aU.qn ⟨self,40,k⟩ 3 i) 2 (gB l0 (aU.qn ⟨self,40,k⟩ 3 i) 2)::pr.drop (i+1):=by
    obtain⟨hi',sF⟩:=bN.1 hx
    conv=>lhs;rw[<-List.take_append_drop i pr,List.drop_eq_getElem_cons hi',sF]
   conv=>lhs;rw[h3]
   rw[dm,dJ,List.append_assoc,List.cons_append];rfl
  rw[Pv];refine Mm (fun y hy=> ?_) hb.1 hb.2
  rcases fU.1 hy with hy|hy
  ·rw[dp] at hy;obtain⟨z,hz,rfl⟩:=hy;obtain⟨j,hj,rfl⟩:=Gq.1 hz;simp only[ml] at hj;have hzj:=hp (i+1+j) ab;rw[List.getElem_drop];rw[cz ab] at hzj;simp only[aA] at hzj;rw[hzj];exact hne i (i+1+j) _ 0 ab
  ·simp only[oK] at hy;subst hy;rw[ha];exact hne i pr.length m 0 ab
 have Mn:gB (pr.map gP++[⟨a.qn,m⟩]) (aU.qn ⟨self,40,k⟩ 3 pr.length) 2=m:=by
  have h2:a.arity=2:=by rw[ha];rfl
  rw[show a.qn=aU.qn ⟨self,40,k⟩ 3 pr.length by rw[ha];rfl];exact Mm (fun y hy=>by simp at hy) hm.1 ab
 refine⟨r1.asks.drop (pr.length+1),?_⟩;apply yf;intro i;rw[b2];by_cases hi:i<pr.length
 ·rw[Ux _ _ _ _ ab,mj hi,uU i hi,hp i hi]
 ·by_cases GU:i=pr.length
  ·subst GU;rw[Ux _ _ _ _ ab,jc ax,Nat.sub_self,Mn,ha];rfl
  ·rw[jc ab,show i-pr.length=(i-pr.length-1)+1 by omega,Gm,oJ];congr 1;omega
theorem akh{n:Nat}{l:List aL}(h:uT w n handler names l=some (w',r)):
  ∃s p,w.nodes[n]? =some s/\w.c.dU[s.version.toNat]? =some p/\pD s p handler.toNat n w.nodes.length w.c.drift names l=some r:=by
 unfold uT at h;split at h
 ·cases h
 rename_i s hs;split at h
 ·cases h
 split at h
 ·cases h
 rename_i p hp;split at h
 ·cases h
 rename_i r' hr;simp only[bU,jM] at h;obtain⟨_,_,_,rfl⟩:=h;exact⟨s,p,hs,hp,hr⟩
theorem abg{n:Nat}(h0:uT w n handler names l0=some (w0,r0))(h1:uT w n handler names l1=some (w1,r1)):
  ∃s p hd self nodes drift nm,pD s p hd self nodes drift nm l0=some r0/\pD s p hd self nodes drift nm l1=some r1:=by
 obtain⟨s,p,a1,a2,a3⟩:=akh h0;obtain⟨s',p',b1,b2,b3⟩:=akh h1;rw[a1] at b1;cases b1;rw[a2] at b2;cases b2;exact⟨_,_,_,_,_,_,_,a3,b3⟩
theorem azv(h0:yo w e l0=some (w0,r0))(h1:yo w e l1=some (w1,r1)):
  r0.asks=[]\/(∃s p hd self nodes drift nm,pD s p hd self nodes drift nm l0=some r0/\pD s p hd self nodes drift nm l1=some r1)\/∃s self,su s self l0=some r0/\su s self l1=some r1:=by
 unfold yo at h0 h1;by_cases hn:e.node<0
 ·rw[aj hn] at h0;cases h0
 rw[af hn] at h0 h1
 cases hs:w.nodes[e.node.toNat]? with
 |none=>simp only[hs] at h0;cases h0
 |some s=>
  simp only[hs] at h0 h1;by_cases k1:e.kind=1
  ·rw[aj k1] at h0 h1;by_cases ha:e.arg<0
   ·rw[aj ha] at h0;cases h0
   rw[af ha] at h0 h1
   cases hp:w.c.dU[e.arg.toNat]? with
   |none=>simp only[hp] at h0;cases h0
   |some p=>
    simp only[hp] at h0 h1
    have key:∀{l:List aL} {w':bL} {r:Rr},(match Cc s p e.arg (e.node.toNat) w.nodes.length w.c.drift l with
      |none=>none
      |some r=>(Aa w e.node.toNat r (-1)).map fun w=>(w,r))=some (w',r)->Cc s p e.arg (e.node.toNat) w.nodes.length w.c.drift l=some r:=fun {l w' r} h=>by
     split at h
     ·cases h
     rename_i r' hr;simp only[bU,jM] at h;obtain⟨_,_,_,rfl⟩:=h;exact hr
    have e0:=key h0;have e1:=key h1;unfold Cc at e0 e1;by_cases hb:p.dK<0\/p.jN<0
    ·rw[aj hb] at e0;cases e0
    rw[af hb] at e0 e1;generalize(if(s.aY.cells.length:Int)=p.dK then some s.aY else wV s.aY p.dK.toNat)=od at e0 e1
    cases od with
    |none=>cases e0
    |some d=>exact .inr (.inl ⟨_,_,_,_,_,_,_,e0,e1⟩)
  rw[af k1] at h0 h1;by_cases k2:e.kind=2
  ·rw[aj k2] at h0 h1;by_cases ha:e.arg<0
   ·rw[aj ha] at h0;cases h0
   rw[af ha] at h0 h1
   cases hp:w.c.eu[e.arg.toNat]? with
   |none=>simp only[hp] at h0;cases h0
   |some q=>
    simp only[hp] at h0 h1;split at h0
    ·rename_i hlt;rw[aj hlt] at h1;exact .inr (.inl (abg h0 h1))
    ·cases h0
  rw[af k2] at h0 h1;by_cases k3:e.kind=3
  ·rw[aj k3] at h0 h1
   cases hf:oQ w.bI e.msg with
   |none=>simp only[hf] at h0;cases h0
   |some m=>
    simp only[hf] at h0 h1;exact .inr (.inl (abg h0 h1))
  rw[af k3] at h0 h1;by_cases k4:e.kind=4
  ·rw[aj k4] at h0 h1;exact .inr (.inl (abg h0 h1))
  rw[af k4] at h0 h1;by_cases k5:e.kind=5
  ·rw[aj k5] at h0;simp only[aA,jM] at h0;left;rw[<-h0.2];rfl
  rw[af k5] at h0 h1;by_cases k6:e.kind=6
  ·rw[aj k6] at h0;simp only[aA,jM] at h0;left;rw[<-h0.2];rfl
  rw[af k6] at h0 h1;right;right
  have key:∀{l:List aL} {w':bL} {r:Rr},(match su s (e.node.toNat) l with
    |none=>none
    |some r=>(Eb (w.setNode e.node.toNat r.s) e.node.toNat).map fun w=>(w,r))=some (w',r)->su s (e.node.toNat) l=some r:=fun {l w' r} h=>by
   split at h
   ·cases h
   rename_i r' hr;simp only[bU,jM] at h;obtain⟨_,_,_,rfl⟩:=h;exact hr
  exact⟨_,_,key h0,key h1⟩
def lA:Nat->List Ask->Nat
 |0,_=>0
 |_+1,[]=>0
 |d+1,a::l=>a.n.toNat*4^d+lA d l
theorem Js:∀(d:Nat) (l:List Ask),(∀a∈l,0<=a.n/\a.n<4)->lA d l<4^d
 |0,l,_=>by simp[lA]
 |d+1,[],_=>by
  simp only[lA];exact Nat.pow_pos ab
 |d+1,a::l,h=>by
  have h1:=h a ai
  have h2:=Js d l fun b hb=>h b (by simp[hb])
  unfold lA;rw[Nat.pow_succ];have h3:a.n.toNat*4^d<=3*4^d:=uH _ ab;generalize 4^d=P at h2 h3⊢;generalize a.n.toNat*P=Q at h3⊢;omega
theorem aki:∀(d:Nat) (pr:List Ask) (a:Ask) (rest sY:List Ask) (m:Int),pr.length<d->(∀b∈rest,0<=b.n/\b.n<4)->0<=a.n->a.n<m->lA d (pr++a::rest)<lA d (pr++{ a with n:=m }::sY)
 |0,pr,a,rest,sY,m,hd,_,_,_=>ab
 |d+1,[],a,rest,sY,m,hd,hr,h0,hm=>by
  have h2:=Js d rest hr
  show a.n.toNat*4^d+lA d rest<m.toNat*4^d+lA d sY
  have h3:(a.n.toNat+1)*4^d<=m.toNat*4^d:=uH _ ab;rw[zQ] at h3;omega
 |d+1,b::pr,a,rest,sY,m,hd,hr,h0,hm=>by
  have h:=aki d pr a rest sY m (by simp only[List.length_cons] at hd;omega) hr h0 hm
  show b.n.toNat*4^d+lA d (pr++a::rest)<b.n.toNat*4^d+lA d (pr++{ a with n:=m }::sY)
  omega
theorem azw{l:List Ask}{m:List aL}(h:Ac l=some m):∃pr a rest,l=pr++a::rest/\a.n+1≠a.arity/\m=pr.map gP++[⟨a.qn,a.n+1⟩]:=by
 unfold Ac at h;split at h
 ·cases h
 ·rename_i a r hr;simp only[aA] at h;have hl:=Kd (p:=fun a:Ask=>decide (a.n+1=a.arity)) (l:=l.reverse);rw[hr] at hl;have fb:=aF List.reverse hl;rw[List.reverse_reverse,List.reverse_append,wM,List.append_assoc] at fb;have hd:=List.head?_dropWhile_not (fun a:Ask=>decide (a.n+1=a.arity)) l.reverse;rw[hr] at hd;refine⟨r.reverse,a,(l.reverse.takeWhile fun a:Ask=>decide (a.n+1=a.arity)).reverse,fb.symm,by simpa using hd,h.symm⟩
theorem akj{l:List aL}{s:az}(h:mW w e l=some (some (w',s))):∃x,yo w e l=some x/\s.asks=x.2.asks:=by
 unfold mW at h;split at h
 ·cases h
 split at h
 ·simp only[bU,aA,jM] at h;obtain⟨x,hx,_,rfl⟩:=h;exact⟨x,hx,rfl⟩
 ·cases h
def Dc (c:eX)(k:Nat)(w:bL)(e:Ev)(s:az):Prop:=Uw c.first.length (k+1) s/\s.ev=e/\∃l0 w0,mW w e l0=some (some (w0,s))
theorem Dc.Uy{s:az}(h:Dc c k w e s):∀a∈s.asks,0<=a.n/\a.n<4:=fun a ha=>by
 have h1:=(h.1.asks a ha).1;have h2:=h.1.mI a ha;obtain⟨_,g1,g2,_⟩:=h1;omega
theorem abh(hc:iZ c)(hk:k<5000)(h:eO c k j w)(he:e∈enabled w){s t:az}(hs:Dc c k w e s){l:List aL}(hl:Ac s.asks=some l)(ht:mW w e l=some (some (w1,t))):
  lA 4 s.asks<lA 4 t.asks:=by
 obtain⟨pr,a,rest,e1,e2,rfl⟩:=azw hl;have Uz:=hs.Uy;obtain⟨hst,aI,l0,w0,h0⟩:=hs;obtain⟨⟨x0,r0⟩,f0,f1⟩:=akj h0;obtain⟨⟨x1,r1⟩,g0,g1⟩:=akj ht;obtain⟨_,_,i0,_,i1⟩:=PB hc ab h he l0;obtain⟨_,_,j0,_,j1⟩:=PB hc ab h he (pr.map gP++[⟨a.qn,a.n+1⟩]);rw[f0] at i0;rw[g0] at j0;simp only[aA,jM] at i0 j0;obtain⟨rfl,rfl⟩:=i0;obtain⟨rfl,rfl⟩:=j0;dsimp only at f1 g1
 have ham:a∈s.asks:=by rw[e1];simp
 have yu:=(hst.asks a ham).1;obtain⟨_,q1,q2,_⟩:=yu
 have KH:r0.asks=pr++a::rest:=by rw[<-f1];exact e1
 have key:∃sY,r1.asks=pr++{ a with n:=a.n+1 }::sY:=by
  rcases azv f0 g0 with hx|⟨sn,p,hd,self,nodes,drift,nm,x1,x2⟩|⟨sn,self,x1,x2⟩
  ·rw[hx] at KH;cases pr<;>simp at KH
  ·exact azs x1 KH ⟨ab,ab⟩ x2 i1.OG j1.OG
  ·exact azu x1 KH ⟨ab,ab⟩ x2
 obtain⟨sY,Eo⟩:=key;have hlen:=hst.Cx;rw[g1,Eo,e1];rw[e1] at hlen;simp only[List.length_append,List.length_cons] at hlen;exact aki 4 pr a rest sY (a.n+1) ab (fun b hb=>Uz b (by rw[e1];simp[hb])) q1 ab
theorem akk {c:eX}(hc:iZ c){k j:Nat}(hk:k<5000){w:bL}(h:eO c k j w)(hst:w.steps=k){e:Ev}(he:e∈enabled w):∀(f:Nat) (s:az) (out:List az),Dc c k w e s->256<=f+lA 4 s.asks->
  ∃cs,GK w e f out s=some (out++cs)/\cs≠[]/\cs.length+lA 4 s.asks<=256/\∀t∈cs,Dc c k w e t
 |0,s,out,hs,hf=>by
  have:lA 4 s.asks<256:=Js 4 _ hs.Uy;omega
 |f+1,s,out,hs,hf=>by
  have hv:lA 4 s.asks<256:=Js 4 _ hs.Uy;unfold GK
  cases hn:Ac s.asks with
  |none=>exact⟨[s],rfl,ai,by simp;omega,fun t ht=>by simp only[oK] at ht;subst ht;exact hs⟩
  |some l=>
   obtain⟨w1,t,e1,e2,e3,e4,e5⟩:=Fw hc hk h hst he l;have hg:=abh hc hk h he hs hn e1
   have ht:Dc c k w e t:=⟨e4,e5,l,w1,e1⟩
   obtain⟨cs,g1,g2,g3,g4⟩:=akk hc hk h hst he f t (out++[s]) ht ab;dsimp only;rw[e1];dsimp only;rw[g1];refine⟨s::cs,ai,ai,by simp only[List.length_cons];omega,fun x hx=> ?_⟩
   rcases cA.1 hx with rfl|hx
   ·exact hs
   ·exact g4 x hx
theorem abj(hc:iZ c)(hk:k<5000)(h:eO c k j w)(hst:w.steps=k)(he:e∈enabled w):
  ∃cs,GL 256 w e=some cs/\cs≠[]/\cs.length<=256/\∀t∈cs,Dc c k w e t:=by
 obtain⟨w1,t,e1,e2,e3,e4,e5⟩:=Fw hc hk h hst he [];obtain⟨cs,g1,g2,g3,g4⟩:=akk hc hk h hst he 256 t [] ⟨e4,e5,[],w1,e1⟩ ab;unfold GL;rw[e1];exact⟨cs,by simpa using g1,g2,ab,g4⟩
theorem akl {c:eX}(hc:iZ c):∀(l:List Int) (k j:Nat) (w:bL) (run:List az),eO c k j w->w.steps=k->k+l.length<=5000->
  ∃run' w',Ad 256 l w run=some (run++run',w')/\run'.length<=l.length/\∀s∈run',∃k',k'<=5000/\Uw c.first.length k' s
 |[],k,j,w,run,h,hst,hl=>⟨[],w,by simp[Ad],ai,fun s hs=>by simp at hs⟩
 |x::l,k,j,w,run,h,hst,hl=>by
  simp only[List.length_cons] at hl;unfold Ad;dsimp only
  cases hx:(enabled w)[around x 1000000%(enabled w).length]? with
  |none=>exact⟨[],w,ai,ai,fun s hs=>by simp at hs⟩
  |some e=>
   have he:=eI hx;obtain⟨cs,g1,g2,g3,g4⟩:=abj hc ab h hst he;dsimp only;rw[g1];dsimp only;have DV:0<cs.length:=DI.2 g2;have hlt:around x 1000000/50%cs.length<cs.length:=oM _ DV;rw[cz hlt];have hs:=g4 _ (bW hlt);generalize cs[around x 1000000/50%cs.length]=s at hs;obtain⟨pY,aI,_⟩:=hs;dsimp only;obtain⟨w1,t,e1,e2,e3,_,_⟩:=Fw hc ab h hst he (Cf s);rw[aI,e1];dsimp only;obtain⟨run',w',q1,q2,q3⟩:=akl hc l (k+1) (j+2) w1 (run++[s]) e2 e3 ab;refine⟨s::run',w',by rw[q1];simp,by simp;omega,fun y hy=> ?_⟩
   rcases cA.1 hy with rfl|hy
   ·exact⟨k+1,ab,pY⟩
   ·exact q3 y hy
theorem azx(hc:iZ c)(l:List Int):∃run w,walk 256 c l=some (run,w)/\run.length<=min l.length 30/\∀s∈run,∃k',k'<=5000/\Uw c.first.length k' s:=by
 obtain⟨run',w',h1,h2,h3⟩:=akl hc (l.take 30) 0 0 (nJ c) [] (aaY hc) rfl bz;exact⟨run',w',by unfold walk;simpa using h1,by simpa [Nat.min_comm] using h2,h3⟩
theorem PC{p:Prop}[Decidable p](o:List Ev)(e:Ev):(if p then bV o e else o).length<=o.length+1:=by
 split
 ·exact PA _ _
 ·omega
theorem UA(w:bL)(n:Nat)(s:Node)(out:List Ev)(m:bR):(ig w n s out m).length<=out.length+3:=by
 unfold ig;dsimp only;have h1:=PC (p:=s.up=true) out ⟨3,n,0,m⟩;generalize(if s.up=true then bV out ⟨3,n,0,m⟩ else out)=o1 at h1⊢;have h2:=PC (p:=s.dropped<w.c.qH) o1 ⟨5,n,0,m⟩;generalize(if s.dropped<w.c.qH then bV o1 ⟨5,n,0,m⟩ else o1)=o2 at h2⊢;have h3:=PC (p:=s.ed<w.c.tI) o2 ⟨6,n,0,m⟩;omega
def xE (w:bL)(n:Nat)(s:Node)(out:List Ev):List Ev:=if s.up then out else(mr w n s).foldl (fun o v=>bV o ⟨1,n,v,mV⟩) out
def zq (w:bL)(n:Nat)(s:Node)(out:List Ev):List Ev:=(jd w.bI n).foldl (ig w n s) out
def pZ (w:bL)(n:Nat)(s:Node)(out:List Ev):List Ev:=if s.up/\s.waiting<0/\0<=w.next.getD n 0 then bV out ⟨2,n,w.next.getD n 0,mV⟩ else out
def Dd (n:Nat)(s:Node)(out:List Ev):List Ev:=if s.up then s.timers.foldl (fun o t=>bV o ⟨4,n,t,mV⟩) out else out
def Bm (w:bL)(n:Nat)(s:Node)(out:List Ev):List Ev:=if s.up/\s.counts.getD 40 0<w.c.ym then bV out ⟨7,n,0,mV⟩ else out
theorem akm(w:bL)(out:List Ev)(n:Nat)(s:Node):Ce w out n s=Bm w n s (Dd n s (pZ w n s (zq w n s (xE w n s out)))):=rfl
theorem Mo{α:Type}(f:α->Ev)(l:List α)(out:List Ev):(l.foldl (fun o v=>bV o (f v)) out).length<=out.length+l.length:=by
 have:=Mk (f:=fun o v=>bV o (f v)) (m:=1) (fun o x=>PA o (f x)) l out;omega
theorem azy(w:bL)(n:Nat)(s:Node)(out:List Ev):(xE w n s out).length<=out.length+(mr w n s).length:=by
 unfold xE;split
 ·omega
 ·exact Mo (fun v=>⟨1,n,v,mV⟩) _ _
theorem azz(w:bL)(n:Nat)(s:Node)(out:List Ev):(zq w n s out).length<=out.length+3*w.bI.length:=by
 unfold zq;have h1:=Mk (f:=ig w n s) (m:=3) (fun o x=>UA w n s o x) (jd w.bI n) out
 have h2:(jd w.bI n).length<=w.bI.length:=by unfold jd;rw[dI];exact oc _ _
 omega
theorem akn(w:bL)(n:Nat)(s:Node)(out:List Ev):(pZ w n s out).length<=out.length+1:=by
 unfold pZ;exact PC _ _
theorem azA(n:Nat)(s:Node)(out:List Ev):(Dd n s out).length<=out.length+s.timers.length:=by
 unfold Dd;split
 ·exact Mo (fun v=>⟨4,n,v,mV⟩) _ _
 ·omega
theorem azB(w:bL)(n:Nat)(s:Node)(out:List Ev):(Bm w n s out).length<=out.length+1:=by
 unfold Bm;exact PC _ _
theorem ako(hc:iZ c)(h:w.c=c)(n:Nat)(s:Node):(mr w n s).length<=64:=by
 have:=hc.azg;unfold mr;rw[h];split
 ·simp
 ·split
  ·simp
  ·exact this
theorem azC(hc:iZ c)(h:w.c=c)(out:List Ev)(n:Nat)(s:Node)(ht:s.timers.length<=8):(Ce w out n s).length<=out.length+3*w.bI.length+74:=by
 rw[akm];have h1:=azy w n s out;have h2:=azz w n s (xE w n s out);have h3:=akn w n s (zq w n s (xE w n s out));have h4:=azA n s (pZ w n s (zq w n s (xE w n s out)));have h5:=azB w n s (Dd n s (pZ w n s (zq w n s (xE w n s out))));have hv:=ako hc h n s;omega
theorem akp (w:bL):∀(l:List Node) (n k:Nat) (out:List Ev) (hk:k<l.length),sy w n out (l.take (k+1))=Ce w (sy w n out (l.take k)) (n+k) l[k]
 |s::l,n,0,out,hk=>by simp[sy]
 |s::l,n,k+1,out,hk=>by
  have:=akp w l (n+1) k (Ce w out n s) (by simpa using hk);simp only[List.take_succ_cons,sy,List.getElem_cons_succ];rw[this,show n+1+k=n+(k+1) by omega]
theorem abk {c:eX}(hc:iZ c){w:bL}(h:w.c=c):∀(l:List Node) (n:Nat) (out:List Ev),(∀s∈l,s.timers.length<=8)->(sy w n out l).length<=out.length+l.length*(3*w.bI.length+74)
 |[],n,out,_=>by simp[sy]
 |s::l,n,out,ht=>by
  have h1:=abk hc h l (n+1) (Ce w out n s) (fun x hx=>ht x (by simp[hx]));have h2:=azC hc h out n s (ht s ai);simp only[sy,List.length_cons,zQ];omega
theorem PD{α β:Type}(f:β->α->β)(l:List α)(b:β)(k:Nat)(hk:k<l.length):(l.take (k+1)).foldl f b=f ((l.take k).foldl f b) l[k]:=by
 rw[List.take_succ_eq_append_getElem hk,zN];rfl
theorem abl {α:Type}{p:α->Bool}:∀{a b:List α},(∀x∈a,p x=true)->(a++b).dropWhile p=b.dropWhile p
 |[],b,_=>rfl
 |x::a,b,h=>by
  rw[List.cons_append,List.dropWhile_cons_of_pos (h x ai)]
  exact abl fun y hy=>h y (by simp[hy])
theorem akq{l:List Ask}(h:∀a∈l,a.n+1=a.arity):Ac l=none:=by
 unfold Ac;have:=abl (p:=fun a:Ask=>decide (a.n+1=a.arity)) (a:=l.reverse) (b:=[]) (fun x hx=>fF (h x (by simpa using hx)));rw[sb] at this;rw[this];rfl
theorem akr{l:List Ask}(hk:k<l.length)(h:l[k].n+1≠l[k].arity)(ha:∀j (hj:j<l.length),k<j->l[j].n+1=l[j].arity):
  Ac l=some ((l.take k).map gP++[⟨l[k].qn,l[k].n+1⟩]):=by
 have hl:l=l.take k++l[k]::l.drop (k+1):=by
  conv=>lhs;rw[<-List.take_append_drop k l,List.drop_eq_getElem_cons hk]
 have hr:l.reverse=(l.drop (k+1)).reverse++(l[k]::(l.take k).reverse):=by
  conv=>lhs;rw[hl]
  simp
 have hd:l.reverse.dropWhile (fun a:Ask=>decide (a.n+1=a.arity))=l[k]::(l.take k).reverse:=by
  rw[hr,abl (fun x hx=> ?_),List.dropWhile_cons_of_neg (by simpa using h)];rw[List.mem_reverse] at hx;obtain⟨j,hj,rfl⟩:=Gq.1 hx;simp only[ml] at hj;rw[List.getElem_drop];exact fF (ha _ ab ab)
 unfold Ac;rw[hd];simp only[List.reverse_reverse];rfl
theorem akt(hk:k<12):∃p,build (sources.getD k [])=some p/\rp p=true:=by
 have h:=atJ;rw[fE] at h;have hl:sources.length=12:=eH
 have hm:sources.getD k []∈sources:=by
  rw[fC,cz ab,BQ];exact bW _
 have h1:=h _ hm;split at h1
 ·rename_i p hp;exact⟨p,hp,h1⟩
 ·cases h1
theorem abm(l:List Int):∃c,config l=some c/\iZ c:=by
 unfold config;dsimp only;obtain⟨p,hp,lV⟩:=akt (k:=pick l 0 1000000%12) (oM _ au);rw[hp];dsimp only
 have key:∃ps,(if pick l 1 1000000%3=0 then(build (sources.getD (pick l 1 1000000/3%12) [])).map fun q=>[p,q] else some [p])=some ps/\1<=ps.length/\ps.length<=2/\∀q∈ps,rp q=true:=by
  split
  ·obtain⟨q,hq,yC⟩:=akt (k:=pick l 1 1000000/3%12) (oM _ au);rw[hq]
   exact⟨[p,q],rfl,ai,ai,fun x hx=>by
    simp only[cA,jL,kV] at hx
    rcases hx with rfl|rfl
    ·exact lV
    ·exact yC⟩
  ·exact⟨[p],rfl,ai,ai,fun x hx=>by
    simp only[oK] at hx;subst hx
    exact lV⟩
 obtain⟨ps,e,h1,h2,h3⟩:=key;rw[e];dsimp only;generalize pick l 2 1000000=k2;generalize pick l 4 1000000=k4;generalize pick l 5 1000000=k5
 have hm:∀a:Nat,(0:Int)<=((a%ps.length:Nat):Int)/\((a%ps.length:Nat):Int)<ps.length:=fun a=>by
  have:=oM a (show 0<ps.length by omega);omega
 refine⟨_,rfl,⟨⟨h1,by show ps.length<=64;omega⟩,h3,?_,fun v hv=> ?_,fun v hv=> ?_,?_,?_,fun r hr=> ?_,?_,?_,?_,?_⟩⟩
 ·show 1<=((List.range _).map _).length/\((List.range _).map _).length<=12
  simp only[dI,BN];omega
 ·simp only[dp] at hv;obtain⟨n,_,rfl⟩:=hv;exact hm _
 ·dsimp only at hv;split at hv
  ·simp only[cA,jL,kV] at hv
   rcases hv with rfl|rfl
   ·exact hm _
   ·show(0:Int)<=0/\(0:Int)<ps.length
    omega
  ·simp at hv
 ·show(if _ then _ else _:List Int).length<=64
  split<;>simp
 ·show((List.range _).map _).length<=300
  simp only[dI,BN];omega
 ·simp only[dp,gG] at hr;obtain⟨i,hi,rfl⟩:=hr;refine⟨?_,?_,?_⟩
  ·have h8:∀j:Fin 8,bD ([0,1,2,3,4,0,1,3].getD j.val 0)=true:=au;exact h8 ⟨pick l (6+i) 1000000/3%8,oM _ au⟩
  ·show bD ((1+pick l (6+i) 1000000/24%5/4:Nat):Int)=true
   rw[vF];omega
  ·show bD ((1+i:Nat):Int)=true
   rw[vF];omega
 ·show(0:Int)<=((k4%3/2:Nat):Int)/\((k4%3/2:Nat):Int)<=10
  omega
 ·show(0:Int)<=((k4/3%4/3:Nat):Int)/\((k4/3%4/3:Nat):Int)<=10
  omega
 ·show(0:Int)<=((k4/12%4/3:Nat):Int)/\((k4/12%4/3:Nat):Int)<=10
  omega
 ·show(0:Int)<=((k4/48%5/4:Nat):Int)/\((k4/48%5/4:Nat):Int)<=3
  omega
end aD
namespace Ab
open Go Go.RowKit
attribute [local irreducible] aP bB aW
open aD (eX qF Ob pE bL Env aU wY bV sB yn)
theorem aku (c:eX)(node i:Int)(hi: -1<=i/\i<=1000000)(hl:c.eu.length<=1000000):bj Tryz.prog 116 [.agg (Bl c),.c (iA node),.c (iA i)] (fun x=>x=.w (.c (iA (aD.after c node i)))):=by
 obtain⟨k0,aX⟩:∃k0:Nat,i+1=k0:=⟨(i+1).toNat,ab⟩
 have d1:aZ .add (.int .i64 i) (.int .i64 1)=some (.int .i64 (k0:Int)):=by rw[oX ab ab,aX]
 have hst:wY node k0 (c.eu.drop k0)=aD.after c node i:=by unfold aD.after;rw[aX];rfl
 refine cI Tryz.func116 aN [] [.t 6] [3,6,7] [3] ?_;have FF:=@d1
 try refine aG ?_
 refine dA (fun n V S=>∃k:Nat,k<=3000000/\(k<=1000001\/k<=c.eu.length)/\n=c.eu.length-k/\wY node k (c.eu.drop k)=aD.after c node i/\
  V=[(0,.w (.agg (Bl c))),(1,.w (.c (iA node))),(2,.w (.c (iA i))),(3,.pb 3 1 0),(6,.w (.c (iA 0))),(7,.w (.c (iA k)))]/\S=[(3,.box 1 (Bl c))]) (n:=c.eu.length-k0) ⟨k0,ab,ab,rfl,hst,rfl,rfl⟩ ?_
 rintro n V L S ⟨k,hk,ow,rfl,xF,rfl,rfl⟩;by_cases hlt:k<c.eu.length
 ·have cF:k<=1000000000:=ab
  obtain⟨x,hx⟩:∃x,c.eu[k]=x:=⟨_,rfl⟩
  rw[List.drop_eq_getElem_cons hlt,hx] at xF;unfold wY at xF;by_cases he:x.node=node
  ·rw[aj he] at xF;have FF:=kT @hlt @hx @he
   try refine aG ?_
   refine zE ?_;exact(by rw[<-xF];rfl)
  ·rw[af he] at xF;have FF:=fg @hlt @hx @he (bT cF)
   try refine aG ?_
   exact⟨c.eu.length-(k+1),ab,k+1,ab,ab,rfl,xF,rfl,rfl⟩
 ·rw[Gn ab] at xF;have FF:=@hlt
  try refine aG ?_
  refine zE ?_;exact(by rw[<-xF];rfl)
theorem akv {a m:Ev}(h:a≠m):¬(a.kind=m.kind/\a.node=m.node/\a.arg=m.arg/\a.msg.node=m.msg.node/\a.msg.handler=m.msg.handler/\a.msg.count=m.msg.count/\a.msg.index=m.msg.index/\a.msg.copy=m.msg.copy):=fun⟨h1,h2,h3,h4,h5,h6,h7,h8⟩=>h (by
 obtain⟨a1,a2,a3,⟨b1,b2,b3,b4,b5⟩⟩:=a;obtain⟨c1,c2,c3,⟨d1,d2,d3,d4,d5⟩⟩:=m
 simp_all)
theorem abn (a b:Ev):bj Tryz.prog 155 [.agg (iP a),.agg (iP b)] (fun x=>x=.w (.c (iA (aM a.ints b.ints)))):=atx _ _ _ _ _ _ _ _ _ _ _ _ _ _ _ _
theorem rN (l:List Ev)(e:Ev)(hl:l.length<=1000000):bj Tryz.prog 117 [.c (evs l),.agg (iP e)] (fun x=>x=.w (.c (evs (bV l e)))):=by
 have yL:l.length+1<=100000000:=ab;refine cI Tryz.func117 (aO [6]) [tz 2 10,tz 4 10] [.t 4] [3,4,5,6] [3,6] ?_;have FF:=trivial
 try refine aG ?_
 refine dA (fun n V S=>∃k:Nat,k<=l.length/\n=l.length-k/\(∀j (hj:j<l.length),j<k->decide (aM l[j].ints e.ints<0)=true)/\
  V=[(0,.w (.c (evs l))),(1,.w (.agg (iP e))),(3,.pb 3 1 0),(4,.w (.c (.sl []))),(5,.w (.c (iA k))),(6,.u)]/\S=[(3,.box 1 (iP e)),(6,.dead 0)]) (n:=l.length) ⟨0,ab,ab,fun j _ h=>ab,rfl,rfl⟩ ?_
 rintro n V L S ⟨k,hk,rfl,hj,rfl,rfl⟩
 have done:∀(h2:∀h:k<l.length,decide (aM l[k].ints e.ints<0)=false),bV l e=if(l.drop k).head? =some e then l else l.take k++e::l.drop k:=fun h2=>by
  obtain⟨g1,g2⟩:=NG (p:=fun x:Ev=>decide (aM x.ints e.ints<0)) hk hj h2;unfold bV;rw[g1,g2]
 by_cases hlt:k<l.length
 ·have cF:k<=1000000000:=ab
  obtain⟨x,hx⟩:∃x,l[k]=x:=⟨_,rfl⟩
  by_cases he:aM x.ints e.ints<0
  ·have FF:=fg @hlt @hx @he (bT cF);refine bY (abn x e) ?_
   exact⟨l.length-(k+1),ab,k+1,ab,ab,fun j eb iq=>by
    by_cases iW:j=k
    ·subst iW;rw[hx];exact fF he
    ·exact hj j eb ab,rfl,rfl⟩
  ·have hd:=done (fun _=>by rw[hx];exact jw he);rw[List.drop_eq_getElem_cons hlt,hx] at hd;by_cases lW:x=e
   ·rw[aj (by rw[lW];rfl)] at hd;subst lW;have FF:=kT @hlt @hx @he;refine bY (abn x x) ?_;refine zE ?_;exact(by rw[hd];rfl)
   ·rw[af (by simpa using lW)] at hd;have hne:=akv lW;have FF:=iF @hlt @hx @he @hne (BU hlt);refine Yd (abn x e) ?_;refine zE ?_;exact(by rw[hd,<-hx,<-List.drop_eq_getElem_cons hlt];simp[List.map_take,List.map_drop];try rfl)
 ·have hd:=done (fun h=>absurd h hlt);rw[af (by rw[Gn ab];simp)] at hd;have FF:=im @hlt @hk
  try refine Cv ?_
  refine zE ?_;exact(by rw[hd];simp[List.map_take,List.map_drop];try rfl)
theorem azD (l:List (Int×Int))(e:Int×Int)(hl:l.length<=1000000):bj Tryz.prog 201 [.c (fR l),.agg (Uk e)] (fun x=>x=.w (.c (fR (sB l e)))):=by
 have yL:l.length+1<=100000000:=ab;refine cI Tryz.func201 (aO [6]) [tz 2 30,tz 4 10] [.t 4] [3,4,5,6] [3,6] ?_;have FF:=trivial
 try refine aG ?_
 refine dA (fun n V S=>∃k:Nat,k<=l.length/\n=l.length-k/\(∀j (hj:j<l.length),j<k->yn l[j] e=true)/\
  V=[(0,.w (.c (fR l))),(1,.w (.agg (Uk e))),(3,.pb 3 1 0),(4,.w (.c (.sl []))),(5,.w (.c (iA k))),(6,.u)]/\S=[(3,.box 1 (Uk e)),(6,.dead 0)]) (n:=l.length) ⟨0,ab,ab,fun j _ h=>ab,rfl,rfl⟩ ?_
 rintro n V L S ⟨k,hk,rfl,hj,rfl,rfl⟩
 have done:∀(h2:∀h:k<l.length,yn l[k] e=false),sB l e=if(l.drop k).head? =some e then l else l.take k++e::l.drop k:=fun h2=>by
  obtain⟨g1,g2⟩:=NG (p:=fun x:Int×Int=>yn x e) hk hj h2;unfold sB;rw[g1,g2]
 by_cases hlt:k<l.length
 ·have cF:k<=1000000000:=ab
  obtain⟨x,hx⟩:∃x,l[k]=x:=⟨_,rfl⟩
  have next:yn x e=true->∀j (hj:j<l.length),j<k+1->yn l[j] e=true:=fun he j eb iq=>by
   by_cases iW:j=k
   ·subst iW;rw[hx];exact he
   ·exact hj j eb ab
  by_cases h1:x.1<e.1
  ·have he:=next (fF (.inl h1));have FF:=fg @hlt @hx @h1 (bT cF)
   try refine aG ?_
   exact⟨l.length-(k+1),ab,k+1,ab,ab,he,rfl,rfl⟩
  ·by_cases h2:x.1=e.1
   ·by_cases h3:x.2<e.2
    ·have he:=next (fF (.inr ⟨h2,h3⟩));have FF:=gR @hlt @hx @h1 @h2 @h3 (bT cF)
     try refine aG ?_
     exact⟨l.length-(k+1),ab,k+1,ab,ab,he,rfl,rfl⟩
    ·have hd:=done (fun _=>by rw[hx];exact jw (by rintro(h|h);exact h1 h;exact h3 h.2));rw[List.drop_eq_getElem_cons hlt,hx] at hd;by_cases h4:x.2=e.2
     ·have lW:x=e:=Prod.ext h2 h4;rw[aj (by rw[lW];rfl)] at hd;have FF:=gR @hlt @hx @h1 @h2 @h3 @h4
      try refine aG ?_
      refine zE ?_;exact(by rw[hd];rfl)
     ·rw[af (by intro hh;simp only[List.head?_cons,aA] at hh;exact h4 (by rw[hh]))] at hd;have FF:=kU @hlt @hx @h1 @h2 @h3 @h4 (BU hlt)
      try refine Cv ?_
      refine zE ?_;exact(by rw[hd,<-hx,<-List.drop_eq_getElem_cons hlt];simp[List.map_take,List.map_drop];try rfl)
   ·have hd:=done (fun _=>by rw[hx];exact jw (by rintro(h|h);exact h1 h;exact h2 h.1));rw[List.drop_eq_getElem_cons hlt,hx] at hd;rw[af (by intro hh;simp only[List.head?_cons,aA] at hh;exact h2 (by rw[hh]))] at hd;have FF:=iF @hlt @hx @h1 @h2 (BU hlt)
    try refine Cv ?_
    refine zE ?_;exact(by rw[hd,<-hx,<-List.drop_eq_getElem_cons hlt];simp[List.map_take,List.map_drop];try rfl)
 ·have hd:=done (fun h=>absurd h hlt);rw[af (by rw[Gn ab];simp)] at hd;have FF:=im @hlt @hk
  try refine Cv ?_
  refine zE ?_;exact(by rw[hd];simp[List.map_take,List.map_drop];try rfl)
end Ab
end Go.Proofs.YtkanpepkdcmpmaaGreatDoor
