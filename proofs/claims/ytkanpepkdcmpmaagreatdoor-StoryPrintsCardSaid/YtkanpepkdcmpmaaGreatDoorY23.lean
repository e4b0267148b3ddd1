import Derived.Test.YtkanpepkdcmpmaaGreatDoorY6
import Derived.Test.YtkanpepkdcmpmaaGreatDoorY21
set_option maxHeartbeats 40000000
set_option maxRecDepth 100000
set_option linter.all false
namespace Go.Proofs.YtkanpepkdcmpmaaGreatDoor
section
open Go.RowKit
def sQ (e:Ev):Prop:=
 0<=e.node/\e.node<=11/\
 (((e.kind=1\/e.kind=2\/e.kind=4)/\(0<=e.arg/\e.arg<=2147483647)/\e.msg=⟨0,0,0,0,0⟩)\/
  ((e.kind=3\/e.kind=5\/e.kind=6)/\e.arg=0/\((0<=e.msg.node/\e.msg.node<12)/\(0<=e.msg.handler/\e.msg.handler<40)/\0<=e.msg.count/\e.msg.count<=2147483647)/\(0<=e.msg.index/\e.msg.index<=2147483647)/\0<=e.msg.copy/\e.msg.copy<=2147483647)\/
  (e.kind=7/\e.arg=0/\e.msg=⟨0,0,0,0,0⟩))
def CO (q:Qn):Prop:=(1<=q.kind/\q.kind<=3)/\((0<=q.node/\q.node<12)/\(0<=q.handler/\q.handler<41)/\0<=q.count/\q.count<=2147483647)/\0<=q.index/\q.index<=2147483647
def Ask.qn (a:Ask):Qn:=⟨a.node,a.handler,a.count,a.kind,a.index⟩
def zo (a:Ask):Prop:=CO a.qn/\0<=a.n/\a.n<a.arity/\a.arity<=2147483647
def gH (a:Ask):aL:=⟨a.qn,a.n⟩
end
namespace aD
open mG
variable {a:Ask} {answers names st:List Int} {c:eQ} {cs:aT} {drift handler nodes self xx:Int} {e:Ev} {j k:Nat} {l:List Env} {l0 l1 l2:List aL} {m:bQ} {o:eP} {out:List Ev} {p:Prog} {pr rest:List Ask} {q:Qn} {r r0 r1:Rr} {w w' w0 w1:bG} {x:Env}
structure iO (c:eQ):Prop where
 ayX:1<=c.dR.length/\c.dR.length<=64
 safe:∀p∈c.dR,qX p=true
 CP:1<=c.first.length/\c.first.length<=12
 first:∀v∈c.first,0<=v/\v<c.dR.length
 qy:∀v∈c.qy,0<=v/\v<c.dR.length
 ayY:c.qy.length<=64
 fB:c.ek.length<=300
 req:∀r∈c.ek,bu r.op=true/\bu r.key=true/\bu r.arg=true
 yr:0<=c.yr/\c.yr<=10
 qz:0<=c.qz/\c.qz<=10
 tE:0<=c.tE/\c.tE<=10
 drift:0<=c.drift/\c.drift<=3
def aaV (N k:Nat)(m:bQ):Prop:=(0<=m.node/\m.node<N)/\(0<=m.handler/\m.handler<40)/\(0<=m.count/\m.count<=k)/\(0<=m.index/\m.index<=500)/\0<=m.copy/\m.copy<=k
def Ug (N k:Nat)(e:Env):Prop:=aaV N k e.msg/\(0<=e.kM/\e.kM<N)/\(0<=e.kind/\e.kind<=29)/\bu e.a=true/\bu e.b=true
structure eK (c:eQ)(k j:Nat)(w:bG):Prop where
 cfg:w.c=c
 nodes:w.nodes.length=c.first.length
 next:w.next.length=c.first.length
 bC:w.bC.length=c.first.length
 traces:w.traces.length=c.first.length
 node:∀s∈w.nodes,jV c.dR c.ek.length k s
 bE:∀e∈w.bE,Ug c.first.length k e
 vW:w.bE.length<=501*k
 qp:∀x∈w.next,-1<=x/\x<c.ek.length
 um:w.aJ.length<=j
 Pk:∀f∈w.bC,f.length<=500*k
 CQ:∀t∈w.traces,t.length<=k
 tU:w.covered.length<=500*k
theorem Uh(c:eQ)(node i:Int): -1<=after c node i/\after c node i<c.ek.length:=by
 have key:∀(l:List qx) (k:Nat),-1<=wV node k l/\wV node k l<(k+l.length:Nat)\/wV node k l= -1:=by
  intro l
  induction l with
  |nil=>intro k;exact .inr rfl
  |cons r l ih=>
   intro k;unfold wV;split
   ·exact .inl ⟨ab,by simp;omega⟩
   ·rcases ih (k+1) with h|h
    ·exact .inl ⟨h.1,by simp;omega⟩
    ·exact .inr h
 unfold after
 rcases key (c.ek.drop (i+1).toNat) (i+1).toNat with h|h
 ·refine⟨h.1,?_⟩;have h2:=h.2;by_cases hl:(i+1).toNat<=c.ek.length
  ·simp only[lU] at h2;omega
  ·rw[FX ab] at h2⊢;simp only[wV];omega
 ·rw[h];omega
theorem aaW(h:iO c):eK c 0 0 (ny c):=
 ⟨rfl,by simp[ny],by simp[ny],by simp[ny],by simp[ny],fun s hs=>by
   simp only[ny,dm] at hs;obtain⟨_,_,rfl⟩:=hs
   exact atK _ _ _,fun e he=>by simp[ny] at he,by simp[ny],fun x hx=>by
   simp only[ny,dm] at hx;obtain⟨n,_,rfl⟩:=hx
   exact Uh _ _ _,by simp[ny],fun f hf=>by
   simp only[ny,dm] at hf;obtain⟨_,_,rfl⟩:=hf
   simp,fun f hf=>by
   simp only[ny,dm] at hf;obtain⟨_,_,rfl⟩:=hf
   simp,by simp[ny]⟩
theorem Jh{l:List Ev}{x:Ev}(h:e∈bR l x):e∈l\/e=x:=by
 unfold bR at h;split at h
 ·exact .inl h
 ·rcases fL.1 h with h|h
  ·exact .inl ((List.takeWhile_sublist _).mem h)
  ·rcases cz.1 h with h|h
   ·exact .inr h
   ·exact .inl ((List.dropWhile_sublist _).mem h)
theorem Pl(l:List Ev)(x:Ev):(bR l x).length<=l.length+1:=by
 unfold bR;split
 ·omega
 ·have:=aG List.length (JW (p:=fun y=>decide (aK y.ints x.ints<0)) (l:=l));rw[List.length_append] at this;rw[List.length_append,List.length_cons];omega
def sR (w:bG)(n:Nat)(s:Node)(e:Ev):Prop:=e.node=n/\(
 (e.kind=1/\s.up=false/\e.arg∈lY w n s/\e.msg=mJ)\/
 (e.kind=2/\s.up=true/\s.waiting<0/\0<=e.arg/\e.arg=w.next.getD n 0/\e.msg=mJ)\/
 ((e.kind=3/\s.up=true\/e.kind=5\/e.kind=6)/\e.arg=0/\e.msg∈iU w.bE n)\/
 (e.kind=4/\s.up=true/\e.arg∈s.timers/\e.msg=mJ)\/
 (e.kind=7/\s.up=true/\s.counts.getD 40 0<w.c.yr/\e.arg=0/\e.msg=mJ))
theorem Ui {α:Type}{Q:Ev->Prop}{f:List Ev->α->List Ev}:∀(l:List α) (out:List Ev),(∀o,∀x∈l,∀e∈f o x,e∈o\/Q e)->∀e∈l.foldl f out,e∈out\/Q e
 |[],out,_,e,he=> .inl he
 |x::l,out,h,e,he=>by
  rcases Ui l (f out x) (fun o y hy=>h o y (by simp[hy])) e he with h1|h1
  ·exact h out x ai e h1
  ·exact .inr h1
theorem Md {α:Type}{f:List Ev->α->List Ev}{m:Nat}(h:∀o x,(f o x).length<=o.length+m):∀(l:List α) (out:List Ev),(l.foldl f out).length<=out.length+m*l.length
 |[],out=>ai
 |x::l,out=>by
  have h1:=Md h l (f out x);have h2:=h out x;simp only[zN,List.length_cons,Nat.mul_add];omega
theorem ayZ{n:Nat}{s:Node}(hm:m∈iU w.bE n)(h:e∈gU w n s out m):e∈out\/sR w n s e:=by
 unfold gU at h
 have k1:∀e∈(if s.up then bR out ⟨3,n,0,m⟩ else out),e∈out\/sR w n s e:=by
  intro e he;split at he
  ·rename_i hu
   rcases Jh he with h|rfl
   ·exact .inl h
   ·exact .inr ⟨rfl,.inr (.inr (.inl ⟨.inl ⟨rfl,hu⟩,rfl,hm⟩))⟩
  ·exact .inl he
 revert h;generalize(if s.up then bR out ⟨3,n,0,m⟩ else out)=o1 at k1;intro h
 have k2:∀e∈(if s.dropped<w.c.qz then bR o1 ⟨5,n,0,m⟩ else o1),e∈out\/sR w n s e:=by
  intro e he;split at he
  ·rcases Jh he with h|rfl
   ·exact k1 e h
   ·exact .inr ⟨rfl,.inr (.inr (.inl ⟨.inr (.inl rfl),rfl,hm⟩))⟩
  ·exact k1 e he
 revert h;simp only;generalize(if s.dropped<w.c.qz then bR o1 ⟨5,n,0,m⟩ else o1)=o2 at k2;intro h;split at h
 ·rcases Jh h with h|rfl
  ·exact k2 e h
  ·exact .inr ⟨rfl,.inr (.inr (.inl ⟨.inr (.inr rfl),rfl,hm⟩))⟩
 ·exact k2 e h
theorem aza{n:Nat}{s:Node}(h:e∈BV w out n s):e∈out\/sR w n s e:=by
 unfold BV at h
 have k1:∀e∈(if s.up then out else(lY w n s).foldl (fun o v=>bR o ⟨1,n,v,mJ⟩) out),e∈out\/sR w n s e:=by
  intro e he;split at he
  ·exact .inl he
  ·rename_i hu;refine Ui _ _ (fun o v hv e he=> ?_) e he
   rcases Jh he with h|rfl
   ·exact .inl h
   ·exact .inr ⟨rfl,.inl ⟨rfl,by simpa using hu,hv,rfl⟩⟩
 revert h;generalize(if s.up then out else(lY w n s).foldl (fun o v=>bR o ⟨1,n,v,mJ⟩) out)=o1 at k1;simp only
 have k2:∀e∈(iU w.bE n).foldl (gU w n s) o1,e∈out\/sR w n s e:=by
  intro e he
  rcases Ui (Q:=sR w n s) _ _ (fun o m hm e he=>ayZ hm he) e he with h|h
  ·exact k1 e h
  ·exact .inr h
 generalize(iU w.bE n).foldl (gU w n s) o1=o2 at k2
 have k3:∀e∈(if s.up/\s.waiting<0/\0<=w.next.getD n 0 then bR o2 ⟨2,n,w.next.getD n 0,mJ⟩ else o2),e∈out\/sR w n s e:=by
  intro e he;split at he
  ·rename_i hc
   rcases Jh he with h|rfl
   ·exact k2 e h
   ·exact .inr ⟨rfl,.inr (.inl ⟨rfl,hc.1,hc.2.1,hc.2.2,rfl,rfl⟩)⟩
  ·exact k2 e he
 generalize(if s.up/\s.waiting<0/\0<=w.next.getD n 0 then bR o2 ⟨2,n,w.next.getD n 0,mJ⟩ else o2)=o3 at k3
 have k4:∀e∈(if s.up then s.timers.foldl (fun o t=>bR o ⟨4,n,t,mJ⟩) o3 else o3),e∈out\/sR w n s e:=by
  intro e he;split at he
  ·rename_i hu
   rcases Ui (Q:=sR w n s) _ _ (fun o t ht e he=>by
    rcases Jh he with h|rfl
    ·exact .inl h
    ·exact .inr ⟨rfl,.inr (.inr (.inr (.inl ⟨rfl,hu,ht,rfl⟩)))⟩) e he with h|h
   ·exact k3 e h
   ·exact .inr h
  ·exact k3 e he
 generalize(if s.up then s.timers.foldl (fun o t=>bR o ⟨4,n,t,mJ⟩) o3 else o3)=o4 at k4;intro h;split at h
 ·rename_i hc
  rcases Jh h with h|rfl
  ·exact k4 e h
  ·exact .inr ⟨rfl,.inr (.inr (.inr (.inr ⟨rfl,hc.1,hc.2,rfl,rfl⟩)))⟩
 ·exact k4 e h
theorem ajF {w:bG}:∀(l:List Node) (n:Nat) (out:List Ev) (e:Ev),e∈sg w n out l->e∈out\/∃i s,l[i]? =some s/\sR w (n+i) s e
 |[],n,out,e,h=> .inl h
 |s::l,n,out,e,h=>by
  rcases ajF l (n+1) _ e h with h1|⟨i,s',h1,h2⟩
  ·rcases aza h1 with h2|h2
   ·exact .inl h2
   ·exact .inr ⟨0,s,rfl,h2⟩
  ·exact .inr ⟨i+1,s',by simpa using h1,by rw[show n+(i+1)=n+1+i by omega];exact h2⟩
theorem Uj(h:e∈enabled w):∃n s,w.nodes[n]? =some s/\sR w n s e:=by
 rcases ajF _ _ _ _ h with h|⟨i,s,h1,h2⟩
 ·simp at h
 ·exact⟨i,s,h1,by simpa using h2⟩
theorem ajG{n:Int}(h:m∈iU l n):∃e∈l,e.msg=m/\e.kM=n:=by
 unfold iU at h;rw[dm] at h;obtain⟨e,he,rfl⟩:=h;obtain⟨h1,h2⟩:=nj.1 he;exact⟨e,h1,rfl,by simpa using h2⟩
theorem Uk(hc:iO c)(h:eK c k j w){n:Nat}{s:Node}(hs:w.nodes[n]? =some s){v:Int}(hv:v∈lY w n s):0<=v/\v<c.dR.length:=by
 have hn:n<c.first.length:=by rw[<-h.nodes];exact(bK.1 hs).1
 have hI:=h.node s (eE hs);unfold lY at hv;rw[h.cfg] at hv;split at hv
 ·simp only[oB] at hv;rw[hv,fo,cw hn];exact hc.first _ (bP hn)
 ·rename_i h0;split at hv
  ·simp only[oB] at hv;have:=hI.version;omega
  ·exact hc.qy v hv
theorem sR.ok(hc:iO c)(hk:k<=5000)(h:eK c k j w){n:Nat}{s:Node}(hs:w.nodes[n]? =some s)(he:sR w n s e):sQ e:=by
 have hn:n<c.first.length:=by rw[<-h.nodes];exact(bK.1 hs).1
 have hI:=h.node s (eE hs);have h12:=hc.CP;have h64:=hc.ayX;obtain⟨TL,he⟩:=he;refine⟨ab,ab,?_⟩
 rcases he with⟨a,b,d,m⟩|⟨a,b,d,f,g,m⟩|⟨a,b,d⟩|⟨a,b,d,m⟩|⟨a,b,d,f,m⟩
 ·have:=Uk hc h hs d;exact .inl ⟨.inl a,ab,m⟩
 ·refine .inl ⟨.inr (.inl a),⟨f,?_⟩,m⟩
  have hlt:n<w.next.length:=by rw[h.next];exact hn
  have:=h.qp _ (bP hlt);rw[fo,cw hlt] at g;have h3:=hc.fB;simp only[BI] at g;omega
 ·obtain⟨x,hx,hm,ht⟩:=ajG d;have hE:=(h.bE x hx).1;rw[hm] at hE;obtain⟨h1,h2,h3,h4,h5⟩:=hE;refine .inr (.inl ⟨ab,b,⟨ab,ab,ab,ab⟩,ab,ab⟩)
 ·have:=hI.timers _ d;exact .inl ⟨.inr (.inr a),ab,m⟩
 ·exact .inr (.inr ⟨a,f,m⟩)
theorem azb{e:Env}(h:e∈wU l x):e∈l\/e=x:=by
 unfold wU at h
 rcases fL.1 h with h|h
 ·exact .inl ((List.takeWhile_sublist _).mem h)
 ·rcases cz.1 h with h|h
  ·exact .inr h
  ·exact .inl ((List.dropWhile_sublist _).mem h)
theorem azc(l:List Env)(x:Env):(wU l x).length=l.length+1:=by
 unfold wU;have:=aG List.length (JW (p:=fun y:Env=>decide (aK y.msg.ints x.msg.ints<0)) (l:=l));rw[List.length_append] at this;rw[List.length_append,List.length_cons];omega
theorem ajH{e:Env}(h:e∈kA l x):e∈l\/e=x:=by
 unfold kA at h;split at h
 ·simp at h
 ·exact azb h
theorem ajI(l:List Env)(x:Env):(kA l x).length<=l.length+1:=by
 unfold kA;split
 ·simp
 ·rw[azc];omega
theorem ajJ:∀(m l:List Env) (e:Env),e∈m.foldl kA l->e∈l\/e∈m
 |[],l,e,h=> .inl h
 |x::m,l,e,h=>by
  rcases ajJ m _ e h with h|h
  ·rcases ajH h with h|rfl
   ·exact .inl h
   ·exact .inr ai
  ·exact .inr (by simp[h])
theorem Ul:∀(m l:List Env),(m.foldl kA l).length<=l.length+m.length
 |[],l=>ai
 |x::m,l=>by
  have:=Ul m (kA l x);have:=ajI l x;simp only[zN,List.length_cons];omega
theorem azd(l:List (Int×Int))(x:Int×Int):(si l x).length<=l.length+1:=by
 unfold si;split
 ·omega
 ·have:=aG List.length (JW (p:=fun y=>yt y x) (l:=l));rw[List.length_append] at this;rw[List.length_append,List.length_cons];omega
theorem Um:∀(m l:List (Int×Int)),(m.foldl si l).length<=l.length+m.length
 |[],l=>ai
 |x::m,l=>by
  have:=Um m (si l x);have:=azd l x;simp only[zN,List.length_cons];omega
theorem mem_set{α:Type}{l:List α}{n:Nat}{x y:α}(h:y∈l.set n x):y∈l\/y=x:=BB h
theorem xM{n:Nat}(h:n<=2147483647):bu (n:Int)=true:=by rw[vC];omega
structure aaX (N k:Nat)(node:Int)(r:Rr):Prop where
 asks:∀a∈r.asks,zo a/\a.node=node
 Co:r.asks.length<=4
 sent:∀e∈r.sent,aaV N k e.msg/\e.msg.node=node
 Un:r.sent.length<=500
 sG:∀a∈r.asks,2<=a.arity/\a.arity<=4
 Ou:r.out.asked.length<=1
theorem Ot.ajK{c:aT}(h:Ot c a)(h1:0<=c.node/\c.node<12)(h2:0<=c.handler/\c.handler<41)(h3:0<=c.count/\c.count<=2147483647):zo a/\a.node=c.node:=by
 obtain⟨a1,a2,a3,a4,a5,a6,a7,a8⟩:=h;refine⟨⟨⟨a4,⟨?_,?_,?_⟩,?_⟩,a7,a8,ab⟩,a1⟩
 ·show 0<=a.node/\a.node<12;omega
 ·show 0<=a.handler/\a.handler<41;omega
 ·show 0<=a.count/\a.count<=2147483647;omega
 ·show 0<=a.index/\a.index<=2147483647;omega
theorem ajL{j:Nat}{n:Nat}(hn:n<w.nodes.length)(Aw:n<w.traces.length)(hs:∀s∈w.nodes,jV c.dR c.ek.length k s):
  ∃t v,w.traces[n]? =some t/\DW w n=some { w with traces:=w.traces.set n (t++[v]) }:=by
 have h1:w.nodes[n]? =some w.nodes[n]:=by simp[hn]
 have h2:w.traces[n]? =some w.traces[n]:=by simp[Aw]
 obtain⟨v,hv,_⟩:=SQ (hs _ (bP hn));exact⟨_,v,h2,by unfold DW;rw[h1,h2];simp only[hv];rfl⟩
theorem ajM(h:eK c k j w){n:Nat}(hn:n<c.first.length)(hr:tW c.dR c.ek.length (k+1) c.first.length cs xx r)
  (h1:0<=cs.node/\cs.node<c.first.length) (h2:0<=cs.handler/\cs.handler<40) (h3:0<=cs.count/\cs.count<=k) (cq:r.sent.length<=500) (cM:r.bC.length<=500) (waiting:Int):
  ∃w',zX w n r waiting=some w'/\eK c (k+1) (j+1) w'/\w'.c=w.c/\w'.nodes.length=w.nodes.length:=by
 have Cl:n<w.bC.length:=by rw[h.bC];exact hn
 have kB:n<w.nodes.length:=by rw[h.nodes];exact hn
 have Aw:n<w.traces.length:=by rw[h.traces];exact hn
 unfold zX;rw[aq kB,cw Cl];simp only
 have mU:∀s∈w.nodes.set n r.s,jV c.dR c.ek.length (k+1) s:=by
  intro s hs
  rcases mem_set hs with hs|rfl
  ·exact(h.node s hs).more
  ·exact hr.s
 obtain⟨t,v,e1,e2⟩:=ajL (c:=c) (k:=k+1) (j:=j) (n:=n) (w:={ w with
    nodes:=w.nodes.set n r.s
    bE:=r.sent.foldl kA w.bE
    aJ:=if r.sb then w.aJ++[⟨true,waiting,n,r.s.fb,r.value⟩] else w.aJ
    bC:=w.bC.set n (w.bC[n]++r.bC.map fun k=>⟨r.gB,k⟩)
    covered:=(r.covered.map fun k=>(r.s.version,k)).foldl si w.covered }) (by simpa using kB) Aw mU
 rw[e2];have ht:=h.CQ t (eE e1);refine⟨_,rfl,⟨h.cfg,by simp[h.nodes],h.next,by simp[h.bC],by simp[h.traces],mU,fun e he=> ?_,?_,h.qp,?_,fun f hf=> ?_,fun f hf=> ?_,?_⟩,rfl,ai⟩
 ·rcases ajJ _ _ _ he with he|he
  ·obtain⟨⟨a1,a2,a3,a4,a5⟩,a6⟩:=h.bE e he;exact⟨⟨a1,a2,ab,a4,ab⟩,a6⟩
  ·obtain⟨a1,a2,a3,a4,a5,a6,a7,a8,a9⟩:=hr.sent e he;exact⟨⟨ab,ab,ab,a4,ab⟩,a6,a7,a8,a9⟩
 ·have:=Ul r.sent w.bE;have:=h.vW
  show(r.sent.foldl kA w.bE).length<=_
  omega
 ·have:=h.um
  show(if r.sb then w.aJ++[_] else w.aJ:List Ob).length<=_
  split
  ·simp;omega
  ·omega
 ·rcases mem_set hf with hf|rfl
  ·have:=h.Pk f hf;omega
  ·have:=h.Pk _ (bP Cl);simp;omega
 ·rcases mem_set hf with hf|rfl
  ·have:=h.CQ f hf;omega
  ·simp;exact ht
 ·have:=Um (r.covered.map fun k=>(r.s.version,k)) w.covered;have:=h.tU;have:=hr.tU;simp only[dE] at*
  show((r.covered.map fun k=>(r.s.version,k)).foldl si w.covered).length<=_
  omega
theorem tW.show{ps:List Prog}{fB N:Nat}(hr:tW ps fB (k+1) N cs xx r)(h1:0<=cs.node/\cs.node<N)(hN:N<=12)(h2:0<=cs.handler/\cs.handler<40)(h3:0<=cs.count/\cs.count<=k)(hk:k<=5000)(cq:r.sent.length<=500):aaX N (k+1) cs.node r:=
 ⟨fun a ha=>(hr.asks a ha).ajK ab ab ab,hr.Co,fun e he=>by
  obtain⟨a1,a2,a3,a4,a5,_⟩:=hr.sent e he
  exact⟨⟨ab,ab,ab,a4,ab⟩,a1⟩,cq,fun a ha=>(hr.asks a ha).2.2.2.2.2.1,hr.Ou⟩
theorem aaY(hc:iO c)(hk:k<=5000)(h:eK c k j w){n:Nat}{s:Node}(hs:w.nodes[n]? =some s)(fY:s.up=true)(hh:0<=handler/\handler<40)
  (qY:names.length=9) (dW:∀x∈names,bu x=true) (l:List aL):
  ∃w' r,uQ w n handler names l=some (w',r)/\eK c (k+1) (j+1) w'/\aaX c.first.length (k+1) n r:=by
 have hlt:=(bK.1 hs).1
 have hn:n<c.first.length:=by rw[<-h.nodes];exact hlt
 have hI:=h.node s (eE hs);have hr:=hI.run fY;have hv:=hI.version;have h12:=hc.CP;have iV:s.version.toNat<c.dR.length:=ab
 have hp:c.dR[s.version.toNat]? =some c.dR[s.version.toNat]:=by simp[iV]
 have vX:=hc.safe _ (bP iV);generalize c.dR[s.version.toNat]=p at hp vX;unfold uQ;rw[hs];simp only;rw[af ab,h.cfg,hp];simp only;obtain⟨r,e,a1,a2,a3⟩:=Ov hI hp vX fY (handler:=handler.toNat) (self:=n) (nodes:=w.nodes.length) (drift:=c.drift) (names:=names) ab (xM ab) (xM (by rw[h.nodes];omega)) hc.drift qY dW l hk;rw[e];simp only;rw[h.nodes] at a1
 have dB:handler.toNat<s.counts.length:=by rw[hI.nc];omega
 have nY:=hI.counts _ (bP dB)
 have dp:s.counts.getD handler.toNat 0=s.counts[handler.toNat]:=by rw[fo,cw dB];rfl
 rw[<-dp] at nY;have g1:(0:Int)<=(n:Int)/\(n:Int)<c.first.length:=ab;have g2:(0:Int)<=((handler.toNat:Nat):Int)/\((handler.toNat:Nat):Int)<40:=ab;obtain⟨w',e1,e2,_⟩:=ajM h hn a1 g1 g2 nY a2 a3 s.waiting;rw[e1];exact⟨w',r,rfl,e2,a1.show g1 ab g2 nY hk a2⟩
theorem eK.setNode(h:eK c k j w)(n:Nat){s:Node}(hs:jV c.dR c.ek.length k s):eK c k j (w.setNode n s):=
 { h with
  nodes:=by show(w.nodes.set n s).length=_;simp[h.nodes]
  node:=fun t ht=>by
   rcases mem_set ht with ht|rfl
   ·exact h.node t ht
   ·exact hs }
theorem eK.more(h:eK c k j w):eK c (k+1) (j+2) w:=
 { h with
  node:=fun s hs=>(h.node s hs).more
  bE:=fun e he=>by
   obtain⟨⟨a1,a2,a3,a4,a5⟩,a6⟩:=h.bE e he;exact⟨⟨a1,a2,ab,a4,ab⟩,a6⟩
  vW:=by have:=h.vW;omega
  um:=by have:=h.um;omega
  Pk:=fun f hf=>by have:=h.Pk f hf;omega
  CQ:=fun f hf=>by have:=h.CQ f hf;omega
  tU:=by have:=h.tU;omega }
theorem aaZ{e:Env}(h:e∈nw l m):e∈l:=(nj.1 h).1
theorem aba(l:List Env)(m:bQ):(nw l m).length<=l.length:=nQ _ _
theorem abb{n:Int}(h:m∈iU l n):∃e,oH l m=some e/\e∈l/\e.msg=m:=by
 obtain⟨x,hx,hm,_⟩:=ajG h
 cases hf:oH l m with
 |none=>
  have:=List.find?_eq_none.1 hf x hx;simp[hm] at this
 |some e=>
  have h1:=List.find?_some hf;exact⟨e,rfl,List.mem_of_find?_eq_some hf,by simpa using h1⟩
theorem Pm(hc:iO c)(hk:k<=5000)(h:eK c k j w)(he:e∈enabled w)(l:List aL):
  ∃w' r,yu w e l=some (w',r)/\eK c (k+1) (j+2) w'/\aaX c.first.length (k+1) e.node r:=by
 obtain⟨n,s,hs,IP⟩:=Uj he;have hlt:=(bK.1 hs).1
 have hn:n<c.first.length:=by rw[<-h.nodes];exact hlt
 have hI:=h.node s (eE hs);have h12:=hc.CP;obtain⟨mU,Ox⟩:=IP
 have bump:∀{w'},eK c (k+1) (j+1) w'->eK c (k+1) (j+2) w':=fun h=>{ h with um:=by have:=h.um;omega }
 unfold yu;rw[mU,af ab];simp only[fJ,hs]
 rcases Ox with⟨a,b,d,m⟩|⟨a,b,d,f,g,m⟩|⟨a,b,d⟩|⟨a,b,d,m⟩|⟨a,b,d,f,m⟩
 ·have hv:=Uk hc h hs d;have iV:e.arg.toNat<c.dR.length:=ab
  have hp:c.dR[e.arg.toNat]? =some c.dR[e.arg.toNat]:=by simp[iV]
  have vX:=hc.safe _ (bP iV);generalize c.dR[e.arg.toNat]=p at hp vX;rw[aq a,af ab,h.cfg,hp];simp only;obtain⟨r,e1,a1,a2,a3⟩:=YL hI hv hp vX (self:=n) (nodes:=w.nodes.length) (drift:=c.drift) (xM ab) (xM (by rw[h.nodes];omega)) hc.drift l hk;rw[e1];simp only;rw[h.nodes] at a1
  have dB:0<s.counts.length:=by rw[hI.nc];omega
  have nY:=hI.counts _ (bP dB)
  have dp:s.counts.getD 0 0=s.counts[0]:=by rw[fo,cw dB];rfl
  rw[<-dp] at nY;have g1:(0:Int)<=(n:Int)/\(n:Int)<c.first.length:=ab;obtain⟨w',e2,e3,_⟩:=ajM h hn a1 g1 ai nY a2 a3 (-1);rw[e2];exact⟨w',r,rfl,bump e3,a1.show g1 ab ai nY hk a2⟩
 ·have ju:n<w.next.length:=by rw[h.next];exact hn
  rw[fo,cw ju,BI] at g;have hx:=h.qp _ (bP ju);rw[<-g] at hx;have fC:e.arg.toNat<c.ek.length:=ab
  have hq:c.ek[e.arg.toNat]? =some c.ek[e.arg.toNat]:=by simp[fC]
  have CS:=hc.req _ (bP fC);generalize c.ek[e.arg.toNat]=q at hq CS;rw[af ab,aq a,af ab,h.cfg,hq];simp only;rw[aq ju];have aze:=hc.fB
  have h1:eK c k (j+1) { w with aJ:=w.aJ++[(⟨false,e.arg,n,s.fb,0⟩:Ob)],next:=w.next.set n (after c n e.arg) }:=
   { h with
    next:=by show(w.next.set n _).length=_;simp[h.next]
    qp:=fun x hx=>by
     rcases mem_set hx with hx|rfl
     ·exact h.qp x hx
     ·exact Uh _ _ _
    um:=by have:=h.um;show(w.aJ++[_]).length<=_;simp;exact this }
  have pO:jV c.dR c.ek.length k { s with waiting:=e.arg }:={ hI with waiting:=by show -1<=e.arg/\e.arg<_;omega }
  have h2:=h1.setNode n pO
  obtain⟨w',r,e1,e2,e3⟩:=aaY hc hk h2 (n:=n) (s:={ s with waiting:=e.arg }) (by show(w.nodes.set n _)[n]? =_;simp[hlt]) b (handler:=1) ab (names:=[0,0,0,0,q.arg,0,e.arg,q.op,q.key]) rfl (fun x hx=>by
   simp only[cz,jD,kL] at hx
   rcases hx with rfl|rfl|rfl|rfl|rfl|rfl|rfl|rfl|rfl
   any_goals decide
   ·exact CS.2.2
   ·rw[vC];omega
   ·exact CS.1
   ·exact CS.2.1) l
  rw[h.cfg] at e1;exact⟨w',r,e1,e2,e3⟩
 ·obtain⟨x,hf,hx,hm⟩:=abb d;have zp:=h.bE x hx
  have cM:∀e'∈nw w.bE e.msg,Ug c.first.length k e':=fun e' Ji=>h.bE e' (aaZ Ji)
  have h1:eK c k j { w with bE:=nw w.bE e.msg }:={ h with bE:=cM,vW:=by have:=aba w.bE e.msg;have:=h.vW;show(nw w.bE e.msg).length<=_;omega }
  have hd:=hI.dropped;have hdb:=hI.dY
  rcases a with⟨a,hu⟩|a|a
  ·rw[af ab,af ab,aq a,hf];simp only
   obtain⟨w',r,e1,e2,e3⟩:=aaY hc hk h1 (n:=n) (s:=s) hs hu (handler:=10+x.kind) (by have:=zp.2.2.1;omega) (names:=[0,0,0,x.msg.node,x.a,x.b,0,0,0]) rfl (fun y hy=>by
    simp only[cz,jD,kL] at hy
    rcases hy with rfl|rfl|rfl|rfl|rfl|rfl|rfl|rfl|rfl
    any_goals decide
    ·rw[vC];have:=zp.1.1;omega
    ·exact zp.2.2.2.1
    ·exact zp.2.2.2.2) l
   exact⟨w',r,e1,bump e2,e3⟩
  ·rw[af ab,af ab,af ab,af ab,aq a]
   have iN:jV c.dR c.ek.length (k+1) { s with dropped:=s.dropped+1 }:={ hI.more with dropped:=by show 0<=s.dropped+1/\s.dropped+1<=_;omega }
   exact⟨_,_,rfl,h1.more.setNode n iN,⟨fun a ha=>by simp[sj] at ha,by simp[sj],fun a ha=>by simp[sj] at ha,by simp[sj],fun a ha=>by simp[sj] at ha,au⟩⟩
  ·rw[af ab,af ab,af ab,af ab,af ab,aq a]
   have iN:jV c.dR c.ek.length (k+1) { s with dY:=s.dY+1 }:={ hI.more with dY:=by show 0<=s.dY+1/\s.dY+1<=_;omega }
   have Me:(∀e'∈sf w.bE e.msg (s.dY+1),Ug c.first.length (k+1) e')/\(sf w.bE e.msg (s.dY+1)).length<=w.bE.length+1:=by
    unfold sf;rw[hf];simp only;refine⟨fun e' Ji=> ?_,ajI _ _⟩
    rcases ajH Ji with Ji|rfl
    ·exact h.more.bE e' Ji
    ·obtain⟨⟨a1,a2,a3,a4,a5⟩,a6⟩:=zp;exact⟨⟨a1,a2,by show 0<=x.msg.count/\x.msg.count<=_;omega,a4,by show 0<=s.dY+1/\s.dY+1<=_;omega⟩,a6⟩
   have h2:eK c (k+1) (j+2) { w with bE:=sf w.bE e.msg (s.dY+1) }:={ h.more with bE:=Me.1,vW:=by have:=Me.2;have:=h.vW;show(sf w.bE e.msg (s.dY+1)).length<=_;omega }
   exact⟨_,_,rfl,h2.setNode n iN,⟨fun a ha=>by simp[sj] at ha,by simp[sj],fun a ha=>by simp[sj] at ha,by simp[sj],fun a ha=>by simp[sj] at ha,au⟩⟩
 ·have ht:=hI.timers _ d;rw[af ab,af ab,af ab,aq a]
  have pO:jV c.dR c.ek.length k { s with timers:=s.timers.filter fun t=>decide (t≠e.arg) }:={ hI with timers:=fun t ht=>hI.timers t (nj.1 ht).1,vE:=bj (nQ _ _) hI.vE }
  obtain⟨w',r,e1,e2,e3⟩:=aaY hc hk (h.setNode n pO) (n:=n) (s:={ s with timers:=s.timers.filter fun t=>decide (t≠e.arg) }) (by show(w.nodes.set n _)[n]? =_;simp[hlt]) b (handler:=2+e.arg) ab (names:=adY) rfl (fun x hx=>by
   rw[FV hx];decide) l
  exact⟨w',r,e1,bump e2,e3⟩
 ·rw[af ab,af ab,af ab,af ab,af ab,af ab];obtain⟨r,e1,a1,a2,a3⟩:=YM hI (n:Int) (c.first.length:Int) l;rw[e1];simp only
  have dB:40<s.counts.length:=by rw[hI.nc];omega
  have nY:=hI.counts _ (bP dB)
  have dp:s.counts.getD 40 0=s.counts[40]:=by rw[fo,cw dB];rfl
  rw[<-dp] at nY;have h1:=h.more.setNode n a1.s
  have vN:r.sent=[]:=by
   unfold se at e1;split at e1
   ·cases e1
   ·simp only[bO] at e1;obtain⟨d,_,rfl⟩:=e1;rfl
  obtain⟨t,v,e2,e3⟩:=ajL (c:=c) (k:=k+1) (j:=j) (n:=n) (w:=w.setNode n r.s) (by show n<(w.nodes.set n r.s).length;simpa using hlt) (by show n<w.traces.length;rw[h.traces];exact hn) h1.node;rw[e3];have ht:=h.CQ t (eE e2);refine⟨_,r,rfl,{ h1 with traces:=by show(w.traces.set n _).length=_;simp[h.traces],CQ:=fun f hf=> ?_ },⟨fun a ha=>(a1.asks a ha).ajK (by show 0<=(n:Int)/\(n:Int)<12;omega) ai (by show 0<=s.counts.getD 40 0/\s.counts.getD 40 0<=2147483647;omega),a1.Co,fun e he=>by rw[vN] at he;simp at he,a2,fun a ha=>(a1.asks a ha).2.2.2.2.2.1,a1.Ou⟩⟩
  rcases mem_set hf with hf|rfl
  ·have:=h.CQ f hf;omega
  ·simp;exact ht
structure Uo (N k:Nat)(s:ay):Prop where
 ev:sQ s.ev
 asks:∀a∈s.asks,zo a/\a.node=s.ev.node
 Co:s.asks.length<=4
 sent:∀m∈s.sent,aaV N k m/\m.node=s.ev.node
 Un:s.sent.length<=500
 sG:∀a∈s.asks,2<=a.arity/\a.arity<=4
theorem Fj(hc:iO c)(hk:k<5000)(h:eK c k j w)(hs:w.steps=k)(he:e∈enabled w)(l:List aL):
  ∃w' s,mK w e l=some (some (w',s))/\eK c (k+1) (j+2) w'/\w'.steps=k+1/\Uo c.first.length (k+1) s/\s.ev=e:=by
 obtain⟨n,nd,h1,h2⟩:=Uj he;have bT:=h2.ok hc ab h h1;obtain⟨w',r,e1,e2,e3⟩:=Pm hc ab h he l;refine⟨{ w' with steps:=w.steps+1 },⟨e,r.asks,decide (w.aJ.length<w'.aJ.length),r.sent.map Env.msg⟩,?_,{ e2 with },by simp[hs],⟨bT,e3.asks,e3.Co,fun m hm=> ?_,by show(r.sent.map Env.msg).length<=500;simpa using e3.Un,e3.sG⟩,rfl⟩
 ·unfold mK;rw[af ab,aq he,e1];rfl
 ·simp only[dm] at hm;obtain⟨x,hx,rfl⟩:=hm;exact e3.sent x hx
def zT.asked:zT->List Int
 | .go o _ _=>o.asked
 | .stop o=>o.asked
theorem azf{dH:Int}{op n:Int}{pc:Int}{r:zT}(h:kv dH names answers op n o st pc=some r):o.asked<+:r.asked:=by
 have one:∀r':zT,o.asked<+:r'.asked->some r'=some r->o.asked<+:r.asked:=fun r' h1 h2=>by cases h2;exact h1
 have mp:∀(x:Option Int) (f:Int->zT),(∀v,o.asked<+:(f v).asked)->x.map f=some r->o.asked<+:r.asked:=fun x f h1 h2=>by
  rw[bO] at h2;obtain⟨v,_,rfl⟩:=h2;exact h1 v
 unfold kv at h;by_cases o1:op=1
 ·rw[aq o1] at h;exact one _ (iJ _) h
 rw[af o1] at h;by_cases o2:op=2
 ·rw[aq o2] at h
  (repeat' split at h)<;>first|(cases h;done)|exact one _ (iJ _) h|exact one _ (wJ _ _) h|exact mp _ _ (fun v=>iJ _) h
 rw[af o2] at h;by_cases o4:op=4
 ·rw[aq o4] at h
  (repeat' split at h)<;>first|(cases h;done)|exact one _ (iJ _) h|exact one _ (wJ _ _) h|exact mp _ _ (fun v=>iJ _) h
 rw[af o4] at h;by_cases o3:op=3
 ·rw[aq o3] at h
  (repeat' split at h)<;>first|(cases h;done)|exact one _ (iJ _) h|exact one _ (wJ _ _) h|exact mp _ _ (fun v=>iJ _) h
 rw[af o3] at h;by_cases o5:op=5
 ·rw[aq o5] at h
  (repeat' split at h)<;>first|(cases h;done)|exact one _ (iJ _) h|exact one _ (wJ _ _) h|exact mp _ _ (fun v=>iJ _) h
 rw[af o5] at h;by_cases o6:op=6\/op=7\/op=8\/op=9\/op=11\/op=12\/op=13
 ·rw[aq o6] at h
  (repeat' split at h)<;>first|(cases h;done)|exact one _ (iJ _) h|exact one _ (wJ _ _) h|exact mp _ _ (fun v=>iJ _) h
 rw[af o6] at h;by_cases o10:op=10
 ·rw[aq o10] at h
  (repeat' split at h)<;>first|(cases h;done)|exact one _ (iJ _) h|exact one _ (wJ _ _) h|exact mp _ _ (fun v=>iJ _) h
 rw[af o10] at h;by_cases o14:op=14
 ·rw[aq o14] at h
  (repeat' split at h)<;>first|(cases h;done)|exact one _ (iJ _) h|exact one _ (wJ _ _) h|exact mp _ _ (fun v=>iJ _) h
 rw[af o14] at h;by_cases o15:op=15
 ·rw[aq o15] at h;exact one _ (iJ _) h
 rw[af o15] at h;by_cases o16:op=16
 ·rw[aq o16] at h
  (repeat' split at h)<;>first|(cases h;done)|exact one _ (iJ _) h|exact one _ (wJ _ _) h|exact mp _ _ (fun v=>iJ _) h
 rw[af o16] at h;by_cases o17:op=17
 ·rw[aq o17] at h
  (repeat' split at h)<;>first|(cases h;done)|exact one _ (iJ _) h|exact one _ (wJ _ _) h|exact mp _ _ (fun v=>iJ _) h
 rw[af o17] at h;by_cases o18:op=18
 ·rw[aq o18] at h;exact one _ (iJ _) h
 rw[af o18] at h;by_cases o19:op=19
 ·rw[aq o19] at h;exact one _ (iJ _) h
 rw[af o19] at h;by_cases o20:op=20
 ·rw[aq o20] at h;exact one _ (iJ _) h
 rw[af o20] at h;by_cases o21:op=21
 ·rw[aq o21] at h
  (repeat' split at h)<;>first|(cases h;done)|exact one _ (iJ _) h|exact one _ (wJ _ _) h|exact mp _ _ (fun v=>iJ _) h
 rw[af o21] at h;by_cases o22:op=22
 ·rw[aq o22] at h
  (repeat' split at h)<;>first|(cases h;done)|exact one _ (iJ _) h|exact one _ (wJ _ _) h|exact mp _ _ (fun v=>iJ _) h
 rw[af o22] at h;exact one _ (iJ _) h
theorem ajN{pc:Int}{r:zT}(h:rZ p names answers o st pc=some r):o.asked<+:r.asked:=by
 unfold rZ at h;split at h
 ·cases h
 ·split at h
  ·cases h
  ·exact azf (o:={ o with covered:=nV o.covered pc,steps:=o.steps+1 }) h
theorem abc {p:Prog}{names answers:List Int}:∀(f:Nat) (o:eP) (st:List Int) (pc:Int) (o':eP),qw p names answers f o st pc=some o'->o.asked<+:o'.asked
 |0,o,st,pc,o',h=>by
  simp only[qw,aA] at h;subst h;exact iJ _
 |f+1,o,st,pc,o',h=>by
  unfold qw at h;split at h
  ·cases h
  ·rename_i o1 hs;simp only[aA] at h;subst h;exact ajN hs
  ·rename_i o1 st1 pc1 hs;exact List.IsPrefix.trans (ajN hs) (abc f o1 st1 pc1 o' h)
theorem ajO{l m:List Int}(h:l<+:m)(hl:l≠[])(hm:m.length<=1):m=l:=
 (h.eq_of_length (by have:=h.length_le;have:0<l.length:=Dy.2 hl;omega)).symm
theorem azg(p:Prog)(names a1 a2:List Int)(o:eP)(st:List Int)(pc:Int):rZ p names a1 o st pc=rZ p names a2 o st pc\/
  ∃q s1 s2 Ie,rZ p names a1 o st pc=some (.go q s1 Ie)/\rZ p names a2 o st pc=some (.go q s2 Ie)/\q.asked≠[]:=by
 unfold rZ;split
 ·exact .inl rfl
 ·split
  ·exact .inl rfl
  ·rename_i op n _;by_cases h5:op=5
   ·subst h5
    cases st with
    |nil=>exact .inl rfl
    |cons x r=>
     by_cases hx:1<max 1 (min x 4)
     ·right;refine⟨{ o with covered:=nV o.covered pc,steps:=o.steps+1,asked:=o.asked++[max 1 (min x 4)] },uM a1 o.asked.length (max 1 (min x 4))::r,uM a2 o.asked.length (max 1 (min x 4))::r,pc+1,?_,?_,?_⟩
      ·show(if 1<max 1 (min x 4) then _ else _)=_
       rw[aq hx]
      ·show(if 1<max 1 (min x 4) then _ else _)=_
       rw[aq hx]
      ·simp
     ·left
      show(if 1<max 1 (min x 4) then _ else _)=(if 1<max 1 (min x 4) then _ else _)
      rw[af hx,af hx]
   ·left;unfold kv;simp only[af h5]
theorem ajP {p:Prog}{names a1 a2:List Int}:∀(f:Nat) (o:eP) (st:List Int) (pc:Int) (o1 o2:eP),qw p names a1 f o st pc=some o1->qw p names a2 f o st pc=some o2->o1.asked.length<=1->o2.asked.length<=1->o1.asked=o2.asked
 |0,o,st,pc,o1,o2,h1,h2,_,_=>by
  simp only[qw,aA] at h1 h2;rw[<-h1,<-h2]
 |f+1,o,st,pc,o1,o2,h1,h2,g1,g2=>by
  unfold qw at h1 h2
  rcases azg p names a1 a2 o st pc with e|⟨q,s1,s2,Ie,e1,e2,hq⟩
  ·rw[e] at h1;generalize rZ p names a2 o st pc=r at h1 h2
   match r with
   |none=>cases h1
   |some (.stop o')=>
    simp only[aA] at h1 h2;rw[<-h1,<-h2]
   |some (.go o' st' Ie)=>exact ajP f o' st' Ie o1 o2 h1 h2 g1 g2
  ·rw[e1] at h1;rw[e2] at h2;rw[ajO (abc _ _ _ _ _ h1) hq g1,ajO (abc _ _ _ _ _ h2) hq g2]
theorem ajQ{handler:Nat}{vars a1 a2:List Int}{o1 o2:eP}(h1:yn p handler vars names a1=some o1)(h2:yn p handler vars names a2=some o2)(g1:o1.asked.length<=1)(g2:o2.asked.length<=1):o1.asked=o2.asked:=by
 unfold yn at h1 h2
 cases he:p.entry[handler]? with
 |none=>rw[he] at h1;cases h1
 |some e=>
  rw[he] at h1 h2;dsimp only at h1 h2;split at h1
  ·rename_i qZ;rw[aq qZ] at h2;simp only[aA] at h1 h2;rw[<-h1,<-h2]
  ·rename_i qZ;rw[af qZ] at h2;exact ajP _ _ _ _ _ _ h1 h2 g1 g2
theorem ajR (q:Qn):∀(l:List aL) (m:Int),(∀y∈l,y.q≠q)->l.foldl (fun n a=>if a.q=q then max 0 a.n else n) m=m
 |[],m,_=>rfl
 |a::l,m,h=>by
  rw[zN,af (h a ai)]
  exact ajR q l m fun y hy=>h y (by simp[hy])
theorem azh{n:Int}(h:∀y∈l2,y.q≠q):eO (l1++⟨q,n⟩::l2) q=max 0 n:=by
 unfold eO;rw[zL,zN,aq rfl,ajR _ _ _ h]
theorem Mf{n k:Int}(h:∀y∈l2,y.q≠q)(h0:0<=n)(hk:n<k):fX (l1++⟨q,n⟩::l2) q k=n:=by
 unfold fX;rw[azh h,show max 0 n=n by omega,Int.tmod_eq_of_lt h0 hk]
theorem azi(q:Qn)(k n:Int):(ig q k n).qn=q:=rfl
theorem azj{r':Rr}{a:fW}(h:uO r a=some r'):r'.asks=r.asks/\r'.out=r.out:=by
 unfold uO at h
 repeat' split at h
 all_goals first
  |(simp only[bO] at h;obtain⟨d,_,rfl⟩:=h;exact⟨rfl,rfl⟩)
  |(simp only[aA] at h;subst h;exact⟨rfl,rfl⟩)
theorem ajS:∀{l:List fW} {r r':Rr},uP r l=some r'->r'.asks=r.asks/\r'.out=r.out
 |[],r,r',h=>by
  simp only[uP,aA] at h;subst h;exact⟨rfl,rfl⟩
 |a::l,r,r',h=>by
  unfold uP at h;split at h
  ·cases h
  ·rename_i r1 h1;have g:=azj h1;have g2:=ajS h;exact⟨g2.1.trans g.1,g2.2.trans g.2⟩
def sS (_s:Node)(self:Int)(handler:Nat)(k drift:Int)(l:List aL):Int:=if 0<drift then fX l (aT.qn ⟨self,handler,k⟩ 2 0) (drift+1) else 0
theorem ajT{s:Node}{handler:Nat}{l:List aL}(h:po s p handler self nodes drift names l=some r):
  ∃k vars,s.counts[handler]? =some k/\zV s=some vars/\yn p handler vars (yq names self nodes (s.clock+1+sS s self handler k drift l)) (uN l ⟨self,handler,k⟩)=some r.out/\
   r.asks=(if 0<drift then [ig (aT.qn ⟨self,handler,k⟩ 2 0) (drift+1) (sS s self handler k drift l)] else [])++kz l ⟨self,handler,k⟩ 0 r.out.asked:=by
 unfold po at h;split at h
 ·cases h
 rename_i k hk;dsimp only at h;split at h
 ·cases h
 rename_i vars hv;split at h
 ·cases h
 rename_i o ho;split at h
 ·have g:=ajS h;rw[show r.out=o from g.2];exact⟨k,vars,hk,hv,ho,g.1⟩
 ·cases h
theorem azk{s:Node}{handler:Nat}(h0:po s p handler self nodes drift names l0=some r0)
  {m:Int} (e:r0.asks=pr++a::rest) (hm:0<=m/\m<a.arity) (h1:po s p handler self nodes drift names (pr.map gH++[⟨a.qn,m⟩])=some r1)
  (g0:r0.out.asked.length<=1) (g1:r1.out.asked.length<=1):∃sT,r1.asks=pr++{ a with n:=m }::sT:=by
 obtain⟨k,vars,a1,a2,a3,a4⟩:=ajT h0;obtain⟨k',vars',b1,b2,b3,b4⟩:=ajT h1;rw[a1] at b1;rw[a2] at b2;cases b1;cases b2;rw[e] at a4
 have dr:∀(l:List aL) (x:List Int),x.length<=1->x=[]\/∃j,x=[j]/\kz l ⟨self,handler,k⟩ 0 x=[ig (aT.qn ⟨self,handler,k⟩ 1 0) j (fX l (aT.qn ⟨self,handler,k⟩ 1 0) j)]:=fun l x hx=>by
  match x,hx with
  |[],_=>exact .inl rfl
  |[j],_=>exact .inr ⟨j,rfl,rfl⟩
 have azl:∀n:Int,(⟨aT.qn ⟨self,handler,k⟩ 1 0,n⟩:aL).q≠aT.qn ⟨self,handler,k⟩ 2 0:=fun n hh=>by
  have:=aG Qn.kind hh;simp[aT.qn] at this
 by_cases hd:0<drift
 ·rw[aq hd] at a4 b4
  cases pr with
  |nil=>
   simp only[List.nil_append,List.cons_append] at a4;injection a4 with c1 c2;subst c1
   have ht:sS s self handler k drift ([].map gH++[⟨aT.qn ⟨self,handler,k⟩ 2 0,m⟩])=m:=by
    unfold sS;rw[aq hd];exact Mf (l1:=[]) (l2:=[]) (fun y hy=>by simp at hy) hm.1 hm.2
   rw[azi] at b4;rw[ht] at b4;exact⟨_,by rw[b4];rfl⟩
  |cons t pr=>
   simp only[List.nil_append,List.cons_append] at a4;injection a4 with c1 c2
   rcases dr l0 r0.out.asked g0 with hx|⟨j,hx,hy⟩
   ·rw[hx] at c2;cases pr<;>simp[kz] at c2
   ·rw[hy] at c2
    cases pr with
    |cons t' pr=>cases pr<;>simp at c2
    |nil=>
     simp only[List.nil_append] at c2;injection c2 with c2 c3;subst c1;subst c2;have hb:=Ig l0 (aT.qn ⟨self,handler,k⟩ 2 0) (show 0<drift+1 by omega)
     have db:sS s self handler k drift l0=fX l0 (aT.qn ⟨self,handler,k⟩ 2 0) (drift+1):=by unfold sS;rw[aq hd]
     rw[<-db] at hb;have abd:List.map gH [ig (aT.qn ⟨self,handler,k⟩ 2 0) (drift+1) (sS s self handler k drift l0)]++[⟨(ig (aT.qn ⟨self,handler,k⟩ 1 0) j (fX l0 (aT.qn ⟨self,handler,k⟩ 1 0) j)).qn,m⟩]=[(⟨aT.qn ⟨self,handler,k⟩ 2 0,sS s self handler k drift l0⟩:aL),⟨aT.qn ⟨self,handler,k⟩ 1 0,m⟩]:=rfl;rw[abd] at b3 b4
     have ht:sS s self handler k drift [(⟨aT.qn ⟨self,handler,k⟩ 2 0,sS s self handler k drift l0⟩:aL),⟨aT.qn ⟨self,handler,k⟩ 1 0,m⟩]=sS s self handler k drift l0:=by
      show(if 0<drift then fX _ _ _ else 0)=_
      rw[aq hd]
      exact Mf (l1:=[]) (l2:=[⟨aT.qn ⟨self,handler,k⟩ 1 0,m⟩]) (fun y hy=>by
       simp only[oB] at hy;subst hy
       exact azl m) hb.1 hb.2
     rw[ht] at b3 b4;have hs:=ajQ b3 a3 g1 g0;rw[hs,hx] at b4
     have hl:fX [(⟨aT.qn ⟨self,handler,k⟩ 2 0,sS s self handler k drift l0⟩:aL),⟨aT.qn ⟨self,handler,k⟩ 1 0,m⟩] (aT.qn ⟨self,handler,k⟩ 1 0) j=m:=
      Mf (l1:=[⟨aT.qn ⟨self,handler,k⟩ 2 0,sS s self handler k drift l0⟩]) (l2:=[]) (fun y hy=>by simp at hy) hm.1 hm.2
     refine⟨[],?_⟩;rw[b4]
     show [_]++[ig (aT.qn ⟨self,handler,k⟩ 1 0) j (fX _ (aT.qn ⟨self,handler,k⟩ 1 0) j)]=_
     rw[hl];rfl
 ·rw[af hd,List.nil_append] at a4 b4
  rcases dr l0 r0.out.asked g0 with hx|⟨j,hx,hy⟩
  ·rw[hx] at a4;cases pr<;>simp[kz] at a4
  ·rw[hy] at a4
   cases pr with
   |cons t' pr=>cases pr<;>simp at a4
   |nil=>
    simp only[List.nil_append] at a4;injection a4 with c2 c3;subst c2;have abd:List.map gH []++[⟨(ig (aT.qn ⟨self,handler,k⟩ 1 0) j (fX l0 (aT.qn ⟨self,handler,k⟩ 1 0) j)).qn,m⟩]=[(⟨aT.qn ⟨self,handler,k⟩ 1 0,m⟩:aL)]:=rfl;rw[abd] at b3 b4
    have ht:∀l,sS s self handler k drift l=0:=fun l=>by unfold sS;rw[af hd]
    rw[ht] at a3 b3;have hs:=ajQ b3 a3 g1 g0;rw[hs,hx] at b4
    have hl:fX [(⟨aT.qn ⟨self,handler,k⟩ 1 0,m⟩:aL)] (aT.qn ⟨self,handler,k⟩ 1 0) j=m:=
     Mf (l1:=[]) (l2:=[]) (fun y hy=>by simp at hy) hm.1 hm.2
    refine⟨[],?_⟩;rw[b4]
    show [ig (aT.qn ⟨self,handler,k⟩ 1 0) j (fX _ (aT.qn ⟨self,handler,k⟩ 1 0) j)]=_
    rw[hl];rfl
theorem ajU{s:Node}{l:List aL}(h:se s self l=some r):∃k,s.counts[40]? =some k/\r.asks=mI l ⟨self,40,k⟩ s.aZ.pending.length:=by
 unfold se at h;split at h
 ·cases h
 rename_i k hk;simp only[bO] at h;obtain⟨d,_,rfl⟩:=h;exact⟨k,hk,rfl⟩
theorem Up(l:List aL)(c:aT)(n i:Nat)(h:i<n):(mI l c n)[i]? =some (ig (c.qn 3 i) 2 (fX l (c.qn 3 i) 2)):=by
 unfold mI;simp[h]
theorem azm{s:Node}(h0:se s self l0=some r0){m:Int}(e:r0.asks=pr++a::rest)(hm:0<=m/\m<a.arity)
  (h1:se s self (pr.map gH++[⟨a.qn,m⟩])=some r1):∃sT,r1.asks=pr++{ a with n:=m }::sT:=by
 obtain⟨k,a1,a2⟩:=ajU h0;obtain⟨k',b1,b2⟩:=ajU h1;rw[a1] at b1;cases b1;rw[e] at a2;generalize s.aZ.pending.length=n at a2 b2
 have hlen:pr.length+(rest.length+1)=n:=by
  have:=aG List.length a2;simpa [mI] using this
 have hp:∀i,i<pr.length->pr[i]? =some (ig (aT.qn ⟨self,40,k⟩ 3 i) 2 (fX l0 (aT.qn ⟨self,40,k⟩ 3 i) 2)):=fun i hi=>by
  rw[<-Up l0 ⟨self,40,k⟩ n i ab,<-a2,lT hi]
 have ha:a=ig (aT.qn ⟨self,40,k⟩ 3 pr.length) 2 (fX l0 (aT.qn ⟨self,40,k⟩ 3 pr.length) 2):=by
  have:=Up l0 ⟨self,40,k⟩ n pr.length ab;rw[<-a2,iR ax,Nat.sub_self] at this;simpa using this
 have hne:∀(i j:Nat) (x y:Int),i≠j->(⟨aT.qn ⟨self,40,k⟩ 3 j,x⟩:aL).q≠aT.qn ⟨self,40,k⟩ 3 i:=fun i j x y Ad hh=>by
  have:=aG Qn.index hh;simp[aT.qn] at this;omega
 have uR:∀i,i<pr.length->fX (pr.map gH++[⟨a.qn,m⟩]) (aT.qn ⟨self,40,k⟩ 3 i) 2=fX l0 (aT.qn ⟨self,40,k⟩ 3 i) 2:=fun i hi=>by
  have hx:=hp i hi;have hb:=Ig l0 (aT.qn ⟨self,40,k⟩ 3 i) (show(0:Int)<2 by omega)
  have Pg:pr.map gH++[⟨a.qn,m⟩]=(pr.take i).map gH++(⟨aT.qn ⟨self,40,k⟩ 3 i,fX l0 (aT.qn ⟨self,40,k⟩ 3 i) 2⟩:aL)::((pr.drop (i+1)).map gH++[⟨a.qn,m⟩]):=by
   have h3:pr=pr.take i++ig (aT.qn ⟨self,40,k⟩ 3 i) 2 (fX l0 (aT.qn ⟨self,40,k⟩ 3 i) 2)::pr.drop (i+1):=by
    obtain⟨hi',su⟩:=bK.1 hx
    conv=>lhs;rw[<-List.take_append_drop i pr,List.drop_eq_getElem_cons hi',su]
   conv=>lhs;rw[h3]
   rw[de,dF,List.append_assoc,List.cons_append];rfl
  rw[Pg];refine Mf (fun y hy=> ?_) hb.1 hb.2
  rcases fL.1 hy with hy|hy
  ·rw[dm] at hy;obtain⟨z,hz,rfl⟩:=hy;obtain⟨j,hj,rfl⟩:=FZ.1 hz;simp only[lU] at hj;have hzj:=hp (i+1+j) ab;rw[List.getElem_drop];rw[cw ab] at hzj;simp only[aA] at hzj;rw[hzj];exact hne i (i+1+j) _ 0 ab
  ·simp only[oB] at hy;subst hy;rw[ha];exact hne i pr.length m 0 ab
 have Mg:fX (pr.map gH++[⟨a.qn,m⟩]) (aT.qn ⟨self,40,k⟩ 3 pr.length) 2=m:=by
  have h2:a.arity=2:=by rw[ha];rfl
  rw[show a.qn=aT.qn ⟨self,40,k⟩ 3 pr.length by rw[ha];rfl];exact Mf (fun y hy=>by simp at hy) hm.1 ab
 refine⟨r1.asks.drop (pr.length+1),?_⟩;apply yj;intro i;rw[b2];by_cases hi:i<pr.length
 ·rw[Up _ _ _ _ ab,lT hi,uR i hi,hp i hi]
 ·by_cases GC:i=pr.length
  ·subst GC;rw[Up _ _ _ _ ab,iR ax,Nat.sub_self,Mg,ha];rfl
  ·rw[iR ab,show i-pr.length=(i-pr.length-1)+1 by omega,FW,oA];congr 1;omega
theorem ajV{n:Nat}{l:List aL}(h:uQ w n handler names l=some (w',r)):
  ∃s p,w.nodes[n]? =some s/\w.c.dR[s.version.toNat]? =some p/\po s p handler.toNat n w.nodes.length w.c.drift names l=some r:=by
 unfold uQ at h;split at h
 ·cases h
 rename_i s hs;split at h
 ·cases h
 split at h
 ·cases h
 rename_i p hp;split at h
 ·cases h
 rename_i r' hr;simp only[bO,jE] at h;obtain⟨_,_,_,rfl⟩:=h;exact⟨s,p,hs,hp,hr⟩
theorem abe{n:Nat}(h0:uQ w n handler names l0=some (w0,r0))(h1:uQ w n handler names l1=some (w1,r1)):
  ∃s p hd self nodes drift nm,po s p hd self nodes drift nm l0=some r0/\po s p hd self nodes drift nm l1=some r1:=by
 obtain⟨s,p,a1,a2,a3⟩:=ajV h0;obtain⟨s',p',b1,b2,b3⟩:=ajV h1;rw[a1] at b1;cases b1;rw[a2] at b2;cases b2;exact⟨_,_,_,_,_,_,_,a3,b3⟩
theorem azn(h0:yu w e l0=some (w0,r0))(h1:yu w e l1=some (w1,r1)):
  r0.asks=[]\/(∃s p hd self nodes drift nm,po s p hd self nodes drift nm l0=some r0/\po s p hd self nodes drift nm l1=some r1)\/∃s self,se s self l0=some r0/\se s self l1=some r1:=by
 unfold yu at h0 h1;by_cases hn:e.node<0
 ·rw[aq hn] at h0;cases h0
 rw[af hn] at h0 h1
 cases hs:w.nodes[e.node.toNat]? with
 |none=>simp only[hs] at h0;cases h0
 |some s=>
  simp only[hs] at h0 h1;by_cases k1:e.kind=1
  ·rw[aq k1] at h0 h1;by_cases ha:e.arg<0
   ·rw[aq ha] at h0;cases h0
   rw[af ha] at h0 h1
   cases hp:w.c.dR[e.arg.toNat]? with
   |none=>simp only[hp] at h0;cases h0
   |some p=>
    simp only[hp] at h0 h1
    have key:∀{l:List aL} {w':bG} {r:Rr},(match BU s p e.arg (e.node.toNat) w.nodes.length w.c.drift l with
      |none=>none
      |some r=>(zX w e.node.toNat r (-1)).map fun w=>(w,r))=some (w',r)->BU s p e.arg (e.node.toNat) w.nodes.length w.c.drift l=some r:=fun {l w' r} h=>by
     split at h
     ·cases h
     rename_i r' hr;simp only[bO,jE] at h;obtain⟨_,_,_,rfl⟩:=h;exact hr
    have e0:=key h0;have e1:=key h1;unfold BU at e0 e1;by_cases hb:p.dH<0\/p.jF<0
    ·rw[aq hb] at e0;cases e0
    rw[af hb] at e0 e1;generalize(if(s.aZ.cells.length:Int)=p.dH then some s.aZ else wS s.aZ p.dH.toNat)=od at e0 e1
    cases od with
    |none=>cases e0
    |some d=>exact .inr (.inl ⟨_,_,_,_,_,_,_,e0,e1⟩)
  rw[af k1] at h0 h1;by_cases k2:e.kind=2
  ·rw[aq k2] at h0 h1;by_cases ha:e.arg<0
   ·rw[aq ha] at h0;cases h0
   rw[af ha] at h0 h1
   cases hp:w.c.ek[e.arg.toNat]? with
   |none=>simp only[hp] at h0;cases h0
   |some q=>
    simp only[hp] at h0 h1;split at h0
    ·rename_i hlt;rw[aq hlt] at h1;exact .inr (.inl (abe h0 h1))
    ·cases h0
  rw[af k2] at h0 h1;by_cases k3:e.kind=3
  ·rw[aq k3] at h0 h1
   cases hf:oH w.bE e.msg with
   |none=>simp only[hf] at h0;cases h0
   |some m=>
    simp only[hf] at h0 h1;exact .inr (.inl (abe h0 h1))
  rw[af k3] at h0 h1;by_cases k4:e.kind=4
  ·rw[aq k4] at h0 h1;exact .inr (.inl (abe h0 h1))
  rw[af k4] at h0 h1;by_cases k5:e.kind=5
  ·rw[aq k5] at h0;simp only[aA,jE] at h0;left;rw[<-h0.2];rfl
  rw[af k5] at h0 h1;by_cases k6:e.kind=6
  ·rw[aq k6] at h0;simp only[aA,jE] at h0;left;rw[<-h0.2];rfl
  rw[af k6] at h0 h1;right;right
  have key:∀{l:List aL} {w':bG} {r:Rr},(match se s (e.node.toNat) l with
    |none=>none
    |some r=>(DW (w.setNode e.node.toNat r.s) e.node.toNat).map fun w=>(w,r))=some (w',r)->se s (e.node.toNat) l=some r:=fun {l w' r} h=>by
   split at h
   ·cases h
   rename_i r' hr;simp only[bO,jE] at h;obtain⟨_,_,_,rfl⟩:=h;exact hr
  exact⟨_,_,key h0,key h1⟩
def lh:Nat->List Ask->Nat
 |0,_=>0
 |_+1,[]=>0
 |d+1,a::l=>a.n.toNat*4^d+lh d l
theorem Jj:∀(d:Nat) (l:List Ask),(∀a∈l,0<=a.n/\a.n<4)->lh d l<4^d
 |0,l,_=>by simp[lh]
 |d+1,[],_=>by
  simp only[lh];exact Nat.pow_pos ab
 |d+1,a::l,h=>by
  have h1:=h a ai
  have h2:=Jj d l fun b hb=>h b (by simp[hb])
  unfold lh;rw[Nat.pow_succ];have h3:a.n.toNat*4^d<=3*4^d:=uG _ ab;generalize 4^d=P at h2 h3⊢;generalize a.n.toNat*P=Q at h3⊢;omega
theorem ajW:∀(d:Nat) (pr:List Ask) (a:Ask) (rest sT:List Ask) (m:Int),pr.length<d->(∀b∈rest,0<=b.n/\b.n<4)->0<=a.n->a.n<m->lh d (pr++a::rest)<lh d (pr++{ a with n:=m }::sT)
 |0,pr,a,rest,sT,m,hd,_,_,_=>ab
 |d+1,[],a,rest,sT,m,hd,hr,h0,hm=>by
  have h2:=Jj d rest hr
  show a.n.toNat*4^d+lh d rest<m.toNat*4^d+lh d sT
  have h3:(a.n.toNat+1)*4^d<=m.toNat*4^d:=uG _ ab;rw[zO] at h3;omega
 |d+1,b::pr,a,rest,sT,m,hd,hr,h0,hm=>by
  have h:=ajW d pr a rest sT m (by simp only[List.length_cons] at hd;omega) hr h0 hm
  show b.n.toNat*4^d+lh d (pr++a::rest)<b.n.toNat*4^d+lh d (pr++{ a with n:=m }::sT)
  omega
theorem azo{l:List Ask}{m:List aL}(h:zY l=some m):∃pr a rest,l=pr++a::rest/\a.n+1≠a.arity/\m=pr.map gH++[⟨a.qn,a.n+1⟩]:=by
 unfold zY at h;split at h
 ·cases h
 ·rename_i a r hr;simp only[aA] at h;have hl:=JW (p:=fun a:Ask=>decide (a.n+1=a.arity)) (l:=l.reverse);rw[hr] at hl;have fO:=aG List.reverse hl;rw[List.reverse_reverse,List.reverse_append,wK,List.append_assoc] at fO;have hd:=List.head?_dropWhile_not (fun a:Ask=>decide (a.n+1=a.arity)) l.reverse;rw[hr] at hd;refine⟨r.reverse,a,(l.reverse.takeWhile fun a:Ask=>decide (a.n+1=a.arity)).reverse,fO.symm,by simpa using hd,h.symm⟩
theorem ajX{l:List aL}{s:ay}(h:mK w e l=some (some (w',s))):∃x,yu w e l=some x/\s.asks=x.2.asks:=by
 unfold mK at h;split at h
 ·cases h
 split at h
 ·simp only[bO,aA,jE] at h;obtain⟨x,hx,_,rfl⟩:=h;exact⟨x,hx,rfl⟩
 ·cases h
def CT (c:eQ)(k:Nat)(w:bG)(e:Ev)(s:ay):Prop:=Uo c.first.length (k+1) s/\s.ev=e/\∃l0 w0,mK w e l0=some (some (w0,s))
theorem CT.Uq{s:ay}(h:CT c k w e s):∀a∈s.asks,0<=a.n/\a.n<4:=fun a ha=>by
 have h1:=(h.1.asks a ha).1;have h2:=h.1.sG a ha;obtain⟨_,g1,g2,_⟩:=h1;omega
theorem abf(hc:iO c)(hk:k<5000)(h:eK c k j w)(he:e∈enabled w){s t:ay}(hs:CT c k w e s){l:List aL}(hl:zY s.asks=some l)(ht:mK w e l=some (some (w1,t))):
  lh 4 s.asks<lh 4 t.asks:=by
 obtain⟨pr,a,rest,e1,e2,rfl⟩:=azo hl;have Ur:=hs.Uq;obtain⟨hst,bT,l0,w0,h0⟩:=hs;obtain⟨⟨x0,r0⟩,f0,f1⟩:=ajX h0;obtain⟨⟨x1,r1⟩,g0,g1⟩:=ajX ht;obtain⟨_,_,i0,_,i1⟩:=Pm hc ab h he l0;obtain⟨_,_,j0,_,j1⟩:=Pm hc ab h he (pr.map gH++[⟨a.qn,a.n+1⟩]);rw[f0] at i0;rw[g0] at j0;simp only[aA,jE] at i0 j0;obtain⟨rfl,rfl⟩:=i0;obtain⟨rfl,rfl⟩:=j0;dsimp only at f1 g1
 have ham:a∈s.asks:=by rw[e1];simp
 have yy:=(hst.asks a ham).1;obtain⟨_,q1,q2,_⟩:=yy
 have Kz:r0.asks=pr++a::rest:=by rw[<-f1];exact e1
 have key:∃sT,r1.asks=pr++{ a with n:=a.n+1 }::sT:=by
  rcases azn f0 g0 with hx|⟨sn,p,hd,self,nodes,drift,nm,x1,x2⟩|⟨sn,self,x1,x2⟩
  ·rw[hx] at Kz;cases pr<;>simp at Kz
  ·exact azk x1 Kz ⟨ab,ab⟩ x2 i1.Ou j1.Ou
  ·exact azm x1 Kz ⟨ab,ab⟩ x2
 obtain⟨sT,Ef⟩:=key;have hlen:=hst.Co;rw[g1,Ef,e1];rw[e1] at hlen;simp only[List.length_append,List.length_cons] at hlen;exact ajW 4 pr a rest sT (a.n+1) ab (fun b hb=>Ur b (by rw[e1];simp[hb])) q1 ab
theorem ajY {c:eQ}(hc:iO c){k j:Nat}(hk:k<5000){w:bG}(h:eK c k j w)(hst:w.steps=k){e:Ev}(he:e∈enabled w):∀(f:Nat) (s:ay) (out:List ay),CT c k w e s->256<=f+lh 4 s.asks->
  ∃cs,Gt w e f out s=some (out++cs)/\cs≠[]/\cs.length+lh 4 s.asks<=256/\∀t∈cs,CT c k w e t
 |0,s,out,hs,hf=>by
  have:lh 4 s.asks<256:=Jj 4 _ hs.Uq;omega
 |f+1,s,out,hs,hf=>by
  have hv:lh 4 s.asks<256:=Jj 4 _ hs.Uq;unfold Gt
  cases hn:zY s.asks with
  |none=>exact⟨[s],rfl,ai,by simp;omega,fun t ht=>by simp only[oB] at ht;subst ht;exact hs⟩
  |some l=>
   obtain⟨w1,t,e1,e2,e3,e4,e5⟩:=Fj hc hk h hst he l;have hg:=abf hc hk h he hs hn e1
   have ht:CT c k w e t:=⟨e4,e5,l,w1,e1⟩
   obtain⟨cs,g1,g2,g3,g4⟩:=ajY hc hk h hst he f t (out++[s]) ht ab;dsimp only;rw[e1];dsimp only;rw[g1];refine⟨s::cs,ai,ai,by simp only[List.length_cons];omega,fun x hx=> ?_⟩
   rcases cz.1 hx with rfl|hx
   ·exact hs
   ·exact g4 x hx
theorem abg(hc:iO c)(hk:k<5000)(h:eK c k j w)(hst:w.steps=k)(he:e∈enabled w):
  ∃cs,Gu 256 w e=some cs/\cs≠[]/\cs.length<=256/\∀t∈cs,CT c k w e t:=by
 obtain⟨w1,t,e1,e2,e3,e4,e5⟩:=Fj hc hk h hst he [];obtain⟨cs,g1,g2,g3,g4⟩:=ajY hc hk h hst he 256 t [] ⟨e4,e5,[],w1,e1⟩ ab;unfold Gu;rw[e1];exact⟨cs,by simpa using g1,g2,ab,g4⟩
theorem ajZ {c:eQ}(hc:iO c):∀(l:List Int) (k j:Nat) (w:bG) (run:List ay),eK c k j w->w.steps=k->k+l.length<=5000->
  ∃run' w',zZ 256 l w run=some (run++run',w')/\run'.length<=l.length/\∀s∈run',∃k',k'<=5000/\Uo c.first.length k' s
 |[],k,j,w,run,h,hst,hl=>⟨[],w,by simp[zZ],ai,fun s hs=>by simp at hs⟩
 |x::l,k,j,w,run,h,hst,hl=>by
  simp only[List.length_cons] at hl;unfold zZ;dsimp only
  cases hx:(enabled w)[around x 1000000%(enabled w).length]? with
  |none=>exact⟨[],w,ai,ai,fun s hs=>by simp at hs⟩
  |some e=>
   have he:=eE hx;obtain⟨cs,g1,g2,g3,g4⟩:=abg hc ab h hst he;dsimp only;rw[g1];dsimp only;have DM:0<cs.length:=Dy.2 g2;have hlt:around x 1000000/50%cs.length<cs.length:=oD _ DM;rw[cw hlt];have hs:=g4 _ (bP hlt);generalize cs[around x 1000000/50%cs.length]=s at hs;obtain⟨pO,bT,_⟩:=hs;dsimp only;obtain⟨w1,t,e1,e2,e3,_,_⟩:=Fj hc ab h hst he (BW s);rw[bT,e1];dsimp only;obtain⟨run',w',q1,q2,q3⟩:=ajZ hc l (k+1) (j+2) w1 (run++[s]) e2 e3 ab;refine⟨s::run',w',by rw[q1];simp,by simp;omega,fun y hy=> ?_⟩
   rcases cz.1 hy with rfl|hy
   ·exact⟨k+1,ab,pO⟩
   ·exact q3 y hy
theorem azp(hc:iO c)(l:List Int):∃run w,walk 256 c l=some (run,w)/\run.length<=min l.length 30/\∀s∈run,∃k',k'<=5000/\Uo c.first.length k' s:=by
 obtain⟨run',w',h1,h2,h3⟩:=ajZ hc (l.take 30) 0 0 (ny c) [] (aaW hc) rfl bq;exact⟨run',w',by unfold walk;simpa using h1,by simpa [Nat.min_comm] using h2,h3⟩
theorem Pn{p:Prop}[Decidable p](o:List Ev)(e:Ev):(if p then bR o e else o).length<=o.length+1:=by
 split
 ·exact Pl _ _
 ·omega
theorem Us(w:bG)(n:Nat)(s:Node)(out:List Ev)(m:bQ):(gU w n s out m).length<=out.length+3:=by
 unfold gU;dsimp only;have h1:=Pn (p:=s.up=true) out ⟨3,n,0,m⟩;generalize(if s.up=true then bR out ⟨3,n,0,m⟩ else out)=o1 at h1⊢;have h2:=Pn (p:=s.dropped<w.c.qz) o1 ⟨5,n,0,m⟩;generalize(if s.dropped<w.c.qz then bR o1 ⟨5,n,0,m⟩ else o1)=o2 at h2⊢;have h3:=Pn (p:=s.dY<w.c.tE) o2 ⟨6,n,0,m⟩;omega
def xN (w:bG)(n:Nat)(s:Node)(out:List Ev):List Ev:=if s.up then out else(lY w n s).foldl (fun o v=>bR o ⟨1,n,v,mJ⟩) out
def zq (w:bG)(n:Nat)(s:Node)(out:List Ev):List Ev:=(iU w.bE n).foldl (gU w n s) out
def pP (w:bG)(n:Nat)(s:Node)(out:List Ev):List Ev:=if s.up/\s.waiting<0/\0<=w.next.getD n 0 then bR out ⟨2,n,w.next.getD n 0,mJ⟩ else out
def CU (n:Nat)(s:Node)(out:List Ev):List Ev:=if s.up then s.timers.foldl (fun o t=>bR o ⟨4,n,t,mJ⟩) out else out
def Be (w:bG)(n:Nat)(s:Node)(out:List Ev):List Ev:=if s.up/\s.counts.getD 40 0<w.c.yr then bR out ⟨7,n,0,mJ⟩ else out
theorem aka(w:bG)(out:List Ev)(n:Nat)(s:Node):BV w out n s=Be w n s (CU n s (pP w n s (zq w n s (xN w n s out)))):=rfl
theorem Mh{α:Type}(f:α->Ev)(l:List α)(out:List Ev):(l.foldl (fun o v=>bR o (f v)) out).length<=out.length+l.length:=by
 have:=Md (f:=fun o v=>bR o (f v)) (m:=1) (fun o x=>Pl o (f x)) l out;omega
theorem azq(w:bG)(n:Nat)(s:Node)(out:List Ev):(xN w n s out).length<=out.length+(lY w n s).length:=by
 unfold xN;split
 ·omega
 ·exact Mh (fun v=>⟨1,n,v,mJ⟩) _ _
theorem azr(w:bG)(n:Nat)(s:Node)(out:List Ev):(zq w n s out).length<=out.length+3*w.bE.length:=by
 unfold zq;have h1:=Md (f:=gU w n s) (m:=3) (fun o x=>Us w n s o x) (iU w.bE n) out
 have h2:(iU w.bE n).length<=w.bE.length:=by unfold iU;rw[dE];exact nQ _ _
 omega
theorem akb(w:bG)(n:Nat)(s:Node)(out:List Ev):(pP w n s out).length<=out.length+1:=by
 unfold pP;exact Pn _ _
theorem azs(n:Nat)(s:Node)(out:List Ev):(CU n s out).length<=out.length+s.timers.length:=by
 unfold CU;split
 ·exact Mh (fun v=>⟨4,n,v,mJ⟩) _ _
 ·omega
theorem azt(w:bG)(n:Nat)(s:Node)(out:List Ev):(Be w n s out).length<=out.length+1:=by
 unfold Be;exact Pn _ _
theorem akc(hc:iO c)(h:w.c=c)(n:Nat)(s:Node):(lY w n s).length<=64:=by
 have:=hc.ayY;unfold lY;rw[h];split
 ·simp
 ·split
  ·simp
  ·exact this
theorem azu(hc:iO c)(h:w.c=c)(out:List Ev)(n:Nat)(s:Node)(ht:s.timers.length<=8):(BV w out n s).length<=out.length+3*w.bE.length+74:=by
 rw[aka];have h1:=azq w n s out;have h2:=azr w n s (xN w n s out);have h3:=akb w n s (zq w n s (xN w n s out));have h4:=azs n s (pP w n s (zq w n s (xN w n s out)));have h5:=azt w n s (CU n s (pP w n s (zq w n s (xN w n s out))));have hv:=akc hc h n s;omega
theorem akd (w:bG):∀(l:List Node) (n k:Nat) (out:List Ev) (hk:k<l.length),sg w n out (l.take (k+1))=BV w (sg w n out (l.take k)) (n+k) l[k]
 |s::l,n,0,out,hk=>by simp[sg]
 |s::l,n,k+1,out,hk=>by
  have:=akd w l (n+1) k (BV w out n s) (by simpa using hk);simp only[List.take_succ_cons,sg,List.getElem_cons_succ];rw[this,show n+1+k=n+(k+1) by omega]
theorem abh {c:eQ}(hc:iO c){w:bG}(h:w.c=c):∀(l:List Node) (n:Nat) (out:List Ev),(∀s∈l,s.timers.length<=8)->(sg w n out l).length<=out.length+l.length*(3*w.bE.length+74)
 |[],n,out,_=>by simp[sg]
 |s::l,n,out,ht=>by
  have h1:=abh hc h l (n+1) (BV w out n s) (fun x hx=>ht x (by simp[hx]));have h2:=azu hc h out n s (ht s ai);simp only[sg,List.length_cons,zO];omega
theorem Po{α β:Type}(f:β->α->β)(l:List α)(b:β)(k:Nat)(hk:k<l.length):(l.take (k+1)).foldl f b=f ((l.take k).foldl f b) l[k]:=by
 rw[List.take_succ_eq_append_getElem hk,zL];rfl
theorem abj {α:Type}{p:α->Bool}:∀{a b:List α},(∀x∈a,p x=true)->(a++b).dropWhile p=b.dropWhile p
 |[],b,_=>rfl
 |x::a,b,h=>by
  rw[List.cons_append,List.dropWhile_cons_of_pos (h x ai)]
  exact abj fun y hy=>h y (by simp[hy])
theorem ake{l:List Ask}(h:∀a∈l,a.n+1=a.arity):zY l=none:=by
 unfold zY;have:=abj (p:=fun a:Ask=>decide (a.n+1=a.arity)) (a:=l.reverse) (b:=[]) (fun x hx=>ft (h x (by simpa using hx)));rw[rS] at this;rw[this];rfl
theorem akf{l:List Ask}(hk:k<l.length)(h:l[k].n+1≠l[k].arity)(ha:∀j (hj:j<l.length),k<j->l[j].n+1=l[j].arity):
  zY l=some ((l.take k).map gH++[⟨l[k].qn,l[k].n+1⟩]):=by
 have hl:l=l.take k++l[k]::l.drop (k+1):=by
  conv=>lhs;rw[<-List.take_append_drop k l,List.drop_eq_getElem_cons hk]
 have hr:l.reverse=(l.drop (k+1)).reverse++(l[k]::(l.take k).reverse):=by
  conv=>lhs;rw[hl]
  simp
 have hd:l.reverse.dropWhile (fun a:Ask=>decide (a.n+1=a.arity))=l[k]::(l.take k).reverse:=by
  rw[hr,abj (fun x hx=> ?_),List.dropWhile_cons_of_neg (by simpa using h)];rw[List.mem_reverse] at hx;obtain⟨j,hj,rfl⟩:=FZ.1 hx;simp only[lU] at hj;rw[List.getElem_drop];exact ft (ha _ ab ab)
 unfold zY;rw[hd];simp only[List.reverse_reverse];rfl
theorem akg(hk:k<12):∃p,build (sources.getD k [])=some p/\qX p=true:=by
 have h:=aty;rw[fq] at h;have hl:sources.length=12:=eD
 have hm:sources.getD k []∈sources:=by
  rw[fo,cw ab,BI];exact bP _
 have h1:=h _ hm;split at h1
 ·rename_i p hp;exact⟨p,hp,h1⟩
 ·cases h1
theorem abk(l:List Int):∃c,config l=some c/\iO c:=by
 unfold config;dsimp only;obtain⟨p,hp,lK⟩:=akg (k:=pick l 0 1000000%12) (oD _ au);rw[hp];dsimp only
 have key:∃ps,(if pick l 1 1000000%3=0 then(build (sources.getD (pick l 1 1000000/3%12) [])).map fun q=>[p,q] else some [p])=some ps/\1<=ps.length/\ps.length<=2/\∀q∈ps,qX q=true:=by
  split
  ·obtain⟨q,hq,yG⟩:=akg (k:=pick l 1 1000000/3%12) (oD _ au);rw[hq]
   exact⟨[p,q],rfl,ai,ai,fun x hx=>by
    simp only[cz,jD,kL] at hx
    rcases hx with rfl|rfl
    ·exact lK
    ·exact yG⟩
  ·exact⟨[p],rfl,ai,ai,fun x hx=>by
    simp only[oB] at hx;subst hx
    exact lK⟩
 obtain⟨ps,e,h1,h2,h3⟩:=key;rw[e];dsimp only;generalize pick l 2 1000000=k2;generalize pick l 4 1000000=k4;generalize pick l 5 1000000=k5
 have hm:∀a:Nat,(0:Int)<=((a%ps.length:Nat):Int)/\((a%ps.length:Nat):Int)<ps.length:=fun a=>by
  have:=oD a (show 0<ps.length by omega);omega
 refine⟨_,rfl,⟨⟨h1,by show ps.length<=64;omega⟩,h3,?_,fun v hv=> ?_,fun v hv=> ?_,?_,?_,fun r hr=> ?_,?_,?_,?_,?_⟩⟩
 ·show 1<=((List.range _).map _).length/\((List.range _).map _).length<=12
  simp only[dE,BG];omega
 ·simp only[dm] at hv;obtain⟨n,_,rfl⟩:=hv;exact hm _
 ·dsimp only at hv;split at hv
  ·simp only[cz,jD,kL] at hv
   rcases hv with rfl|rfl
   ·exact hm _
   ·show(0:Int)<=0/\(0:Int)<ps.length
    omega
  ·simp at hv
 ·show(if _ then _ else _:List Int).length<=64
  split<;>simp
 ·show((List.range _).map _).length<=300
  simp only[dE,BG];omega
 ·simp only[dm,gy] at hr;obtain⟨i,hi,rfl⟩:=hr;refine⟨?_,?_,?_⟩
  ·have h8:∀j:Fin 8,bu ([0,1,2,3,4,0,1,3].getD j.val 0)=true:=au;exact h8 ⟨pick l (6+i) 1000000/3%8,oD _ au⟩
  ·show bu ((1+pick l (6+i) 1000000/24%5/4:Nat):Int)=true
   rw[vC];omega
  ·show bu ((1+i:Nat):Int)=true
   rw[vC];omega
 ·show(0:Int)<=((k4%3/2:Nat):Int)/\((k4%3/2:Nat):Int)<=10
  omega
 ·show(0:Int)<=((k4/3%4/3:Nat):Int)/\((k4/3%4/3:Nat):Int)<=10
  omega
 ·show(0:Int)<=((k4/12%4/3:Nat):Int)/\((k4/12%4/3:Nat):Int)<=10
  omega
 ·show(0:Int)<=((k4/48%5/4:Nat):Int)/\((k4/48%5/4:Nat):Int)<=3
  omega
end aD
namespace Ab
open Go Go.RowKit
attribute [local irreducible] aM bt aX
open aD (eQ qx Ob pq bG Env aT wV bR si yt)
theorem akh (c:eQ)(node i:Int)(hi: -1<=i/\i<=1000000)(hl:c.ek.length<=1000000):aU Tryz.prog 116 [.agg (Ba c),.c (iA node),.c (iA i)] (fun x=>x=.w (.c (iA (aD.after c node i)))):=by
 obtain⟨k0,aY⟩:∃k0:Nat,i+1=k0:=⟨(i+1).toNat,ab⟩
 have d1:aW .add (.int .i64 i) (.int .i64 1)=some (.int .i64 (k0:Int)):=by rw[oO ab ab,aY]
 have hst:wV node k0 (c.ek.drop k0)=aD.after c node i:=by unfold aD.after;rw[aY];rfl
 refine cC Tryz.func116 aN [] [.t 6] [3,6,7] [3] ?_;have FF:=@d1
 try refine aF ?_
 refine dv (fun n V S=>∃k:Nat,k<=3000000/\(k<=1000001\/k<=c.ek.length)/\n=c.ek.length-k/\wV node k (c.ek.drop k)=aD.after c node i/\
  V=[(0,.w (.agg (Ba c))),(1,.w (.c (iA node))),(2,.w (.c (iA i))),(3,.pb 3 1 0),(6,.w (.c (iA 0))),(7,.w (.c (iA k)))]/\S=[(3,.box 1 (Ba c))]) (n:=c.ek.length-k0) ⟨k0,ab,ab,rfl,hst,rfl,rfl⟩ ?_
 rintro n V L S ⟨k,hk,nX,rfl,xQ,rfl,rfl⟩;by_cases hlt:k<c.ek.length
 ·have cD:k<=1000000000:=ab
  obtain⟨x,hx⟩:∃x,c.ek[k]=x:=⟨_,rfl⟩
  rw[List.drop_eq_getElem_cons hlt,hx] at xQ;unfold wV at xQ;by_cases he:x.node=node
  ·rw[aq he] at xQ;have FF:=jB @hlt @hx @he
   try refine aF ?_
   refine zE ?_;exact(by rw[<-xQ];rfl)
  ·rw[af he] at xQ;have FF:=eW @hlt @hx @he (bN cD)
   try refine aF ?_
   exact⟨c.ek.length-(k+1),ab,k+1,ab,ab,rfl,xQ,rfl,rfl⟩
 ·rw[FX ab] at xQ;have FF:=@hlt
  try refine aF ?_
  refine zE ?_;exact(by rw[<-xQ];rfl)
theorem aki {a m:Ev}(h:a≠m):¬(a.kind=m.kind/\a.node=m.node/\a.arg=m.arg/\a.msg.node=m.msg.node/\a.msg.handler=m.msg.handler/\a.msg.count=m.msg.count/\a.msg.index=m.msg.index/\a.msg.copy=m.msg.copy):=fun⟨h1,h2,h3,h4,h5,h6,h7,h8⟩=>h (by
 obtain⟨a1,a2,a3,⟨b1,b2,b3,b4,b5⟩⟩:=a;obtain⟨c1,c2,c3,⟨d1,d2,d3,d4,d5⟩⟩:=m
 simp_all)
theorem abl (a b:Ev):aU Tryz.prog 155 [.agg (gG a),.agg (gG b)] (fun x=>x=.w (.c (iA (aK a.ints b.ints)))):=atn _ _ _ _ _ _ _ _ _ _ _ _ _ _ _ _
theorem rE (l:List Ev)(e:Ev)(hl:l.length<=1000000):aU Tryz.prog 117 [.c (evs l),.agg (gG e)] (fun x=>x=.w (.c (evs (bR l e)))):=by
 have yL:l.length+1<=100000000:=ab;refine cC Tryz.func117 (aO [6]) [tz 2 10,tz 4 10] [.t 4] [3,4,5,6] [3,6] ?_;have FF:=trivial
 try refine aF ?_
 refine dv (fun n V S=>∃k:Nat,k<=l.length/\n=l.length-k/\(∀j (hj:j<l.length),j<k->decide (aK l[j].ints e.ints<0)=true)/\
  V=[(0,.w (.c (evs l))),(1,.w (.agg (gG e))),(3,.pb 3 1 0),(4,.w (.c (.sl []))),(5,.w (.c (iA k))),(6,.u)]/\S=[(3,.box 1 (gG e)),(6,.dead 0)]) (n:=l.length) ⟨0,ab,ab,fun j _ h=>ab,rfl,rfl⟩ ?_
 rintro n V L S ⟨k,hk,rfl,hj,rfl,rfl⟩
 have done:∀(h2:∀h:k<l.length,decide (aK l[k].ints e.ints<0)=false),bR l e=if(l.drop k).head? =some e then l else l.take k++e::l.drop k:=fun h2=>by
  obtain⟨g1,g2⟩:=Nu (p:=fun x:Ev=>decide (aK x.ints e.ints<0)) hk hj h2;unfold bR;rw[g1,g2]
 by_cases hlt:k<l.length
 ·have cD:k<=1000000000:=ab
  obtain⟨x,hx⟩:∃x,l[k]=x:=⟨_,rfl⟩
  by_cases he:aK x.ints e.ints<0
  ·have FF:=eW @hlt @hx @he (bN cD);refine bJ (abl x e) ?_
   exact⟨l.length-(k+1),ab,k+1,ab,ab,fun j dJ ib=>by
    by_cases iL:j=k
    ·subst iL;rw[hx];exact ft he
    ·exact hj j dJ ab,rfl,rfl⟩
  ·have hd:=done (fun _=>by rw[hx];exact jk he);rw[List.drop_eq_getElem_cons hlt,hx] at hd;by_cases lL:x=e
   ·rw[aq (by rw[lL];rfl)] at hd;subst lL;have FF:=jB @hlt @hx @he;refine bJ (abl x x) ?_;refine zE ?_;exact(by rw[hd];rfl)
   ·rw[af (by simpa using lL)] at hd;have hne:=aki lL;have FF:=gZ @hlt @hx @he @hne (BL hlt);refine XV (abl x e) ?_;refine zE ?_;exact(by rw[hd,<-hx,<-List.drop_eq_getElem_cons hlt];simp[List.map_take,List.map_drop];try rfl)
 ·have hd:=done (fun h=>absurd h hlt);rw[af (by rw[FX ab];simp)] at hd;have FF:=eV @hlt @hk
  try refine Cm ?_
  refine zE ?_;exact(by rw[hd];simp[List.map_take,List.map_drop];try rfl)
theorem azv (l:List (Int×Int))(e:Int×Int)(hl:l.length<=1000000):aU Tryz.prog 201 [.c (fF l),.agg (Ua e)] (fun x=>x=.w (.c (fF (si l e)))):=by
 have yL:l.length+1<=100000000:=ab;refine cC Tryz.func201 (aO [6]) [tz 2 30,tz 4 10] [.t 4] [3,4,5,6] [3,6] ?_;have FF:=trivial
 try refine aF ?_
 refine dv (fun n V S=>∃k:Nat,k<=l.length/\n=l.length-k/\(∀j (hj:j<l.length),j<k->yt l[j] e=true)/\
  V=[(0,.w (.c (fF l))),(1,.w (.agg (Ua e))),(3,.pb 3 1 0),(4,.w (.c (.sl []))),(5,.w (.c (iA k))),(6,.u)]/\S=[(3,.box 1 (Ua e)),(6,.dead 0)]) (n:=l.length) ⟨0,ab,ab,fun j _ h=>ab,rfl,rfl⟩ ?_
 rintro n V L S ⟨k,hk,rfl,hj,rfl,rfl⟩
 have done:∀(h2:∀h:k<l.length,yt l[k] e=false),si l e=if(l.drop k).head? =some e then l else l.take k++e::l.drop k:=fun h2=>by
  obtain⟨g1,g2⟩:=Nu (p:=fun x:Int×Int=>yt x e) hk hj h2;unfold si;rw[g1,g2]
 by_cases hlt:k<l.length
 ·have cD:k<=1000000000:=ab
  obtain⟨x,hx⟩:∃x,l[k]=x:=⟨_,rfl⟩
  have next:yt x e=true->∀j (hj:j<l.length),j<k+1->yt l[j] e=true:=fun he j dJ ib=>by
   by_cases iL:j=k
   ·subst iL;rw[hx];exact he
   ·exact hj j dJ ab
  by_cases h1:x.1<e.1
  ·have he:=next (ft (.inl h1));have FF:=eW @hlt @hx @h1 (bN cD)
   try refine aF ?_
   exact⟨l.length-(k+1),ab,k+1,ab,ab,he,rfl,rfl⟩
  ·by_cases h2:x.1=e.1
   ·by_cases h3:x.2<e.2
    ·have he:=next (ft (.inr ⟨h2,h3⟩));have FF:=gI @hlt @hx @h1 @h2 @h3 (bN cD)
     try refine aF ?_
     exact⟨l.length-(k+1),ab,k+1,ab,ab,he,rfl,rfl⟩
    ·have hd:=done (fun _=>by rw[hx];exact jk (by rintro(h|h);exact h1 h;exact h3 h.2));rw[List.drop_eq_getElem_cons hlt,hx] at hd;by_cases h4:x.2=e.2
     ·have lL:x=e:=Prod.ext h2 h4;rw[aq (by rw[lL];rfl)] at hd;have FF:=gI @hlt @hx @h1 @h2 @h3 @h4
      try refine aF ?_
      refine zE ?_;exact(by rw[hd];rfl)
     ·rw[af (by intro hh;simp only[List.head?_cons,aA] at hh;exact h4 (by rw[hh]))] at hd;have FF:=kj @hlt @hx @h1 @h2 @h3 @h4 (BL hlt)
      try refine Cm ?_
      refine zE ?_;exact(by rw[hd,<-hx,<-List.drop_eq_getElem_cons hlt];simp[List.map_take,List.map_drop];try rfl)
   ·have hd:=done (fun _=>by rw[hx];exact jk (by rintro(h|h);exact h1 h;exact h2 h.1));rw[List.drop_eq_getElem_cons hlt,hx] at hd;rw[af (by intro hh;simp only[List.head?_cons,aA] at hh;exact h2 (by rw[hh]))] at hd;have FF:=gZ @hlt @hx @h1 @h2 (BL hlt)
    try refine Cm ?_
    refine zE ?_;exact(by rw[hd,<-hx,<-List.drop_eq_getElem_cons hlt];simp[List.map_take,List.map_drop];try rfl)
 ·have hd:=done (fun h=>absurd h hlt);rw[af (by rw[FX ab];simp)] at hd;have FF:=eV @hlt @hk
  try refine Cm ?_
  refine zE ?_;exact(by rw[hd];simp[List.map_take,List.map_drop];try rfl)
end Ab
end Go.Proofs.YtkanpepkdcmpmaaGreatDoor
