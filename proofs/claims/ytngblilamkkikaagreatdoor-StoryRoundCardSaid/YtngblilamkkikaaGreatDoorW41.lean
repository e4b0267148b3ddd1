import Derived.Test.YtngblilamkkikaaGreatDoorW40
import Derived.Test.YtngblilamkkikaaGreatDoorW12
set_option maxHeartbeats 40000000
set_option maxRecDepth 100000
set_option linter.all false
namespace Go.Proofs.YtngblilamkkikaaGreatDoor
section
open Go.RowKit
theorem azT (a0 a1 a2 a3 a4 a5 b0 b1 b2 b3 b4 b5:Int)(w:World):(binOp .neq 100 (.agg #[I a0,I a1,I a2,I a3,I a4,I a5]) (.agg #[I b0,I b1,I b2,I b3,I b4,I b5])).run Tryz.prog w=.ok (.bool (!cF [a0,a1,a2,a3,a4,a5] [b0,b1,b2,b3,b4,b5])) w:=by
 simp[go_sem,cF]
 repeat' split
 all_goals simp_all
attribute [local go_sem high] azT
theorem aI.yk {a b:aI}:a.ints=b.ints↔a=b:=by
 constructor
 ·intro h;obtain⟨⟨_,_,_,_,_⟩,_⟩:=a;obtain⟨⟨_,_,_,_,_⟩,_⟩:=b;simp[aI.ints] at h;simp[h]
 ·intro h;rw[h]
theorem ajF {α:Type}{l m:List α}(h:l.length=m.length)(hk:l.take l.length=m.take l.length):l=m:=by
 rw[lK aA,lK ab] at hk;exact hk
theorem ajG {α:Type}{l m:List α}{k:Nat}{p q:α}(h1:l[k]? =some p)(h2:m[k]? =some q)(h:p≠q):l≠m:=fun e=>h (by rw[e,h2] at h1;exact(ei h1).symm)
theorem TI {α:Type}{l:List α}{k:Nat}{p:α}(h:l[k]? =some p):l.take (k+1)=l.take k++[p]:=by rw[Ci,h];rfl
theorem azU (e1 e2:List Ev)(l1 l2:List aI)(ve1 va1 ve2 va2:Value)(w:World)(Rz:pf w ve1 e1)(xn:lp w va1 l1)(he2:pf w ve2 e2)(zl:lp w va2 l2):
  Calls Tryz.prog 7 #[.agg #[ve1,va1],.agg #[ve2,va2]] w fun e w'=>e=.returned (.bool (decide (e1=e2) && decide (l1=l2)))/\ay w w':=by
 obtain⟨k1,c1,rfl,Ns⟩:=Rz.open;obtain⟨k2,c2,rfl,yQ⟩:=he2.open;obtain⟨k3,c3,rfl,RW⟩:=xn.open;obtain⟨k4,c4,rfl,hm4⟩:=zl.open;have bj:=bH.start w #[.slice k1 e1.length c1,.slice k3 l1.length c3] #[.slice k2 e2.length c2,.slice k4 l2.length c4] 28;have He1:=ae Rz;have He2:=ae he2;have Ha1:=ae xn;have Ha2:=ae zl;have nj:=bj.1.cell;have JP:=bj.2.1.cell;have kV:=bj.2.2.1;clear Rz he2 xn zl;by_cases hle:e1.length=e2.length
 ·by_cases xt:l1.length=l2.length
  ·obtain⟨n1,fD⟩:∃n,n=e1.length:=⟨_,rfl⟩
   obtain⟨n2,xJ⟩:∃n,n=l1.length:=⟨_,rfl⟩
   have Bf:e2.length=n1:=ab;have Kk:l2.length=n2:=ab;rw[<-fD,<-xJ,Bf,Kk] at bj nj JP kV;rw[<-fD,<-xJ,Bf,Kk];have aaJ:=He1.out;have aaK:=He2.out;have aaL:=Ha1.out;have aaM:=Ha2.out;rw[<-fD] at aaJ Ns;rw[Bf] at aaK yQ;rw[<-xJ] at aaL RW;rw[Kk] at aaM hm4;have HE1:=ae aaJ;have HE2:=ae aaK;have zB:=ae aaL;have gS:=ae aaM;have Hn1:=ae fD;have Hn2:=ae xJ;have Hn3:=ae Bf;have Hn4:=ae Kk;clear aaJ aaK aaL aaM He1 He2 Ha1 Ha2 hle xt fD xJ Bf Kk;go_enter Tryz.func7,Tryz.ntmps7;go_wp2_with fail;go_loopw [5] (fun i wr=>∃k:Nat,k<=n1/\i=.int .i64 k/\Hid (e1.take k=e2.take k)/\bH w #[.slice k1 n1 c1,.slice k3 n2 c3] #[.slice k2 n1 c2,.slice k4 n2 c4] wr) (fun i _=>n1-(intOf i).toNat)
   case atStart=>exact⟨0,ab,rfl,ae ai,bj⟩
   case round=>
    clear bj nj JP kV;obtain⟨k,hk,rfl,HT,iQ⟩:=hrel;have nj:=iQ.1.cell;have JP:=iQ.2.1.cell;by_cases hlt:k<n1
    ·have h1:k<e1.length:=by rw[<-Hn1.out];exact hlt
     have h2:k<e2.length:=by rw[Hn3.out];exact hlt
     obtain⟨p,hp⟩:∃p,e1[k]? =some p:=⟨_,cy h1⟩
     obtain⟨q,hq⟩:∃q,e2[k]? =some q:=⟨_,cy h2⟩
     obtain⟨b,o,rfl,hr⟩:=pf.at (HE1.out.kept iQ.2.2.1 aA) (i:=k) (x:=p) hp;obtain⟨b2,o2,rfl,fC⟩:=pf.at (HE2.out.kept iQ.2.2.1 aA) (i:=k) (x:=q) hq;have x0:wr.cell? ⟨b,o+k*8,none⟩=_:=hr 0 _ rfl;have x1:=hr 1 _ rfl;have x2:=hr 2 _ rfl;have x3:=hr 3 _ rfl;have x4:=hr 4 _ rfl;have x5:=hr 5 _ rfl;have x6:=hr 6 _ rfl;have x7:=hr 7 _ rfl;have y0:wr.cell? ⟨b2,o2+k*8,none⟩=_:=fC 0 _ rfl;have y1:=fC 1 _ rfl;have y2:=fC 2 _ rfl;have y3:=fC 3 _ rfl;have y4:=fC 4 _ rfl;have y5:=fC 5 _ rfl;have y6:=fC 6 _ rfl;have y7:=fC 7 _ rfl;have Hp:=ae hp;have Hq:=ae hq;clear hr fC h1 h2 hp hq;by_cases he:p=q
     ·have heq:cF [p.kind,p.node,p.arg,p.msg.node,p.msg.handler,p.msg.count,p.msg.index,p.msg.copy] [q.kind,q.node,q.arg,q.msg.node,q.msg.handler,q.msg.count,q.msg.index,q.msg.copy]=true:=Ly (Ev.yk.2 he);have He:=ae he;clear he;go_wp2_with fail;refine lP 11 [(0,true),(1,true),(2,true),(3,true),(4,true),(5,true),(6,true),(7,true),(8,true),(9,true),(10,true)] (fun w'=>∀a,w'.cell? a=wr.cell? a) ah rfl rfl ah (fun _=>rfl) ?_
      iterate 11 refine jh ?_
      refine lQ ?_
      (try simp only[heq])
      go_wp2_with fail;refine NoPanic.normal ?_;go_wp2_with fail;go_roundw
      case rel=>exact⟨k+1,ab,by go_num,ae (by rw[TI Hp.out,TI Hq.out,HT.out,He.out]),iQ.drew⟩
      case measure=>simp[intOf];omega
     ·have heq:cF [p.kind,p.node,p.arg,p.msg.node,p.msg.handler,p.msg.count,p.msg.index,p.msg.copy] [q.kind,q.node,q.arg,q.msg.node,q.msg.handler,q.msg.count,q.msg.index,q.msg.copy]=false:=Lz (fun h=>he (Ev.yk.1 h));have He:=ae he;clear he;go_wp2_with fail;refine lP 11 [(0,true),(1,true),(2,true),(3,true),(4,true),(5,true),(6,true),(7,true),(8,true),(9,true),(10,true)] (fun w'=>∀a,w'.cell? a=wr.cell? a) ah rfl rfl ah (fun _=>rfl) ?_
      iterate 11 refine jh ?_
      refine lQ ?_
      (try simp only[heq])
      go_wp2_with fail;refine NoPanic.normal ?_;go_wp2_with fail;go_ret;refine⟨jV ?_,iQ.2.2.1.drew⟩;rw[ja (ajG Hp.out Hq.out He.out),Bool.false_and]
    ·obtain rfl:k=n1:=ab
     obtain⟨wo,rfl⟩:∃wo,wo=wr:=⟨_,rfl⟩
     have HEQ:=ae (show e1=e2 from ajF (by rw[<-Hn1.out,Hn3.out]) (by rw[<-Hn1.out];exact HT.out));have SA:=ae iQ;clear iQ HT;go_wp2_with fail;go_loopw [6] (fun i wr=>∃m:Nat,m<=n2/\i=.int .i64 m/\Hid (l1.take m=l2.take m)/\bH w #[.slice k1 k c1,.slice k3 n2 c3] #[.slice k2 k c2,.slice k4 n2 c4] wr) (fun i _=>n2-(intOf i).toNat)
     case atStart=>exact⟨0,ab,rfl,ae ai,SA.out⟩
     case round=>
      clear SA nj JP;obtain⟨j,hj,rfl,HT,iQ⟩:=hrel;have nj:=iQ.1.cell;have JP:=iQ.2.1.cell;by_cases hlt:j<n2
      ·have h1:j<l1.length:=by rw[<-Hn2.out];exact hlt
       have h2:j<l2.length:=by rw[Hn4.out];exact hlt
       obtain⟨p,hp⟩:∃p,l1[j]? =some p:=⟨_,cy h1⟩
       obtain⟨q,hq⟩:∃q,l2[j]? =some q:=⟨_,cy h2⟩
       obtain⟨b,o,rfl,hr⟩:=lp.at (zB.out.kept iQ.2.2.1 aA) (i:=j) (x:=p) hp;obtain⟨b2,o2,rfl,fC⟩:=lp.at (gS.out.kept iQ.2.2.1 aA) (i:=j) (x:=q) hq;have x0:wr.cell? ⟨b,o+j*6,none⟩=_:=hr 0 _ rfl;have x1:=hr 1 _ rfl;have x2:=hr 2 _ rfl;have x3:=hr 3 _ rfl;have x4:=hr 4 _ rfl;have x5:=hr 5 _ rfl;have y0:wr.cell? ⟨b2,o2+j*6,none⟩=_:=fC 0 _ rfl;have y1:=fC 1 _ rfl;have y2:=fC 2 _ rfl;have y3:=fC 3 _ rfl;have y4:=fC 4 _ rfl;have y5:=fC 5 _ rfl;have Hp:=ae hp;have Hq:=ae hq;clear hr fC h1 h2 hp hq;by_cases he:p=q
       ·have heq:cF [p.q.node,p.q.handler,p.q.count,p.q.kind,p.q.index,p.n] [q.q.node,q.q.handler,q.q.count,q.q.kind,q.q.index,q.n]=true:=Ly (aI.yk.2 he);have He:=ae he;clear he;go_wp2_with fail;refine lP 11 [(0,true),(1,true),(2,true),(3,true),(4,true),(5,true),(6,true),(7,true),(8,true),(9,true),(10,true)] (fun w'=>∀a,w'.cell? a=wr.cell? a) ah rfl rfl ah (fun _=>rfl) ?_
        iterate 11 refine jh ?_
        refine lQ ?_
        (try simp only[heq])
        go_wp2_with fail;refine NoPanic.normal ?_;go_wp2_with fail;go_roundw
        case rel=>exact⟨j+1,ab,by go_num,ae (by rw[TI Hp.out,TI Hq.out,HT.out,He.out]),iQ.drew⟩
        case measure=>simp[intOf];omega
       ·have heq:cF [p.q.node,p.q.handler,p.q.count,p.q.kind,p.q.index,p.n] [q.q.node,q.q.handler,q.q.count,q.q.kind,q.q.index,q.n]=false:=Lz (fun h=>he (aI.yk.1 h));have He:=ae he;clear he;go_wp2_with fail;refine lP 11 [(0,true),(1,true),(2,true),(3,true),(4,true),(5,true),(6,true),(7,true),(8,true),(9,true),(10,true)] (fun w'=>∀a,w'.cell? a=wr.cell? a) ah rfl rfl ah (fun _=>rfl) ?_
        iterate 11 refine jh ?_
        refine lQ ?_
        (try simp only[heq])
        go_wp2_with fail;refine NoPanic.normal ?_;go_wp2_with fail;go_ret;refine⟨jV ?_,iQ.2.2.1.drew⟩;rw[ja (ajG Hp.out Hq.out He.out),Bool.and_false]
      ·obtain rfl:j=n2:=ab;go_wp2_with fail;go_ret;refine⟨jV ?_,iQ.2.2.1⟩;rw[fh HEQ.out,fh (ajF (by rw[<-Hn2.out,Hn4.out]) (by rw[<-Hn2.out];exact HT.out))];rfl
  ·have q2:¬((l1.length:Int)=l2.length):=ab;rw[hle] at nj kV;rw[hle];go_enter Tryz.func7,Tryz.ntmps7;go_wp2_with fail;go_ret;refine⟨jV ?_,kV⟩;rw[ja (show¬l1=l2 from fun e=>xt (by rw[e])),Bool.and_false]
 ·have q1:¬((e1.length:Int)=e2.length):=ab;go_enter Tryz.func7,Tryz.ntmps7;go_wp2_with fail;go_ret;refine⟨jV ?_,kV⟩;rw[ja (show¬e1=e2 from fun e=>hle (by rw[e])),Bool.false_and]
end
section
open Go.RowKit Go.Maps
def q0:Qn:=⟨0,0,0,1,0⟩
end
section
open Go.RowKit Go.Maps
def gz (w:World)(k:Option Addr)(c:Nat)(k2:Option Addr)(c2:Nat)(evs:List Ev)(l:List aI):Prop:=pf w (.slice k evs.length c) evs/\lp w (.slice k2 l.length c2) l
abbrev tv (k:Option Addr)(c:Nat)(k2:Option Addr)(c2:Nat)(evs:List Ev)(l:List aI):Value:=.agg #[.slice k evs.length c,.slice k2 l.length c2]
abbrev qv (q:Qn):Value:=.agg #[I q.node,I q.handler,I q.count,I q.kind,I q.index]
theorem gz.kept {w w':World}{k:Option Addr}{c:Nat}{k2:Option Addr}{c2:Nat}{evs:List Ev}{l:List aI}(h:gz w k c k2 c2 evs l)(hb:ay w w'):gz w' k c k2 c2 evs l:=⟨h.1.kept hb aA,h.2.kept hb aA⟩
theorem gz.of {w:World}{B B':Nat}{ue ua:Value}{evs:List Ev}{l:List aI}(h1:w.ownsRow B 67 8 ue evs.length (evs.flatMap ec))(h2:w.ownsRow B' 100 6 ua l.length (l.flatMap ac)):∃k c k2 c2,ue=.slice k evs.length c/\ua=.slice k2 l.length c2/\gz w k c k2 c2 evs l:=by
 obtain⟨k,c,rfl,_⟩:=(Flat.dU h1).open;obtain⟨k2,c2,rfl,_⟩:=(Flat.dU h2).open;exact⟨k,c,k2,c2,rfl,rfl,Flat.dU h1,Flat.dU h2⟩
theorem azV (e1 e2:List Ev)(l1 l2:List aI)(k:Option Addr)(c:Nat)(k2:Option Addr)(c2:Nat)(k3:Option Addr)(c3:Nat)(k4:Option Addr)(c4:Nat)(w:World)(h1:gz w k c k2 c2 e1 l1)(h2:gz w k3 c3 k4 c4 e2 l2):
  Calls Tryz.prog 7 #[tv k c k2 c2 e1 l1,tv k3 c3 k4 c4 e2 l2] w fun e w'=>e=.returned (.bool (decide (e1=e2) && decide (l1=l2)))/\ay w w':=azU e1 e2 l1 l2 _ _ _ _ w h1.1 h1.2 h2.1 h2.2
theorem boxed (w:World)(cs:Array Value)(t:TypeId):ax (w.alloc (.cells cs t)) w.heap.size cs/\ay w (w.alloc (.cells cs t))/\(w.alloc (.cells cs t)).heap.size=w.heap.size+1:=
 ⟨ax.new _ _ _,(Below.refl _ _).alloc aA _,World.size_alloc _ _⟩
end
section
open Go.RowKit
theorem azW {w:World}{a:Option Addr}{len cap:Nat}{zs:List Int}(h:(a=none/\len=0/\cap=0/\zs=[])\/
  ∃x,a=some x/\len<=cap/\cap<=maxLen/\zs.length=cap/\(∀i,i<zs.length->w.cell? (x.add i)=some (.int .i64 (zs.getD i 0)))/\∀n∈zs,(Lit.int .i64 n).wf=true):
  ∃l:List Int,bW w (.slice a len cap) l/\∀x∈l,dI x:=by
 rcases h with⟨rfl,rfl,rfl,rfl⟩|⟨x,rfl,h1,h2,h3,h4,h5⟩
 ·exact⟨[],Flat.nil _ _ _ _,fun x hx=>by simp at hx⟩
 ·refine⟨zs.take len,?_,fun y hy=>bounds_i64 (h5 y (uH hy))⟩
  have hlen:(zs.take len).length=len:=by rw[dS];omega
  unfold bW;by_cases hz:0<zs.length
  ·obtain⟨b,off,rfl,hc⟩:=ints_at h4 hz;unfold maxLen at h2
   have:=Flat.rR (w:=w) (k:=1) (n:=len) (c:=cap) (b:=b) (o:=off) (xs:=iv (zs.take len)) (by rw[iv,dy,hlen,Nat.mul_one]) ab (fun j u hu=>by
    have hj:j<len:=by have:=(bG.1 hu).1;simp[iv] at this;omega
    rw[hc j ab,<-hu];have hjz:j<zs.length:=ab
    simp[iv,hj,hjz])
   rw[hlen];exact this
  ·have h0:zs=[]:=zV.1 ab;subst h0
   have:len=0:=by simp at h3;omega
   subst this;exact Flat.nil _ _ _ _
end
section
open Go.RowKit
theorem gz.owns {w:World}{B B':Nat}{k k2:Option Addr}{c c2:Nat}{evs:List Ev}{l:List aI}(h1:w.ownsRow B 67 8 (.slice k evs.length c) evs.length (evs.flatMap ec))(h2:w.ownsRow B' 100 6 (.slice k2 l.length c2) l.length (l.flatMap ac)):gz w k c k2 c2 evs l:=⟨Flat.dU h1,Flat.dU h2⟩
theorem Ei {w:World}{B n k:Nat}{e:TypeId}{v:Value}{xs:List Value}(h:w.ownsRow B e k v n xs){j:Nat}(hj:j<B):v.ownBlock=none\/v.ownBlock≠some j:=by
 cases hv:v.ownBlock with
 |none=>exact .inl rfl
 |some g=>exact .inr (fun e=>by have:=(h.lt g hv).1;simp at e;omega)
theorem azX (evs:List Ev)(l:List aI)(k:Option Addr)(c:Nat)(k2:Option Addr)(c2:Nat)(w:World)(h:gz w k c k2 c2 evs l)(ct:∀a∈l,a.ok)(hle:evs.length<=1000000)(hl:l.length<=1000000):
  Calls Tryz.prog 18 #[tv k c k2 c2 evs l] w fun e w'=>∃k c k2 c2,e=.returned (tv k c k2 c2 evs (ey l))/\w'.ownsRow w.heap.size 67 8 (.slice k evs.length c) evs.length (evs.flatMap ec)/\w'.ownsRow w.heap.size 100 6 (.slice k2 (ey l).length c2) (ey l).length ((ey l).flatMap ac)/\ay w w':=by
 refine(ajf evs l _ _ w h.1 h.2 ct hle hl).mono ?_;rintro e w' ⟨ue,ua,rfl,h1,h2,h3⟩;obtain⟨k,c,k2,c2,rfl,rfl,h⟩:=gz.of h1 h2;exact⟨k,c,k2,c2,rfl,h1,h2,h3⟩
end
section
open Go.RowKit
variable {W0 X w6:World} {mj g6 gt k:Nat} {l:List aI} {va ve:Value}
def Ask.mi (a:Ask):aI:=⟨⟨a.node,a.handler,a.count,a.kind,a.index⟩,a.n⟩
def eJ (l:List az):List Ev:=l.map az.ev
def ez (l:List az):List aI:=l.flatMap fun s=>s.asks.map Ask.mi
structure Two (W0 W:World)(gt:Nat)(ve va:Value)(evs:List Ev)(l:List aI):Prop where
 cj:ax W gt #[ve,va]
 oe:W.ownsRow (gt+1) 67 8 ve evs.length (evs.flatMap ec)
 oa:W.ownsRow (gt+1) 100 6 va l.length (l.flatMap ac)
 ne:∀j,ve.ownBlock=some j->va.ownBlock≠some j
 below:Below gt W0 W
theorem Two.later{W:World}{evs:List Ev}(h:Two W0 W gt ve va evs l)(hb:ay W X):Two W0 X gt ve va evs l:=
 ⟨h.cj.kept hb h.cj.lt,rU h.oe hb,rU h.oa hb,h.ne,h.below.trans (hb.mono (by have:=h.cj.lt;omega))⟩
theorem Two.ajH{evs:List Ev}(h:Two W0 X gt ve va evs l)(e:Ev){n:Nat}(h2:ve.ownBlock=some g6\/g6=X.heap.size)
  (h3:w6.ownsRow (gt+1) 67 8 (.slice (some ⟨g6,0,none⟩) (n+1) mj) (n+1) (evs.flatMap ec++ec e)) (hn:n=evs.length) (h4:X.grownBy w6 ve.ownBlock):
  Two W0 (w6.setCell ⟨gt,0,none⟩ (.slice (some ⟨g6,0,none⟩) (n+1) mj)) gt (.slice (some ⟨g6,0,none⟩) (n+1) mj) va (evs++[e]) l:=by
 subst hn;have qM:gt+1<=g6:=(h3.lt g6 rfl).1;have uC:ax w6 gt #[ve,va]:=h.cj.grown h4 (fun e=>by have:=(h.oe.lt gt e).1;omega);refine⟨uC.set 0 _,?_,?_,?_,?_⟩
 ·rw[List.length_append,nC];simp only[qu,List.flatMap_nil,uO];exact h3.kept (vT w6 ⟨gt,0,none⟩ _) (Ei h3 (by show gt<gt+1;omega))
 ·refine(h.oa.kept h4 ?_).kept (vT w6 ⟨gt,0,none⟩ _) (Ei h.oa (by show gt<gt+1;omega))
  cases hv:va.ownBlock with
  |none=>exact .inl rfl
  |some j=>exact .inr (fun e=>h.ne j e.symm hv)
 ·intro j hj hv;simp[Value.ownBlock] at hj;subst hj
  rcases h2 with h2|h2
  ·exact h.ne _ h2 hv
  ·have:=(h.oa.lt _ hv).2;omega
 ·refine(h.below.grown h4 (by have:=h.cj.lt;omega) (fun j hj=>by have:=(h.oe.lt j hj).1;omega)).setCell ai _
theorem Two.azY{evs:List Ev}(h:Two W0 X gt ve va evs l)(a:aI){n:Nat}(h2:va.ownBlock=some g6\/g6=X.heap.size)
  (h3:w6.ownsRow (gt+1) 100 6 (.slice (some ⟨g6,0,none⟩) (n+1) mj) (n+1) (l.flatMap ac++ac a)) (hn:n=l.length) (h4:X.grownBy w6 va.ownBlock):
  Two W0 (w6.setCell ⟨gt,1,none⟩ (.slice (some ⟨g6,0,none⟩) (n+1) mj)) gt ve (.slice (some ⟨g6,0,none⟩) (n+1) mj) evs (l++[a]):=by
 subst hn;have qM:gt+1<=g6:=(h3.lt g6 rfl).1;have uC:ax w6 gt #[ve,va]:=h.cj.grown h4 (fun e=>by have:=(h.oa.lt gt e).1;omega);refine⟨uC.set 1 _,?_,?_,?_,?_⟩
 ·refine(h.oe.kept h4 ?_).kept (vT w6 ⟨gt,1,none⟩ _) (Ei h.oe (by show gt<gt+1;omega))
  cases hv:ve.ownBlock with
  |none=>exact .inl rfl
  |some j=>exact .inr (fun e=>h.ne j hv e.symm)
 ·rw[List.length_append,nC];simp only[qu,List.flatMap_nil,uO];exact h3.kept (vT w6 ⟨gt,1,none⟩ _) (Ei h3 (by show gt<gt+1;omega))
 ·intro j hj hv;simp[Value.ownBlock] at hv;subst hv
  rcases h2 with h2|h2
  ·exact h.ne _ hj h2
  ·have:=(h.oe.lt _ hj).2;omega
 ·refine(h.below.grown h4 (by have:=h.cj.lt;omega) (fun j hj=>by have:=(h.oa.lt j hj).1;omega)).setCell ai _
theorem azZ{l:List az}(h:k<l.length):eJ (l.take (k+1))=eJ (l.take k)++[l[k].ev]:=by
 unfold eJ;rw[List.take_succ_eq_append_getElem h,cU];rfl
theorem aAa{l:List az}(h:k<l.length):ez (l.take (k+1))=ez (l.take k)++l[k].asks.map Ask.mi:=by
 unfold ez;rw[List.take_succ_eq_append_getElem h,nC];simp
theorem ajI(l:List az):(eJ l).length=l.length:=by simp[eJ]
theorem aaN:∀(l:List az) (m:Nat),(∀s∈l,s.asks.length<=m)->(ez l).length<=l.length*m
 |[],_,_=>by simp[ez]
 |s::l,m,h=>by
  have ih:=aaN l m (fun t ht=>h t (by simp[ht]));have h0:=h s ai;simp only[ez,qu,List.length_append,dy,List.length_cons] at ih⊢;rw[wy];omega
theorem aAb{l:List Ask}{j:Nat}(h:j<l.length)(r:List aI):r++(l.take (j+1)).map Ask.mi=(r++(l.take j).map Ask.mi)++[l[j].mi]:=by
 rw[List.take_succ_eq_append_getElem h,cU,List.append_assoc];rfl
end
section
open Go.RowKit
variable {B e g k m:Nat} {W w:World} {l:List aw} {r:Bk} {tmps:Array Value} {v:Value} {xs:List Value}
theorem aaO(s:aw):Lib.hasSuffix s [10]=decide (s.getLast? =some 10):=by
 rw[qy];unfold Lib.hasSuffix;rw[List.isSuffixOf_iff_suffix,cP];constructor
 ·rintro⟨t,rfl⟩;simp
 ·intro h
  have hne:s≠[]:=by rintro rfl;simp at h
  refine⟨s.dropLast,?_⟩;rw[List.getLast?_eq_some_getLast hne] at h;injection h with h;rw[<-h];exact List.dropLast_concat_getLast hne
theorem aAc(s:aw)(h:s.getLast? =some 10):Lib.trimSuffix s [10]=s.dropLast:=by
 unfold Lib.trimSuffix;rw[aaO,h];simp[List.dropLast_eq_take]
theorem aAd(c:UInt8)(s:aw):((bM c s).map List.length).sum<=s.length:=by
 induction s with
 |nil=>simp[bM]
 |cons x r ih=>
  simp only[bM];split
  ·simp;omega
  ·cases hs:bM c r with
   |nil=>exact absurd hs (YT c r)
   |cons a b=>rw[hs] at ih;simp at ih⊢;omega
theorem aAe(f:Nat)(r:RS):(r.asks f).1.length<=r.rest.length:=by
 induction f generalizing r with
 |zero=>simp[RS.asks]
 |succ f ih=>
  by_cases hb:r.bad=true
  ·rw[RS.KL _ _ hb];simp
  ·by_cases hh:r.has [32,91]=true
   ·rw[RS.Tz f r (by simpa using hb) hh];have h1:=ih (r.skip [32,91]).mg;have h2:=RS.ajw (r.skip [32,91]);have h3:=RS.ajy r _ hh;have h4:([32,91]:aw).length=2:=rfl;simp only[List.length_cons];omega
   ·rw[RS.Ty _ _ (by simpa using hh)];simp
theorem aAf(i:Nat)(s:aw):(sB i s).1.length<=s.length:=by
 have h1:=aAe (s.length+1) (vK i s);have h2:(vK i s).rest.length<=(oN i s).rest.length:=RS.Og (oN i s) ko;have h3:(oN i s).rest.length<=s.length:=RS.GX ⟨s,false⟩ (head i);unfold sB;omega
theorem aAg{s:aw}{n:Nat}(h:num s=some n):n<=2147483647:=((xx _ _).1 h).1
theorem mapM_le{ns:List Nat}(h:l.mapM num=some ns):∀n∈ns,n<=2147483647:=by
 induction l generalizing ns with
 |nil=>simp at h;subst h;simp
 |cons a l ih=>
  rw[EN] at h
  cases ha:num a with
  |none=>rw[ha] at h;simp at h
  |some x=>
   cases hl:l.mapM num with
   |none=>rw[ha,hl] at h;simp at h
   |some y=>
    rw[ha,hl] at h;simp at h;subst h;intro n hn
    rcases bZ.1 hn with rfl|hn
    ·exact aAg ha
    ·exact ih hl n hn
theorem ajJ{s:aw}{l:List Nat}(h:eH s m=some l):∀n∈l,n<=2147483647:=by
 unfold eH at h;split at h
 ·exact mapM_le h
 ·cases h
theorem aAh{s:aw}{q:Qn}(h:gQ s=some q):q.ok:=by
 unfold gQ at h;simp only[] at h;split at h
 ·cases h
 ·split at h
  ·rename_i a b c i h3 h1;split at h
   ·injection h with h;subst h;have hk:=aao dM ((bM 32 s).getD 0 []) 4;have ha:=ajJ h3;have hi:=ajJ h1;have h4:kindOf dM ((bM 32 s).getD 0 [])<=3:=hk;generalize kindOf dM ((bM 32 s).getD 0 [])=kq at h4⊢;intro n hn;have e0:=ha a ai;have e1:=ha b ai;have e2:=ha c ai;have e3:=hi i ai;simp[Qn.ints] at hn;unfold dI;omega
   ·cases h
  ·cases h
theorem aAi(r:RS):(r.eb).ok:=by
 refine⟨?_,?_⟩
 ·show((gQ (r.text [[32,61,32],[93]])).getD ru).ok
  cases h:gQ (r.text [[32,61,32],[93]]) with
  |some q=>exact aAh h
  |none=>
   intro n hn;simp[ru,Qn.ints] at hn;subst hn;unfold dI;omega
 ·show dI (r.zt:Int)
  have:=ahs (r.fe.text [[47],[93]]);have h:r.zt=de (r.fe.text [[47],[93]]):=rfl;unfold dI;omega
theorem aAj(f:Nat)(r:RS):∀a∈(r.asks f).1,a.ok:=by
 induction f generalizing r with
 |zero=>simp[RS.asks]
 |succ f ih=>
  by_cases hb:r.bad=true
  ·rw[RS.KL _ _ hb];simp
  ·by_cases hh:r.has [32,91]=true
   ·rw[RS.Tz f r (by simpa using hb) hh];intro a ha
    rcases bZ.1 ha with rfl|ha
    ·exact aAi _
    ·exact ih _ a ha
   ·rw[RS.Ty _ _ (by simpa using hh)];simp
theorem aaP(i:Nat)(s:aw):line i s=if(Bj i s).bad then none else some ((xy i s).getD rq,(sB i s).1):=rfl
theorem ajK(i:Nat)(s:aw)(l:List aw):lines i (s::l)=match line i s with
  |none=>none
  |some (e,a)=>match lines (i+1) l with
   |none=>none
   |some (es,more)=>some (e::es,a++more):=rfl
theorem aAk{B' e' k' n n':Nat}{v':Value}{xs':List Value}(h:W.ownsRow B e k v n xs)(h':W.ownsRow B' e' k' v' n' xs')(hne:e≠e'):∀j,v.ownBlock=some j->v'.ownBlock≠some j:=by
 intro j hj vp;obtain⟨_,h0|⟨g,cap,cur,hv,hb,hh,_⟩⟩:=h
 ·rw[h0.1] at hj;cases hj
 ·obtain⟨_,DC|⟨g',cap',aEa,hv',yy,TJ,_⟩⟩:=h'
  ·rw[DC.1] at vp;cases vp
  ·rw[hv] at hj;rw[hv'] at vp;simp[Value.ownBlock] at hj vp;subst hj vp;rw[hh] at TJ;injection TJ with TJ;injection TJ with h1 h2 h3;exact hne h2
theorem ajL{n:Nat}(h:W.ownsRow B e k v n xs)(hs:du W g l)(hne:e≠9):v.ownBlock≠some g:=by
 intro hj;obtain⟨_,h0|⟨g',cap,cur,hv,hb,hh,_⟩⟩:=h
 ·rw[h0.1] at hj;cases hj
 ·rw[hv] at hj;simp[Value.ownBlock] at hj;subst hj;unfold du at hs;rw[hh] at hs;injection hs with hs;injection hs with h1 h2 h3;exact hne h2
theorem du.ajM{w':World}{row:Option Nat}(h:du w g l)(hb:w.grownBy w' row)(hne:row≠some g):du w' g l:=(hb.block g h.lt (fun e=>hne e.symm)).trans h
theorem Two.aAl{W0 X w6:World}{gt:Nat}{ve va u:Value}{evs:List Ev}{l more:List aI}{n:Nat}(h:Two W0 X gt ve va evs l)
  (h3:w6.ownsRow (gt+1) 100 6 u (n+m) (l.flatMap ac++more.flatMap ac)) (hn:n=l.length) (hm:m=more.length) (h4:X.grownBy w6 va.ownBlock):
  Two W0 (w6.setCell ⟨gt,1,none⟩ u) gt ve u evs (l++more):=by
 subst hn hm;have uC:ax w6 gt #[ve,va]:=h.cj.grown h4 (fun e=>by have:=(h.oa.lt gt e).1;omega)
 have hoe:w6.ownsRow (gt+1) 67 8 ve evs.length (evs.flatMap ec):=h.oe.kept h4 (by
  cases hv:ve.ownBlock with
  |none=>exact .inl rfl
  |some j=>exact .inr (fun e=>h.ne j hv e.symm))
 refine⟨uC.set 1 _,?_,?_,aAk hoe h3 aq,?_⟩
 ·exact hoe.kept (vT w6 ⟨gt,1,none⟩ _) (Ei hoe (by show gt<gt+1;omega))
 ·rw[List.length_append,nC];exact h3.kept (vT w6 ⟨gt,1,none⟩ _) (Ei h3 (by show gt<gt+1;omega))
 ·refine(h.below.grown h4 (by have:=h.cj.lt;omega) (fun j hj=>by have:=(h.oa.lt j hj).1;omega)).setCell ai _
def Bk.evs:Bk->List Ev
 | .ok e _=>e
 |_=>[]
def Bk.mi:Bk->List aI
 | .ok _ a=>ey a
 |_=>[]
def Bk.code:Bk->Int
 | .ok _ _=>0
 | .form=>8
 | .rV=>2
theorem aAm{cs:Array Value}(hb:ax w g cs)(hl:cs.size=2):(loadVar 28 ⟨g,0,none⟩).run Tryz.prog w=.ok (.agg cs) w:=by
 obtain⟨t,ht⟩:=hb;exact run_loadVar_row w g t 28 cs (0,0) _ ht Tryz.underlying28 rfl (by rw[hl];kernel_rfl)
def Oo (w:World)(r:Bk)(e:Ending)(w':World):Prop:=(∃k c k2 c2,e=.returned (.tuple #[tv k c k2 c2 r.evs r.mi,I r.code])/\gz w' k c k2 c2 r.evs r.mi)/\ay w w'
theorem ajN{k k2:Option Addr}{c c2:Nat}(hb:ax W w.heap.size #[.slice k r.evs.length c,.slice k2 r.mi.length c2])(hT:gz W k c k2 c2 r.evs r.mi)(hB:ay w W)
  (h2:tmps.getD 2 undef=.pointer (some ⟨w.heap.size,0,none⟩)) (h3:tmps.getD 3 undef=I r.code):
  bodyPost Tryz.prog Tryz.f5 (Oo w r) .ret { tmps:=tmps,defers:=[] } W:=by
 have hr:=aap Tryz.results5 tmps W w.heap.size _ (aAm hb rfl) h2;rw[h3] at hr;exact wv hr rfl ⟨⟨k,c,k2,c2,rfl,hT⟩,hB⟩
theorem TK(hr:r.evs=[]/\r.mi=[])(hb:ax W w.heap.size #[.slice none 0 0,.slice none 0 0])(hB:ay w W)
  (h2:tmps.getD 2 undef=.pointer (some ⟨w.heap.size,0,none⟩)) (h3:tmps.getD 3 undef=I r.code):
  bodyPost Tryz.prog Tryz.f5 (Oo w r) .ret { tmps:=tmps,defers:=[] } W:=
 ajN (k:=none) (c:=0) (k2:=none) (c2:=0) (by rw[hr.1,hr.2];exact hb) (by rw[hr.1,hr.2];exact⟨Flat.nil _ _ _ _,Flat.nil _ _ _ _⟩) hB h2 h3
theorem ajO(s:aw)(w:World)(hg:Gl w)(hs:s.length<=10000):
  Calls Tryz.prog 5 #[sv s] w (Oo w (zu s)):=by
 have HR:=ae (show zu s=if 5000<s.count 10 then .rV else if s=[] then .ok [] [] else if s.getLast? =some 10 then(match lines 0 (bM 10 s.dropLast) with |some (e,a)=> .ok e a|none=> .form) else .form from rfl);have kV:ay w (w.alloc (.cells #[.slice none 0 0,.slice none 0 0] 28)):=(Below.refl _ _).alloc aA _;have lH:=ax.new w #[.slice none 0 0,.slice none 0 0] 28;have Ho:=ae kV;have xI:=ae lH;have HG:=ae hg;have Du:s.count 10<=s.length:=Ln
 obtain⟨r,hr⟩:∃r,r=zu s:=⟨_,rfl⟩
 rw[<-hr] at HR⊢;clear hr kV lH hg;by_cases hc:5000<s.count 10
 ·have kK:=HR.out;rw[aj hc] at kK;subst kK;have hc':(5000:Int)<((s.count 10:Nat):Int):=ab;have sL:=ae (ahy s 10 (w.alloc (.cells #[.slice none 0 0,.slice none 0 0] 28)));clear HR Du hc;generalize s.count 10=n at sL hc';unfold sv at sL⊢;go_enter Tryz.func5,Tryz.ntmps5
  go_wp2_with (go_at_call 14;refine sL.out.mono ?_;rintro e w1 ⟨rfl,rfl⟩)
  exact TK ⟨rfl,rfl⟩ xI.out Ho.out rfl rfl
 ·have hc':¬(5000:Int)<((s.count 10:Nat):Int):=ab;have sL:=ae (ahy s 10 (w.alloc (.cells #[.slice none 0 0,.slice none 0 0] 28)));have xR:=ae (fun X=>awd s [10] X ab);have cK:=(ax.new w #[.slice none 0 0,.slice none 0 0] 28).alloc (.cells #[.slice none 0 0,.slice none 0 0] 28);have cn:ay w ((w.alloc (.cells #[.slice none 0 0,.slice none 0 0] 28)).alloc (.cells #[.slice none 0 0,.slice none 0 0] 28)):=Ho.out.alloc (by rw[World.size_alloc];omega) _;have xK:=ae cK;have kY:=ae cn;clear cK cn;have kK:=HR.out;rw[af hc] at kK;by_cases xk:s=[]
  ·rw[aj xk] at kK;subst kK xk;clear HR Du hc;generalize([]:aw).count 10=n at sL hc';unfold sv at sL xR⊢;go_enter Tryz.func5,Tryz.ntmps5
   go_wp2_with (first|(go_at_call 14;refine sL.out.mono ?_;rintro e w1 ⟨rfl,rfl⟩)|(go_at_call 15;refine(xR.out _).mono ?_;rintro e w2 ⟨rfl,rfl⟩))
   exact TK ⟨rfl,rfl⟩ xK.out kY.out rfl rfl
  ·rw[af xk] at kK
   have ayc:List.isEmpty s=false:=by cases s with |nil=>exact absurd rfl xk|cons a b=>rfl
   by_cases jP:s.getLast? =some 10
   ·rw[aj jP] at kK
    have Oq:Lib.hasSuffix s [10]=true:=by rw[aaO];exact fh jP
    have RT:=aAc s jP;rw[Oq,RT] at xR;have ajP:s.dropLast.length<=10000:=bC;have aaQ:((bM 10 s.dropLast).map List.length).sum<=10000:=bh (aAd 10 s.dropLast) ajP
    have um:(bM 10 s.dropLast).length<=10001:=by
     rw[Ka];have:=Ln (a:=(10:UInt8)) (l:=s.dropLast);omega
    have zL:=ae (fun X (hX:Gl X)=>Nr s.dropLast 10 X hX ab);have BK:=ae kK;clear HR Du hc kK Oq RT jP xk;generalize s.dropLast=body at zL xR ajP aaQ um BK;generalize bM 10 body=ws at zL aaQ um BK;generalize s.count 10=n at sL hc';unfold sv at sL xR zL⊢;go_enter Tryz.func5,Tryz.ntmps5
    go_wp2_with (first|(go_at_call 14;refine sL.out.mono ?_;rintro e w1 ⟨rfl,rfl⟩)|(go_at_call 15;refine(xR.out _).mono ?_;rintro e w2 ⟨rfl,rfl⟩)|(go_at_call 16;refine(zL.out _ ((HG.out.alloc _).alloc _)).mono ?_;rintro e X0 ⟨rfl,yx,TL,hzX⟩))
    have dY:(w.alloc (.cells #[.slice none 0 0,.slice none 0 0] 28)).heap.size=w.heap.size+1:=World.size_alloc _ _
    have dE:((w.alloc (.cells #[.slice none 0 0,.slice none 0 0] 28)).alloc (.cells #[.slice none 0 0,.slice none 0 0] 28)).heap.size=w.heap.size+1+1:=by rw[World.size_alloc,dY]
    have htw:Two (w.alloc (.cells #[.slice none 0 0,.slice none 0 0] 28)) X0 (w.heap.size+1) (.slice none 0 0) (.slice none 0 0) [] []:=by
     refine⟨?_,jU _ _ _ _,jU _ _ _ _,fun j hj=>by simp[Value.ownBlock] at hj,?_⟩
     ·have:=(ax.new (w.alloc (.cells #[.slice none 0 0,.slice none 0 0] 28)) #[.slice none 0 0,.slice none 0 0] 28)
      rw[dY] at this;exact this.kept TL ab
     ·exact((Below.refl _ _).alloc ab _).trans (TL.mono ab)
    rw[dE] at yx;have HGW:=ae (HG.out.alloc (.cells #[.slice none 0 0,.slice none 0 0] 28));have sM:=ae htw;have Ot:=ae yx;have aAn:=TL.size;rw[dE] at aAn hzX;clear htw yx TL dE xR sL zL hc' xK kY
    obtain⟨W0,DN⟩:∃W0,W0=w.alloc (.cells #[.slice none 0 0,.slice none 0 0] 28):=⟨_,rfl⟩
    rw[<-DN] at xI Ho HGW sM dY;clear DN;go_loopw [32] (fun i wr=>∃(k:Nat) (ke:Option Addr) (ce:Nat) (ka:Option Addr) (ca:Nat) (E:List Ev) (A:List aI),i=.int .i64 k/\k<=ws.length/\E.length=k/\Hid (Two W0 wr (w.heap.size+1) (.slice ke k ce) (.slice ka A.length ca) E A)/\Hid (du wr (w.heap.size+1+1) ws)/\Hid (lines 0 ws=match lines k (ws.drop k) with |none=>none|some (es,more)=>some (E++es,A++more))/\Hid (A.length+((ws.drop k).map List.length).sum<=10000)/\Hid (∀a∈A,a.ok)) (fun i _=>ws.length-(intOf i).toNat)
    case atStart=>exact⟨0,none,0,none,0,[],[],rfl,ab,rfl,sM,Ot,ae (by rw[sY];cases lines 0 ws with |none=>rfl|some x=>rfl),ae (by simpa using aaQ),ae ai⟩
    case round=>
     obtain⟨k,ke,ce,ka,ca,E,A,rfl,hk,hE,sM,Ot,Hln,Hsm,oT⟩:=hrel;have Dl:=sM.out.cj.lt;have qf:ax wr w.heap.size #[.slice none 0 0,.slice none 0 0]:=xI.out.kept sM.out.below ab;have Ou:Gl wr:=HGW.out.below (show Below (W0.heap.size) W0 wr by rw[dY];exact sM.out.below);have iw:ay w wr:=Ho.out.trans (sM.out.below.mono ab);by_cases hlt:k<ws.length
     ·have hcell:wr.cell? ⟨w.heap.size+1+1,k,none⟩=some (sv ws[k]):=du.cell Ot.out (by simp[hlt]);have mc:=List.drop_eq_getElem_cons hlt;have hsm:=Hsm.out;rw[mc] at hsm;simp only[cY,EO] at hsm;have Ss:=Hln.out;rw[mc,ajK,aaP] at Ss;have xt:=aAf k ws[k];have hoA:=aAj (ws[k].length+1) (vK k ws[k]);have HoA:=ae (show∀a∈(sB k ws[k]).1,a.ok from hoA);have hlc:=azP k ws[k] wr.heap.size (wr.alloc (.cells #[sv ws[k],.bool false] 61)) (ax.new _ _ _) (Ou.alloc _) (by have:=Ou.low;omega) ab ab;have KO:=ae hlc;have Ej:=ae Ss;have aaR:=ae hsm;have pZ:=ae Ou;have uw:=ae iw;have sJ:=ae qf;clear mc hsm Ss hlc hoA qf Ou iw;generalize ws[k]=text at hcell KO Ej aaR HoA xt;generalize(xy k text).getD rq=ev at KO Ej;generalize(sB k text).1=la at KO Ej HoA xt;generalize Bj k text=le at KO Ej;unfold sv at hcell KO
      go_upto_region 14 with(go_at_call 17;refine KO.out.mono ?_;rintro e w1 ⟨va,rfl,bN,dQ,k1,g1⟩;obtain⟨qa,qc,rfl,_⟩:=bN.open;unfold iV)
      have hpa:(wr.alloc (.cells #[.string ⟨text.toArray⟩,.bool false] 61)).heap.size=wr.heap.size+1:=World.size_alloc _ _;have eP:=g1.size
      have ajQ:∀x,qa=some x->wr.heap.size+1<=x.block:=fun x hx=>by
       have:=dQ x.block (by rw[hx];rfl);omega
      have Ov:ay wr w1:=((Below.refl _ _).alloc aA _).grown g1 ab (fun j hj=>by have:=ei hj;omega);have TM:=ax.new w1 (iV ev) 67;have TN:=(sM.out.later Ov).later ((Below.refl w1.heap.size w1).alloc aA (.cells (iV ev) 67));have TP:fF (w1.alloc (.cells (iV ev) 67)) wr.heap.size le:=fF.below k1 ((Below.refl _ _).alloc aA _)
      have TQ:du (w1.alloc (.cells (iV ev) 67)) (w.heap.size+1+1) ws:=(du.below (Ot.out.below Ov) ((Below.refl _ _).alloc aA _))
      have Hu:lp (w1.alloc (.cells (iV ev) 67)) (.slice qa la.length qc) la:=bN.kept ((Below.refl _ _).alloc aA _) aA;have TR:ax (w1.alloc (.cells (iV ev) 67)) w.heap.size #[.slice none 0 0,.slice none 0 0]:=(sJ.out.kept Ov sJ.out.lt).alloc _;have aM:ay w (w1.alloc (.cells (iV ev) 67)):=(uw.out.trans (Ov.mono uw.out.size)).alloc (by have:=uw.out.size;omega) _;have aEb:wr.heap.size<w1.heap.size:=ab;have TS:(w1.alloc (.cells (iV ev) 67)).heap.size=w1.heap.size+1:=World.size_alloc _ _;unfold iV at TM TN TP TQ Hu TR aM TS
      obtain⟨V,hV⟩:∃V,V=w1.alloc (.cells #[I ev.kind,I ev.node,I ev.arg,I ev.msg.node,I ev.msg.handler,I ev.msg.count,I ev.msg.index,I ev.msg.copy] 67):=⟨_,rfl⟩
      rw[<-hV] at TM TN TP TQ Hu TR aM TS⊢;have Hzv:=ae TS;clear hV bN dQ k1 g1 hpa eP Ov TS;have cb:V.cell? ⟨wr.heap.size,1,none⟩=some (.bool le.bad):=ax.cell TP 1;have Ow:=ae TN;have aAo:=ae TQ;have aAp:=ae Hu;have zH:=ae TR;have rD:=ae aM;have Ek:=ae TM;clear TN TQ Hu TR aM TP TM
      cases zJ:le.bad with
      |true=>
       rw[zJ] at cb Ej;have HF:=ae (show r=.form by rw[BK.out,Ej.out];rfl);have z0:=zH.out.cell 0;have z1:=zH.out.cell 1;have f0:=zH.out.frozen 0;have f1:=zH.out.frozen 1;go_wp2_with fail;have h1:=(zH.out.set 0 (.slice none 0 0)).set 1 (.slice none 0 0);have hg:=(fZ V ⟨w.heap.size,0,none⟩ (.slice none 0 0)).trans (fZ _ ⟨w.heap.size,1,none⟩ (.slice none 0 0));have dQ:=HF.out;subst dQ;exact TK ⟨rfl,rfl⟩ h1 (rD.out.grown hg rD.out.size (fun j hj=>by have h:=ei hj;change w.heap.size=j at h;omega)) rfl rfl
      |false=>
       rw[zJ] at cb Ej
       have HL3:=ae (show lines 0 ws=match lines (k+1) (ws.drop (k+1)) with |none=>none|some (es,more)=>some ((E++[ev])++es,(A++la)++more) by
        rw[Ej.out];simp only[ye,nY]
        cases lines (k+1) (ws.drop (k+1)) with
        |none=>rfl
        |some x=>simp)
       have t0:V.cell? ⟨w.heap.size+1,0,none⟩=some (.slice ke k ce):=Ow.out.cj.cell 0;have m0:=Ek.out.cell 0;have m1:=Ek.out.cell 1;have m2:=Ek.out.cell 2;have m3:=Ek.out.cell 3;have m4:=Ek.out.cell 4;have m5:=Ek.out.cell 5;have m6:=Ek.out.cell 6;have m7:=Ek.out.cell 7;have BM:=ae hE;clear hE
       go_upto_region 17 with(at_builtin;go_must (refine uT rfl _ _ 25 rfl 67 _ 8 64 Tryz.underlying25 Vd rfl ab ab (w.heap.size+1+1) (.slice ke k ce) k (E.flatMap ec) rfl (by have h:=Ow.out.oe;rw[BM.out] at h;exact h.alloc _) V.heap.size 1 1 #[I ev.kind,I ev.node,I ev.arg,I ev.msg.node,I ev.msg.handler,I ev.msg.count,I ev.msg.index,I ev.msg.copy] 67 rfl (ej _ _) rfl rfl ab ab (by rw[World.size_alloc];have:=Hzv.out;omega) ?_);intro g6 mj w6 kj kS oR Ec qd rB;have uC:=(Ow.out.later ((Below.refl _ _).alloc aA (.cells #[I ev.kind,I ev.node,I ev.arg,I ev.msg.node,I ev.msg.handler,I ev.msg.count,I ev.msg.index,I ev.msg.copy] 67))).cj.grown qd (fun e=>by have:=(Ow.out.oe.lt _ e).1;omega);have x0:=uC.cell 0;have y0:=uC.frozen 0)
       have aaS:=Ow.out.later ((Below.refl _ _).alloc aA (.cells #[I ev.kind,I ev.node,I ev.arg,I ev.msg.node,I ev.msg.handler,I ev.msg.count,I ev.msg.index,I ev.msg.copy] 67));have aaT:=aaS.ajH ev oR (by simpa [ec,iv,Ev.ints] using Ec) BM.out.symm qd;have hVA:(V.alloc (.cells #[I ev.kind,I ev.node,I ev.arg,I ev.msg.node,I ev.msg.handler,I ev.msg.count,I ev.msg.index,I ev.msg.copy] 67)).heap.size=V.heap.size+1:=World.size_alloc _ _;have aaU:=aAo.out.below ((Below.refl V.heap.size V).alloc aA (.cells #[I ev.kind,I ev.node,I ev.arg,I ev.msg.node,I ev.msg.handler,I ev.msg.count,I ev.msg.index,I ev.msg.copy] 67));have ajR:=aaU.ajM qd (ajL aaS.oe aaU aq);have aaV:=ajR.grown (fZ w6 ⟨w.heap.size+1,0,none⟩ (.slice (some ⟨g6,0,none⟩) (k+1) mj)) (by show w.heap.size+1+1≠w.heap.size+1;omega);have ajS:=aAp.out.kept ((Below.refl V.heap.size V).alloc aA (.cells #[I ev.kind,I ev.node,I ev.arg,I ev.msg.node,I ev.msg.handler,I ev.msg.count,I ev.msg.index,I ev.msg.copy] 67)) aA
       have ajT:lp w6 (.slice qa la.length qc) la:=Flat.aaf ajS qd (fun x hx aW=>by
        have h1:=ajQ x hx;have h2:=(sM.out.oe.lt _ aW).2
        omega)
       have aaW:lp (w6.setCell ⟨w.heap.size+1,0,none⟩ (.slice (some ⟨g6,0,none⟩) (k+1) mj)) (.slice qa la.length qc) la:=Flat.aaf ajT (fZ w6 ⟨w.heap.size+1,0,none⟩ (.slice (some ⟨g6,0,none⟩) (k+1) mj)) (fun x hx aW=>by
        have h1:=ajQ x hx;have h2:=ei aW;change w.heap.size+1=x.block at h2
        omega)
       have h6z:=qd.size;have hYz:(w6.setCell ⟨w.heap.size+1,0,none⟩ (.slice (some ⟨g6,0,none⟩) (k+1) mj)).heap.size=w6.heap.size:=ai
       obtain⟨Y,hY⟩:∃Y,Y=w6.setCell ⟨w.heap.size+1,0,none⟩ (.slice (some ⟨g6,0,none⟩) (k+1) mj):=⟨_,rfl⟩
       rw[<-hY] at aaT aaV aaW hYz⊢
       have hYs:w.heap.size+1+1<=Y.heap.size:=by have:=Hzv.out;omega
       have KP:=ae aaT;have ajU:=ae aaV;have aAq:=ae aaW;clear hY aaT aaV aaW hYz ajT ajS ajR aaU aaS hVA h6z Ec qd rB uC x0 y0 t0 m0 m1 m2 m3 m4 m5 m6 m7 oR;have t1:Y.cell? ⟨w.heap.size+1,1,none⟩=some (.slice ka A.length ca):=KP.out.cj.cell 1
       have aEc:A.length+la.length<=10000:=by have:=aaR.out;omega
       go_wp2_with (at_builtin;go_must (refine acx rfl _ _ 26 rfl 100 _ 6 48 Tryz.underlying26 PR rfl ab ab (w.heap.size+1+1) (.slice ka A.length ca) A.length (A.flatMap ac) rfl KP.out.oa (.slice qa la.length qc) rfl la.length (la.flatMap ac) aAq.out (by intro u hu;obtain⟨x,_,hx⟩:=yh.1 hu;simp[ac,iv,aI.ints] at hx;rcases hx with rfl|rfl|rfl|rfl|rfl|rfl<;>rfl) ab hYs ?_);intro u w7 ho7 aaX TT;have BH:=KP.out.cj.grown aaX (fun e=>by have:=(KP.out.oa.lt _ e).1;omega);have x1:=BH.cell 1;have y1:=BH.frozen 1;obtain⟨ub,uc,rfl,_⟩:=(Flat.dU ho7).open)
       go_roundw
       case rel=>
        refine⟨k+1,some ⟨g6,0,none⟩,mj,ub,uc,E++[ev],A++la,by go_num,ab,by simp[BM.out],?_,?_,HL3,?_,?_⟩
        ·rw[List.length_append];exact ae (KP.out.aAl ho7 rfl rfl aaX)
        ·exact ae ((ajU.out.ajM aaX (ajL KP.out.oa ajU.out aq)).grown (fZ w7 ⟨w.heap.size+1,1,none⟩ (.slice ub (A.length+la.length) uc)) (by show w.heap.size+1+1≠w.heap.size+1;omega))
        ·have:=aaR.out;exact ae (by rw[List.length_append];omega)
        ·exact ae (fun x hx=>(fJ.1 hx).elim (oT.out x) (HoA.out x))
       case measure=>simp[intOf];omega
     ·obtain rfl:k=ws.length:=ab;have BM:=ae hE;clear hE;have lF:=BK.out;rw[Hln.out,EH aA] at lF;simp only[lines,uO] at lF
      have hAl:A.length<=10000:=by have:=Hsm.out;omega
      have aaY:pf wr (.slice ke E.length ce) E/\lp wr (.slice ka A.length ca) A:=by
       refine⟨?_,Flat.dU sM.out.oa⟩;have h:=Flat.dU sM.out.oe;rw[<-BM.out] at h;exact h
      have Hnf:=ae (ajf E A (.slice ke E.length ce) (.slice ka A.length ca) wr aaY.1 aaY.2 oT.out (by have:=BM.out;omega) ab);have hHE:=BM.out;rw[hHE] at Hnf;have t0:wr.cell? ⟨w.heap.size+1,0,none⟩=some (.slice ke ws.length ce):=sM.out.cj.cell 0;have t1:wr.cell? ⟨w.heap.size+1,1,none⟩=some (.slice ka A.length ca):=sM.out.cj.cell 1;have sJ:=ae qf;have uw:=ae iw;have kX:=ae lF;clear qf iw Ou lF aaY hHE sM Hln BK Hsm Ot
      go_wp2_with (go_at_call 18;refine Hnf.out.mono ?_;rintro e w2 ⟨ue,ua,rfl,oe,oa,cK⟩;obtain⟨kx,cx,kx2,cx2,rfl,rfl,hT⟩:=gz.of (by rw[BM.out];exact oe) oa;have h2:=sJ.out.kept cK sJ.out.lt;have z0:=h2.cell 0;have z1:=h2.cell 1;have f0:=h2.frozen 0;have f1:=h2.frozen 1)
      have hg:=(fZ w2 ⟨w.heap.size,0,none⟩ (.slice kx E.length cx)).trans (fZ _ ⟨w.heap.size,1,none⟩ (.slice kx2 (ey A).length cx2));have fB:=(h2.set 0 (.slice kx E.length cx)).set 1 (.slice kx2 (ey A).length cx2);have hr:=kX.out;subst hr;have hBf:ay w w2:=uw.out.trans (cK.mono uw.out.size);have hlw:w.heap.size<wr.heap.size:=ab;have oe1:=Flat.dU (qh oe hg hlw);rw[<-BM.out] at oe1;have oa1:=Flat.dU (qh oa hg hlw);exact ajN (r:=.ok E A) fB ⟨oe1,oa1⟩ (hBf.grown hg hBf.size (fun j hj=>by have h:=ei hj;change w.heap.size=j at h;omega)) rfl rfl
   ·rw[af jP] at kK;subst kK
    have Oq:Lib.hasSuffix s [10]=false:=by rw[aaO];exact ja jP
    rw[Oq] at xR;clear HR Du hc Oq jP xk;generalize Lib.trimSuffix s [10]=body at xR;generalize s.count 10=n at sL hc';unfold sv at sL xR⊢;go_enter Tryz.func5,Tryz.ntmps5
    go_wp2_with (first|(go_at_call 14;refine sL.out.mono ?_;rintro e w1 ⟨rfl,rfl⟩)|(go_at_call 15;refine(xR.out _).mono ?_;rintro e w2 ⟨rfl,rfl⟩))
    exact TK ⟨rfl,rfl⟩ xK.out kY.out rfl rfl
end
section
open Go.RowKit
def iX (s:aw):Int:=match num s with
 |some n=>n
 |none=> -1
theorem ajV {s:aw}{n:Nat}(h:num s=some n):iX s=n:=by unfold iX;rw[h]
theorem ajW {s:aw}(h:num s=none):iX s= -1:=by unfold iX;rw[h]
end
section
open Go.RowKit
def qj (c:UInt8)(s:aw):List Int:=if s=[] then [] else(bM c s).map iX
theorem aaZ:iX []= -1:=ajW avD
end
section
open Go.RowKit
def El (n:Int):Bool:=decide (0<=n) && decide (n<=2147483647)
def TU (a b c h:Int):Bool:=decide (0<=a) && decide (a<12) && decide (0<=b) && decide (b<h) && El c
def bQ.zero (m:bQ):Bool:=cF m.ints [0,0,0,0,0]
def Ox (e:Ev):Bool:=
 if e.node<0 then false
 else if 11<e.node then false
 else if e.kind=1\/e.kind=2\/e.kind=4 then El e.arg && e.msg.zero
 else if e.kind=3\/e.kind=5\/e.kind=6 then decide (e.arg=0) && TU e.msg.node e.msg.handler e.msg.count 40 && El e.msg.index && El e.msg.copy
 else if e.kind=7 then decide (e.arg=0) && e.msg.zero
 else false
def Em:List Int->aw
 |[]=>[]
 |[n]=>Lib.decDigits n.toNat
 |n::m::l=>Lib.decDigits n.toNat++[46]++Em (m::l)
def Oy (e:Ev):aw:=
 let h:=dt.getD e.kind.toNat []++[32]++Lib.decDigits e.node.toNat
 if e.kind=1\/e.kind=2\/e.kind=4 then h++[32]++Lib.decDigits e.arg.toNat
 else if e.kind=7 then h
 else h++[32]++Em e.msg.ints
def lh (e:Ev):aw:=if Ox e=true then Oy e else []
end
section
open Go.RowKit
theorem Oz:∀(k n:Nat),n<10^(k+1)->(Lib.decDigits n).length<=k+1
 |0,n,h=>by rw[Lib.decDigits_one (by simpa using h)];simp
 |k+1,n,h=>by
  by_cases h1:n<10
  ·rw[Lib.decDigits_one h1];simp
  ·rw[Nq n h1];have:=Oz k (n/10) (by rw[Nat.pow_succ] at h;omega);simp;omega
theorem decl (n:Nat)(h:n<=2147483647):(Lib.decDigits n).length<=10:=Oz 9 n ab
end
section
open Go.RowKit
theorem TV {n:Int}:El n=true↔0<=n/\n<=2147483647:=by simp[El]
theorem ajX {a b c h:Int}:TU a b c h=true↔(0<=a/\a<12)/\(0<=b/\b<h)/\0<=c/\c<=2147483647:=by simp[TU,El,and_assoc]
theorem bQ.ajY (m:bQ):m.zero=true↔m=⟨0,0,0,0,0⟩:=by
 obtain⟨a,b,c,d,e⟩:=m
 by_cases h:[a,b,c,d,e]=[0,0,0,0,0]
 ·have h1:(⟨a,b,c,d,e⟩:bQ).zero=true:=Ly h;simp only[h1,true_iff];simpa using h
 ·have h1:(⟨a,b,c,d,e⟩:bQ).zero=false:=Lz h;rw[h1];simpa using h
theorem KQ (e:Ev):Ox e=true↔su e:=by
 unfold Ox su;split
 ·simp;omega
 ·split
  ·simp;omega
  ·split
   ·rename_i h1 h2 h;rw[bO,TV,bQ.ajY];constructor
    ·rintro⟨h3,h4⟩;exact⟨ab,ab,.inl ⟨h,h3,h4⟩⟩
    ·rintro⟨_,_,⟨_,h3,h4⟩|⟨h5,_⟩|⟨h5,_⟩⟩
     ·exact⟨h3,h4⟩
     ·omega
     ·omega
   ·split
    ·rename_i h1 h2 h3 h;rw[bO,bO,bO,TV,TV,ajX,cP];constructor
     ·rintro⟨⟨⟨h4,h5⟩,h6⟩,h7⟩;exact⟨ab,ab,.inr (.inl ⟨h,h4,h5,h6,h7⟩)⟩
     ·rintro⟨_,_,⟨h5,_⟩|⟨_,h4,h5,h6,h7⟩|⟨h5,_⟩⟩
      ·omega
      ·exact⟨⟨⟨h4,h5⟩,h6⟩,h7⟩
      ·omega
    ·split
     ·rename_i h1 h2 h3 h4 h;rw[bO,bQ.ajY,cP];constructor
      ·rintro⟨h5,h6⟩;exact⟨ab,ab,.inr (.inr ⟨h,h5,h6⟩)⟩
      ·rintro⟨_,_,⟨h5,_⟩|⟨h5,_⟩|⟨_,h5,h6⟩⟩
       ·omega
       ·omega
       ·exact⟨h5,h6⟩
     ·rename_i h1 h2 h3 h4 h5;constructor
      ·intro h;cases h
      ·rintro⟨_,_,⟨h,_⟩|⟨h,_⟩|⟨h,_⟩⟩
       ·exact absurd h h3
       ·exact absurd h h4
       ·exact absurd h h5
theorem ajZ (k:Nat):(dt.getD k []).length<=7:=by
 by_cases h:k<8
 ·have:∀x:Fin 8,(dt.getD x.val []).length<=7:=aq;exact this ⟨k,h⟩
 ·rw[ff,oW (by simp[dt];omega)];simp
end
section
open Go.RowKit
def OA (q:Qn):Bool:=decide (1<=q.kind) && decide (q.kind<=3) && TU q.node q.handler q.count 41 && El q.index
theorem KR (q:Qn):OA q=true↔Dj q:=by
 unfold OA Dj;rw[bO,bO,bO,TV,ajX,cP,cP,and_assoc]
def aba (q:Qn):aw:=dM.getD q.kind.toNat []++[32]++Em [q.node,q.handler,q.count]++[32]++Lib.decDigits q.index.toNat
def mU (q:Qn):aw:=if OA q=true then aba q else []
theorem aka (k:Nat)(h:k<4):(dM.getD k []).length<=4:=by
 have:∀x:Fin 4,(dM.getD x.val []).length<=4:=aq;exact this ⟨k,h⟩
end
section
open Go.RowKit
def oV (s:aw):Ev×Bool:=
 let k:=kindOf dt (s.take (cutAt [[32]] s))
 let r:=(s.drop (cutAt [[32]] s)).drop 1
 let n:=iX (r.take (cutAt [[32]] r))
 let m:=(r.drop (cutAt [[32]] r)).drop 1
 if k=1\/k=2\/k=4 then(⟨k,n,iX m,⟨0,0,0,0,0⟩⟩,lh ⟨k,n,iX m,⟨0,0,0,0,0⟩⟩==s)
 else if k=7 then(⟨7,n,0,⟨0,0,0,0,0⟩⟩,lh ⟨7,n,0,⟨0,0,0,0,0⟩⟩==s)
 else match qj 46 m with
  |[a,b,c,d,x]=>(⟨k,n,0,⟨a,b,c,d,x⟩⟩,decide (0<k) && (lh ⟨k,n,0,⟨a,b,c,d,x⟩⟩==s))
  |_=>(⟨k,n,0,⟨0,0,0,0,0⟩⟩,false)
end
section
open Go.RowKit
def rI (s:aw):Qn×Bool:=
 let k:=kindOf dM (s.take (cutAt [[32]] s))
 let r:=(s.drop (cutAt [[32]] s)).drop 1
 let l:=qj 46 (r.take (cutAt [[32]] r))
 let m:=(r.drop (cutAt [[32]] r)).drop 1
 match l with
 |[a,b,c]=>if k=0 then(⟨0,0,0,0,0⟩,false) else(⟨a,b,c,k,iX m⟩,mU ⟨a,b,c,k,iX m⟩==s)
 |_=>(⟨0,0,0,k,0⟩,false)
def z5:Array Value:=#[I 0,I 0,I 0,I 0,I 0]
end
section
open Go.RowKit
def zM (q0:aw):aI×Bool:=
 let one:=q0.take (cutAt [[93]] q0)
 let qs:=one.take (cutAt [[32,61,32]] one)
 let an:=(one.drop (cutAt [[32,61,32]] one)).drop 3
 let n:=iX (an.take (cutAt [[47]] an))
 let most:=iX ((an.drop (cutAt [[47]] an)).drop 1)
 (⟨(rI qs).1,n⟩,(rI qs).2 && decide (0<=n) && decide (n<most))
def uD:Nat->Bool->aw->List aI->Option (Bool×aw×List aI)
 |0,_,_,_=>none
 |f+1,ok,rest,out=>
  if ok=true/\Lib.index rest [32,91]=0 then
   if(rest.drop 2).drop (cutAt [[93]] (rest.drop 2))=[] then none
   else uD f (zM (rest.drop 2)).2 (((rest.drop 2).drop (cutAt [[93]] (rest.drop 2))).drop 1) (out++[(zM (rest.drop 2)).1])
  else some (ok,rest,out)
def TW (i:Nat)(l:List Int)(k:Nat):Bool:=decide (∀j<k,0<=l.getD j 0/\l.getD j 0<(i:Int)/\(0<j->l.getD (j-1) 0<l.getD j 0))
def En (i:Nat)(ok:Bool)(rest:aw):Bool:=
 let r1:=if Lib.index rest [32,42]=0 then rest.drop 2 else rest
 if Lib.index r1 [32,97,102,116,101,114,32]=0 then
  (ok && TW i (qj 44 (r1.drop 7)) (qj 44 (r1.drop 7)).length) && (decide (0<(qj 44 (r1.drop 7)).length)||(r1==[]))
 else ok && (r1==[])
def abb (i:Nat)(t:aw):Option (Ev×List aI):=
 match uD (t.length+1) (oV (t.take (cutAt ko t))).2 (t.drop (cutAt ko t)) [] with
 |none=>none
 |some (ok,rest,out)=>if En i ok rest=true then some ((oV (t.take (cutAt ko t))).1,out) else none
def abc (i:Nat)(s:aw):Option (Ev×List aI):=
 if Lib.hasPrefix s (head i)=true then abb i (s.drop (head i).length) else none
end
end Go.Proofs.YtngblilamkkikaaGreatDoor
