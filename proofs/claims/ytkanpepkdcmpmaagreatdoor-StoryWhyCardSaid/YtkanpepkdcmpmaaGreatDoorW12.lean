import Derived.Test.YtkanpepkdcmpmaaGreatDoorW11
import Derived.BigRegion
import Derived.Lib.SliceRun
import Derived.Deep.RegionWith
import Derived.Test.YtkanpepkdcmpmaaGreatDoorW10
import Derived.RangeFuncNested
import Derived.RangeFuncBound
import Derived.RangeFuncCalls
import Derived.RangeFuncLeaves
import Derived.Shelf.Abstract
import Derived.Shelf.RegionOpen
import Derived.OwnWalkIn
import Derived.TacticsInMore
import Derived.LoopNIn
import Derived.LoopIn
import Derived.Deep.RegionLaw
import Derived.Deep.CutRange
set_option maxHeartbeats 40000000
set_option maxRecDepth 100000
set_option linter.all false
namespace Go.Proofs.YtkanpepkdcmpmaaGreatDoor
section
open Go.RowKit
def qC (run:List az)(i k:Nat):Bool:=match run[i]?,run[k]? with |some a,some b=>dB a b|_,_=>false
def pf (run:List az)(i k:Nat):List (Nat×Nat):=((List.range' (i+1) (k-(i+1))).filter fun j=>qC run i j).map fun j=>(i,j)
def xq (run:List az)(i:Nat):List (Nat×Nat):=(List.range i).flatMap fun j=>pf run j run.length
def nQ (run:List az):List (Nat×Nat):=xq run run.length
theorem auR (run:List az)(i:Nat):pf run i (i+1)=[]:=by simp[pf]
theorem auS (run:List az)(i k:Nat)(h:i+1<=k):pf run i (k+1)=pf run i k++(if qC run i k then [(i,k)] else []):=by
 unfold pf;rw[show k+1-(i+1)=(k-(i+1))+1 by omega,List.range'_concat,qz,dm];have:i+1+1*(k-(i+1))=k:=ab;rw[this];by_cases hd:qC run i k<;>simp[hd]
theorem Zj (run:List az)(i:Nat):xq run (i+1)=xq run i++pf run i run.length:=by
 unfold xq;rw[mn,pw];simp
theorem auT (run:List az)(i k:Nat)(h1:i+1<=k)(h2:k<=run.length):pf run i k<+:pf run i run.length:=by
 unfold pf;refine List.IsPrefix.map _ (List.IsPrefix.filter _ ?_)
 obtain⟨d,rfl⟩:∃d,k=i+1+d:=⟨k-(i+1),ab⟩
 obtain⟨e,he⟩:∃e,run.length=i+1+d+e:=⟨run.length-(i+1+d),ab⟩
 refine⟨List.range' (i+1+d) e,?_⟩;rw[he,show i+1+d-(i+1)=d by omega,show i+1+d+e-(i+1)=d+e by omega,List.range'_append_1]
theorem auU (run:List az)(i:Nat)(h:i<=run.length):xq run i<+:nQ run:=by
 obtain⟨d,hd⟩:∃d,run.length=i+d:=⟨run.length-i,ab⟩
 unfold nQ;rw[hd];clear h hd
 induction d with
 |zero=>exact List.prefix_rfl
 |succ d ih=>exact ih.trans (by rw[show i+(d+1)=(i+d)+1 by omega,Zj];exact wL _ _)
theorem auV (run:List az)(i k:Nat)(hi:i<run.length)(h1:i+1<=k)(h2:k<=run.length):xq run i++pf run i k<+:nQ run:=by
 refine List.IsPrefix.trans ?_ (auU run (i+1) ab);rw[Zj];exact(List.prefix_append_right_inj _).2 (auT run i k h1 h2)
def Zk (x:Nat×Nat):Array Value:=#[.agg #[I x.1,I x.2]]
theorem OJ {run:List az}{i k:Nat}(hi:i<run.length)(hk:k<run.length):qC run i k=dB run[i] run[k]:=by simp[qC,hi,hk]
theorem ahv:(Tryz.prog.info? 84).map (fun i=>(i.zero,i.size,i.bytes))=some (some (.agg #[.int .i64 0,.int .i64 0]),2,16):=ah
def pc (x:Nat×Nat):List Value:=[I x.1,I x.2]
end
section
open Go.RowKit
def CG (run:List az):Nat->Nat->Nat->Bool
 |0,_,_=>false
 |d+1,i,k=>(List.range run.length).any fun j=>decide (i<j) && qC run i j && (j==k||CG run d j k)
def dh (run:List az)(i k:Nat):Bool:=CG run run.length i k
theorem Zl (run:List az)(d i k:Nat)(h:run.length<=i+1):CG run d i k=false:=by
 cases d with
 |zero=>rfl
 |succ d=>
  rw[CG,List.any_eq_false];intro j hj;have:=gG.1 hj;simp;intro h1;omega
theorem ahw (run:List az):∀(m d d' i k:Nat),run.length<=i+1+m->m<=d->m<=d'->CG run d i k=CG run d' i k
 |0,d,d',i,k,h,_,_=>by rw[Zl _ _ _ _ ab,Zl _ _ _ _ ab]
 |m+1,d,d',i,k,h,h1,h2=>by
  obtain⟨d,rfl⟩:∃e,d=e+1:=⟨d-1,ab⟩
  obtain⟨d',rfl⟩:∃e,d'=e+1:=⟨d'-1,ab⟩
  rw[CG,CG];congr 1;funext j;by_cases hj:i<j
  ·rw[ahw run m d d' j k ab ab ab]
  ·simp[hj]
theorem OK (run:List az)(i k:Nat):dh run i k=(List.range run.length).any fun j=>decide (i<j) && qC run i j && (j==k||dh run j k):=by
 unfold dh;rw[ahw run run.length run.length (run.length+1) i k ab ab ab,CG]
theorem Ix (run:List az):∀(m i k:Nat),run.length<=i+m->dh run i k=true->i<k/\k<run.length
 |0,i,k,h,hl=>by
  unfold dh at hl;rw[Zl _ _ _ _ ab] at hl;cases hl
 |m+1,i,k,h,hl=>by
  rw[OK,yg] at hl;obtain⟨j,hj,hc⟩:=hl;have xe:=gG.1 hj;simp only[bZ,dv,uM,DT] at hc;obtain⟨⟨h1,_⟩,h3⟩:=hc
  rcases h3 with rfl|h3
  ·exact⟨h1,xe⟩
  ·have:=Ix run m j k ab h3;exact⟨ab,this.2⟩
theorem Zm (run:List az)(i k:Nat)(h:k<=i):dh run i k=false:=by
 rw[Gu];intro hl;have:=Ix run run.length i k ab hl;omega
def eE (n:Nat)(z:Value):Array Value:=(List.replicate n z).toArray
theorem AY (n:Nat)(z:Value):(eE n z).size=n:=by simp[eE]
theorem CH (n:Nat)(z:Value)(j:Nat)(h:j<n):(eE n z)[j]? =some z:=by simp[eE,h]
theorem AZ {P:Program}(t e:TypeId)(z:Value)(bytes n:Nat)(ht:P.underlying t=some (.slice e))(mq:(P.info? e).map (fun i=>(i.zero,i.size,i.bytes))=some (some z,1,bytes))(hz:z.cells=#[z])(kC:bytes<=1000)(hn:n<=1000000)(w:World):
  (Instr.makeSlice t (.int .i64 (n:Int)) (.int .i64 (n:Int))).run P w=.ok (.slice (some ⟨w.heap.size,0,none⟩) n n) (w.alloc (.cells (eE n z) e)):=by
 obtain⟨i0,hi,fk,cQ,fy⟩:=wN mq;have hb:bytes*n<=1000*1000000:=og kC hn
 have hr:=run_make (P:=P) w t e i0 z ht hi fk .i64 .i64 n n ab (Int.le_refl _) (by
  rw[fy];have h3:((bytes*n:Nat):Int)<=1000000000:=ab;rw[Int.natCast_mul] at h3
  omega) ab
 simp only[gF] at hr;rw[hr,hz,cQ]
 have:madeCells #[z] (n*1)=eE n z:=by
  rw[<-Array.toList_inj,Nat.mul_one,toList_madeCells_one];rfl
 rw[this]
theorem ahx:(Tryz.prog.info? 4).map (fun i=>(i.zero,i.size,i.bytes))=some (some (.bool false),1,1):=ah
end
section
open Go.RowKit
theorem Zn {P:Program}{w:World}{ops:Array Oper}{rest:List Oper}{o:Oper}{a:Act}{Q:Exit->Act->World->Prop}(dw:o.guard=none)(s x:Operand)(t:TypeId)
  (ho:o.op=.call { callee:=.builtin .append,args:=#[s,x],argTypes:=#[t,t] })
  (e:TypeId) (z:Value) (k bytes:Nat) (ht:P.underlying t=some (.slice e)) (mq:(P.info? e).map (fun i=>(i.zero,i.size,i.bytes))=some (some z,k,bytes)) (oh:z.cells.size=k) (hk:0<k) (kC:bytes<=1000)
  (B:Nat) (v:Value) (n:Nat) (xs:List Value) (hs:a.eval s=v) (aT:w.ownsRow B e k v n xs)
  (ad:Addr) (m c:Nat) (news:List Value) (hx:a.eval x=.slice (some ad) m c) (cS:Flat w k (.slice (some ad) m c) m news) (h1:∀u∈news,u.oneCell'=true)
  (jx:n+m<=100000000) (lK:B<=w.heap.size)
  (h:∀u w',w'.ownsRow B e k u (n+m) (xs++news)->w.grownBy w' v.ownBlock->Below B w w'->wpList P ops Q rest (a.put o.dst u) w'):wpList P ops Q (o::rest) a w:=by
 obtain⟨i0,hi,fk,cQ,fy⟩:=wN mq
 refine wpList_append_own_at w dw s x t ho B e i0 z k bytes ht hi fk cQ fy oh hk v n xs hs aT ad m c news hx cS.1 (fun j u hu=> ?_) h1 (by unfold maxLen;omega)
  (bm (og jx kC) ab) lK ?_
 ·obtain⟨b,of,e1,GF⟩:=cS.cells (by have:=(bN.1 hu).1;omega);simp at e1;subst e1
  have lH:(⟨b,of,none⟩:Addr).add j=⟨b,of+j,none⟩:=by unfold Addr.add;split<;>simp_all
  rw[lH];exact GF j u hu
 ·intro u w' h2 h3 _ _;exact h u w' h2 h3 ((Below.refl B w).grown h3 lK (fun k' tE=>(aT.lt k' tE).1))
theorem ahy (l:List Int):∀u∈iv l,u.oneCell'=true:=by
 intro u hu;obtain⟨x,_,rfl⟩:=dp.1 hu;rfl
theorem auW (l:List Ask):∀u∈l.flatMap Ask.cells,u.oneCell'=true:=by
 intro u hu;obtain⟨x,_,h⟩:=BP.1 hu;exact ahy _ u h
theorem auX (l:List bR):∀u∈l.flatMap bR.cells,u.oneCell'=true:=by
 intro u hu;obtain⟨x,_,h⟩:=BP.1 hu;exact ahy _ u h
theorem row_one (s:az)(va vs:Value)(ha:va.oneCell'=true)(hs:vs.oneCell'=true):∀u∈s.row va vs,u.oneCell'=true:=by
 intro u hu;simp only[az.row,cA,jL,kV] at hu
 rcases hu with rfl|rfl|rfl|rfl|rfl|rfl|rfl|rfl|rfl|rfl|rfl<;>first|rfl|assumption
theorem ahz {w:World}:∀{l:List az} {xs:List Value},kB w l xs->∀u∈xs,u.oneCell'=true
 |[],_,h=>by
  have:_=[]:=h;subst this;simp
 |s::l,xs,⟨va,vs,ys,hx,h1,h2,h3⟩=>by
  intro u hu;rw[hx] at hu;obtain⟨_,_,rfl,_⟩:=h1.open;obtain⟨_,_,rfl,_⟩:=h2.open
  rcases fU.1 hu with h|h
  ·exact row_one s _ _ rfl rfl u h
  ·exact ahz h3 u h
theorem Zo {w:World}{k n c m:Nat}{xs:List Value}(h:Flat w k (.slice none m c) n xs):xs=[]:=by
 cases xs with
 |nil=>rfl
 |cons x xs=>
  obtain⟨b,o,e,_⟩:=h.cells ai;cases e
theorem auY (l:List Ask)(v:Value)(w:World)(h:jO w v l)(hn:l.length<=1000000):
  Calls Tryz.prog 88 #[v] w fun e w'=>∃u,e=.returned u/\w'.ownsRow w.heap.size 78 7 u l.length (l.flatMap Ask.cells)/\aw w w':=by
 obtain⟨ka,ca,rfl,gH⟩:=h.open
 have qT:∀(w:World) (a:Option Addr) (n c n' c':Nat),(binOp .eql 42 (.slice a n c) (.slice none n' c')).run Tryz.prog w=.ok (.bool a.isNone) w:=fun w a n c n' c'=>Lib.run_eql_slice_nil w _ _ a n c n' c' Tryz.underlying42
 go_enter Tryz.func88,Tryz.ntmps88
 cases ka with
 |none=>
  have e:=Zo h
  have e0:l.length=0:=by have:=h.1;rw[e] at this;simp at this;omega
  go_wp2_with fail;go_ret;exact⟨_,rfl,by rw[e0,e];exact kz _ _ _ _,Below.refl _ _⟩
 |some ad=>
  go_wp2_with (at_builtin;refine Zn rfl _ _ 42 rfl 78 _ 7 56 Tryz.underlying42 aoY rfl ab ab w.heap.size _ 0 [] rfl (Kq (n:=0) (cs:=#[]) (dY _ _) ai rfl ab) ad l.length ca _ rfl (Flat.kept (B:=w.heap.size) h bK ax) (auW l) ab ai ?_;intro u w1 aT tZ aC)
  go_ret;exact⟨_,rfl,by simpa using aT,Below.trans (b:=w.alloc (.cells #[] 78)) bK aC⟩
theorem auZ (l:List bR)(v:Value)(w:World)(h:lI w v l)(hn:l.length<=1000000):
  Calls Tryz.prog 89 #[v] w fun e w'=>∃u,e=.returned u/\w'.ownsRow w.heap.size 39 5 u l.length (l.flatMap bR.cells)/\aw w w':=by
 obtain⟨ka,ca,rfl,gH⟩:=h.open
 have qT:∀(w:World) (a:Option Addr) (n c n' c':Nat),(binOp .eql 43 (.slice a n c) (.slice none n' c')).run Tryz.prog w=.ok (.bool a.isNone) w:=fun w a n c n' c'=>Lib.run_eql_slice_nil w _ _ a n c n' c' Tryz.underlying43
 go_enter Tryz.func89,Tryz.ntmps89
 cases ka with
 |none=>
  have e:=Zo h
  have e0:l.length=0:=by have:=h.1;rw[e] at this;simp at this;omega
  go_wp2_with fail;go_ret;exact⟨_,rfl,by rw[e0,e];exact kz _ _ _ _,Below.refl _ _⟩
 |some ad=>
  go_wp2_with (at_builtin;refine Zn rfl _ _ 43 rfl 39 _ 5 40 Tryz.underlying43 aoX rfl ab ab w.heap.size _ 0 [] rfl (Kq (n:=0) (cs:=#[]) (dY _ _) ai rfl ab) ad l.length ca _ rfl (Flat.kept (B:=w.heap.size) h bK ax) (auX l) ab ai ?_;intro u w1 aT tZ aC)
  go_ret;exact⟨_,rfl,by simpa using aT,Below.trans (b:=w.alloc (.cells #[] 39)) bK aC⟩
theorem ava (l:List az)(v:Value)(w:World)(h:fH w v l)(hn:l.length<=1000000):
  Calls Tryz.prog 87 #[v] w fun e w'=>∃u xs,e=.returned u/\kB w l xs/\w'.ownsRow w.heap.size 45 11 u l.length xs/\aw w w':=by
 obtain⟨ka,ca,rfl,gH⟩:=h.open;obtain⟨xs,hcs,cS⟩:=h
 have qT:∀(w:World) (a:Option Addr) (n c n' c':Nat),(binOp .eql 23 (.slice a n c) (.slice none n' c')).run Tryz.prog w=.ok (.bool a.isNone) w:=fun w a n c n' c'=>Lib.run_eql_slice_nil w _ _ a n c n' c' Tryz.underlying23
 go_enter Tryz.func87,Tryz.ntmps87
 cases ka with
 |none=>
  have e:=Zo cS
  have e0:l.length=0:=by have:=cS.1;rw[e] at this;simp at this;omega
  go_wp2_with fail;go_ret;exact⟨_,xs,rfl,hcs,by rw[e0,e];exact kz _ _ _ _,Below.refl _ _⟩
 |some ad=>
  go_wp2_with (at_builtin;refine Zn rfl _ _ 23 rfl 45 _ 11 120 Tryz.underlying23 Rn rfl ab ab w.heap.size _ 0 [] rfl (Kq (n:=0) (cs:=#[]) (dY _ _) ai rfl ab) ad l.length ca _ rfl (Flat.kept (B:=w.heap.size) cS bK ax) (ahz hcs) ab ai ?_;intro u w1 aT tZ aC)
  go_ret;exact⟨_,xs,rfl,hcs,by simpa using aT,Below.trans (b:=w.alloc (.cells #[] 45)) bK aC⟩
end
section
open Go.RowKit
variable {A B W w w':World} {B' B0 k:Nat} {P P':Nat->Prop} {e:TypeId} {l:List az} {v:Value} {xs:List Value}
def Same (P:Nat->Prop)(A B:World):Prop:=A.heap.size<=B.heap.size/\∀b,P b->B.heap[b]? =A.heap[b]?
theorem Same.refl(P:Nat->Prop)(A:World):Same P A A:=⟨cP _,fun _ _=>rfl⟩
theorem Same.trans{C:World}(h:Same P A B)(k:Same P B C):Same P A C:=⟨bm h.1 k.1,fun b hb=>(k.2 b hb).trans (h.2 b hb)⟩
theorem Same.OL(h:Same P A B)(hp:∀b,P' b->P b):Same P' A B:=⟨h.1,fun b hb=>h.2 b (hp b hb)⟩
theorem Same.below{n:Nat}(h:Below n A B)(hp:∀b,P b->b<n):Same P A B:=⟨h.size,fun b hb=>h.block b (hp b hb)⟩
theorem Same.grown{row:Option Nat}(h:A.grownBy B row)(hp:∀b,P b->b<A.heap.size/\some b≠row):Same P A B:=⟨h.size,fun b hb=>h.block b (hp b hb).1 (hp b hb).2⟩
theorem Same.set(h:Same P A B)(a:Addr)(v:Value)(ha:¬P a.block):Same P A (B.setCell a v):=
 ⟨by simpa using h.1,fun b hb=>(uJ B a b v (fun e=>ha (e▸hb))).trans (h.2 b hb)⟩
theorem Same.alloc(h:Same P A B)(o:Obj)(hp:∀b,P b->b<A.heap.size):Same P A (B.alloc o):=
 h.trans (Same.below ((Below.refl B.heap.size B).alloc ax o) fun b hb=>ju (hp b hb) h.1)
theorem Same.drew(h:Same P A B):Same P A B.drew:=h
theorem Same.du(h:Same P A B){g:Nat}{cs:Array Value}(hb:ay A g cs)(hg:P g):ay B g cs:=by
 obtain⟨t,hb⟩:=hb;exact⟨t,(h.2 g hg).trans hb⟩
theorem Same.own(h:Same P A B){n:Nat}(ho:A.ownsRow B0 e k v n xs)(hv:∀g,v.ownBlock=some g->P g):B.ownsRow B0 e k v n xs:=by
 refine⟨ho.1,?_⟩
 rcases ho.2 with h0|⟨g,cap,cur,rfl,h1,h2,h3⟩
 ·exact .inl h0
 ·exact .inr ⟨g,cap,cur,rfl,h1,(h.2 g (hv g rfl)).trans h2,h3⟩
theorem Same.cell(h:Same P A B){b:Nat}(o:Nat)(hb:P b):B.cell? ⟨b,o,none⟩=A.cell? ⟨b,o,none⟩:=Gp (h.2 b hb)
def rB (P:Nat->Prop)(v:Value):Prop:=∀b o n c,v=.slice (some ⟨b,o,none⟩) n c->P b
theorem Flat.Zp{n:Nat}(h:Flat A k v n xs)(hv:rB P v)(hs:Same P A B):Flat B k v n xs:=by
 obtain⟨hl,hm,a,c,rfl,hr⟩:=h;refine⟨hl,hm,a,c,rfl,fun j u hu=> ?_⟩;obtain⟨b,o,ha,hc⟩:=hr j u hu;subst ha;exact⟨b,o,rfl,(hs.cell _ (hv b o n c rfl)).trans hc⟩
def lY (P:Nat->Prop)(w:World):List az->List Value->Prop
 |[],xs=>xs=[]
 |s::l,xs=>∃va vs ys,xs=s.row va vs++ys/\(jO w va s.asks/\rB P va)/\(lI w vs s.sent/\rB P vs)/\lY P w l ys
theorem lY.kept(hs:Same P w w'):∀{l:List az} {xs:List Value},lY P w l xs->lY P w' l xs
 |[],_,h=>h
 |_::_,_,⟨va,vs,ys,hx,h1,h2,h3⟩=>⟨va,vs,ys,hx,⟨Flat.Zp h1.1 h1.2 hs,h1.2⟩,⟨Flat.Zp h2.1 h2.2 hs,h2.2⟩,h3.kept hs⟩
theorem lY.OL(hp:∀b,P b->P' b):∀{l:List az} {xs:List Value},lY P w l xs->lY P' w l xs
 |[],_,h=>h
 |_::_,_,⟨va,vs,ys,hx,h1,h2,h3⟩=>⟨va,vs,ys,hx,⟨h1.1,fun b o n c e=>hp b (h1.2 b o n c e)⟩,⟨h2.1,fun b o n c e=>hp b (h2.2 b o n c e)⟩,h3.OL hp⟩
theorem lY.cells:∀{l:List az} {xs:List Value},lY P w l xs->kB w l xs
 |[],_,h=>h
 |_::_,_,⟨va,vs,ys,hx,h1,h2,h3⟩=>⟨va,vs,ys,hx,h1.1,h2.1,h3.cells⟩
theorem lY.snoc{s:az}{va vs:Value}(h1:jO w va s.asks/\rB P va)(h2:lI w vs s.sent/\rB P vs):∀{l:List az} {xs:List Value},lY P w l xs->lY P w (l++[s]) (xs++s.row va vs)
 |[],xs,h=>by
  have:xs=[]:=h;subst this;exact⟨va,vs,[],ai,h1,h2,rfl⟩
 |_::_,_,⟨gz,GD,ys,hx,g1,g2,g3⟩=>⟨gz,GD,ys++s.row va vs,by rw[hx,List.append_assoc],g1,g2,g3.snoc h1 h2⟩
theorem lY.at {P:Nat->Prop}{w:World}:∀{l:List az} {xs:List Value} {i:Nat} {s:az},lY P w l xs->l[i]? =some s->
  ∃va vs,(jO w va s.asks/\rB P va)/\(lI w vs s.sent/\rB P vs)/\∀j u,(s.row va vs)[j]? =some u->xs[i*11+j]? =some u
 |[],_,_,_,_,h=>by simp at h
 |t::l,xs,0,s,⟨va,vs,zs,hx,h1,h2,h3⟩,h=>by
  simp at h;subst h;refine⟨va,vs,h1,h2,fun j u hu=> ?_⟩;have hj:=(bN.1 hu).1;rw[hx,Nat.zero_mul,eP,mj hj];exact hu
 |t::l,xs,i+1,s,⟨va,vs,zs,hx,h1,h2,h3⟩,h=>by
  have h':l[i]? =some s:=by simpa using h
  obtain⟨gz,GD,g1,g2,g3⟩:=h3.at h';refine⟨gz,GD,g1,g2,fun j u hu=> ?_⟩;have:=g3 j u hu;have e:(i+1)*11+j=11+(i*11+j):=ab;have hl:(t.row va vs).length=11:=rfl;rw[hx,e,jc ab,hl,Rk];exact this
def nR (B:Nat)(w:World)(v:Value)(l:List az):Prop:=∃xs,lY (fun b=>B<=b) w l xs/\Flat w 11 v l.length xs/\rB (fun b=>B<=b) v
theorem nR.sl{B:Nat}(h:nR B w v l):fH w v l:=by
 obtain⟨xs,h1,h2,_⟩:=h;exact⟨xs,h1.cells,h2⟩
theorem nR.avb{B:Nat}(h:nR B w v l)(hs:Same (fun b=>B<=b/\b<w.heap.size) w w'):nR B w' v l:=by
 obtain⟨xs,h1,h2,h3⟩:=h
 have key:∀{k:Nat} {u:Value} {n:Nat} {ys:List Value},Flat w k u n ys->rB (fun b=>B<=b) u->Flat w' k u n ys:=fun {k u n ys} hf hp=>by
  obtain⟨hl,hm,a,c,rfl,hr⟩:=hf;refine⟨hl,hm,a,c,rfl,fun j x hx=> ?_⟩;obtain⟨b,o,ha,hc⟩:=hr j x hx;subst ha;have:=ez _ _ hc;exact⟨b,o,rfl,(hs.cell _ ⟨hp b o n c rfl,by simpa using this⟩).trans hc⟩
 refine⟨xs,?_,key h2 h3,h3⟩;clear h2 h3;revert xs
 induction l with
 |nil=>intro xs h1;exact h1
 |cons s l ih=>
  rintro xs ⟨va,vs,ys,hx,g1,g2,g3⟩;exact⟨va,vs,ys,hx,⟨key g1.1 g1.2,g1.2⟩,⟨key g2.1 g2.2,g2.2⟩,ih ys g3⟩
theorem nR.kept{B:Nat}(h:nR B w v l)(hb:aw w w'):nR B w' v l:=h.avb (Same.below hb fun _ hb=>hb.2)
theorem nR.open{B:Nat}(h:nR B w v l):∃a c,v=.slice a l.length c/\l.length<=9223372036854775807:=h.sl.open
theorem nR.at {B:Nat}{w:World}{a:Option Addr}{n c:Nat}{l:List az}(h:nR B w (.slice a n c) l){i:Nat}{s:az}(hi:l[i]? =some s):
  ∃b o va vs,a=some ⟨b,o,none⟩/\(jO w va s.asks/\rB (fun b=>B<=b) va)/\(lI w vs s.sent/\rB (fun b=>B<=b) vs)/\
   w.cell? ⟨b,o+i*11,none⟩=some (I s.ev.kind)/\w.cell? ⟨b,o+i*11+1,none⟩=some (I s.ev.node)/\w.cell? ⟨b,o+i*11+2,none⟩=some (I s.ev.arg)/\
   w.cell? ⟨b,o+i*11+3,none⟩=some (I s.ev.msg.node)/\w.cell? ⟨b,o+i*11+4,none⟩=some (I s.ev.msg.handler)/\w.cell? ⟨b,o+i*11+5,none⟩=some (I s.ev.msg.count)/\
   w.cell? ⟨b,o+i*11+6,none⟩=some (I s.ev.msg.index)/\w.cell? ⟨b,o+i*11+7,none⟩=some (I s.ev.msg.copy)/\w.cell? ⟨b,o+i*11+8,none⟩=some va/\
   w.cell? ⟨b,o+i*11+9,none⟩=some (.bool s.aK)/\w.cell? ⟨b,o+i*11+10,none⟩=some vs:=by
 obtain⟨xs,h1,h2,_⟩:=h;obtain⟨va,vs,g1,g2,g3⟩:=h1.at hi;have hlt:=(bN.1 hi).1;obtain⟨b,o,ha,hc⟩:=h2.cells (by rw[h1.cells.length];omega)
 have key:∀j u,(s.row va vs)[j]? =some u->w.cell? ⟨b,o+i*11+j,none⟩=some u:=fun j u hu=>by
  have:=hc _ u (g3 j u hu);rwa[<-Nat.add_assoc] at this
 exact⟨b,o,va,vs,ha,g1,g2,key 0 _ rfl,key 1 _ rfl,key 2 _ rfl,key 3 _ rfl,key 4 _ rfl,key 5 _ rfl,key 6 _ rfl,key 7 _ rfl,key 8 _ rfl,key 9 _ rfl,key 10 _ rfl⟩
theorem nR.nil(B:Nat)(w:World)(c:Nat):nR B w (.slice none 0 c) []:=⟨[],rfl,Flat.nil _ _ _ _,fun b o n c e=>by simp at e⟩
theorem lY.below{B:Nat}(hb:Below B w w')(hB:w.heap.size<=B):∀{l:List az} {xs:List Value},lY P w l xs->lY P w' l xs
 |[],_,h=>h
 |_::_,_,⟨va,vs,ys,hx,h1,h2,h3⟩=>⟨va,vs,ys,hx,⟨h1.1.kept hb hB,h1.2⟩,⟨h2.1.kept hb hB,h2.2⟩,h3.below hb hB⟩
theorem Tn{B:Nat}{n:Nat}(h:W.ownsRow B e k v n xs)(hB:B'<=B):rB (fun b=>B'<=b) v:=fun b o n c e=>by
 subst e;exact bm hB (h.lt b rfl).1
theorem nR.eB{B:Nat}{n:Nat}(h:w.ownsRow B e 11 v n xs)(hn:n=l.length)(hc:lY (fun b=>B'<=b) W l xs)(hb:Below B0 W w)(hB:W.heap.size<=B0)(mJ:B'<=B):nR B' w v l:=by
 subst hn;exact⟨xs,hc.below hb hB,Flat.eB h,Tn h mJ⟩
end
section
open Go.RowKit
variable {B g k:Nat} {e:TypeId} {l:List az} {ua us v:Value} {w w':World} {xs:List Value}
def dc (g:Nat)(w w':World):Prop:=w.heap.size<=w'.heap.size/\∀b o,b<w.heap.size->b≠g->w'.cell? ⟨b,o,none⟩=w.cell? ⟨b,o,none⟩
theorem dc.refl(g:Nat)(w:World):dc g w w:=⟨cP _,fun _ _ _ _=>rfl⟩
theorem dc.trans{a b c:World}(h:dc g a b)(k:dc g b c):dc g a c:=
 ⟨bm h.1 k.1,fun x o hx hg=>(k.2 x o (ju hx h.1) hg).trans (h.2 x o hx hg)⟩
theorem dc.below(h:Below B w w')(hB:w.heap.size<=B):dc g w w':=⟨h.size,fun b o hb _=>h.cell (p:=⟨b,o,none⟩) (ju hb hB)⟩
theorem dc.set(g:Nat)(w:World)(o:Nat)(v:Value):dc g w (w.setCell ⟨g,o,none⟩ v):=
 ⟨ai,fun b o' _ hg=>Ri _ _ _ _ (by intro h;simp at h<;>exact hg h.1)⟩
theorem dc.drew(h:dc g w w'):dc g w w'.drew:=h
theorem Flat.same{n:Nat}(h:Flat w k v n xs)(hb:∀b o,b<w.heap.size->w'.cell? ⟨b,o,none⟩=w.cell? ⟨b,o,none⟩):Flat w' k v n xs:=by
 obtain⟨hl,hm,a,c,hv,hr⟩:=h;refine⟨hl,hm,a,c,hv,fun j u hu=> ?_⟩;obtain⟨b,o,ha,hc⟩:=hr j u hu;have h2:=ez _ _ hc;exact⟨b,o,ha,(hb b _ h2).trans hc⟩
theorem Flat.RA{n:Nat}(h:w.ownsRow B e k v n xs)(hg:g<B)(ha:dc g w w'):Flat w' k v n xs:=by
 have hf:=Flat.eB h;obtain⟨hl,hm,a,c,hv,hr⟩:=hf;refine⟨hl,hm,a,c,hv,fun j u hu=> ?_⟩;obtain⟨b,o,ha',hc⟩:=hr j u hu;have h2:=ez _ _ hc;refine⟨b,o,ha',(ha.2 b _ h2 ?_).trans hc⟩
 rcases h.2 with⟨rfl,_⟩|⟨g',cap,cur,rfl,hg',_⟩
 ·simp at hv;rw[<-hv.1] at ha';cases ha'
 ·simp at hv;rw[<-hv.1] at ha';simp at ha';omega
def rD (w:World)(g:Nat)(l:List az)(xs:List Value):Prop:=∀i s,l[i]? =some s->∃va vs,(∀w',dc g w w'->jO w' va s.asks/\lI w' vs s.sent)/\∀j u,(s.row va vs)[j]? =some u->xs[i*11+j]? =some u
theorem rD.kept(h:rD w g l xs)(ha:dc g w w'):rD w' g l xs:=by
 intro i s hi;obtain⟨va,vs,h1,h2⟩:=h i s hi;exact⟨va,vs,fun w2 h3=>h1 w2 (ha.trans h3),h2⟩
theorem rD.start{w1:World}(h:kB w l xs)(hb:aw w w1)(hg:w.heap.size<=g):rD w1 g l xs:=by
 intro i s hi;obtain⟨va,vs,h1,h2,h3⟩:=h.at hi;refine⟨va,vs,fun w2 ha=> ?_,h3⟩
 have key:∀b o,b<w.heap.size->w2.cell? ⟨b,o,none⟩=w.cell? ⟨b,o,none⟩:=fun b o hlt=>
  (ha.2 b o (ju hlt hb.size) ab).trans (hb.cell (p:=⟨b,o,none⟩) hlt)
 exact⟨Flat.same h1 key,Flat.same h2 key⟩
theorem ahA {w:World}:∀(l:List az) (xs:List Value),xs.length=l.length*11->(∀i s,l[i]? =some s->∃va vs,jO w va s.asks/\lI w vs s.sent/\∀j u,(s.row va vs)[j]? =some u->xs[i*11+j]? =some u)->kB w l xs
 |[],xs,hl,_=>BK.1 (by simpa using hl)
 |s::l,xs,hl,h=>by
  obtain⟨va,vs,h1,h2,h3⟩:=h 0 s rfl;refine⟨va,vs,xs.drop 11,?_,h1,h2,ahA l (xs.drop 11) ?_ ?_⟩
  ·have hx:xs.take 11=s.row va vs:=by
    have e11:(s.row va vs).length=11:=rfl
    have qP:11<=xs.length:=by rw[hl,List.length_cons];omega
    refine adR (by rw[dN,e11];omega) fun j hj=> ?_
    rw[dN] at hj
    have yU:j<(s.row va vs).length:=by rw[e11];omega
    have:=h3 j _ (cz yU);rw[List.getElem?_take_of_lt ab,cz yU];simpa using this
   rw[<-hx,List.take_append_drop]
  ·rw[ml,hl,List.length_cons];omega
  ·intro i t hi;obtain⟨gz,GD,g1,g2,g3⟩:=h (i+1) t (by simpa using hi);refine⟨gz,GD,g1,g2,fun j u hu=> ?_⟩;rw[oJ];have:=g3 j u hu;rw[show(i+1)*11+j=11+(i*11+j) by omega] at this;exact this
theorem rD.cells(h:rD w g l xs)(hl:xs.length=l.length*11):kB w l xs:=
 ahA l xs hl fun i s hi=>by
  obtain⟨va,vs,h1,h2⟩:=h i s hi;have:=h1 w (dc.refl _ _);exact⟨va,vs,this.1,this.2,h2⟩
theorem rD.store(h:rD w g l xs)(hk:k<l.length)(hl:xs.length=l.length*11)(hu:∀w',dc g w w'->jO w' ua l[k].asks/\lI w' us l[k].sent):
  rD w g l ((xs.set (k*11+8) ua).set (k*11+10) us):=by
 intro i s hi;obtain⟨va,vs,h1,h2⟩:=h i s hi;have hil:=(bN.1 hi).1;by_cases zU:i=k
 ·subst zU
  have es:s=l[i]:=by simpa [hil] using hi.symm
  subst es;refine⟨ua,us,hu,fun j u hj=> ?_⟩
  have ahB:j<11:=by have:=(bN.1 hj).1;exact this
  by_cases h8:j=8
  ·subst h8;rw[uI ab,BL ab];exact hj
  ·by_cases h10:j=10
   ·subst h10;rw[BL bz];exact hj
   ·rw[uI ab,uI ab];refine h2 j u ?_;rw[<-hj]
    match j,ahB,h8,h10 with
    |0,_,_,_=>rfl
    |1,_,_,_=>rfl
    |2,_,_,_=>rfl
    |3,_,_,_=>rfl
    |4,_,_,_=>rfl
    |5,_,_,_=>rfl
    |6,_,_,_=>rfl
    |7,_,_,_=>rfl
    |9,_,_,_=>rfl
    |8,_,h,_=>exact absurd rfl h
    |10,_,_,h=>exact absurd rfl h
    |n+11,h,_,_=>omega
 ·refine⟨va,vs,h1,fun j u hj=> ?_⟩
  have ahB:j<11:=by have:=(bN.1 hj).1;exact this
  rw[uI ab,uI ab];exact h2 j u hj
def vJ (w:World)(g:Nat)(xs:List Value):Prop:=∀j,j<xs.length->w.cell? ⟨g,j,none⟩=xs[j]? /\w.frozen? ⟨g,j,none⟩=false
theorem vJ.kept(h:vJ w g xs)(hb:Below B w w')(hg:g<B):vJ w' g xs:=fun j hj=>by
 have:=h j hj;exact⟨(hb.cell (p:=⟨g,j,none⟩) hg).trans this.1,(hb.frozen (p:=⟨g,j,none⟩) hg).trans this.2⟩
theorem vJ.set(h:vJ w g xs)(i:Nat)(hi:i<xs.length)(v:Value):vJ (w.setCell ⟨g,i,none⟩ v) g (xs.set i v):=fun j hj=>by
 rw[List.length_set] at hj;have Ag:=h j hj;have Af:=h i hi;refine⟨?_,?_⟩
 ·by_cases e:i=j
  ·subst e;rw[BL hi];exact World.cell?_setCell_same _ _ _ (Af.1.trans (cz hi))
  ·rw[uI e,Ri _ _ _ _ (by intro h;simp at h<;>exact e h.symm)];exact Ag.1
 ·simpa using Ag.2
theorem vJ.eB{n:Nat}(h:w.ownsRow B e k v n xs)(hn:0<n):∃g cap,v=.slice (some ⟨g,0,none⟩) n cap/\B<=g/\g<w.heap.size/\vJ w g xs:=by
 obtain⟨g,cap,rfl,hB,hg⟩:=h.form hn;refine⟨g,cap,rfl,hB,hg,fun j hj=>⟨?_,?_⟩⟩
 ·have:=h.cells (g:=g) rfl j xs[j] (by simp[hj])
  have lH:(⟨g,0,none⟩:Addr).add j=⟨g,0+j,none⟩:=by unfold Addr.add;split<;>simp_all
  rw[lH,eP] at this;rw[this];simp[hj]
 ·rcases h.2 with⟨e,_⟩|⟨g',cap',cur,e,_,hb,_⟩
  ·cases e
  ·simp at e;obtain⟨rfl,rfl⟩:=e;exact frozen_of_row w g j cur _ hb
theorem vJ.flat{n cap:Nat}(h:vJ w g xs)(hl:xs.length=n*11)(hn:n<=1000000):Flat w 11 (.slice (some ⟨g,0,none⟩) n cap) n xs:=
 Flat.qD hl ab fun j u hu=>by
  have:=h j (bN.1 hu).1;rw[eP,this.1,hu]
def OM (B k:Nat)(xs:List Value):Prop:=∀i,i<k->∀u,(xs[i*11+8]? =some u\/xs[i*11+10]? =some u)->rB (fun b=>B<=b) u
theorem OM.set(h:OM B k xs)(hk:k*11+11<=xs.length)(h1:rB (fun b=>B<=b) ua)(h2:rB (fun b=>B<=b) us):OM B (k+1) ((xs.set (k*11+8) ua).set (k*11+10) us):=by
 intro i hi u hu;by_cases e:i=k
 ·subst e
  rcases hu with hu|hu
  ·rw[uI ab,BL ab] at hu;cases hu;exact h1
  ·rw[BL (by rw[List.length_set];omega)] at hu;cases hu;exact h2
 ·rcases hu with hu|hu
  ·rw[uI ab,uI ab] at hu;exact h i ab u (.inl hu)
  ·rw[uI ab,uI ab] at hu;exact h i ab u (.inr hu)
theorem rD.avc(h:rD w g l xs)(hl:xs.length=l.length*11)(hf:OM B l.length xs):lY (fun b=>B<=b) w l xs:=by
 have key:∀(m:List az) (d:Nat) (ys:List Value),l.drop d=m->ys=xs.drop (d*11)->lY (fun b=>B<=b) w m ys:=by
  intro m
  induction m with
  |nil=>
   intro d ys hd hy
   have:l.length<=d:=by
    have:=aF List.length hd;simp at this;omega
   show ys=[]
   rw[hy,List.drop_eq_nil_iff];omega
  |cons s m ih=>
   intro d ys hd hy
   have fB:d<l.length:=by
    have:=aF List.length hd;simp at this;omega
   have hs:l[d]? =some s:=by
    have:(l.drop d)[0]? =some s:=by rw[hd];rfl
    simpa using this
   obtain⟨va,vs,h1,h2⟩:=h d s hs;have hq:=h1 w (dc.refl _ _);refine⟨va,vs,xs.drop ((d+1)*11),?_,⟨hq.1,hf d fB va (.inl (h2 8 va rfl))⟩,⟨hq.2,hf d fB vs (.inr (h2 10 vs rfl))⟩,ih (d+1) _ ?_ rfl⟩
   ·rw[hy];apply yf;intro j;have eJ:(s.row va vs).length=11:=rfl;by_cases hj:j<11
    ·rw[mj ab,oJ];have hu:(s.row va vs)[j]? =some ((s.row va vs)[j]' ab):=cz ab;rw[hu,h2 j _ hu]
    ·rw[jc ab,oJ,oJ,eJ];congr 1;omega
   ·have h3:=aF List.tail hd;rwa[List.tail_drop,List.tail_cons] at h3
 exact key l 0 xs ai ai
theorem avd(run:List az)(v:Value)(w:World)(hrun:fH w v run)(hn:run.length<=1000000)(ud:∀s∈run,s.asks.length<=1000000)(ER:∀s∈run,s.sent.length<=1000000):
  Calls Tryz.prog 44 #[v] w fun e w'=>∃u,e=.returned u/\nR w.heap.size w' u run/\aw w w':=by
 have ahC:=hrun;obtain⟨ka,ca,rfl,gH⟩:=hrun.open;go_enter Tryz.func44,Tryz.ntmps44;go_wp2_with fail;refine(ava run _ _ ahC hn).mono ?_;rintro e w1 ⟨u,xs,rfl,hcs,aT,aC⟩;by_cases h0:run.length=0
 ·have hr:run=[]:=BK.1 h0;subst hr;have cS:=Flat.eB aT;have dZ:=Tn aT ax;obtain⟨a,c,rfl,_⟩:=cS.open;simp only[List.length_nil] at aT cS⊢;go_wp2_with fail;refine wp_loop_rounds 1 ?_;rw[rounds_succ];go_wp2_with fail;go_ret;exact⟨_,rfl,⟨[],rfl,Flat.nil _ _ _ _,dZ⟩,aC⟩
 ·obtain⟨g,cap,rfl,Lu,fX,Iy⟩:=vJ.eB aT ab;have Ba:=rD.start hcs aC Lu;have qP:=aT.1;clear aT hcs;go_wp2_with fail;go_loopw [9] (fun p wr=>∃(k:Nat) (xs:List Value),k<=run.length/\p=.int .i64 k/\xs.length=run.length*11/\vJ wr g xs/\rD wr g run xs/\OM w.heap.size k xs/\aw w wr/\g<wr.heap.size) (fun p _=>run.length-(intOf p).toNat)
  case atStart=>exact⟨0,xs,ab,rfl,qP,Iy,Ba,fun i hi=>ab,aC,fX⟩
  case round=>
   clear Iy Ba qP;obtain⟨k,xs,hk,rfl,qP,Iy,Ba,dC,hB,sQ⟩:=hrel;have Lv:=ae dC;clear dC;by_cases hlt:k<run.length
   ·obtain⟨va,vs,h1,h2⟩:=Ba k run[k] (by simp[hlt]);have hq:=h1 wr (dc.refl _ _);obtain⟨qa,da,rfl,_⟩:=hq.1.open;obtain⟨qs,ds,rfl,_⟩:=hq.2.open;have e8:=h2 8 _ rfl;have e10:=h2 10 _ rfl;have r8:=Iy (k*11+8) ab;have r10:=Iy (k*11+10) ab;have c8:=r8.1.trans e8;have c10:=r10.1.trans e10;have f8:=r8.2;have f10:=r10.2;have lX:=ud run[k] (bW hlt);have oz:=ER run[k] (bW hlt)
    have pj:∀W,aw wr W->Calls Tryz.prog 88 #[.slice qa run[k].asks.length da] W fun e w'=>∃u,e=.returned u/\w'.ownsRow W.heap.size 78 7 u run[k].asks.length (run[k].asks.flatMap Ask.cells)/\aw W w':=
     fun W hW=>auY _ _ _ (hq.1.kept hW ax) lX
    have yC:∀W,aw wr W->Calls Tryz.prog 89 #[.slice qs run[k].sent.length ds] W fun e w'=>∃u,e=.returned u/\w'.ownsRow W.heap.size 39 5 u run[k].sent.length (run[k].sent.flatMap bR.cells)/\aw W w':=
     fun W hW=>auZ _ _ _ (hq.2.kept hW ax) oz
    have vK:=ae pj;have Hqs:=ae yC;have He8:=ae e8;have aGg:=ae e10;clear pj yC h1 h2 r8 r10 e8 e10 hq ahC;go_wp2_with fail
    go_region_with (first
     |(go_at_call 88;refine(vK.out _ bK).mono ?_;rintro e w2 ⟨ua,rfl,Zq,bh⟩
       obtain⟨a1,d1,rfl,Iv⟩:=(Flat.eB Zq).open;have fy:=bh.size;simp only[oN] at fy;have c8':=(bh.cell (p:=⟨g,k*11+8,none⟩) sQ).trans c8;have ave:=(bh.cell (p:=⟨g,k*11+10,none⟩) sQ).trans c10
       have Tp:=Below.then (w:=wr) bK bh)
     |(go_at_call 89;refine(Hqs.out _ Tp).mono ?_;rintro e w3 ⟨us,rfl,Lw,fP⟩
       obtain⟨a2,d2,rfl,AD⟩:=(Flat.eB Lw).open;have vL:=fP.size;have Lx:g<w2.heap.size:=ab;have aGh:=(fP.cell (p:=⟨g,k*11+8,none⟩) Lx).trans c8';have aGi:=(fP.cell (p:=⟨g,k*11+10,none⟩) Lx).trans ave;have aGj:=(fP.frozen (p:=⟨g,k*11+8,none⟩) Lx).trans ((bh.frozen (p:=⟨g,k*11+8,none⟩) sQ).trans f8)
       have aGk:=(fP.frozen (p:=⟨g,k*11+10,none⟩) Lx).trans ((bh.frozen (p:=⟨g,k*11+10,none⟩) sQ).trans f10)))
    all_goals
     go_wp2_with fail;go_roundw
     case rel=>
      have ahD:dc g w2 w3:=dc.below fP ax;have yu:dc g wr w3:=(dc.below Tp ax).trans ahD;have avf:g<w3.heap.size:=ab;have avg:vJ w3 g xs:=(Iy.kept Tp sQ).kept fP Lx;have avh:aw w w3:=(hB.trans (Tp.mono hB.size)).trans (fP.mono (bm hB.size fy));refine⟨k+1,_,ab,by go_num,?_,(avg.set (k*11+8) ab _).set (k*11+10) (by rw[List.length_set];omega) _,?_,Lv.out.set ab (Tn Zq (bm hB.size ax)) (Tn Lw (bm hB.size fy)),Below.setCell (Below.setCell avh Lu _) Lu _,by simpa using avf⟩
      ·rw[List.length_set,List.length_set];exact qP
      ·refine rD.kept (rD.store (Ba.kept yu) hlt qP (fun W hW=> ?_)) ((dc.set _ _ _ _).trans (dc.set _ _ _ _));exact⟨Flat.RA Zq sQ (ahD.trans hW),Flat.RA Lw Lx hW⟩
     case measure=>simp[intOf];omega
   ·go_wp2_with fail;go_ret;exact⟨_,rfl,⟨xs,Ba.avc qP (by rw[show run.length=k by omega];exact Lv.out),Iy.flat qP hn,fun b o n c e=>by simp at e;show w.heap.size<=b;omega⟩,hB⟩
end
section
open Go.RowKit
variable {B gn gw:Nat} {L:List (Nat×Nat)} {W:World} {arr wa:Array Value}
theorem ahE:(Tryz.prog.info? 22).map (fun i=>(i.zero,i.size,i.bytes))=some (some (.slice none 0 0),1,24):=ah
def aR (L:List (Nat×Nat))(a:Nat):List Nat:=(L.filter fun p=>p.1==a).map fun p=>p.2
theorem Tq(L:List (Nat×Nat))(p:Nat×Nat)(a:Nat):aR (L++[p]) a=if p.1=a then aR L a++[p.2] else aR L a:=by
 unfold aR;rw[qz,dm];by_cases h:p.1=a<;>simp[h]
theorem avi(x:Nat×Nat):(pc x).length=2:=rfl
theorem Zr{w:World}{a:Option Addr}{n c m:Nat}(h:Flat w 2 (.slice a m c) n (L.flatMap pc)){i:Nat}{x:Nat×Nat}(hi:L[i]? =some x):
  ∃b o,a=some ⟨b,o,none⟩/\w.cell? ⟨b,o+i*2,none⟩=some (I x.1)/\w.cell? ⟨b,o+i*2+1,none⟩=some (I x.2):=by
 obtain⟨b,o,ha,hc⟩:=BW avi ab h hi;exact⟨b,o,ha,hc 0 _ rfl,hc 1 _ rfl⟩
def nv (l:List Nat):List Value:=l.map fun(i:Nat)=>I (i:Int)
def gD (L:List (Nat×Nat))(b:Nat):Nat:=(L.map fun p=>p.2).count b
theorem avj(L:List (Nat×Nat))(p:Nat×Nat)(b:Nat):gD (L++[p]) b=gD L b+if p.2=b then 1 else 0:=by
 unfold gD;rw[dm,zO];by_cases h:p.2=b<;>simp[h]
structure pT (B gn gw n:Nat)(W:World)(L:List (Nat×Nat))(arr wa:Array Value):Prop where
 bn:ay W gn arr
 bw:ay W gw wa
 ne:gn≠gw
 ln:gn<B
 lw:gw<B
 hB:B<=W.heap.size
 sn:arr.size=n
 sw:wa.size=n
 wt:∀b<n,wa[b]? =some (I (gD L b:Nat))
 row:∀a<n,∃va,arr[a]? =some va/\W.ownsRow B 3 1 va (aR L a).length (nv (aR L a))
 sep:∀(a a':Nat) (va gz:Value),a≠a'->arr[a]? =some va->arr[a']? =some gz->va.ownBlock=none\/va.ownBlock≠gz.ownBlock
theorem pT.kept{n:Nat}{W':World}(h:pT B gn gw n W L arr wa)(hb:aw W W'):pT B gn gw n W' L arr wa:=
 { h with
  bn:=h.bn.kept hb h.bn.lt
  bw:=h.bw.kept hb h.bw.lt
  hB:=bm h.hB hb.size
  row:=fun a ha=>by
   obtain⟨va,h1,h2⟩:=h.row a ha
   exact⟨va,h1,pB h2 hb⟩ }
theorem pT.drew{n:Nat}(h:pT B gn gw n W L arr wa):pT B gn gw n W.drew L arr wa:=h.kept ((Below.refl _ W).drew)
theorem pT.start{n:Nat}(hn:ay W gn (eE n (.slice none 0 0)))(hw:ay W gw (eE n (.int .i64 0)))(hne:gn≠gw)(h1:gn<B)(h2:gw<B)(hB:B<=W.heap.size):pT B gn gw n W [] (eE n (.slice none 0 0)) (eE n (.int .i64 0)) where
 bn:=hn
 bw:=hw
 ne:=hne
 ln:=h1
 lw:=h2
 hB:=hB
 sn:=AY _ _
 sw:=AY _ _
 wt:=fun b hb=>by rw[CH _ _ _ hb];rfl
 row:=fun a ha=>⟨_,CH _ _ _ ha,kz _ _ _ _⟩
 sep:=fun a a' va gz _ h1 _=>by
  have:va=.slice none 0 0:=by
   have hlt:=(nA.1 h1).1;rw[AY] at hlt;rw[CH _ _ _ hlt] at h1;exact(eA h1).symm
  subst this;exact .inl rfl
theorem ES{e:TypeId}{k:Nat}{v:Value}{n:Nat}{xs:List Value}(h:W.ownsRow B e k v n xs):v.ownBlock=none\/∃g,v.ownBlock=some g/\B<=g/\g<W.heap.size:=by
 cases hv:v.ownBlock with
 |none=>exact .inl rfl
 |some g=>exact .inr ⟨g,rfl,h.lt g hv⟩
theorem pT.step{n:Nat}{W2:World}(h:pT B gn gw n W L arr wa)(p:Nat×Nat)(rE:p.1<n)(yV:p.2<n)(va:Value)(dX:arr[p.1]? =some va)
  (g cap:Nat) (aT:W2.ownsRow B 3 1 (.slice (some ⟨g,0,none⟩) ((aR L p.1).length+1) cap) ((aR L p.1).length+1) (nv (aR L p.1)++[I (p.2:Nat)])) (tZ:W.grownBy W2 va.ownBlock) (hg:va.ownBlock=some g\/W.heap.size<=g) (hsz:W.heap.size<=W2.heap.size):
  pT B gn gw n ((W2.setCell ⟨gn,p.1,none⟩ (.slice (some ⟨g,0,none⟩) ((aR L p.1).length+1) cap)).setCell ⟨gw,p.2,none⟩ (I ((gD L p.2+1:Nat)))) (L++[p])
   (arr.setIfInBounds p.1 (.slice (some ⟨g,0,none⟩) ((aR L p.1).length+1) cap)) (wa.setIfInBounds p.2 (I ((gD L p.2+1:Nat)))):=by
 have Iz:va.ownBlock=none\/∃g,va.ownBlock=some g/\B<=g/\g<W.heap.size:=by
  obtain⟨gz,e1,e2⟩:=h.row p.1 rE;rw[dX] at e1;cases e1;exact ES e2
 have hne:∀x,x<B->va.ownBlock≠some x:=fun x hx e=>by
  rcases Iz with h0|⟨g',h0,h1,_⟩
  ·rw[h0] at e;cases e
  ·rw[h0] at e;cases e;omega
 have Lu:B<=g:=(aT.lt g rfl).1
 have iV:∀{gz:Value} {m:Nat} {xs:List Value},W2.ownsRow B 3 1 gz m xs->((W2.setCell ⟨gn,p.1,none⟩ (.slice (some ⟨g,0,none⟩) ((aR L p.1).length+1) cap)).setCell ⟨gw,p.2,none⟩ (I ((gD L p.2+1:Nat)))).ownsRow B 3 1 gz m xs:=by
  intro gz m xs ho
  have Tr:∀x,x<B->gz.ownBlock=none\/gz.ownBlock≠some x:=fun x hx=>by
   rcases ES ho with h0|⟨g',h0,h1,_⟩
   ·exact .inl h0
   ·exact .inr (by rw[h0];intro e;cases e;omega)
  have h1:W2.grownBy (W2.setCell ⟨gn,p.1,none⟩ (.slice (some ⟨g,0,none⟩) ((aR L p.1).length+1) cap)) (some gn):=⟨rfl,rfl,rfl,ai,fun k _ hk=>uJ _ _ _ _ (fun e=>hk (by rw[e]))⟩
  have h2:∀W3:World,W3.grownBy (W3.setCell ⟨gw,p.2,none⟩ (I ((gD L p.2+1:Nat)))) (some gw):=fun W3=>⟨rfl,rfl,rfl,ai,fun k _ hk=>uJ _ _ _ _ (fun e=>hk (by rw[e]))⟩
  exact(ho.kept h1 (Tr gn h.ln)).kept (h2 _) (Tr gw h.lw)
 exact {
  bn:=(((h.bn.grown tZ (hne gn h.ln)).set p.1 _).setOther _ _ (fun e=>h.ne e.symm))
  bw:=(((h.bw.grown tZ (hne gw h.lw)).setOther ⟨gn,p.1,none⟩ _ h.ne).set p.2 _)
  ne:=h.ne
  ln:=h.ln
  lw:=h.lw
  hB:=by simp only[World.size_setCell];exact bm h.hB hsz
  sn:=by rw[yc];exact h.sn
  sw:=by rw[yc];exact h.sw
  wt:=fun b hb=>by
   rw[avj];by_cases e:p.2=b
   ·subst e;rw[oI (by rw[h.sw];exact yV)];simp
   ·rw[nz e,h.wt b hb];simp[e]
  row:=fun a ha=>by
   by_cases e:p.1=a
   ·subst e;refine⟨_,by rw[oI (by rw[h.sn];exact rE)],?_⟩;rw[Tq,aj rfl];have:=iV aT;simpa [nv] using this
   ·obtain⟨gz,e1,e2⟩:=h.row a ha;refine⟨gz,by rw[nz e];exact e1,?_⟩;rw[Tq,af e];exact iV (e2.kept tZ (h.sep a p.1 gz va (fun x=>e x.symm) e1 dX))
  sep:=fun a a' x y IA hx hy=>by
   by_cases e:p.1=a
   ·subst e;rw[oI (by rw[h.sn];exact rE)] at hx;cases hx;rw[nz IA] at hy;right;intro e2;have vM:y.ownBlock=some g:=e2.symm
    have ha':a'<n:=by have:=(nA.1 hy).1;rw[h.sn] at this;exact this
    obtain⟨y',f1,f2⟩:=h.row a' ha';rw[hy] at f1;cases f1;have hlt:=(f2.lt g vM).2
    rcases hg with hg|hg
    ·rcases h.sep p.1 a' va y IA dX hy with h0|h0
     ·rw[h0] at hg;cases hg
     ·exact h0 (hg.trans vM.symm)
    ·omega
   ·rw[nz e] at hx;by_cases e':p.1=a'
    ·subst e';rw[oI (by rw[h.sn];exact rE)] at hy;cases hy;right;intro e2;have uf:x.ownBlock=some g:=e2
     have ha:a<n:=by have:=(nA.1 hx).1;rw[h.sn] at this;exact this
     obtain⟨x',f1,f2⟩:=h.row a ha;rw[hx] at f1;cases f1;have hlt:=(f2.lt g uf).2
     rcases hg with hg|hg
     ·rcases h.sep p.1 a va x (fun z=>e z) dX hx with h0|h0
      ·rw[h0] at hg;cases hg
      ·exact h0 (hg.trans uf.symm)
     ·omega
    ·rw[nz e'] at hy
     exact h.sep a a' x y IA hx hy }
end
section
open Go.RowKit
variable {B a b gn gw i x:Nat} {L:List (Nat×Nat)} {W W' w w3:World} {arr wa:Array Value} {done l:List Nat} {t t':Nat->Nat} {v:Value}
theorem ahF (f g:Nat->Nat)(i c:Nat):∀n,i<n->(∀a<n,a≠i->f a=g a)->f i=g i+c->((List.range n).map f).sum=((List.range n).map g).sum+c
 |0,h,_,_=>ab
 |n+1,h,h1,h2=>by
  rw[mn,dm,dm,List.sum_append,List.sum_append];simp only[dJ,mP,Gx,List.sum_nil];by_cases e:i=n
  ·subst e
   have:(List.range i).map f=(List.range i).map g:=Kh fun a ha=>h1 a (by have:=gG.1 ha;omega) (by have:=gG.1 ha;omega)
   rw[this];omega
  ·rw[ahF f g i c n ab (fun a ha=>h1 a ab) h2,h1 n ab (fun e'=>e e'.symm)];omega
theorem ahG(n b:Nat)(L:List (Nat×Nat))(h:∀p∈L,p.1<n):(sO (aR L) n).count b=gD L b:=by
 induction L with
 |nil=>
  have:sO (aR []) n=[]:=by
   unfold sO;rw[List.flatMap_eq_nil_iff];intro a _;rfl
  rw[this];rfl
 |cons p L ih=>
  have ih:=ih (fun q hq=>h q (lF _ hq));unfold sO at ih⊢;rw[List.count_flatMap] at ih⊢;rw[ahF (List.count b∘aR (p::L)) (List.count b∘aR L) p.1 (if p.2=b then 1 else 0) n (h p Nj),ih]
  ·unfold gD;rw[dJ,List.count_cons];simp
  ·intro a _ ha;simp[aR,Ne.symm ha]
  ·simp[aR,List.count_cons]
theorem CI{n:Nat}(h:∀p∈L,p.1<p.2/\p.2<n)(hb:b∈aR L a):a<b/\b<n:=by
 unfold aR at hb;obtain⟨p,hp,rfl⟩:=dp.1 hb;obtain⟨h1,h2⟩:=nD.1 hp;have:=h p h1;simp at h2;omega
def jl (W:World)(gw n:Nat)(t:Nat->Nat):Prop:=∃wa:Array Value,ay W gw wa/\wa.size=n/\∀b<n,wa[b]? =some (I (t b:Nat))
theorem jl.cell{n:Nat}(h:jl W gw n t)(hb:b<n):W.cell? ⟨gw,b,none⟩=some (I (t b:Nat))/\W.frozen? ⟨gw,b,none⟩=false:=by
 obtain⟨wa,h1,h2,h3⟩:=h;exact⟨(h1.cell b).trans (h3 b hb),h1.frozen b⟩
theorem jl.set{n:Nat}(h:jl W gw n t)(b:Nat)(ho:∀c,c≠b->t' c=t c):jl (W.setCell ⟨gw,b,none⟩ (I (t' b:Nat))) gw n t':=by
 obtain⟨wa,h1,h2,h3⟩:=h;refine⟨_,h1.set b _,by rw[yc];exact h2,fun c hc=> ?_⟩;by_cases e:b=c
 ·subst e;rw[oI (by rw[h2];exact hc)]
 ·rw[nz e,h3 c hc,ho c (fun x=>e x.symm)]
theorem jl.kept{n:Nat}(h:jl W gw n t)(hb:Below B W W')(hg:gw<B):jl W' gw n t:=by
 obtain⟨wa,h1,h2,h3⟩:=h;exact⟨wa,h1.kept hb hg,h2,h3⟩
theorem jl.congr{n:Nat}(h:jl W gw n t)(ht:∀b<n,t' b=t b):jl W gw n t':=by
 obtain⟨wa,h1,h2,h3⟩:=h;exact⟨wa,h1,h2,fun b hb=>by rw[ht b hb];exact h3 b hb⟩
theorem pT.read{n:Nat}(h:pT B gn gw n W L arr wa)(ha:a<n):
  ∃va,∀W',dc gw W W'->W'.cell? ⟨gn,a,none⟩=some va/\Flat W' 1 va (aR L a).length (nv (aR L a)):=by
 obtain⟨va,h1,h2⟩:=h.row a ha;refine⟨va,fun W' hA=>⟨?_,Flat.RA h2 h.lw hA⟩⟩;rw[hA.2 gn a (ju h.ln h.hB) h.ne];exact(h.bn.cell a).trans h1
theorem pT.ahH{n:Nat}(h:pT B gn gw n W L arr wa):jl W gw n (gD L):=⟨wa,h.bw,h.sw,h.wt⟩
theorem Zs{e:TypeId}{k:Nat}{n:Nat}{xs:List Value}(h:W.ownsRow B e k v n xs)(a:Addr)(u:Value)(ha:a.block<B):(W.setCell a u).ownsRow B e k v n xs:=by
 refine h.kept ⟨rfl,rfl,rfl,ai,fun j _ hj=>uJ _ _ _ _ (fun e=>hj (by rw[e]))⟩ (row:=some a.block) ?_
 rcases ES h with h0|⟨g,h0,h1,_⟩
 ·exact .inl h0
 ·exact .inr (by rw[h0];intro e;cases e;omega)
theorem avk(l:List Nat):(nv l).length=l.length:=by simp[nv]
theorem Ly(l:List Nat)(i:Nat):nv (l++[i])=nv l++[I (i:Int)]:=by simp[nv]
theorem avl(h:l[i]? =some x):(nv l)[i]? =some (I (x:Int)):=by simp[nv,h]
theorem Ts{a:Option Addr}{m c n:Nat}(h:Flat w 1 (.slice a m c) n (nv l))(hi:l[i]? =some x):∃b o,a=some ⟨b,o,none⟩/\w.cell? ⟨b,o+i,none⟩=some (I (x:Int)):=by
 have hlt:=(bN.1 hi).1;obtain⟨b,o,ha,hc⟩:=h.cells (by rw[avk];omega);exact⟨b,o,ha,hc i _ (avl hi)⟩
theorem avm(Z:Nat->Bool)(k:Nat):(List.range (k+1)).filter Z=(List.range k).filter Z++if Z k then [k] else []:=by
 rw[mn,qz];by_cases h:Z k<;>simp[h]
structure QM (n gw:Nat)(L:List (Nat×Nat))(w w3 W:World)(row done:List Nat)(v:Value):Prop where
 ag:dc gw w3 W
 wt:jl W gw n (fun b=>gD L b-done.count b)
 own:W.ownsRow w3.heap.size 3 1 v row.length (nv row)
 be:aw w W
theorem QM.drew{n:Nat}{row:List Nat}(h:QM n gw L w w3 W row done v):QM n gw L w w3 W.drew row done v:=
 ⟨h.ag.drew,h.wt,pB h.own (Below.refl _ _).drew,h.be.drew⟩
theorem QM.kept{n:Nat}{row:List Nat}(h:QM n gw L w w3 W row done v)(hb:aw W W')(h1:gw<w3.heap.size):QM n gw L w w3 W' row done v:=
 ⟨⟨bm h.ag.1 hb.size,fun x o hx hg=>(hb.cell (p:=⟨x,o,none⟩) (ju hx h.ag.1)).trans (h.ag.2 x o hx hg)⟩,h.wt.kept hb (ju h1 h.ag.1),pB h.own hb,h.be.trans (hb.mono h.be.size)⟩
theorem QM.set{n:Nat}{row:List Nat}(h:QM n gw L w w3 W row done v)(b c:Nat)(hc:gD L b-done.count b=c+1)(h1:gw<w3.heap.size)(h2:w.heap.size<=gw):
  QM n gw L w w3 (W.setCell ⟨gw,b,none⟩ (I c)) row (done++[b]) v where
 ag:=h.ag.trans (dc.set gw W b _)
 wt:=by
  have:=h.wt.set (t':=fun x=>gD L x-(done++[b]).count x) b (fun x hx=>by
   show gD L x-(done++[b]).count x=gD L x-done.count x
   rw[zO]
   simp[Ne.symm hx])
  have e:gD L b-(done++[b]).count b=c:=by
   rw[zO];simp;omega
  simp only[e] at this;exact this
 own:=Zs h.own _ _ h1
 be:=h.be.setCell h2 _
theorem QM.app{n:Nat}{row:List Nat}{v':Value}(h:QM n gw L w w3 W row done v)(b:Nat)(h1:gw<w3.heap.size)(h2:w.heap.size<=gw)
  (ho:W'.ownsRow w3.heap.size 3 1 v' (row.length+1) (nv row++[I (b:Int)])) (hb:Below w3.heap.size W W'):QM n gw L w w3 W' (row++[b]) done v' where
 ag:=⟨bm h.ag.1 hb.size,fun x o hx hg=>(hb.cell (p:=⟨x,o,none⟩) hx).trans (h.ag.2 x o hx hg)⟩
 wt:=h.wt.kept hb h1
 own:=by rw[List.length_append,Ly];exact ho
 be:=h.be.trans (hb.mono ab)
def Tt (w4:World)(k:Nat)(v:Value)(wc:World):Prop:=∃ga gp gv:Nat,v=.pointer (some ⟨gv,0,none⟩)/\w4.heap.size<=ga/\w4.heap.size<=gp/\w4.heap.size<=gv/\ga≠gp/\ga≠gv/\gp≠gv/\
 ay wc ga (eE k (.slice none 0 0))/\ay wc gp #[I k,.slice (some ⟨ga,0,none⟩) k k]/\ay wc gv #[.pointer (some ⟨gp,0,none⟩)]/\aw w4 wc
end
section
open Go.RowKit Go.Shelf
attribute [local go_sem] Oper.semAt_some
variable {A B C W W':World} {G g l lo:Nat} {P:Nat->Prop} {arr cs:Array Value} {nx:Nat->List Nat} {o:Obj} {wd:Nat->Option Nat}
def iN (P:Nat->Prop)(A B:World):Prop:=∀b o,P b->B.cell? ⟨b,o,none⟩=A.cell? ⟨b,o,none⟩
theorem iN.refl(P:Nat->Prop)(A:World):iN P A A:=fun _ _ _=>rfl
theorem iN.trans(h:iN P A B)(k:iN P B C):iN P A C:=fun b o hb=>(k b o hb).trans (h b o hb)
theorem iN.set(h:iN P A B)(a:Addr)(v:Value)(ha:¬P a.block):iN P A (B.setCell a v):=fun b o hb=>
 (Ri _ _ _ _ (fun e=>ha (by rw[e];exact hb))).trans (h b o hb)
theorem iN.below{n:Nat}(h:Below n A B)(hP:∀b,P b->b<n):iN P A B:=fun b o hb=>h.cell (p:=⟨b,o,none⟩) (hP b hb)
def vN {n:Nat}(row:List (Fin n))(k:Nat):List (Fin n×Nat):=(row.zipIdx.drop k).reverse
def fv {n:Nat}(row:List (Fin n)):List Nat:=row.map Fin.val
theorem avn{n:Nat}(row:List (Fin n)):vN row (fv row).length=[]:=by simp[vN,fv]
theorem avo{n:Nat}(row:List (Fin n))(k:Nat)(x:Fin n)(h:row[k]? =some x):vN row k=vN row (k+1)++[(x,k)]:=by
 obtain⟨hk,rfl⟩:=bN.1 h;unfold vN;rw[List.drop_eq_getElem_cons (by simpa using hk)];simp
theorem avp{n:Nat}(row:List (Fin n))(k:Nat):(vN row k).length=row.length-k:=by simp[vN]
theorem avq{n:Nat}(row:List (Fin n)):(vN row 0).map Prod.fst=row.reverse:=by
 unfold vN;rw[uN,List.map_reverse,List.zipIdx_map_fst]
def Zt {n:Nat}(x:Fin n×Nat):Array Value:=#[I x.2,I x.1.val]
theorem avr{m:Nat}(n:Nat)(hn:1<=n)(row:List (Fin m))(tb:Nat)(v:Value)(w0:World)(P:Nat->Prop)(gT:w0.cell? ⟨tb,0,none⟩=some v)(bg:Flat w0 1 v (fv row).length (nv (fv row)))(hlen:(fv row).length<=1000000)
  (hP:∀b,P b->b<w0.heap.size) (hPt:P tb) (hPr:∀b o m c,v=.slice (some ⟨b,o,none⟩) m c->P b):
  SeqStopsK Fence.wide n Tryz.prog 176 #[.pointer (some ⟨tb,0,none⟩)] Zt (iN P) (fun xs=>xs=vN row 0) (fun _=>True) (fv row).length w0:=by
 intro l J Jx W hW hJ hJx hY h0;obtain⟨ka,ca,rfl,gH⟩:=bg.open;have fQ:W.cell? ⟨tb,0,none⟩=some (.slice ka (fv row).length ca):=(hW.cell (p:=⟨tb,0,none⟩) (hP _ hPt)).trans gT;have HY:=ae hY;clear hY;refine callsIn_of_wp Tryz.func176 rfl trivial ?_ rfl;simp only[Tryz.ntmps176,zM,List.length_cons,List.length_nil,Nat.reduceAdd,Nat.reduceSub,Ke,Kf,Kj,Ki,List.nil_append,List.cons_append]
 gi_wp2
 gi_loopw [3] (fun p wr=>∃k:Nat,k<=(fv row).length/\p=.int .i64 ((k:Int)-1)/\iN P w0 wr/\J (vN row k) wr) (fun p _=>(intOf p+1).toNat)
 case atStart=>exact⟨(fv row).length,cP _,rfl,iN.below hW hP,by rw[avn];exact h0⟩
 case round=>
  clear fQ;obtain⟨k,hk,rfl,hK,Lz⟩:=hrel
  cases k with
  |zero=>
   gi_wp2
   go_end0;exact⟨⟨_,rfl⟩,.inl ⟨_,rfl,Lz⟩⟩
  |succ k=>
   have ei:k<(fv row).length:=ab;have e1:((k+1:Nat):Int)-1=(k:Int):=ab;rw[e1];have qL:=(hK tb 0 hPt).trans gT
   obtain⟨x,hx⟩:∃x,row[k]? =some x:=⟨row[k]'(by simpa [fv] using ei),ai⟩
   obtain⟨b,o,rfl,hc⟩:=Ts bg (i:=k) (x:=x.val) (by simp[fv,hx]);have yG:=(hK b (o+k) (hPr b o _ _ rfl)).trans hc;have hsx:=avo row k x hx;have Hs:=ae hsx;have Zu:=ae (show(vN row (k+1)).length<(fv row).length by rw[avp];simp[fv] at ei⊢;omega);obtain⟨fn,tmps,assign,body,hy,hR⟩:=HY.out _ (x,k) wr Lz Zu.out;dsimp only[Zt] at hy;clear hsx e1 hx hc
   gi_wp2
   refine hR.mono ?_;rintro e W3 (⟨rfl,Zv,ET⟩|⟨rfl,avs⟩)
   ·gi_wp2
    go_roundw
    case rel=>exact⟨k,ab,rfl,hK.trans ET,by rw[Hs.out];exact Zv⟩
    case measure=>simp[intOf]
   ·gi_wp2
    refine DR (results_none rfl _ _ _) rfl ?_;exact⟨⟨_,rfl⟩,.inr ⟨_,trivial,avs⟩⟩
theorem backward(a:Option Addr)(n c:Nat)(w:World):Calls Tryz.prog 126 #[.slice a n c] w fun e w'=>e=.returned (.func (.func 176) #[] #[.pointer (some ⟨w.heap.size,0,none⟩)])/\w'=w.alloc (.cells #[.slice a n c] 22):=by
 go_enter Tryz.func126,Tryz.ntmps126;go_wp2_with fail;go_ret;exact⟨rfl,rfl⟩
theorem iN.putObj(W:World)(l:Nat)(o':Obj)(h:¬P l):iN P W (W.putObj l o'):=fun b o hb=>by
 have hne:b≠l:=by
  rintro rfl;exact h hb
 simp[World.cell?,World.putObj_heap_other hne]
theorem Zw{α:Type}{P:List α->Prop}(nil:P [])(append_singleton:∀l a,P l->P (l++[a]))(l:List α):P l:=by
 have h:∀m:List α,P m.reverse:=fun m=>by
  induction m with
  |nil=>exact nil
  |cons a m ih=>rw[wM];exact append_singleton _ _ ih
 have:=h l.reverse;rwa[List.reverse_reverse] at this
def Bb (g:Nat->Nat)(l:List Nat):Nat:=l.foldl (fun m b=>(m|||2^b)|||g b) 0
def mW (nx:Nat->List Nat)(wd:Nat->Option Nat)(a:Nat):Nat->Option Nat:=fun x=>if x=a then some (Bb (fun b=>(wd b).getD 0) (nx a)) else wd x
def xr (nx:Nat->List Nat)(al:List Nat):Nat->Option Nat:=al.foldl (mW nx) (fun _=>none)
theorem Zx(g:Nat->Nat)(l:List Nat)(b:Nat):Bb g (l++[b])=(Bb g l|||2^b)|||g b:=by simp[Bb]
theorem Zy(g:Nat->Nat)(l:List Nat)(hl:∀b∈l,b<64/\g b<jk):Bb g l<jk:=by
 induction l using Zw with
 |nil=>show 0<2^64;omega
 |append_singleton l b ih=>
  rw[Zx];have h1:=ih (fun c hc=>hl c (Gs _ hc));have h2:=hl b ai;exact Nl (Nl h1 (Tm b h2.1)) h2.2
theorem avt(g:Nat->Nat)(l:List Nat)(k:Nat):(Bb g l).testBit k=l.any fun b=>b==k||(g b).testBit k:=by
 induction l using Zw with
 |nil=>simp[Bb]
 |append_singleton l b ih=>
  rw[Zx,Nat.testBit_or,Nat.testBit_or,ih,Nat.testBit_two_pow];simp[Bool.or_assoc];rfl
theorem ahI(nx:Nat->List Nat)(al:List Nat)(a:Nat):xr nx (al++[a])=mW nx (xr nx al) a:=by simp[xr]
theorem avu(nx:Nat->List Nat)(n:Nat)(hn:n<=64)(f:Nat->Nat->Bool)(kr:∀a<n,∀b∈nx a,b<n)(hf:∀a<n,∀k<n,f a k=(nx a).any fun b=>b==k||f b k)(al:List Nat)(cK:al.Nodup)(hlt:∀a∈al,a<n)
  (ho:∀q a,al[q]? =some a->∀b∈nx a,b∈al.take q):∀a∈al,∃m,xr nx al a=some m/\m<jk/\∀k<n,m.testBit k=f a k:=by
 induction al using Zw with
 |nil=>intro a ha;simp at ha
 |append_singleton al a ih=>
  have avv:=Nk.1 cK
  have jg:∀x∈al,x<n:=fun x hx=>hlt x (Gs _ hx)
  have ih:=ih avv.1 jg (fun q x hq b hb=>by
   have fO:=(bN.1 hq).1;have:=ho q x (by rw[mj fO];exact hq) b hb
   rwa[uF ab] at this)
  have xt:=hlt a ai
  have dZ:∀b∈nx a,b∈al:=fun b hb=>by
   have:=ho al.length a ai b hb;rwa[oL] at this
  intro x hx;rw[ahI];unfold mW;by_cases e:x=a
  ·subst e;rw[aj rfl];refine⟨_,rfl,Zy _ _ fun b hb=> ?_,fun k hk=> ?_⟩
   ·obtain⟨m,h1,h2,_⟩:=ih b (dZ b hb);rw[h1];have:=kr x xt b hb;exact⟨ab,h2⟩
   ·rw[avt,hf x xt k hk,rZ,yg,yg]
    have key:∀b∈nx x,((xr nx al b).getD 0).testBit k=f b k:=fun b hb=>by
     obtain⟨m,h1,_,h3⟩:=ih b (dZ b hb);rw[h1];exact h3 k hk
    constructor
    ·rintro⟨b,hb,h⟩;exact⟨b,hb,by rwa[key b hb] at h⟩
    ·rintro⟨b,hb,h⟩;exact⟨b,hb,by rwa[key b hb]⟩
  ·rw[af e];refine ih x ?_
   rcases fU.1 hx with h|h
   ·exact h
   ·simp at h;exact absurd h e
def vO (W:World)(n lo:Nat)(arr:Array Value)(wd:Nat->Option Nat):Prop:=arr.size=n/\∀a<n,match wd a with
 |none=>arr[a]? =some (.slice none 0 0)
 |some m=>m<jk/\∃gi,lo<=gi/\gi<W.heap.size/\arr[a]? =some (.slice (some ⟨gi,0,none⟩) 1 1)/\W.cell? ⟨gi,0,none⟩=some (.int .u64 ((m:Nat):Int))
theorem vO.kept{n:Nat}(h:vO W n lo arr wd)(hs:W.heap.size<=W'.heap.size)(hc:∀b v,lo<=b->b<W.heap.size->W.cell? ⟨b,0,none⟩=some v->W'.cell? ⟨b,0,none⟩=some v):vO W' n lo arr wd:=by
 refine⟨h.1,fun a ha=> ?_⟩;have:=h.2 a ha;split
 ·rename_i e;rw[e] at this;exact this
 ·rename_i m e;rw[e] at this;obtain⟨h1,gi,h2,h3,h4,h5⟩:=this;exact⟨h1,gi,h2,ab,h4,hc gi _ h2 h3 h5⟩
theorem vO.step{n:Nat}(h:vO W n lo arr wd)(a:Nat)(ha:a<n)(kr:∀b∈nx a,b<n)(hn:n<=64)(oR:lo<=W.heap.size)
  (hs:W.heap.size<W'.heap.size) (hc:∀b v,lo<=b->b<W.heap.size->W.cell? ⟨b,0,none⟩=some v->W'.cell? ⟨b,0,none⟩=some v)
  (hg:W'.cell? ⟨W.heap.size,0,none⟩=some (.int .u64 ((Bb (fun b=>(wd b).getD 0) (nx a):Nat):Int))):
  vO W' n lo (arr.setIfInBounds a (.slice (some ⟨W.heap.size,0,none⟩) 1 1)) (mW nx wd a):=by
 have hk:=h.kept (W':=W') ab hc;refine⟨by rw[yc];exact h.1,fun x hx=> ?_⟩;unfold mW;by_cases e:x=a
 ·subst e;rw[aj rfl];refine⟨Zy _ _ fun b hb=>⟨by have:=kr b hb;omega,?_⟩,W.heap.size,oR,hs,by rw[oI (by rw[h.1];exact hx)],hg⟩;have:=h.2 b (kr b hb)
  cases hw:wd b with
  |none=>show 0<2^64;omega
  |some m=>
   rw[hw] at this;exact this.1
 ·rw[af e];have:=hk.2 x hx;rw[nz (Ne.symm e)];exact this
theorem vO.start(W:World)(n lo:Nat):vO W n lo (eE n (.slice none 0 0)) (fun _=>none):=⟨AY _ _,fun _ ha=>CH _ _ _ ha⟩
theorem avw(b o c:Nat)(w:World):
  Calls Tryz.prog 70 #[.slice (some ⟨b,o,none⟩) 1 c,.slice none 0 0] w fun e w'=>e=.returned (.tuple #[])/\w'=w:=by
 go_enter Tryz.func70,Tryz.ntmps70;go_wp2;refine wp_loop_rounds 1 ?_;rw[rounds_succ];go_wp2;go_end0;exact⟨rfl,rfl⟩
theorem ay.ahJ(h:ay W g cs){row:Option Nat}(hg:W.grownBy W' row)(hr:∀r,row=some r->∃o:Obj,W.heap[r]? =some o/\o.isCells=false):ay W' g cs:=by
 refine h.grown hg fun e=> ?_
 obtain⟨o,h1,h2⟩:=hr g e;obtain⟨t,h3⟩:=h;rw[h3] at h1;cases h1;cases h2
theorem ay.putObj(h:ay W g cs)(o':Obj)(hl:W.heap[l]? =some o)(ho:o.isCells=false):ay (W.putObj l o') g cs:=
 h.ahJ (grownBy_putObj' W l o') (fun r e=>by cases e;exact⟨o,hl,ho⟩)
theorem avx{n:Nat}{row done:List Nat}(h:rz nx n row done)(avy:∀i<n,i∈row)(kr:∀a<n,∀b∈nx a,b<n):∀q a,row.reverse[q]? =some a->∀b∈nx a,b∈row.reverse.take q:=by
 intro q a hq b hb
 have fO:q<row.length:=by have:=(bN.1 hq).1;simpa using this
 rw[List.getElem?_reverse fO] at hq;have xt:=h.lt a (eI hq);obtain⟨p,hp⟩:=wJ (avy b (kr a xt b hb));have je:=(bN.1 hp).1;have ha:=h.order p b hp a xt hb;obtain⟨j,hj⟩:=wJ ha;have eb:=(bN.1 hj).1;rw[dN] at eb;rw[List.getElem?_take_of_lt ab] at hj;have hjq:j=row.length-1-q:=(List.getElem?_inj ab h.nodup).1 (hj.trans hq.symm)
 have:row.reverse[row.length-1-p]? =some b:=by
  rw[List.getElem?_reverse ab,show row.length-1-(row.length-1-p)=p by omega];exact hp
 refine eI (i:=row.length-1-p) ?_;rw[List.getElem?_take_of_lt ab];exact this
theorem avz{k ga gp:Nat}{f:Nat->Nat->Bool}(hn:k<=64)(hb:ay W ga arr)(h0:W.cell? ⟨gp,0,none⟩=some (I k))(h1:W.cell? ⟨gp,1,none⟩=some (.slice (some ⟨ga,0,none⟩) k k))
  (eQ:vO W k lo arr wd) (lM:∀i<k,∃m,wd i=some m/\m<jk/\∀j<k,m.testBit j=f i j):AX W (.pointer (some ⟨gp,0,none⟩)) k f:=by
 refine⟨hn,gp,ga,k,rfl,h0,h1,fun i hi=> ?_⟩;obtain⟨m,e,h2,h3⟩:=lM i hi;have:=eQ.2 i hi;rw[e] at this;obtain⟨_,gi,_,_,h4,h5⟩:=this;exact⟨gi,1,m,(hb.cell i).trans h4,h5,h2,h3⟩
theorem Zz{a:Addr}{v:Value}(h:W.cell? a=some v)(o':Obj)(hl:W.heap[l]? =some o)(ho:o.isCells=false):(W.putObj l o').cell? a=some v:=
 cell_kept h (grownBy_putObj' W l o') (fun r e=>by cases e;exact⟨o,hl,ho⟩)
structure Touch (G:Nat)(W W':World):Prop where
 size:W'.heap.size=W.heap.size
 cell:∀b o,b≠G->W'.cell? ⟨b,o,none⟩=W.cell? ⟨b,o,none⟩
 others:KeepsOthers W W'
 below:∀B,B<=G->Below B W W'
 du:∀g cs,g≠G->ay W g cs->ay W' g cs
theorem Touch.refl(G:Nat)(W:World):Touch G W W:=⟨rfl,fun _ _ _=>rfl,KeepsOthers.refl W,fun _ _=>Below.refl _ _,fun _ _ _ h=>h⟩
theorem Touch.trans(h:Touch G A B)(k:Touch G B C):Touch G A C:=
 ⟨k.size.trans h.size,fun b o hb=>(k.cell b o hb).trans (h.cell b o hb),h.others.trans k.others,fun n hn=>(h.below n hn).trans (k.below n hn),fun g cs hg hb=>k.du g cs hg (h.du g cs hg hb)⟩
theorem Touch.set(G o:Nat)(W:World)(v:Value):Touch G W (W.setCell ⟨G,o,none⟩ v):=
 ⟨ai,fun b o' hb=>Ri _ _ _ _ (fun e=>hb (aF Addr.block e).symm),KeepsOthers.setCell _ _ _,fun _ hB=>(Below.refl _ W).setCell hB _,fun _ _ hg hb=>hb.setOther _ _ (fun e=>hg e.symm)⟩
theorem Touch.drew(h:Touch G W W'):Touch G W W'.drew:=
 ⟨h.size,h.cell,h.others.trans (KeepsOthers.drew _),fun B hB=>(h.below B hB).drew,fun g cs hg hb=>(h.du g cs hg hb).drew⟩
theorem Touch.drewN(h:Touch G W W')(n:Nat):Touch G W (W'.drewN n):=
 ⟨h.size,h.cell,h.others.trans ⟨cP _,fun _ _ h _=>h⟩,fun B hB=>below_drewN (h.below B hB) n,fun g cs hg hb=>(h.du g cs hg hb).drewN n⟩
theorem avA(G m i:Nat)(w:World)(hG:ay w G #[.int .u64 ((m:Nat):Int)])(hm:m<jk)(hi:i<64):
  Calls Tryz.prog 127 #[.slice (some ⟨G,0,none⟩) 1 1,I i] w fun e w'=>e=.returned (.tuple #[])/\ay w' G #[.int .u64 ((m|||2^i:Nat):Int)]/\Touch G w w':=by
 refine(auP G 0 1 m i w (hG.cell 0) (hG.frozen 0) hm hi).mono ?_;rintro e w' ⟨rfl,n,rfl⟩;exact⟨rfl,(hG.set 0 _).drewN n,(Touch.set G 0 w _).drewN n⟩
theorem avB(G m mb:Nat)(tv:Value)(w:World)(hG:ay w G #[.int .u64 ((m:Nat):Int)])(hm:m<jk)
  (ht:(tv=.slice none 0 0/\mb=0)\/∃gi,tv=.slice (some ⟨gi,0,none⟩) 1 1/\w.cell? ⟨gi,0,none⟩=some (.int .u64 ((mb:Nat):Int))/\mb<jk):
  Calls Tryz.prog 70 #[.slice (some ⟨G,0,none⟩) 1 1,tv] w fun e w'=>e=.returned (.tuple #[])/\ay w' G #[.int .u64 ((m|||mb:Nat):Int)]/\Touch G w w':=by
 rcases ht with⟨rfl,rfl⟩|⟨gi,rfl,hc,CJ⟩
 ·refine(avw G 0 1 w).mono ?_;rintro e w' ⟨rfl,rfl⟩;exact⟨rfl,by rw[Nat.or_zero];exact hG,Touch.refl _ _⟩
 ·refine(aht G 0 1 gi 0 1 m mb w (hG.cell 0) (hG.frozen 0) hm hc CJ).mono ?_;rintro e w' ⟨rfl,rfl⟩;exact⟨rfl,hG.set 0 _,Touch.set G 0 w _⟩
def ZA (k ga:Nat)(L:List (Nat×Nat))(w W6:World)(al:List Nat)(W:World):Prop:=∃arr:Array Value,ay W ga arr/\vO W k W6.heap.size arr (xr (aR L) al)/\iN (fun b=>b<W6.heap.size/\b≠ga) W6 W/\W6.heap.size<=W.heap.size/\aw w W
theorem avC{n:Nat}{row:Option Nat}(hg:A.grownBy B row)(hr:∀r,row=some r->n<=r)(hP:∀b,P b->b<n)(hn:n<=A.heap.size):iN P A B:=fun b o hb=>by
 have:=hg.block b (ju (hP b hb) hn) (fun e=>by have:=hr b e.symm;have:=hP b hb;omega);simp[World.cell?,this]
theorem avD(k ga:Nat)(L:List (Nat×Nat))(w W6:World)(hw:w.heap.size<=W6.heap.size):OwnFrom W6.heap.size (fun(pre:List (Fin k×Nat)) W=>ZA k ga L w W6 (pre.map fun x=>x.1.val) W):=by
 intro s A B row hs hg hr;obtain⟨arr,h1,h2,h3,h4,h5⟩:=hs;refine⟨arr,h1.ahJ hg (fun r e=>(hr r e).2),h2.kept hg.size (fun b v _ _ hc=>cell_kept hc hg (fun r e=>(hr r e).2)),h3.trans (avC hg (fun r e=>(hr r e).1) (fun b hb=>hb.1) h4),bm h4 hg.size,?_⟩;exact h5.grown hg h5.size (fun r e=>by have:=(hr r e).1;omega)
theorem iN.OL{P':Nat->Prop}(h:iN P A B)(hp:∀b,P' b->P b):iN P' A B:=fun b o hb=>h b o (hp b hb)
theorem vO.val{n:Nat}(h:vO W n lo arr wd){b:Nat}(hb:b<n):∃tv,arr[b]? =some tv/\((tv=.slice none 0 0/\(wd b).getD 0=0)\/∃gi,tv=.slice (some ⟨gi,0,none⟩) 1 1/\lo<=gi/\gi<W.heap.size/\W.cell? ⟨gi,0,none⟩=some (.int .u64 (((wd b).getD 0:Nat):Int))/\(wd b).getD 0<jk):=by
 have:=h.2 b hb
 cases hw:wd b with
 |none=>rw[hw] at this;exact⟨_,this,.inl ⟨rfl,rfl⟩⟩
 |some m=>rw[hw] at this;obtain⟨h1,gi,h2,h3,h4,h5⟩:=this;exact⟨_,h4,.inr ⟨gi,rfl,h2,h3,h5,h1⟩⟩
theorem avE(w:World)(k:Nat):Tt w k (.pointer (some ⟨w.heap.size+1+1,0,none⟩)) (((w.alloc (.cells (eE k (.slice none 0 0)) 148)).alloc (.cells #[I k,.slice (some ⟨w.heap.size,0,none⟩) k k] 146)).alloc (.cells #[.pointer (some ⟨w.heap.size+1,0,none⟩)] 81)).drew:=by
 refine⟨w.heap.size,w.heap.size+1,w.heap.size+1+1,rfl,ab,ab,ab,ab,ab,ab,(((ay.new w _ 148).alloc _).alloc _).drew,?_,?_,((((Below.refl _ w).alloc ax _).alloc ai _).alloc bz _).drew⟩
 ·have:=((ay.new (w.alloc (.cells (eE k (.slice none 0 0)) 148)) #[I k,.slice (some ⟨w.heap.size,0,none⟩) k k] 146).alloc (.cells #[.pointer (some ⟨w.heap.size+1,0,none⟩)] 81)).drew;simpa using this
 ·have:=(ay.new ((w.alloc (.cells (eE k (.slice none 0 0)) 148)).alloc (.cells #[I k,.slice (some ⟨w.heap.size,0,none⟩) k k] 146)) #[.pointer (some ⟨w.heap.size+1,0,none⟩)] 81).drew;simpa using this
theorem avF(w:World)(k:Nat):Tt w k (.pointer (some ⟨w.heap.size+1,0,none⟩)) (((w.alloc (.cells (eE k (.slice none 0 0)) 148)).alloc (.cells #[.pointer (some ⟨w.heap.size+1+1,0,none⟩)] 81)).alloc (.cells #[I k,.slice (some ⟨w.heap.size,0,none⟩) k k] 146)).drew:=by
 refine⟨w.heap.size,w.heap.size+1+1,w.heap.size+1,rfl,ab,ab,ab,ab,ab,ab,(((ay.new w _ 148).alloc _).alloc _).drew,?_,?_,((((Below.refl _ w).alloc ax _).alloc ai _).alloc bz _).drew⟩
 ·have:=(ay.new ((w.alloc (.cells (eE k (.slice none 0 0)) 148)).alloc (.cells #[.pointer (some ⟨w.heap.size+1+1,0,none⟩)] 81)) #[I k,.slice (some ⟨w.heap.size,0,none⟩) k k] 146).drew;simpa using this
 ·have:=((ay.new (w.alloc (.cells (eE k (.slice none 0 0)) 148)) #[.pointer (some ⟨w.heap.size+1+1,0,none⟩)] 81).alloc (.cells #[I k,.slice (some ⟨w.heap.size,0,none⟩) k k] 146)).drew;simpa using this
theorem avG(w:World)(k:Nat):Tt w k (.pointer (some ⟨w.heap.size,0,none⟩)) (((w.alloc (.cells #[.pointer (some ⟨w.heap.size+1+1,0,none⟩)] 81)).alloc (.cells (eE k (.slice none 0 0)) 148)).alloc (.cells #[I k,.slice (some ⟨w.heap.size+1,0,none⟩) k k] 146)).drew:=by
 refine⟨w.heap.size+1,w.heap.size+1+1,w.heap.size,rfl,ab,ab,ab,ab,ab,ab,?_,?_,(((ay.new w _ 81).alloc _).alloc _).drew,((((Below.refl _ w).alloc ax _).alloc ai _).alloc bz _).drew⟩
 ·have:=((ay.new (w.alloc (.cells #[.pointer (some ⟨w.heap.size+1+1,0,none⟩)] 81)) (eE k (.slice none 0 0)) 148).alloc (.cells #[I k,.slice (some ⟨w.heap.size+1,0,none⟩) k k] 146)).drew;simpa using this
 ·have:=(ay.new ((w.alloc (.cells #[.pointer (some ⟨w.heap.size+1+1,0,none⟩)] 81)).alloc (.cells (eE k (.slice none 0 0)) 148)) #[I k,.slice (some ⟨w.heap.size+1,0,none⟩) k k] 146).drew;simpa using this
end
section
open Go.RowKit Go.Shelf
attribute [local go_sem] Oper.semAt_some
theorem avH:(Tryz.prog.info? 148).map (fun i=>(i.zero,i.size,i.bytes))=some (some (.slice none 0 0),1,24):=ah
theorem ahK:(Tryz.prog.info? 222).map (fun i=>(i.zero,i.size,i.bytes))=some (some (.int .u64 0),1,8):=ah
theorem avI (n:Nat)(L:List (Nat×Nat))(v:Value)(w:World)(hL:Flat w 2 v L.length (L.flatMap pc))(hn:n<=64)(rF:∀p∈L,p.1<p.2/\p.2<n)(LA:L.length<=10000)
  (f:Nat->Nat->Bool) (hf:∀a<n,∀k<n,f a k=(aR L a).any fun b=>b==k||f b k):
  Calls Tryz.prog 67 #[I n,v] w fun e w'=>∃p,e=.returned (.tuple #[p,I 0])/\AX w' p n f/\aw w w':=by
 obtain⟨ka,ca,rfl,gH⟩:=hL.open
 have yW:=fun W=>AZ (P:=Tryz.prog) 79 22 (.slice none 0 0) 24 n Tryz.underlying79 ahE rfl ab ab W
 have Tu:=fun W=>AZ (P:=Tryz.prog) 22 3 (.int .i64 0) 8 n Tryz.underlying22 sd rfl ab ab W
 have Hf:=ae hf;clear hf;refine(GC (n:=5)).1 ?_;refine callsIn_of_wp_marks Tryz.func67 rfl trivial ?_ rfl;simp only[Tryz.ntmps67,zM,List.length_cons,List.length_nil,Nat.reduceAdd,Nat.reduceSub,Ke,Kf,Kj,Ki,List.nil_append,List.cons_append];refine wpIn_wide.2 ?_;go_wp2_with fail
 obtain⟨W0,EU,CK,hbG,EW,hbW,oA,vP⟩:∃W0:World,W0=(((w.alloc (.cells #[I n] 3)).alloc (.cells (eE n (.slice none 0 0)) 22)).alloc (.cells #[.slice (some ⟨w.heap.size+1,0,none⟩) n n] 79)).alloc (.cells (eE n (.int .i64 0)) 3)/\
   ay W0 w.heap.size #[I n]/\ay W0 (w.heap.size+1) (eE n (.slice none 0 0))/\ay W0 (w.heap.size+1+1) #[.slice (some ⟨w.heap.size+1,0,none⟩) n n]/\ay W0 (w.heap.size+1+1+1) (eE n (.int .i64 0))/\aw w W0/\W0.heap.size=w.heap.size+1+1+1+1:=by
  refine⟨_,rfl,(((ay.new w #[I n] 3).alloc _).alloc _).alloc _,?_,?_,?_,((((Below.refl _ w).alloc ax _).alloc ai _).alloc bz _).alloc bz _,ai⟩
  ·have:=((ay.new (w.alloc (.cells #[I n] 3)) (eE n (.slice none 0 0)) 22).alloc (.cells #[.slice (some ⟨w.heap.size+1,0,none⟩) n n] 79)).alloc (.cells (eE n (.int .i64 0)) 3);simpa using this
  ·have:=(ay.new ((w.alloc (.cells #[I n] 3)).alloc (.cells (eE n (.slice none 0 0)) 22)) #[.slice (some ⟨w.heap.size+1,0,none⟩) n n] 79).alloc (.cells (eE n (.int .i64 0)) 3);simpa using this
  ·have:=ay.new (((w.alloc (.cells #[I n] 3)).alloc (.cells (eE n (.slice none 0 0)) 22)).alloc (.cells #[.slice (some ⟨w.heap.size+1,0,none⟩) n n] 79)) (eE n (.int .i64 0)) 3;simpa using this
 rw[<-EU];clear EU;go_loopw [34] (fun i wr=>∃k:Nat,k<=L.length/\i=.int .i64 k/\aw W0 wr) (fun i _=>L.length-(intOf i).toNat)
 case atStart=>exact⟨0,ab,rfl,Below.refl _ _⟩
 case round=>
  obtain⟨k,hk,rfl,hB⟩:=hrel;have LB:=(CK.kept hB ab).cell;by_cases hlt:k<L.length
  ·have pU:=rF L[k] (bW hlt);obtain⟨b,o,rfl,x0,x1⟩:=Zr ((hL.kept oA ax).kept hB ax) (i:=k) (x:=L[k]) (by simp[hlt])
   have fq:b<wr.heap.size:=by simpa using ez _ _ x0
   have EX:w.heap.size<wr.heap.size:=by have:=hB.size;omega
   have ZB:=hB.size;go_wp2_with fail;go_roundw
   case rel=>exact⟨k+1,ab,by go_num,hB.alloc ZB _⟩
   case measure=>simp[intOf];omega
  ·clear LB yW Tu;have ZB:=hB.size;have ahL:=CK.kept hB ab;have ahM:=EW.kept hB ab;have ahN:=pT.start (B:=wr.heap.size) (hbG.kept hB ab) (hbW.kept hB ab) ab ab ab ax;have OO:aw w wr:=oA.trans (hB.mono oA.size);have LC:w.heap.size+1+1+1<wr.heap.size:=ab
   obtain⟨w1,rfl⟩:∃w1:World,w1=wr:=⟨_,rfl⟩
   clear hB CK EW hbG hbW oA vP ZB;go_wp2_with fail;go_loopw [56] (fun i wr=>∃(k:Nat) (arr wa:Array Value),k<=L.length/\i=.int .i64 k/\pT w1.heap.size (w.heap.size+1) (w.heap.size+1+1+1) n wr (L.take k) arr wa/\aw w wr/\ay wr w.heap.size #[I n]/\ay wr (w.heap.size+1+1) #[.slice (some ⟨w.heap.size+1,0,none⟩) n n]) (fun i _=>L.length-(intOf i).toNat)
   case atStart=>exact⟨0,_,_,ab,rfl,ahN,OO,ahL,ahM⟩
   case round=>
    clear ahL ahM ahN OO;obtain⟨k,arr,wa,hk,rfl,kr,hB,CK,EW⟩:=hrel;by_cases hlt:k<L.length
    ·obtain⟨x,hx⟩:∃x,L[k]? =some x:=⟨L[k],by simp[hlt]⟩
     have pU:=rF x (eI hx);obtain⟨b,o,rfl,x0,x1⟩:=Zr (hL.kept hB ax) (i:=k) (x:=x) hx
     have fq:b<wr.heap.size:=by simpa using ez _ _ x0
     have rE:x.1<n:=ab;have yV:x.2<n:=pU.2;obtain⟨va,dX,bg⟩:=kr.row x.1 ab
     have de:L.take (k+1)=L.take k++[x]:=by rw[DL,hx];rfl
     have hzW:=hB.size;have jF:=kr.hB;have hcG:=(kr.bn.cell x.1).trans dX;have hcT:wr.cell? ⟨w.heap.size+1+1,0,none⟩=some (.slice (some ⟨w.heap.size+1,0,none⟩) n n):=EW.cell 0;have cD:w.heap.size+1<wr.heap.size:=ab;have fb:w.heap.size+1+1<wr.heap.size:=ab;have rm:w.heap.size+1+1+1<wr.heap.size:=ab
     have Bc:(aR (L.take k) x.1).length<=10000:=by
      unfold aR;rw[dI];exact bm (oc _ _) (by rw[dN];omega)
     have uZ:va.ownBlock=none\/∃g,va.ownBlock=some g/\w1.heap.size<=g/\g<wr.heap.size:=ES bg
     have yX:∀x,(x<w1.heap.size\/wr.heap.size<=x)->va.ownBlock≠some x:=fun x hx e=>by
      rcases uZ with h0|⟨g,h0,h1,h2⟩
      ·rw[h0] at e;cases e
      ·rw[h0] at e;cases e;omega
     have yY:((wr.alloc (.cells #[I x.1,I x.2] 84)).alloc (.cells #[I x.2] 3)).heap[wr.heap.size+1]? =some (.cells #[I x.2] 3 (0,0)):=by
      have:=dY (wr.alloc (.cells #[I x.1,I x.2] 84)) (.cells #[I x.2] 3);simpa using this
     have hX:ay ((wr.alloc (.cells #[I x.1,I x.2] 84)).alloc (.cells #[I x.2] 3)) wr.heap.size #[I x.1,I x.2]:=(ay.new _ _ _).alloc _;have IB:aw wr ((wr.alloc (.cells #[I x.1,I x.2] 84)).alloc (.cells #[I x.2] 3)):=((Below.refl _ _).alloc ax _).alloc ai _;have ahO:=kr.kept IB;have ks:=kr.wt _ yV;have OP:=ae ((bg.alloc (.cells #[I x.1,I x.2] 84)).alloc (.cells #[I x.2] 3));have yZ:=ae yY;have HX:=ae hX;have LD:=ae ahO;have EY:=ae IB;have ji:=yX (w.heap.size+1) ab;have pQ:=yX (w.heap.size+1+1+1) ab;have yP:=yX wr.heap.size ab;have ZC:=ae ji;have Hv2:=ae pQ;have ZD:=ae yP;have OQ:=yX (w.heap.size+1+1) ab;have Hv4:=ae OQ;have hv5:=yX w.heap.size ab;have Hv5:=ae hv5
     have rG:gD (L.take k) x.2<=10000:=by
      unfold gD;exact bm Kg (by rw[dI,dN];omega)
     have mL:=ae dX;have LF:=ae ks;have jm:=ae bg;have vQ:=ae de;have Hx:=ae hx;have aGl:¬(w.heap.size+1=wr.heap.size):=ab;have aGm:¬(wr.heap.size=w.heap.size+1):=ab;clear yY hX IB ahO yX ji pQ yP OQ hv5 dX ks bg de uZ hx;go_wp2_with fail
     obtain⟨wx,pV⟩:∃wx,wx=wr.alloc (.cells #[I x.1,I x.2] 84):=⟨_,rfl⟩
     have dT:wx.cell? ⟨w.heap.size+1+1,0,none⟩=some (.slice (some ⟨w.heap.size+1,0,none⟩) n n):=by rw[pV];exact(EW.alloc _).cell 0
     have dG:wx.cell? ⟨w.heap.size+1,x.1,none⟩=some va:=by rw[pV];exact((kr.bn.alloc _).cell x.1).trans mL.out
     have ZE:wx.cell? ⟨wr.heap.size,0,none⟩=some (I x.1):=by rw[pV];exact(ay.new _ _ _).cell 0
     have ZF:wx.cell? ⟨wr.heap.size,1,none⟩=some (I x.2):=by rw[pV];exact(ay.new _ _ _).cell 1
     have HN:Hid (ay (wx.alloc (.cells #[I x.2] 3)) w.heap.size #[I n]):=ae (by rw[pV];exact(CK.alloc _).alloc _);have HT:Hid (ay (wx.alloc (.cells #[I x.2] 3)) (w.heap.size+1+1) #[.slice (some ⟨w.heap.size+1,0,none⟩) n n]):=ae (by rw[pV];exact(EW.alloc _).alloc _);rw[<-pV] at yZ HX LD EY OP⊢;have eT:(wx.alloc (.cells #[I x.2] 3)).cell? ⟨w.heap.size+1+1,0,none⟩=some (.slice (some ⟨w.heap.size+1,0,none⟩) n n):=HT.out.cell 0;have eG:(wx.alloc (.cells #[I x.2] 3)).cell? ⟨w.heap.size+1,x.1,none⟩=some va:=(LD.out.bn.cell x.1).trans mL.out;have ZG:(wx.alloc (.cells #[I x.2] 3)).cell? ⟨wr.heap.size,0,none⟩=some (I x.1):=HX.out.cell 0;have ZH:(wx.alloc (.cells #[I x.2] 3)).cell? ⟨wr.heap.size,1,none⟩=some (I x.2):=HX.out.cell 1
     have hzx:wx.heap.size=wr.heap.size+1:=by rw[pV];simp
     have Hwx:=ae pV;clear pV;refine kY 12 [(0,true),(1,true),(2,true),(3,true),(4,true),(5,true),(6,true),(7,true),(8,true),(9,true),(10,false),(11,false)] (fun w'=>w'.cell? ⟨w.heap.size+1+1,0,none⟩=some (.slice (some ⟨w.heap.size+1,0,none⟩) n n)/\w'.cell? ⟨wr.heap.size,0,none⟩=some (I x.1)/\w'.cell? ⟨wr.heap.size,1,none⟩=some (I x.2)/\w'.cell? ⟨w.heap.size+1,x.1,none⟩=some va) ah rfl rfl ah ⟨dT,ZE,ZF,dG⟩ ?_
     repeat refine gI ?_
     (refine lf (fun K hK=> ?_);go_simp;refine hK.out _ _ ?_ ?_)
     ·exact⟨eT,ZG,ZH,eG⟩
     clear hK K;refine bC ?_;refine lf (fun K hK=> ?_);refine GG eH _ _ 22 eH 3 _ 1 8 Tryz.underlying22 sd rfl ab ab w1.heap.size va (aR (L.take k) x.1).length (nv (aR (L.take k) x.1)) eH OP.out (wr.heap.size+1) 1 1 #[I x.2] 3 eH yZ.out rfl rfl ab ab LD.out.hB ?_;intro g cap w2 fX gL jn ug xu bh;have OS:=LD.out.bn.drew.grown xu ZC.out;have IC:=LD.out.bw.drew.grown xu Hv2.out;have hX2:=HX.out.drew.grown xu ZD.out;have cG2:=(OS.cell x.1).trans mL.out;have fG2:=OS.frozen x.1;have cW2:=(IC.cell x.2).trans LF.out;have fW2:=IC.frozen x.2;have ZI:w2.cell? ⟨wr.heap.size,0,none⟩=some (I x.1):=hX2.cell 0;have cX2:w2.cell? ⟨wr.heap.size,1,none⟩=some (I x.2):=hX2.cell 1;have cT2:w2.cell? ⟨w.heap.size+1+1,0,none⟩=some (.slice (some ⟨w.heap.size+1,0,none⟩) n n):=(HT.out.drew.grown xu Hv4.out).cell 0;refine hK.out _ _ ⟨cT2,ZI,cX2,cG2⟩ ?_;clear hK K;refine bC ?_;refine kZ ?_;go_wp2_with fail;refine NoPanic.normal ?_;go_wp2_with fail;go_roundw
     case rel=>
      have hst:=LD.out.drew.step x rE yV va mL.out g cap ug xu (jn.imp id (fun e=>by rw[e];exact cP _)) bh.size;have mJ:aw w w2:=(hB.trans (EY.out.drew.mono ab)).trans (bh.mono ab);have hN2:=HN.out.drew.grown xu Hv5.out;have fY:=HT.out.drew.grown xu Hv4.out;rw[show((gD (L.take k) x.2+1:Nat):Int)=(gD (L.take k) x.2:Int)+1 from ab] at hst;exact⟨k+1,_,_,ab,by go_num,by rw[vQ.out];exact hst,(mJ.setCell ai _).setCell bz _,(hN2.setOther _ _ ai).setOther _ _ bz,(fY.setOther _ _ ai).setOther _ _ ai⟩
     case measure=>simp[intOf];omega
    ·have hkL:k=L.length:=ab;have ZJ:=kr;rw[hkL,fT] at ZJ;have LB:=CK.cell 0;have aGn:=kr.hB;have aGo:=hB.size
     have rG:∀b,gD L b<=10000:=fun b=>by
      unfold gD;exact bm Kg (by rw[dI];omega)
     have Tv:=ae ZJ;have Hwl:=ae rG;have Lu:=kr.lw;have aGp:=kr.ln;clear kr ZJ rG hkL
     obtain⟨w3,rfl⟩:∃w3:World,w3=wr:=⟨_,rfl⟩
     go_wp2_with fail;go_loopw [82,12] (fun i v wr=>∃k:Nat,k<=n/\i=.int .i64 k/\wr.ownsRow w3.heap.size 3 1 v ((List.range k).filter fun i=>decide (gD L i=0)).length (nv ((List.range k).filter fun i=>decide (gD L i=0)))/\aw w3 wr) (fun i _ _=>n-(intOf i).toNat)
     case atStart=>exact⟨0,ab,rfl,kz _ _ _ _,Below.refl _ _⟩
     case round=>
      obtain⟨k,hk,rfl,aT,fP⟩:=hrel;by_cases hlt:k<n
      ·have Ck:=fP.size;have cW:=(Tv.out.ahH.kept fP ab).cell hlt;have cW1:=cW.1;have cS:((List.range k).filter fun i=>decide (gD L i=0)).length<=10000:=bm (oc _ _) (by rw[BN];omega);have LG:=ae (avm (fun i=>decide (gD L i=0)) k);have yY:(wr.alloc (.cells #[I k] 3)).heap[wr.heap.size]? =some (.cells #[I k] 3 (0,0)):=dY _ _;have yZ:=ae yY;clear cW yY;by_cases hz:gD L k=0
       ·have ID:(((gD L k:Nat):Int)==0)=true:=by rw[hz];rfl
        have Hz:=ae hz;clear hz
        go_wp2_with (at_builtin;go_must (refine tF rfl _ _ 22 rfl 3 _ 1 8 Tryz.underlying22 sd rfl ab ab w3.heap.size _ _ _ rfl (aT.alloc _) wr.heap.size 1 1 #[I k] 3 rfl yZ.out rfl rfl ab ab bz ?_);intro g cap w4 fX gL jn ZK avJ lZ)
        go_roundw
        case rel=>
         refine⟨k+1,ab,by go_num,?_,(fP.alloc Ck _).trans lZ⟩
         have hd:decide (gD L k=0)=true:=by rw[Hz.out];rfl
         rw[LG.out,hd,aj rfl,Ly,List.length_append];exact ZK
        case measure=>simp[intOf];omega
       ·have ID:(((gD L k:Nat):Int)==0)=false:=by rw[mO];omega
        have Hz:=ae hz;clear hz;go_wp2_with fail;go_roundw
        case rel=>
         refine⟨k+1,ab,by go_num,?_,fP⟩
         have hd:decide (gD L k=0)=false:=by simp[Hz.out]
         rw[LG.out,hd,af ai,sb];exact aT
        case measure=>simp[intOf];omega
      ·obtain rfl:k=n:=ab;have LH:=rz.start (aR L) k
       have OU:((List.range k).filter fun i=>decide ((sO (aR L) k).count i=0))=(List.range k).filter fun i=>decide (gD L i=0):=by
        congr 1;funext i;rw[ahG k i L fun p hp=>by have:=rF p hp;omega]
       rw[OU] at LH
       have gY:QM k (w.heap.size+1+1+1) L w w3 wr ((List.range k).filter fun i=>decide (gD L i=0)) [] u12:=
        ⟨dc.below fP ax,(Tv.out.ahH.kept fP ab).congr (fun b _=>ai),aT,hB.trans (fP.mono ab)⟩
       have Hq0:=ae LH;have zb:=ae gY;have avK:=(CK.kept fP ab).cell 0;have HbN:=ae CK;have HbT:=ae EW;clear LH gY OU aT fP LB;clear CK EW;go_wp2_with fail;go_loopw [14,12] (fun i v wr=>∃(q:Nat) (row:List Nat),q<=row.length/\i=.int .i64 q/\rz (aR L) k row ((row.take q).flatMap (aR L))/\QM k (w.heap.size+1+1+1) L w w3 wr row ((row.take q).flatMap (aR L)) v) (fun i _ _=>k-(intOf i).toNat)
       case atStart=>exact⟨0,_,BV _,rfl,Hq0.out,zb.out⟩
       case round=>
        clear avK;obtain⟨q,row,hq,rfl,pj,gY⟩:=hrel;have eJ:=pj.length_le;have dC:=Flat.eB gY.own;obtain⟨ra,rc,rfl,_⟩:=dC.open;by_cases hlt:q<row.length
        ·obtain⟨a,ha⟩:∃a,row[q]? =some a:=⟨row[q],by simp[hlt]⟩
         have xt:=pj.lt a (eI ha);obtain⟨va,IE⟩:=Tv.out.read xt;obtain⟨g1,g2⟩:=IE wr gY.ag;obtain⟨vb,vc,rfl,_⟩:=g2.open;have mL:=ae IE;clear IE;obtain⟨rb,ro,rfl,vf⟩:=Ts dC ha;have ahP:=(gY.ag.2 (w.heap.size+1+1) 0 ab ab).trans (HbT.out.cell 0);have dT:wr.cell? ⟨w.heap.size+1+1,0,none⟩=some (.slice (some ⟨w.heap.size+1,0,none⟩) k k):=ahP
         have uh:(aR L a).length<=10000:=by
          unfold aR;rw[dI];exact bm (oc _ _) ab
         have IF:=ae g2;have vK:=ae pj;have zb:=ae gY;have Ha:=ae ha;have Lv:=ae dC;clear g2 pj gY ha dC ahP;go_wp2_with fail;refine kY 9 [(0,true),(1,true),(2,true),(3,true),(4,true),(5,true),(6,true),(7,true),(8,true)] (fun w'=>w'.cell? ⟨w.heap.size+1+1,0,none⟩=some (.slice (some ⟨w.heap.size+1,0,none⟩) k k)/\w'.cell? ⟨rb,ro+q,none⟩=some (I a)/\w'.cell? ⟨w.heap.size+1,a,none⟩=some (.slice vb (aR L a).length vc)) ah rfl rfl ah ⟨dT,vf,g1⟩ ?_
         iterate 9 refine gI ?_
         refine kZ ?_;go_wp2_with fail;refine NoPanic.normal ?_;clear dT vf g1;go_wp2_with fail
         obtain⟨wo,rfl⟩:∃wo:World,wo=wr:=⟨_,rfl⟩
         go_loopw [109,12] (fun jv v wr=>∃(j:Nat) (row:List Nat),j<=(aR L a).length/\jv=.int .i64 j/\row[q]? =some a/\rz (aR L) k row ((row.take q).flatMap (aR L)++(aR L a).take j)/\QM k (w.heap.size+1+1+1) L w w3 wr row ((row.take q).flatMap (aR L)++(aR L a).take j) v) (fun jv _ _=>(aR L a).length-(intOf jv).toNat)
         case atStart=>exact⟨0,row,ab,rfl,Ha.out,by rw[List.take_zero,sb];exact vK.out,by rw[List.take_zero,sb];exact zb.out.drew⟩
         case round=>
          clear IF vK zb Ha Lv eJ hlt hq;obtain⟨j,row,hj,rfl,ha,pj,gY⟩:=hrel;have eJ:=pj.length_le;have dC:=Flat.eB gY.own;obtain⟨ra,rc,rfl,_⟩:=dC.open;have fO:=(bN.1 ha).1;by_cases hlt:j<(aR L a).length
          ·obtain⟨x,hx⟩:∃x,(aR L a)[j]? =some x:=⟨(aR L a)[j],by simp[hlt]⟩
           have hxk:=CI rF (eI hx);have uf:=hxk.2;obtain⟨g1,g2⟩:=mL.out wr gY.ag;obtain⟨xb,xo,rfl,yG⟩:=Ts g2 hx;obtain⟨eC,iz,IG,ZL⟩:=pj.step q a ha j x hx uf rfl;rw[ahG k x L fun p hp=>by have:=rF p hp;omega] at iz IG ZL
           obtain⟨c,hc⟩:∃c,gD L x-((row.take q).flatMap (aR L)++(aR L a).take j).count x=c+1:=⟨_,(Nat.succ_pred_eq_of_pos ab).symm⟩
           have dE:c<=10000:=by have:=Hwl.out x;omega
           have hw:=gY.wt.cell uf;simp only[hc] at hw;rw[show((c+1:Nat):Int)=(c:Int)+1 from ab] at hw;obtain⟨pH,jA⟩:=hw;have iV:=gY.set x c hc ab ab
           have htj:(aR L a).take (j+1)=(aR L a).take j++[x]:=by rw[DL,hx];rfl
           have yY:((wr.setCell ⟨w.heap.size+1+1+1,x,none⟩ (I c)).alloc (.cells #[I x] 3)).heap[wr.heap.size]? =some (.cells #[I x] 3 (0,0)):=by
            have:=dY (wr.setCell ⟨w.heap.size+1+1+1,x,none⟩ (I c)) (.cells #[I x] 3);simpa using this
           have LI:=gY.ag.1;have ZM:=ae iV;have yZ:=ae yY;have Hc:=ae hc;have Tw:=ae htj;have LJ:=ae IG;have Hs4:=ae ZL;have Ha:=ae ha;have EZ:=ae iz;clear iV yY hc htj eC iz IG ZL ha g1 g2 hx pj gY dC;by_cases hz:c=0
           ·have ID:((c:Int)==0)=true:=by rw[hz];rfl
            have Hz:=ae hz;clear hz
            go_wp2_with (at_builtin;go_must (refine tF rfl _ _ 22 rfl 3 _ 1 8 Tryz.underlying22 sd rfl ab ab w3.heap.size _ _ _ rfl (ZM.out.own.alloc _) wr.heap.size 1 1 #[I x] 3 rfl yZ.out rfl rfl ab ab bz ?_);intro g cap w4 fX gL jn ZK avJ lZ)
            go_roundw
            case rel=>
             have ZN:=LJ.out (by have h1:=Hc.out;have h2:=Hz.out;have h3:=EZ.out;omega);refine⟨j+1,row++[x],ab,by go_num,by rw[mj fO];exact Ha.out,?_,?_⟩
             ·rw[uF ab,Tw.out,<-List.append_assoc];exact ZN
             ·rw[uF ab,Tw.out,<-List.append_assoc];exact(ZM.out.kept ((Below.refl _ _).alloc ax _) ab).app x ab ab ZK lZ
            case measure=>simp[intOf];omega
           ·have ID:((c:Int)==0)=false:=by rw[mO];omega
            have Hz:=ae hz;clear hz;go_wp2_with fail;go_roundw
            case rel=>
             have ZN:=Hs4.out (by have h1:=Hc.out;have h2:=Hz.out;have h3:=EZ.out;omega);refine⟨j+1,row,ab,by go_num,Ha.out,?_,?_⟩
             ·rw[Tw.out,<-List.append_assoc];exact ZN
             ·rw[Tw.out,<-List.append_assoc];exact ZM.out
            case measure=>simp[intOf];omega
          ·have iW:j=(aR L a).length:=ab
           have htq:(row.take (q+1)).flatMap (aR L)=(row.take q).flatMap (aR L)++(aR L a).take j:=by
            rw[DL,ha,pw,iW,fT];simp
           rw[<-htq] at pj gY;have vK:=ae pj;have zb:=ae gY;clear pj gY iW htq ha dC;go_wp2_with fail;go_roundw
           case rel=>exact⟨q+1,row,ab,by go_num,vK.out,zb.out⟩
           case measure=>simp[intOf];omega
        ·have sP:q=row.length:=ab
         have eK:(row.take q).flatMap (aR L)=row.flatMap (aR L):=by rw[sP,fT]
         rw[eK] at pj gY
         have hrn:=pj.length fun a _ b hb=>(CI rF hb).1
         have LB:=(gY.ag.2 w.heap.size 0 ab ab).trans (HbN.out.cell 0);have zc:wr.cell? ⟨w.heap.size+1+1,0,none⟩=some (.slice (some ⟨w.heap.size+1,0,none⟩) k k):=(gY.ag.2 (w.heap.size+1+1) 0 ab ab).trans (HbT.out.cell 0);have aGq:=gY.ag.1;have EX:w.heap.size<wr.heap.size:=ab;have aGr:¬row.length<k:=ab
         have yW:=fun W=>AZ (P:=Tryz.prog) 144 148 (.slice none 0 0) 24 k Tryz.underlying144 avH rfl ab ab W
         have vK:=ae pj;have zb:=ae gY;have Hrn:=ae hrn;have Lv:=ae dC;have HdT:=ae zc;clear pj gY eK sP hrn dC hq zc;go_upto_region 38 with fail
         obtain⟨w4,rfl⟩:∃w4:World,w4=wr:=⟨_,rfl⟩
         go_cut [17] from 133 (fun v wc=>Tt w4 k v wc)
         case first=>
          go_region
          all_goals
           go_wp2_with fail;go_meet
           first|exact avE w4 k|exact avF w4 k|exact avG w4 k
         case rest=>
          clear yW;obtain⟨ga,gp,gv,rfl,a1,a2,a3,a4,a5,a6,hA,hP,hV,eM⟩:=hcut;go_wp2_with fail;refine(backward _ _ _ _).mono ?_;rintro e w6 ⟨rfl,rfl⟩;go_wp2_with fail;refine(wpIn_wide (n:=5)).1 ?_
          obtain⟨fr,avL⟩:∃fr:List (Fin k),fv fr=row:=⟨row.pmap (fun a h=>⟨a,h⟩) vK.out.lt,by simp[fv,List.map_pmap]⟩
          subst avL;have LK:=eM.size
          obtain⟨W6,IH⟩:∃W6,W6=wc.alloc (.cells #[.slice ra (fv fr).length rc] 22):=⟨_,rfl⟩
          have ZO:W6.heap.size=wc.heap.size+1:=by rw[IH];simp
          have rH:aw wc W6:=by rw[IH];exact(Below.refl _ _).alloc ax _
          have LL:aw w4 W6:=eM.trans (rH.mono LK);have ZP:aw w W6:=zb.out.be.trans (LL.mono zb.out.be.size);have hA6:=hA.kept rH hA.lt;have ZQ:=hP.kept rH hP.lt;have hV6:=hV.kept rH hV.lt
          have ahQ:W6.cell? ⟨wc.heap.size,0,none⟩=some (.slice ra (fv fr).length rc):=by rw[IH];exact(ay.new wc _ 22).cell 0
          have aGs:=hA.lt;have aGt:=hP.lt;have aGu:=hV.lt;have ahR:=Lv.out.kept LL ax;have qM:=ES zb.out.own;have ahS:Hid (∀W,iN (fun b=>b<W6.heap.size/\b≠ga) W6 W->W6.heap.size<=W.heap.size->dc (w.heap.size+1+1+1) w3 W):=ae (fun W hK hs=>⟨ab,fun b o hb hg=>((hK b o ⟨ab,ab⟩).trans (LL.cell (p:=⟨b,o,none⟩) bz)).trans (zb.out.ag.2 b o hb hg)⟩)
          have ahT:=avr (5-1) ab fr wc.heap.size _ W6 (fun b=>b<W6.heap.size/\b≠ga) ahQ ahR ab (fun b hb=>hb.1) ⟨ab,ab⟩ (fun b o m c e=>by
           rcases qM with h0|⟨g,h0,h1,h2⟩
           ·rw[e] at h0;cases h0
           ·rw[e] at h0
            have:b=g:=by simpa [Value.ownBlock] using h0
            omega)
          have cV6:=hV6.cell 0;have cP6:=ZQ.cell 1;have ahU:=ZQ.cell 0;have cN6:W6.cell? ⟨w.heap.size,0,none⟩=some (I k):=(LL.cell (p:=⟨w.heap.size,0,none⟩) bz).trans LB;have cT6:W6.cell? ⟨w.heap.size+1+1,0,none⟩=some (.slice (some ⟨w.heap.size+1,0,none⟩) k k):=(LL.cell (p:=⟨w.heap.size+1+1,0,none⟩) bz).trans HdT.out;have avM:=ae ahT;have HA6:=ae hA6;have ZR:=ae cV6;have ZT:=ae cP6;have avN:=ae ahU;have HN6:=ae cN6;have HT6:=ae cT6;have Hob:=ae qM;have avO:=ae ZP;have hw6:=ZP.size;have Hz6:=ae ZO;rw[<-IH];clear ahT hA6 ZQ hV6 ahQ ahR cV6 cP6 ahU cN6 cT6 qM LL rH ZP hA hP hV eM LB
          refine wpIn_rangeFunc_ownF rfl ab (gf:=176) (lb:=#[.pointer (some ⟨wc.heap.size,0,none⟩)]) rfl trivial (enters_of Tryz.func176 ah rfl)
           avM.out (fun h k=>iN.trans h k) (fun W l o o' hl _ _ _=>iN.putObj W l o' (fun h=>by have:=h.1;omega)) (Below.refl _ _) (fun _=>rfl)
           (fun(pre:List (Fin k×Nat)) W=>ZA k ga L w W6 (pre.map fun x=>x.1.val) W)
           (fun _ _ _=>False) (avD k ga L w W6 hw6) (fun _ _ _ _ _ hs _ _=>hs)
           ⟨_,HA6.out,vO.start _ _ _,iN.refl _ _,cP _,avO.out⟩ ?a1 ?assign ?body ?done ?stop
          case assign=>
           intro l x W K hK;dsimp only[Zt]
           gi_wp2
           exact hK
          case body=>
           rintro l pre x W ⟨arr,hb,eQ,gE,hsz,Tx⟩ _;have cV:W.cell? ⟨gv,0,none⟩=some (.pointer (some ⟨gp,0,none⟩)):=(gE gv 0 ⟨ab,ab⟩).trans ZR.out;have LM:W.cell? ⟨gp,1,none⟩=some (.slice (some ⟨ga,0,none⟩) k k):=(gE gp 1 ⟨ab,ab⟩).trans ZT.out;have cN:W.cell? ⟨w.heap.size,0,none⟩=some (I k):=(gE w.heap.size 0 ⟨ab,ab⟩).trans HN6.out;have Ty:=x.1.isLt
           have Be:IntKind.i64.wrap ((IntKind.i64.wrap ((k:Int)+63)).tdiv 64)=1:=by
            rw[IntWalk.i64_in ((k:Int)+63) ab,Ww ab,show((k:Int)+63)/64=1 by omega];rfl
           have avP:∀W,(Instr.makeSlice 148 (.int .i64 1) (.int .i64 1)).run Tryz.prog W=.ok (.slice (some ⟨W.heap.size,0,none⟩) 1 1) (W.alloc (.cells #[.int .u64 0] 222)):=fun W=>AZ (P:=Tryz.prog) 148 222 (.int .u64 0) 8 1 Tryz.underlying148 ahK rfl ab ab W
           obtain⟨vo,ZU⟩:∃vo,arr[x.1.val]? =some vo:=⟨arr[x.1.val]'(by rw[eQ.1];exact Ty),ai⟩
           have aGv:ga<W.heap.size:=ab;have cY:=hb.alloc (.cells #[.int .u64 0] 222);have cG:=(cY.cell x.1.val).trans ZU;have fG:=cY.frozen x.1.val;have hBl:aw W (W.alloc (.cells #[.int .u64 0] 222)).drew:=((Below.refl _ W).alloc ax _).drew;have ZV:=ae hBl;have Hb1:=ae cY;have Tz:=ae eQ;have TA:=ae gE;have Hvo:=ae ZU;have Hbe:=ae Tx;have Hb:=ae hb;clear hBl cY eQ gE ZU Tx hb
           gi_wp2
           refine adZ 9 [(0,true),(1,true),(2,true),(3,true),(4,true),(5,true),(6,true),(7,true),(8,false)] (fun w'=>w'.cell? ⟨gv,0,none⟩=some (.pointer (some ⟨gp,0,none⟩))/\w'.cell? ⟨gp,1,none⟩=some (.slice (some ⟨ga,0,none⟩) k k)/\w'.cell? ⟨w.heap.size,0,none⟩=some (I k)) ah rfl rfl ah ah ⟨cV,LM,cN⟩ ?_
           iterate 8 refine Ky ?_
           refine WL (fun K hK=> ?_);go_simp;refine hK.out _ _ ⟨bE ZV.out ax cV,bE ZV.out ax LM,bE ZV.out ax cN⟩ ?_;clear hK K Be avP;refine bC ?_;refine Ru ?_
           gi_wp2
           refine NoPanic.normal ?_
           obtain⟨W1,CL⟩:∃W1,W1=((W.setCell ⟨ga,x.1.val,none⟩ (.slice (some ⟨W.heap.size,0,none⟩) 1 1)).alloc (.cells #[.int .u64 0] 222)).drew:=⟨_,rfl⟩
           rw[<-CL]
           have cQ:W1.heap.size=W.heap.size+1:=by rw[CL];simp
           have ZW:iN (fun b=>b<W.heap.size/\b≠ga) W W1:=by
            rw[CL];exact((iN.refl _ W).set _ _ (fun h=>h.2 rfl)).trans (iN.below (n:=W.heap.size) (((Below.refl _ _).alloc ai _).drew) (fun b hb=>hb.1))
           have bG1:ay W1 W.heap.size #[.int .u64 0]:=by
            rw[CL];have:=(ay.new (W.setCell ⟨ga,x.1.val,none⟩ (.slice (some ⟨W.heap.size,0,none⟩) 1 1)) #[.int .u64 0] 222).drew;simpa using this
           have bA1:ay W1 ga (arr.setIfInBounds x.1.val (.slice (some ⟨W.heap.size,0,none⟩) 1 1)):=by rw[CL];exact((Hb.out.set _ _).alloc _).drew
           have ko1:KeepsOthers W W1:=by rw[CL];exact((KeepsOthers.setCell _ _ _).trans (KeepsOthers.alloc _ _)).trans (KeepsOthers.drew _)
           have be1:Below w.heap.size W W1:=by rw[CL];exact(((Below.refl _ _).setCell bz _).alloc bz _).drew
           have gK:iN (fun b=>b<W6.heap.size/\b≠ga) W6 W1:=TA.out.trans (ZW.OL fun b hb=>⟨ab,hb.2⟩);have cT1:=(gK (w.heap.size+1+1) 0 ⟨ab,ab⟩).trans HT6.out;have cV1:=(gK gv 0 ⟨ab,ab⟩).trans ZR.out;have ahV:=(gK gp 1 ⟨ab,ab⟩).trans ZT.out;obtain⟨va,IE⟩:=Tv.out.read Ty;obtain⟨g1,g2⟩:=IE W1 (ahS.out W1 gK ab);obtain⟨vb,vc,rfl,_⟩:=g2.open
           have uh:(aR L x.1.val).length<=10000:=by
            unfold aR;rw[dI];exact bm (oc _ _) ab
           have HW1:=ae CL;have ZX:=ae ZW;have oB:=ae bG1;have vR:=ae bA1;have avQ:=ae ko1;have avR:=ae be1;have Hkk:=ae gK;have HT1:=ae cT1;have HV1:=ae cV1;have ZY:=ae ahV;have mL:=ae IE;have Hz1:=ae cQ;have xp:W.heap.size<W1.heap.size:=ab;clear CL ZW bG1 bA1 ko1 be1 gK cV1 ahV IE g2 cV LM cN cG fG cQ
           gi_wp2
           gi_loopw [157] (fun jv wr=>∃j:Nat,j<=(aR L x.1.val).length/\jv=.int .i64 j/\ay wr W.heap.size #[.int .u64 ((Bb (fun b=>(xr (aR L) (pre.map fun x=>x.1.val) b).getD 0) ((aR L x.1.val).take j):Nat):Int)]/\Touch W.heap.size W1 wr) (fun jv _=>(aR L x.1.val).length-(intOf jv).toNat)
           case atStart=>exact⟨0,ab,rfl,oB.out,Touch.refl _ _⟩
           case round=>
            clear cT1 g1;obtain⟨j,hj,rfl,hG,hT⟩:=hrel;by_cases hlt:j<(aR L x.1.val).length
            ·obtain⟨y,hy⟩:∃y,(aR L x.1.val)[j]? =some y:=⟨(aR L x.1.val)[j],by simp[hlt]⟩
             have ZZ:=CI rF (eI hy);have hy1:=ZZ.1;have vM:=ZZ.2;have hTs:=hT.size;have hkw:iN (fun b=>b<W6.heap.size/\b≠ga) W6 wr:=Hkk.out.trans (fun b o hb=>hT.cell b o (by have:=hb.1;omega));obtain⟨g1,g2⟩:=mL.out wr (ahS.out wr hkw ab);obtain⟨xb,xo,rfl,yG⟩:=Ts g2 hy;have cVr:=(hT.cell gv 0 ab).trans HV1.out;have cPr:=(hT.cell gp 1 ab).trans ZY.out;have bAr:=hT.du ga _ ab vR.out;have cAa:wr.cell? ⟨ga,x.1.val,none⟩=some (.slice (some ⟨W.heap.size,0,none⟩) 1 1):=(bAr.cell _).trans (by rw[oI (by rw[Tz.out.1];exact Ty)]);obtain⟨tv,htv,TC⟩:=Tz.out.val vM;have cAy:wr.cell? ⟨ga,y,none⟩=some tv:=(bAr.cell y).trans (by rw[nz ab];exact htv)
             have gH:Bb (fun b=>(xr (aR L) (pre.map fun x=>x.1.val) b).getD 0) ((aR L x.1.val).take j)<jk:=Zy _ _ fun b hb=>by
              have oy:=(CI rF (tC hb)).2;refine⟨ab,?_⟩;obtain⟨_,_,TC⟩:=Tz.out.val oy
              rcases TC with⟨_,h⟩|⟨_,_,_,_,_,h⟩
              ·rw[h];show 0<2^64;omega
              ·exact h
             have LG:=Zx (fun b=>(xr (aR L) (pre.map fun x=>x.1.val) b).getD 0) ((aR L x.1.val).take j) y;rw[show(aR L x.1.val).take j++[y]=(aR L x.1.val).take (j+1) by rw[DL,hy];rfl] at LG;have Hfs:=ae LG;have HG:=ae hG;have HT:=ae hT;have Hor:=ae TC;have Hml:=ae gH;have HcV:=ae cVr;have HcP:=ae cPr;have HcA:=ae cAa;have HcY:=ae cAy;have hnG:ga≠W.heap.size:=ab;have hnV:gv≠W.heap.size:=ab;have hnP:gp≠W.heap.size:=ab;clear LG hG hT TC gH ZZ hy hkw g1 g2 bAr htv hTs
             gi_wp2
             refine⟨trivial,?_⟩;refine(CallsIn.inRound l (GC.2 (avA W.heap.size _ y wr HG.out Hml.out ab))).mono ?_;rintro e w2 ⟨rfl,OS,fY⟩;clear cVr cPr cAa cAy yG;have cV2:=(fY.cell gv 0 hnV).trans HcV.out;have cP2:=(fY.cell gp 1 hnP).trans HcP.out;have cA2:=(fY.cell ga x.1.val hnG).trans HcA.out;have cY2:=(fY.cell ga y hnG).trans HcY.out;have IF:=ae OS;have OV:=ae fY;clear OS fY
             gi_wp2
             refine adZ 14 [(0,true),(1,true),(2,true),(3,true),(4,true),(5,true),(6,true),(7,true),(8,true),(9,true),(10,true),(11,true),(12,true),(13,true)] (fun w'=>w'.cell? ⟨gv,0,none⟩=some (.pointer (some ⟨gp,0,none⟩))/\w'.cell? ⟨gp,1,none⟩=some (.slice (some ⟨ga,0,none⟩) k k)/\w'.cell? ⟨ga,x.1.val,none⟩=some (.slice (some ⟨W.heap.size,0,none⟩) 1 1)/\w'.cell? ⟨ga,y,none⟩=some tv) ah rfl rfl ah ah ⟨cV2,cP2,cA2,cY2⟩ ?_
             iterate 14 refine Ky ?_
             refine Ru ?_
             gi_wp2
             have hTT:=(HT.out.trans OV.out).drew
             have hjt:(tv=.slice none 0 0/\(xr (aR L) (pre.map fun x=>x.1.val) y).getD 0=0)\/∃gi,tv=.slice (some ⟨gi,0,none⟩) 1 1/\w2.drew.cell? ⟨gi,0,none⟩=some (.int .u64 (((xr (aR L) (pre.map fun x=>x.1.val) y).getD 0:Nat):Int))/\(xr (aR L) (pre.map fun x=>x.1.val) y).getD 0<jk:=by
              rcases Hor.out with h|⟨gi,h1,h2,h3,h4,h5⟩
              ·exact .inl h
              ·exact .inr ⟨gi,h1,((hTT.cell gi 0 ab).trans (ZX.out gi 0 ⟨h3,ab⟩)).trans h4,h5⟩
             refine⟨trivial,?_⟩;refine(CallsIn.inRound l (GC.2 (avB W.heap.size _ _ tv _ IF.out.drew (Nl Hml.out (Tm y ab)) hjt))).mono ?_;rintro e w5 ⟨rfl,hG3,sR⟩;have LN:=ae hG3;have LO:=ae (hTT.trans sR);clear hG3 sR hTT hjt
             gi_wp2
             refine NoPanic.normal ?_
             gi_wp2
             go_roundw
             case rel=>exact⟨j+1,ab,by go_num,by rw[Hfs.out];exact LN.out,LO.out⟩
             case measure=>simp[intOf];omega
            ·have iW:j=(aR L x.1.val).length:=ab;have hTs:=hT.size;have hG0:=hG.cell 0;rw[iW,fT] at hG0;have HG0:=ae hG0;have hst:=Tz.out.step (W':=wr) x.1.val Ty (fun b hb=>(CI rF hb).2) hn hsz ab (fun b v h1 h2 h3=>((hT.cell b 0 ab).trans (ZX.out b 0 ⟨h2,ab⟩)).trans h3) (by simpa using HG0.out);rw[<-ahI] at hst
             have cq:ZA k ga L w W6 ((pre++[x]).map fun x=>x.1.val) wr:=by
              rw[dm];exact⟨_,hT.du ga _ ab vR.out,hst,Hkk.out.trans (fun b o hb=>hT.cell b o (by have:=hb.1;omega)),ab,Hbe.out.trans (avR.out.trans (hT.below _ ab))⟩
             have OW:=ae cq;have HT:=ae hT;clear hG0 hst cq iW hG hT
             gi_wp2
             exact⟨avQ.out.trans HT.out.others,(ZX.out.OL fun b hb=>⟨by have:=hb.1;omega,hb.2⟩).trans (fun b o hb=>HT.out.cell b o (by have:=hb.1;omega)),OW.out⟩
          case done=>
           rintro D ys W hD rfl ⟨arr,hb,eQ,gE,hsz,Tx⟩ hK;have cV:W.cell? ⟨gv,0,none⟩=some (.pointer (some ⟨gp,0,none⟩)):=(gE gv 0 ⟨ab,ab⟩).trans ZR.out;have cP0:W.cell? ⟨gp,0,none⟩=some (I k):=(gE gp 0 ⟨ab,ab⟩).trans avN.out;have LM:W.cell? ⟨gp,1,none⟩=some (.slice (some ⟨ga,0,none⟩) k k):=(gE gp 1 ⟨ab,ab⟩).trans ZT.out
           have ahW:=avu (aR L) k hn f (fun a _ b hb=>(CI rF hb).2) Hf.out (fv fr).reverse (List.pairwise_reverse.2 (vK.out.nodup.imp Ne.symm)) (fun a ha=>vK.out.lt a (List.mem_reverse.1 ha))
            (avx vK.out (vK.out.full fun a _ b hb=>(CI rF hb).1) (fun a _ b hb=>(CI rF hb).2))
           have Ai:=vK.out.full fun a _ b hb=>(CI rF hb).1
           have xd:(vN fr 0).map (fun x=>x.1.val)=(fv fr).reverse:=by
            have:=aF (List.map Fin.val) (avq fr);rw[List.map_map] at this;rw[fv,<-List.map_reverse,<-this];rfl
           rw[xd] at eQ;have IC:=belowK_b (w:=w) ax W D _ (.deferred none) ab hK rfl rfl;have II:=avz hn (hb.putObj (.deferred none) hK rfl) (Zz cP0 _ hK rfl) (Zz LM _ hK rfl) (eQ.kept (W':=W.putObj D (.deferred none)) ai (fun b v _ _ hc=>Zz hc _ hK rfl)) (fun i hi=>ahW i (List.mem_reverse.2 (Ai i hi)));have avS:=ae II;have HW2:=ae (Tx.trans IC);clear ahW Ai xd eQ II IC cP0 LM hb gE;go_wp2_with fail;refine⟨ai,.inl ⟨_,_,rfl,run_takeDeferred hK,?_⟩⟩;exact⟨_,results_tmp2 rfl _ _ _,_,rfl,avS.out,HW2.out⟩
          case stop=>
           rintro D c pre W hD _ hf _;exact hf.elim
end
end Go.Proofs.YtkanpepkdcmpmaaGreatDoor
