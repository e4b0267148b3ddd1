import Derived.Test.YtkanpepkdcmpmaaGreatDoorY8
import Derived.BigRegion
import Derived.Lib.SliceRun
import Derived.Deep.RegionWith
import Derived.Test.YtkanpepkdcmpmaaGreatDoorY7
import Derived.RangeFuncNested
import Derived.RangeFuncBound
import Derived.RangeFuncCalls
import Derived.RangeFuncLeaves
import Derived.Shelf.Abstract
import Derived.Shelf.RegionOpen
import Derived.OwnWalkIn
import Derived.TacticsInMore
import Derived.LoopNIn
import Derived.LoopIn
import Derived.Deep.RegionLaw
import Derived.Deep.CutRange
set_option maxHeartbeats 40000000
set_option maxRecDepth 100000
set_option linter.all false
namespace Go.Proofs.YtkanpepkdcmpmaaGreatDoor
section
open Go.RowKit
def qq (run:List ay)(i k:Nat):Bool:=match run[i]?,run[k]? with |some a,some b=>dw a b|_,_=>false
def oV (run:List ay)(i k:Nat):List (Nat×Nat):=((List.range' (i+1) (k-(i+1))).filter fun j=>qq run i j).map fun j=>(i,j)
def xz (run:List ay)(i:Nat):List (Nat×Nat):=(List.range i).flatMap fun j=>oV run j run.length
def nF (run:List ay):List (Nat×Nat):=xz run run.length
theorem auU (run:List ay)(i:Nat):oV run i (i+1)=[]:=by simp[oV]
theorem auV (run:List ay)(i k:Nat)(h:i+1<=k):oV run i (k+1)=oV run i k++(if qq run i k then [(i,k)] else []):=by
 unfold oV;rw[show k+1-(i+1)=(k-(i+1))+1 by omega,List.range'_concat,qk,de];have:i+1+1*(k-(i+1))=k:=ab;rw[this];by_cases hd:qq run i k<;>simp[hd]
theorem Zf (run:List ay)(i:Nat):xz run (i+1)=xz run i++oV run i run.length:=by
 unfold xz;rw[lV,oY];simp
theorem auW (run:List ay)(i k:Nat)(h1:i+1<=k)(h2:k<=run.length):oV run i k<+:oV run i run.length:=by
 unfold oV;refine List.IsPrefix.map _ (List.IsPrefix.filter _ ?_)
 obtain⟨d,rfl⟩:∃d,k=i+1+d:=⟨k-(i+1),ab⟩
 obtain⟨e,he⟩:∃e,run.length=i+1+d+e:=⟨run.length-(i+1+d),ab⟩
 refine⟨List.range' (i+1+d) e,?_⟩;rw[he,show i+1+d-(i+1)=d by omega,show i+1+d+e-(i+1)=d+e by omega,List.range'_append_1]
theorem auX (run:List ay)(i:Nat)(h:i<=run.length):xz run i<+:nF run:=by
 obtain⟨d,hd⟩:∃d,run.length=i+d:=⟨run.length-i,ab⟩
 unfold nF;rw[hd];clear h hd
 induction d with
 |zero=>exact List.prefix_rfl
 |succ d ih=>exact ih.trans (by rw[show i+(d+1)=(i+d)+1 by omega,Zf];exact wJ _ _)
theorem auY (run:List ay)(i k:Nat)(hi:i<run.length)(h1:i+1<=k)(h2:k<=run.length):xz run i++oV run i k<+:nF run:=by
 refine List.IsPrefix.trans ?_ (auX run (i+1) ab);rw[Zf];exact(List.prefix_append_right_inj _).2 (auW run i k h1 h2)
def Zg (x:Nat×Nat):Array Value:=#[.agg #[I x.1,I x.2]]
theorem Oy {run:List ay}{i k:Nat}(hi:i<run.length)(hk:k<run.length):qq run i k=dw run[i] run[k]:=by simp[qq,hi,hk]
theorem ahs:(Tryz.prog.info? 84).map (fun i=>(i.zero,i.size,i.bytes))=some (some (.agg #[.int .i64 0,.int .i64 0]),2,16):=ah
def pc (x:Nat×Nat):List Value:=[I x.1,I x.2]
end
section
open Go.RowKit
def Cx (run:List ay):Nat->Nat->Nat->Bool
 |0,_,_=>false
 |d+1,i,k=>(List.range run.length).any fun j=>decide (i<j) && qq run i j && (j==k||Cx run d j k)
def dc (run:List ay)(i k:Nat):Bool:=Cx run run.length i k
theorem Zh (run:List ay)(d i k:Nat)(h:run.length<=i+1):Cx run d i k=false:=by
 cases d with
 |zero=>rfl
 |succ d=>
  rw[Cx,List.any_eq_false];intro j hj;have:=gy.1 hj;simp;intro h1;omega
theorem aht (run:List ay):∀(m d d' i k:Nat),run.length<=i+1+m->m<=d->m<=d'->Cx run d i k=Cx run d' i k
 |0,d,d',i,k,h,_,_=>by rw[Zh _ _ _ _ ab,Zh _ _ _ _ ab]
 |m+1,d,d',i,k,h,h1,h2=>by
  obtain⟨d,rfl⟩:∃e,d=e+1:=⟨d-1,ab⟩
  obtain⟨d',rfl⟩:∃e,d'=e+1:=⟨d'-1,ab⟩
  rw[Cx,Cx];congr 1;funext j;by_cases hj:i<j
  ·rw[aht run m d d' j k ab ab ab]
  ·simp[hj]
theorem Oz (run:List ay)(i k:Nat):dc run i k=(List.range run.length).any fun j=>decide (i<j) && qq run i j && (j==k||dc run j k):=by
 unfold dc;rw[aht run run.length run.length (run.length+1) i k ab ab ab,Cx]
theorem Il (run:List ay):∀(m i k:Nat),run.length<=i+m->dc run i k=true->i<k/\k<run.length
 |0,i,k,h,hl=>by
  unfold dc at hl;rw[Zh _ _ _ _ ab] at hl;cases hl
 |m+1,i,k,h,hl=>by
  rw[Oz,yk] at hl;obtain⟨j,hj,hc⟩:=hl;have xc:=gy.1 hj;simp only[bV,dh,uJ,DJ] at hc;obtain⟨⟨h1,_⟩,h3⟩:=hc
  rcases h3 with rfl|h3
  ·exact⟨h1,xc⟩
  ·have:=Il run m j k ab h3;exact⟨ab,this.2⟩
theorem Zi (run:List ay)(i k:Nat)(h:k<=i):dc run i k=false:=by
 rw[Gd];intro hl;have:=Il run run.length i k ab hl;omega
def eB (n:Nat)(z:Value):Array Value:=(List.replicate n z).toArray
theorem AH (n:Nat)(z:Value):(eB n z).size=n:=by simp[eB]
theorem Cy (n:Nat)(z:Value)(j:Nat)(h:j<n):(eB n z)[j]? =some z:=by simp[eB,h]
theorem AJ {P:Program}(t e:TypeId)(z:Value)(bytes n:Nat)(ht:P.underlying t=some (.slice e))(lX:(P.info? e).map (fun i=>(i.zero,i.size,i.bytes))=some (some z,1,bytes))(hz:z.cells=#[z])(ks:bytes<=1000)(hn:n<=1000000)(w:World):
  (Instr.makeSlice t (.int .i64 (n:Int)) (.int .i64 (n:Int))).run P w=.ok (.slice (some ⟨w.heap.size,0,none⟩) n n) (w.alloc (.cells (eB n z) e)):=by
 obtain⟨i0,hi,eZ,cL,fj⟩:=wL lX;have hb:bytes*n<=1000*1000000:=nR ks hn
 have hr:=run_make (P:=P) w t e i0 z ht hi eZ .i64 .i64 n n ab (Int.le_refl _) (by
  rw[fj];have h3:((bytes*n:Nat):Int)<=1000000000:=ab;rw[Int.natCast_mul] at h3
  omega) ab
 simp only[fJ] at hr;rw[hr,hz,cL]
 have:madeCells #[z] (n*1)=eB n z:=by
  rw[<-Array.toList_inj,Nat.mul_one,toList_madeCells_one];rfl
 rw[this]
theorem ahu:(Tryz.prog.info? 4).map (fun i=>(i.zero,i.size,i.bytes))=some (some (.bool false),1,1):=ah
end
section
open Go.RowKit
theorem Zj {P:Program}{w:World}{ops:Array Oper}{rest:List Oper}{o:Oper}{a:Act}{Q:Exit->Act->World->Prop}(dp:o.guard=none)(s x:Operand)(t:TypeId)
  (ho:o.op=.call { callee:=.builtin .append,args:=#[s,x],argTypes:=#[t,t] })
  (e:TypeId) (z:Value) (k bytes:Nat) (ht:P.underlying t=some (.slice e)) (lX:(P.info? e).map (fun i=>(i.zero,i.size,i.bytes))=some (some z,k,bytes)) (nS:z.cells.size=k) (hk:0<k) (ks:bytes<=1000)
  (B:Nat) (v:Value) (n:Nat) (xs:List Value) (hs:a.eval s=v) (aS:w.ownsRow B e k v n xs)
  (ad:Addr) (m c:Nat) (news:List Value) (hx:a.eval x=.slice (some ad) m c) (cM:Flat w k (.slice (some ad) m c) m news) (h1:∀u∈news,u.oneCell'=true)
  (jl:n+m<=100000000) (lz:B<=w.heap.size)
  (h:∀u w',w'.ownsRow B e k u (n+m) (xs++news)->w.grownBy w' v.ownBlock->Below B w w'->wpList P ops Q rest (a.put o.dst u) w'):wpList P ops Q (o::rest) a w:=by
 obtain⟨i0,hi,eZ,cL,fj⟩:=wL lX
 refine wpList_append_own_at w dp s x t ho B e i0 z k bytes ht hi eZ cL fj nS hk v n xs hs aS ad m c news hx cM.1 (fun j u hu=> ?_) h1 (by unfold maxLen;omega)
  (bj (nR jl ks) ab) lz ?_
 ·obtain⟨b,of,e1,Gn⟩:=cM.cells (by have:=(bK.1 hu).1;omega);simp at e1;subst e1
  have lv:(⟨b,of,none⟩:Addr).add j=⟨b,of+j,none⟩:=by unfold Addr.add;split<;>simp_all
  rw[lv];exact Gn j u hu
 ·intro u w' h2 h3 _ _;exact h u w' h2 h3 ((Below.refl B w).grown h3 lz (fun k' tA=>(aS.lt k' tA).1))
theorem ahv (l:List Int):∀u∈iv l,u.oneCell'=true:=by
 intro u hu;obtain⟨x,_,rfl⟩:=dm.1 hu;rfl
theorem auZ (l:List Ask):∀u∈l.flatMap Ask.cells,u.oneCell'=true:=by
 intro u hu;obtain⟨x,_,h⟩:=BH.1 hu;exact ahv _ u h
theorem ava (l:List bQ):∀u∈l.flatMap bQ.cells,u.oneCell'=true:=by
 intro u hu;obtain⟨x,_,h⟩:=BH.1 hu;exact ahv _ u h
theorem row_one (s:ay)(va vs:Value)(ha:va.oneCell'=true)(hs:vs.oneCell'=true):∀u∈s.row va vs,u.oneCell'=true:=by
 intro u hu;simp only[ay.row,cz,jD,kL] at hu
 rcases hu with rfl|rfl|rfl|rfl|rfl|rfl|rfl|rfl|rfl|rfl|rfl<;>first|rfl|assumption
theorem ahw {w:World}:∀{l:List ay} {xs:List Value},kr w l xs->∀u∈xs,u.oneCell'=true
 |[],_,h=>by
  have:_=[]:=h;subst this;simp
 |s::l,xs,⟨va,vs,ys,hx,h1,h2,h3⟩=>by
  intro u hu;rw[hx] at hu;obtain⟨_,_,rfl,_⟩:=h1.open;obtain⟨_,_,rfl,_⟩:=h2.open
  rcases fL.1 hu with h|h
  ·exact row_one s _ _ rfl rfl u h
  ·exact ahw h3 u h
theorem Zk {w:World}{k n c m:Nat}{xs:List Value}(h:Flat w k (.slice none m c) n xs):xs=[]:=by
 cases xs with
 |nil=>rfl
 |cons x xs=>
  obtain⟨b,o,e,_⟩:=h.cells ai;cases e
theorem avb (l:List Ask)(v:Value)(w:World)(h:jG w v l)(hn:l.length<=1000000):
  Calls Tryz.prog 88 #[v] w fun e w'=>∃u,e=.returned u/\w'.ownsRow w.heap.size 78 7 u l.length (l.flatMap Ask.cells)/\aw w w':=by
 obtain⟨ka,ca,rfl,gz⟩:=h.open
 have qT:∀(w:World) (a:Option Addr) (n c n' c':Nat),(binOp .eql 42 (.slice a n c) (.slice none n' c')).run Tryz.prog w=.ok (.bool a.isNone) w:=fun w a n c n' c'=>Lib.run_eql_slice_nil w _ _ a n c n' c' Tryz.underlying42
 go_enter Tryz.func88,Tryz.ntmps88
 cases ka with
 |none=>
  have e:=Zk h
  have e0:l.length=0:=by have:=h.1;rw[e] at this;simp at this;omega
  go_wp2_with fail;go_ret;exact⟨_,rfl,by rw[e0,e];exact ko _ _ _ _,Below.refl _ _⟩
 |some ad=>
  go_wp2_with (at_builtin;refine Zj rfl _ _ 42 rfl 78 _ 7 56 Tryz.underlying42 aoQ rfl ab ab w.heap.size _ 0 [] rfl (Kj (n:=0) (cs:=#[]) (dV _ _) ai rfl ab) ad l.length ca _ rfl (Flat.kept (B:=w.heap.size) h bF ax) (auZ l) ab ai ?_;intro u w1 aS tZ aC)
  go_ret;exact⟨_,rfl,by simpa using aS,Below.trans (b:=w.alloc (.cells #[] 78)) bF aC⟩
theorem avc (l:List bQ)(v:Value)(w:World)(h:lx w v l)(hn:l.length<=1000000):
  Calls Tryz.prog 89 #[v] w fun e w'=>∃u,e=.returned u/\w'.ownsRow w.heap.size 39 5 u l.length (l.flatMap bQ.cells)/\aw w w':=by
 obtain⟨ka,ca,rfl,gz⟩:=h.open
 have qT:∀(w:World) (a:Option Addr) (n c n' c':Nat),(binOp .eql 43 (.slice a n c) (.slice none n' c')).run Tryz.prog w=.ok (.bool a.isNone) w:=fun w a n c n' c'=>Lib.run_eql_slice_nil w _ _ a n c n' c' Tryz.underlying43
 go_enter Tryz.func89,Tryz.ntmps89
 cases ka with
 |none=>
  have e:=Zk h
  have e0:l.length=0:=by have:=h.1;rw[e] at this;simp at this;omega
  go_wp2_with fail;go_ret;exact⟨_,rfl,by rw[e0,e];exact ko _ _ _ _,Below.refl _ _⟩
 |some ad=>
  go_wp2_with (at_builtin;refine Zj rfl _ _ 43 rfl 39 _ 5 40 Tryz.underlying43 aoP rfl ab ab w.heap.size _ 0 [] rfl (Kj (n:=0) (cs:=#[]) (dV _ _) ai rfl ab) ad l.length ca _ rfl (Flat.kept (B:=w.heap.size) h bF ax) (ava l) ab ai ?_;intro u w1 aS tZ aC)
  go_ret;exact⟨_,rfl,by simpa using aS,Below.trans (b:=w.alloc (.cells #[] 39)) bF aC⟩
theorem avd (l:List ay)(v:Value)(w:World)(h:fw w v l)(hn:l.length<=1000000):
  Calls Tryz.prog 87 #[v] w fun e w'=>∃u xs,e=.returned u/\kr w l xs/\w'.ownsRow w.heap.size 45 11 u l.length xs/\aw w w':=by
 obtain⟨ka,ca,rfl,gz⟩:=h.open;obtain⟨xs,hcs,cM⟩:=h
 have qT:∀(w:World) (a:Option Addr) (n c n' c':Nat),(binOp .eql 23 (.slice a n c) (.slice none n' c')).run Tryz.prog w=.ok (.bool a.isNone) w:=fun w a n c n' c'=>Lib.run_eql_slice_nil w _ _ a n c n' c' Tryz.underlying23
 go_enter Tryz.func87,Tryz.ntmps87
 cases ka with
 |none=>
  have e:=Zk cM
  have e0:l.length=0:=by have:=cM.1;rw[e] at this;simp at this;omega
  go_wp2_with fail;go_ret;exact⟨_,xs,rfl,hcs,by rw[e0,e];exact ko _ _ _ _,Below.refl _ _⟩
 |some ad=>
  go_wp2_with (at_builtin;refine Zj rfl _ _ 23 rfl 45 _ 11 120 Tryz.underlying23 Rc rfl ab ab w.heap.size _ 0 [] rfl (Kj (n:=0) (cs:=#[]) (dV _ _) ai rfl ab) ad l.length ca _ rfl (Flat.kept (B:=w.heap.size) cM bF ax) (ahw hcs) ab ai ?_;intro u w1 aS tZ aC)
  go_ret;exact⟨_,xs,rfl,hcs,by simpa using aS,Below.trans (b:=w.alloc (.cells #[] 45)) bF aC⟩
end
section
open Go.RowKit
variable {A B W w w':World} {B' B0 k:Nat} {P:Nat->Prop} {e:TypeId} {l:List ay} {v:Value} {xs:List Value}
def Same (P:Nat->Prop)(A B:World):Prop:=A.heap.size<=B.heap.size/\∀b,P b->B.heap[b]? =A.heap[b]?
theorem Same.refl(P:Nat->Prop)(A:World):Same P A A:=⟨cK _,fun _ _=>rfl⟩
theorem Same.trans{C:World}(h:Same P A B)(k:Same P B C):Same P A C:=⟨bj h.1 k.1,fun b hb=>(k.2 b hb).trans (h.2 b hb)⟩
theorem Same.below{n:Nat}(h:Below n A B)(hp:∀b,P b->b<n):Same P A B:=⟨h.size,fun b hb=>h.block b (hp b hb)⟩
theorem Same.grown{row:Option Nat}(h:A.grownBy B row)(hp:∀b,P b->b<A.heap.size/\some b≠row):Same P A B:=⟨h.size,fun b hb=>h.block b (hp b hb).1 (hp b hb).2⟩
theorem Same.set(h:Same P A B)(a:Addr)(v:Value)(ha:¬P a.block):Same P A (B.setCell a v):=
 ⟨by simpa using h.1,fun b hb=>(uI B a b v (fun e=>ha (e▸hb))).trans (h.2 b hb)⟩
theorem Same.alloc(h:Same P A B)(o:Obj)(hp:∀b,P b->b<A.heap.size):Same P A (B.alloc o):=
 h.trans (Same.below ((Below.refl B.heap.size B).alloc ax o) fun b hb=>jj (hp b hb) h.1)
theorem Same.drew(h:Same P A B):Same P A B.drew:=h
theorem Same.own(h:Same P A B){n:Nat}(ho:A.ownsRow B0 e k v n xs)(hv:∀g,v.ownBlock=some g->P g):B.ownsRow B0 e k v n xs:=by
 refine⟨ho.1,?_⟩
 rcases ho.2 with h0|⟨g,cap,cur,rfl,h1,h2,h3⟩
 ·exact .inl h0
 ·exact .inr ⟨g,cap,cur,rfl,h1,(h.2 g (hv g rfl)).trans h2,h3⟩
theorem Same.cell(h:Same P A B){b:Nat}(o:Nat)(hb:P b):B.cell? ⟨b,o,none⟩=A.cell? ⟨b,o,none⟩:=FY (h.2 b hb)
def ri (P:Nat->Prop)(v:Value):Prop:=∀b o n c,v=.slice (some ⟨b,o,none⟩) n c->P b
theorem Flat.Zl{n:Nat}(h:Flat A k v n xs)(hv:ri P v)(hs:Same P A B):Flat B k v n xs:=by
 obtain⟨hl,hm,a,c,rfl,hr⟩:=h;refine⟨hl,hm,a,c,rfl,fun j u hu=> ?_⟩;obtain⟨b,o,ha,hc⟩:=hr j u hu;subst ha;exact⟨b,o,rfl,(hs.cell _ (hv b o n c rfl)).trans hc⟩
def nG (P:Nat->Prop)(w:World):List ay->List Value->Prop
 |[],xs=>xs=[]
 |s::l,xs=>∃va vs ys,xs=s.row va vs++ys/\(jG w va s.asks/\ri P va)/\(lx w vs s.sent/\ri P vs)/\nG P w l ys
theorem nG.kept(hs:Same P w w'):∀{l:List ay} {xs:List Value},nG P w l xs->nG P w' l xs
 |[],_,h=>h
 |_::_,_,⟨va,vs,ys,hx,h1,h2,h3⟩=>⟨va,vs,ys,hx,⟨Flat.Zl h1.1 h1.2 hs,h1.2⟩,⟨Flat.Zl h2.1 h2.2 hs,h2.2⟩,h3.kept hs⟩
theorem nG.cells:∀{l:List ay} {xs:List Value},nG P w l xs->kr w l xs
 |[],_,h=>h
 |_::_,_,⟨va,vs,ys,hx,h1,h2,h3⟩=>⟨va,vs,ys,hx,h1.1,h2.1,h3.cells⟩
theorem nG.snoc{s:ay}{va vs:Value}(h1:jG w va s.asks/\ri P va)(h2:lx w vs s.sent/\ri P vs):∀{l:List ay} {xs:List Value},nG P w l xs->nG P w (l++[s]) (xs++s.row va vs)
 |[],xs,h=>by
  have:xs=[]:=h;subst this;exact⟨va,vs,[],ai,h1,h2,rfl⟩
 |_::_,_,⟨fV,Gm,ys,hx,g1,g2,g3⟩=>⟨fV,Gm,ys++s.row va vs,by rw[hx,List.append_assoc],g1,g2,g3.snoc h1 h2⟩
theorem nG.at {P:Nat->Prop}{w:World}:∀{l:List ay} {xs:List Value} {i:Nat} {s:ay},nG P w l xs->l[i]? =some s->
  ∃va vs,(jG w va s.asks/\ri P va)/\(lx w vs s.sent/\ri P vs)/\∀j u,(s.row va vs)[j]? =some u->xs[i*11+j]? =some u
 |[],_,_,_,_,h=>by simp at h
 |t::l,xs,0,s,⟨va,vs,zs,hx,h1,h2,h3⟩,h=>by
  simp at h;subst h;refine⟨va,vs,h1,h2,fun j u hu=> ?_⟩;have hj:=(bK.1 hu).1;rw[hx,Nat.zero_mul,fu,lT hj];exact hu
 |t::l,xs,i+1,s,⟨va,vs,zs,hx,h1,h2,h3⟩,h=>by
  have h':l[i]? =some s:=by simpa using h
  obtain⟨fV,Gm,g1,g2,g3⟩:=h3.at h';refine⟨fV,Gm,g1,g2,fun j u hu=> ?_⟩;have:=g3 j u hu;have e:(i+1)*11+j=11+(i*11+j):=ab;have hl:(t.row va vs).length=11:=rfl;rw[hx,e,iR ab,hl,QX];exact this
def nH (B:Nat)(w:World)(v:Value)(l:List ay):Prop:=∃xs,nG (fun b=>B<=b) w l xs/\Flat w 11 v l.length xs/\ri (fun b=>B<=b) v
theorem nH.sl{B:Nat}(h:nH B w v l):fw w v l:=by
 obtain⟨xs,h1,h2,_⟩:=h;exact⟨xs,h1.cells,h2⟩
theorem nH.ave{B:Nat}(h:nH B w v l)(hs:Same (fun b=>B<=b/\b<w.heap.size) w w'):nH B w' v l:=by
 obtain⟨xs,h1,h2,h3⟩:=h
 have key:∀{k:Nat} {u:Value} {n:Nat} {ys:List Value},Flat w k u n ys->ri (fun b=>B<=b) u->Flat w' k u n ys:=fun {k u n ys} hf hp=>by
  obtain⟨hl,hm,a,c,rfl,hr⟩:=hf;refine⟨hl,hm,a,c,rfl,fun j x hx=> ?_⟩;obtain⟨b,o,ha,hc⟩:=hr j x hx;subst ha;have:=iT _ _ hc;exact⟨b,o,rfl,(hs.cell _ ⟨hp b o n c rfl,by simpa using this⟩).trans hc⟩
 refine⟨xs,?_,key h2 h3,h3⟩;clear h2 h3;revert xs
 induction l with
 |nil=>intro xs h1;exact h1
 |cons s l ih=>
  rintro xs ⟨va,vs,ys,hx,g1,g2,g3⟩;exact⟨va,vs,ys,hx,⟨key g1.1 g1.2,g1.2⟩,⟨key g2.1 g2.2,g2.2⟩,ih ys g3⟩
theorem nH.kept{B:Nat}(h:nH B w v l)(hb:aw w w'):nH B w' v l:=h.ave (Same.below hb fun _ hb=>hb.2)
theorem nH.open{B:Nat}(h:nH B w v l):∃a c,v=.slice a l.length c/\l.length<=9223372036854775807:=h.sl.open
theorem nH.at {B:Nat}{w:World}{a:Option Addr}{n c:Nat}{l:List ay}(h:nH B w (.slice a n c) l){i:Nat}{s:ay}(hi:l[i]? =some s):
  ∃b o va vs,a=some ⟨b,o,none⟩/\(jG w va s.asks/\ri (fun b=>B<=b) va)/\(lx w vs s.sent/\ri (fun b=>B<=b) vs)/\
   w.cell? ⟨b,o+i*11,none⟩=some (I s.ev.kind)/\w.cell? ⟨b,o+i*11+1,none⟩=some (I s.ev.node)/\w.cell? ⟨b,o+i*11+2,none⟩=some (I s.ev.arg)/\
   w.cell? ⟨b,o+i*11+3,none⟩=some (I s.ev.msg.node)/\w.cell? ⟨b,o+i*11+4,none⟩=some (I s.ev.msg.handler)/\w.cell? ⟨b,o+i*11+5,none⟩=some (I s.ev.msg.count)/\
   w.cell? ⟨b,o+i*11+6,none⟩=some (I s.ev.msg.index)/\w.cell? ⟨b,o+i*11+7,none⟩=some (I s.ev.msg.copy)/\w.cell? ⟨b,o+i*11+8,none⟩=some va/\
   w.cell? ⟨b,o+i*11+9,none⟩=some (.bool s.aJ)/\w.cell? ⟨b,o+i*11+10,none⟩=some vs:=by
 obtain⟨xs,h1,h2,_⟩:=h;obtain⟨va,vs,g1,g2,g3⟩:=h1.at hi;have hlt:=(bK.1 hi).1;obtain⟨b,o,ha,hc⟩:=h2.cells (by rw[h1.cells.length];omega)
 have key:∀j u,(s.row va vs)[j]? =some u->w.cell? ⟨b,o+i*11+j,none⟩=some u:=fun j u hu=>by
  have:=hc _ u (g3 j u hu);rwa[<-Nat.add_assoc] at this
 exact⟨b,o,va,vs,ha,g1,g2,key 0 _ rfl,key 1 _ rfl,key 2 _ rfl,key 3 _ rfl,key 4 _ rfl,key 5 _ rfl,key 6 _ rfl,key 7 _ rfl,key 8 _ rfl,key 9 _ rfl,key 10 _ rfl⟩
theorem nH.nil(B:Nat)(w:World)(c:Nat):nH B w (.slice none 0 c) []:=⟨[],rfl,Flat.nil _ _ _ _,fun b o n c e=>by simp at e⟩
theorem nG.below{B:Nat}(hb:Below B w w')(hB:w.heap.size<=B):∀{l:List ay} {xs:List Value},nG P w l xs->nG P w' l xs
 |[],_,h=>h
 |_::_,_,⟨va,vs,ys,hx,h1,h2,h3⟩=>⟨va,vs,ys,hx,⟨h1.1.kept hb hB,h1.2⟩,⟨h2.1.kept hb hB,h2.2⟩,h3.below hb hB⟩
theorem Te{B:Nat}{n:Nat}(h:W.ownsRow B e k v n xs)(hB:B'<=B):ri (fun b=>B'<=b) v:=fun b o n c e=>by
 subst e;exact bj hB (h.lt b rfl).1
theorem nH.eu{B:Nat}{n:Nat}(h:w.ownsRow B e 11 v n xs)(hn:n=l.length)(hc:nG (fun b=>B'<=b) W l xs)(hb:Below B0 W w)(hB:W.heap.size<=B0)(tY:B'<=B):nH B' w v l:=by
 subst hn;exact⟨xs,hc.below hb hB,Flat.eu h,Te h tY⟩
end
section
open Go.RowKit
variable {B g k:Nat} {e:TypeId} {l:List ay} {ua us v:Value} {w w':World} {xs:List Value}
def cZ (g:Nat)(w w':World):Prop:=w.heap.size<=w'.heap.size/\∀b o,b<w.heap.size->b≠g->w'.cell? ⟨b,o,none⟩=w.cell? ⟨b,o,none⟩
theorem cZ.refl(g:Nat)(w:World):cZ g w w:=⟨cK _,fun _ _ _ _=>rfl⟩
theorem cZ.trans{a b c:World}(h:cZ g a b)(k:cZ g b c):cZ g a c:=
 ⟨bj h.1 k.1,fun x o hx hg=>(k.2 x o (jj hx h.1) hg).trans (h.2 x o hx hg)⟩
theorem cZ.below(h:Below B w w')(hB:w.heap.size<=B):cZ g w w':=⟨h.size,fun b o hb _=>h.cell (p:=⟨b,o,none⟩) (jj hb hB)⟩
theorem cZ.set(g:Nat)(w:World)(o:Nat)(v:Value):cZ g w (w.setCell ⟨g,o,none⟩ v):=
 ⟨ai,fun b o' _ hg=>QV _ _ _ _ (by intro h;simp at h<;>exact hg h.1)⟩
theorem cZ.drew(h:cZ g w w'):cZ g w w'.drew:=h
theorem Flat.same{n:Nat}(h:Flat w k v n xs)(hb:∀b o,b<w.heap.size->w'.cell? ⟨b,o,none⟩=w.cell? ⟨b,o,none⟩):Flat w' k v n xs:=by
 obtain⟨hl,hm,a,c,hv,hr⟩:=h;refine⟨hl,hm,a,c,hv,fun j u hu=> ?_⟩;obtain⟨b,o,ha,hc⟩:=hr j u hu;have h2:=iT _ _ hc;exact⟨b,o,ha,(hb b _ h2).trans hc⟩
theorem Flat.Zm{n:Nat}(h:w.ownsRow B e k v n xs)(hg:g<B)(ha:cZ g w w'):Flat w' k v n xs:=by
 have hf:=Flat.eu h;obtain⟨hl,hm,a,c,hv,hr⟩:=hf;refine⟨hl,hm,a,c,hv,fun j u hu=> ?_⟩;obtain⟨b,o,ha',hc⟩:=hr j u hu;have h2:=iT _ _ hc;refine⟨b,o,ha',(ha.2 b _ h2 ?_).trans hc⟩
 rcases h.2 with⟨rfl,_⟩|⟨g',cap,cur,rfl,hg',_⟩
 ·simp at hv;rw[<-hv.1] at ha';cases ha'
 ·simp at hv;rw[<-hv.1] at ha';simp at ha';omega
def rj (w:World)(g:Nat)(l:List ay)(xs:List Value):Prop:=∀i s,l[i]? =some s->∃va vs,(∀w',cZ g w w'->jG w' va s.asks/\lx w' vs s.sent)/\∀j u,(s.row va vs)[j]? =some u->xs[i*11+j]? =some u
theorem rj.kept(h:rj w g l xs)(ha:cZ g w w'):rj w' g l xs:=by
 intro i s hi;obtain⟨va,vs,h1,h2⟩:=h i s hi;exact⟨va,vs,fun w2 h3=>h1 w2 (ha.trans h3),h2⟩
theorem rj.start{w1:World}(h:kr w l xs)(hb:aw w w1)(hg:w.heap.size<=g):rj w1 g l xs:=by
 intro i s hi;obtain⟨va,vs,h1,h2,h3⟩:=h.at hi;refine⟨va,vs,fun w2 ha=> ?_,h3⟩
 have key:∀b o,b<w.heap.size->w2.cell? ⟨b,o,none⟩=w.cell? ⟨b,o,none⟩:=fun b o hlt=>
  (ha.2 b o (jj hlt hb.size) ab).trans (hb.cell (p:=⟨b,o,none⟩) hlt)
 exact⟨Flat.same h1 key,Flat.same h2 key⟩
theorem ahx {w:World}:∀(l:List ay) (xs:List Value),xs.length=l.length*11->(∀i s,l[i]? =some s->∃va vs,jG w va s.asks/\lx w vs s.sent/\∀j u,(s.row va vs)[j]? =some u->xs[i*11+j]? =some u)->kr w l xs
 |[],xs,hl,_=>BC.1 (by simpa using hl)
 |s::l,xs,hl,h=>by
  obtain⟨va,vs,h1,h2,h3⟩:=h 0 s rfl;refine⟨va,vs,xs.drop 11,?_,h1,h2,ahx l (xs.drop 11) ?_ ?_⟩
  ·have hx:xs.take 11=s.row va vs:=by
    have e11:(s.row va vs).length=11:=rfl
    have oI:11<=xs.length:=by rw[hl,List.length_cons];omega
    refine adK (by rw[dN,e11];omega) fun j hj=> ?_
    rw[dN] at hj
    have yU:j<(s.row va vs).length:=by rw[e11];omega
    have:=h3 j _ (cw yU);rw[List.getElem?_take_of_lt ab,cw yU];simpa using this
   rw[<-hx,List.take_append_drop]
  ·rw[lU,hl,List.length_cons];omega
  ·intro i t hi;obtain⟨fV,Gm,g1,g2,g3⟩:=h (i+1) t (by simpa using hi);refine⟨fV,Gm,g1,g2,fun j u hu=> ?_⟩;rw[oA];have:=g3 j u hu;rw[show(i+1)*11+j=11+(i*11+j) by omega] at this;exact this
theorem rj.cells(h:rj w g l xs)(hl:xs.length=l.length*11):kr w l xs:=
 ahx l xs hl fun i s hi=>by
  obtain⟨va,vs,h1,h2⟩:=h i s hi;have:=h1 w (cZ.refl _ _);exact⟨va,vs,this.1,this.2,h2⟩
theorem rj.store(h:rj w g l xs)(hk:k<l.length)(hl:xs.length=l.length*11)(hu:∀w',cZ g w w'->jG w' ua l[k].asks/\lx w' us l[k].sent):
  rj w g l ((xs.set (k*11+8) ua).set (k*11+10) us):=by
 intro i s hi;obtain⟨va,vs,h1,h2⟩:=h i s hi;have Im:=(bK.1 hi).1;by_cases zR:i=k
 ·subst zR
  have es:s=l[i]:=by simpa [Im] using hi.symm
  subst es;refine⟨ua,us,hu,fun j u hj=> ?_⟩
  have ahy:j<11:=by have:=(bK.1 hj).1;exact this
  by_cases h8:j=8
  ·subst h8;rw[uH ab,BD ab];exact hj
  ·by_cases h10:j=10
   ·subst h10;rw[BD bq];exact hj
   ·rw[uH ab,uH ab];refine h2 j u ?_;rw[<-hj]
    match j,ahy,h8,h10 with
    |0,_,_,_=>rfl
    |1,_,_,_=>rfl
    |2,_,_,_=>rfl
    |3,_,_,_=>rfl
    |4,_,_,_=>rfl
    |5,_,_,_=>rfl
    |6,_,_,_=>rfl
    |7,_,_,_=>rfl
    |9,_,_,_=>rfl
    |8,_,h,_=>exact absurd rfl h
    |10,_,_,h=>exact absurd rfl h
    |n+11,h,_,_=>omega
 ·refine⟨va,vs,h1,fun j u hj=> ?_⟩
  have ahy:j<11:=by have:=(bK.1 hj).1;exact this
  rw[uH ab,uH ab];exact h2 j u hj
def vH (w:World)(g:Nat)(xs:List Value):Prop:=∀j,j<xs.length->w.cell? ⟨g,j,none⟩=xs[j]? /\w.frozen? ⟨g,j,none⟩=false
theorem vH.kept(h:vH w g xs)(hb:Below B w w')(hg:g<B):vH w' g xs:=fun j hj=>by
 have:=h j hj;exact⟨(hb.cell (p:=⟨g,j,none⟩) hg).trans this.1,(hb.frozen (p:=⟨g,j,none⟩) hg).trans this.2⟩
theorem vH.set(h:vH w g xs)(i:Nat)(hi:i<xs.length)(v:Value):vH (w.setCell ⟨g,i,none⟩ v) g (xs.set i v):=fun j hj=>by
 rw[List.length_set] at hj;have Ad:=h j hj;have Ac:=h i hi;refine⟨?_,?_⟩
 ·by_cases e:i=j
  ·subst e;rw[BD hi];exact World.cell?_setCell_same _ _ _ (Ac.1.trans (cw hi))
  ·rw[uH e,QV _ _ _ _ (by intro h;simp at h<;>exact e h.symm)];exact Ad.1
 ·simpa using Ad.2
theorem vH.eu{n:Nat}(h:w.ownsRow B e k v n xs)(hn:0<n):∃g cap,v=.slice (some ⟨g,0,none⟩) n cap/\B<=g/\g<w.heap.size/\vH w g xs:=by
 obtain⟨g,cap,rfl,hB,hg⟩:=h.form hn;refine⟨g,cap,rfl,hB,hg,fun j hj=>⟨?_,?_⟩⟩
 ·have:=h.cells (g:=g) rfl j xs[j] (by simp[hj])
  have lv:(⟨g,0,none⟩:Addr).add j=⟨g,0+j,none⟩:=by unfold Addr.add;split<;>simp_all
  rw[lv,fu] at this;rw[this];simp[hj]
 ·rcases h.2 with⟨e,_⟩|⟨g',cap',cur,e,_,hb,_⟩
  ·cases e
  ·simp at e;obtain⟨rfl,rfl⟩:=e;exact frozen_of_row w g j cur _ hb
theorem vH.flat{n cap:Nat}(h:vH w g xs)(hl:xs.length=n*11)(hn:n<=1000000):Flat w 11 (.slice (some ⟨g,0,none⟩) n cap) n xs:=
 Flat.wN hl ab fun j u hu=>by
  have:=h j (bK.1 hu).1;rw[fu,this.1,hu]
def OA (B k:Nat)(xs:List Value):Prop:=∀i,i<k->∀u,(xs[i*11+8]? =some u\/xs[i*11+10]? =some u)->ri (fun b=>B<=b) u
theorem OA.set(h:OA B k xs)(hk:k*11+11<=xs.length)(h1:ri (fun b=>B<=b) ua)(h2:ri (fun b=>B<=b) us):OA B (k+1) ((xs.set (k*11+8) ua).set (k*11+10) us):=by
 intro i hi u hu;by_cases e:i=k
 ·subst e
  rcases hu with hu|hu
  ·rw[uH ab,BD ab] at hu;cases hu;exact h1
  ·rw[BD (by rw[List.length_set];omega)] at hu;cases hu;exact h2
 ·rcases hu with hu|hu
  ·rw[uH ab,uH ab] at hu;exact h i ab u (.inl hu)
  ·rw[uH ab,uH ab] at hu;exact h i ab u (.inr hu)
theorem rj.avf(h:rj w g l xs)(hl:xs.length=l.length*11)(hf:OA B l.length xs):nG (fun b=>B<=b) w l xs:=by
 have key:∀(m:List ay) (d:Nat) (ys:List Value),l.drop d=m->ys=xs.drop (d*11)->nG (fun b=>B<=b) w m ys:=by
  intro m
  induction m with
  |nil=>
   intro d ys hd hy
   have:l.length<=d:=by
    have:=aG List.length hd;simp at this;omega
   show ys=[]
   rw[hy,List.drop_eq_nil_iff];omega
  |cons s m ih=>
   intro d ys hd hy
   have ez:d<l.length:=by
    have:=aG List.length hd;simp at this;omega
   have hs:l[d]? =some s:=by
    have:(l.drop d)[0]? =some s:=by rw[hd];rfl
    simpa using this
   obtain⟨va,vs,h1,h2⟩:=h d s hs;have hq:=h1 w (cZ.refl _ _);refine⟨va,vs,xs.drop ((d+1)*11),?_,⟨hq.1,hf d ez va (.inl (h2 8 va rfl))⟩,⟨hq.2,hf d ez vs (.inr (h2 10 vs rfl))⟩,ih (d+1) _ ?_ rfl⟩
   ·rw[hy];apply yj;intro j;have eF:(s.row va vs).length=11:=rfl;by_cases hj:j<11
    ·rw[lT ab,oA];have hu:(s.row va vs)[j]? =some ((s.row va vs)[j]' ab):=cw ab;rw[hu,h2 j _ hu]
    ·rw[iR ab,oA,oA,eF];congr 1;omega
   ·have h3:=aG List.tail hd;rwa[List.tail_drop,List.tail_cons] at h3
 exact key l 0 xs ai ai
theorem avg(run:List ay)(v:Value)(w:World)(hrun:fw w v run)(hn:run.length<=1000000)(ud:∀s∈run,s.asks.length<=1000000)(EH:∀s∈run,s.sent.length<=1000000):
  Calls Tryz.prog 44 #[v] w fun e w'=>∃u,e=.returned u/\nH w.heap.size w' u run/\aw w w':=by
 have ahz:=hrun;obtain⟨ka,ca,rfl,gz⟩:=hrun.open;go_enter Tryz.func44,Tryz.ntmps44;go_wp2_with fail;refine(avd run _ _ ahz hn).mono ?_;rintro e w1 ⟨u,xs,rfl,hcs,aS,aC⟩;by_cases h0:run.length=0
 ·have hr:run=[]:=BC.1 h0;subst hr;have cM:=Flat.eu aS;have dW:=Te aS ax;obtain⟨a,c,rfl,_⟩:=cM.open;simp only[List.length_nil] at aS cM⊢;go_wp2_with fail;refine wp_loop_rounds 1 ?_;rw[rounds_succ];go_wp2_with fail;go_ret;exact⟨_,rfl,⟨[],rfl,Flat.nil _ _ _ _,dW⟩,aC⟩
 ·obtain⟨g,cap,rfl,Lm,fQ,Io⟩:=vH.eu aS ab;have AK:=rj.start hcs aC Lm;have oI:=aS.1;clear aS hcs;go_wp2_with fail;go_loopw [9] (fun p wr=>∃(k:Nat) (xs:List Value),k<=run.length/\p=.int .i64 k/\xs.length=run.length*11/\vH wr g xs/\rj wr g run xs/\OA w.heap.size k xs/\aw w wr/\g<wr.heap.size) (fun p _=>run.length-(intOf p).toNat)
  case atStart=>exact⟨0,xs,ab,rfl,oI,Io,AK,fun i hi=>ab,aC,fQ⟩
  case round=>
   clear Io AK oI;obtain⟨k,xs,hk,rfl,oI,Io,AK,dx,hB,sL⟩:=hrel;have Ln:=ae dx;clear dx;by_cases hlt:k<run.length
   ·obtain⟨va,vs,h1,h2⟩:=AK k run[k] (by simp[hlt]);have hq:=h1 wr (cZ.refl _ _);obtain⟨qa,da,rfl,_⟩:=hq.1.open;obtain⟨qs,ds,rfl,_⟩:=hq.2.open;have e8:=h2 8 _ rfl;have e10:=h2 10 _ rfl;have r8:=Io (k*11+8) ab;have r10:=Io (k*11+10) ab;have c8:=r8.1.trans e8;have c10:=r10.1.trans e10;have f8:=r8.2;have f10:=r10.2;have lM:=ud run[k] (bP hlt);have oc:=EH run[k] (bP hlt)
    have oW:∀W,aw wr W->Calls Tryz.prog 88 #[.slice qa run[k].asks.length da] W fun e w'=>∃u,e=.returned u/\w'.ownsRow W.heap.size 78 7 u run[k].asks.length (run[k].asks.flatMap Ask.cells)/\aw W w':=
     fun W hW=>avb _ _ _ (hq.1.kept hW ax) lM
    have yG:∀W,aw wr W->Calls Tryz.prog 89 #[.slice qs run[k].sent.length ds] W fun e w'=>∃u,e=.returned u/\w'.ownsRow W.heap.size 39 5 u run[k].sent.length (run[k].sent.flatMap bQ.cells)/\aw W w':=
     fun W hW=>avc _ _ _ (hq.2.kept hW ax) oc
    have vI:=ae oW;have Hqs:=ae yG;have He8:=ae e8;have aGe:=ae e10;clear oW yG h1 h2 r8 r10 e8 e10 hq ahz;go_wp2_with fail
    go_region_with (first
     |(go_at_call 88;refine(vI.out _ bF).mono ?_;rintro e w2 ⟨ua,rfl,Zn,bg⟩
       obtain⟨a1,d1,rfl,Ij⟩:=(Flat.eu Zn).open;have fj:=bg.size;simp only[oE] at fj;have c8':=(bg.cell (p:=⟨g,k*11+8,none⟩) sL).trans c8;have avh:=(bg.cell (p:=⟨g,k*11+10,none⟩) sL).trans c10
       have Tf:=Below.then (w:=wr) bF bg)
     |(go_at_call 89;refine(Hqs.out _ Tf).mono ?_;rintro e w3 ⟨us,rfl,Lo,fD⟩
       obtain⟨a2,d2,rfl,Aq⟩:=(Flat.eu Lo).open;have vJ:=fD.size;have Lp:g<w2.heap.size:=ab;have aGf:=(fD.cell (p:=⟨g,k*11+8,none⟩) Lp).trans c8';have aGg:=(fD.cell (p:=⟨g,k*11+10,none⟩) Lp).trans avh;have aGh:=(fD.frozen (p:=⟨g,k*11+8,none⟩) Lp).trans ((bg.frozen (p:=⟨g,k*11+8,none⟩) sL).trans f8)
       have aGi:=(fD.frozen (p:=⟨g,k*11+10,none⟩) Lp).trans ((bg.frozen (p:=⟨g,k*11+10,none⟩) sL).trans f10)))
    all_goals
     go_wp2_with fail;go_roundw
     case rel=>
      have ahA:cZ g w2 w3:=cZ.below fD ax;have yy:cZ g wr w3:=(cZ.below Tf ax).trans ahA;have avi:g<w3.heap.size:=ab;have avj:vH w3 g xs:=(Io.kept Tf sL).kept fD Lp;have avk:aw w w3:=(hB.trans (Tf.mono hB.size)).trans (fD.mono (bj hB.size fj));refine⟨k+1,_,ab,by go_num,?_,(avj.set (k*11+8) ab _).set (k*11+10) (by rw[List.length_set];omega) _,?_,Ln.out.set ab (Te Zn (bj hB.size ax)) (Te Lo (bj hB.size fj)),Below.setCell (Below.setCell avk Lm _) Lm _,by simpa using avi⟩
      ·rw[List.length_set,List.length_set];exact oI
      ·refine rj.kept (rj.store (AK.kept yy) hlt oI (fun W hW=> ?_)) ((cZ.set _ _ _ _).trans (cZ.set _ _ _ _));exact⟨Flat.Zm Zn sL (ahA.trans hW),Flat.Zm Lo Lp hW⟩
     case measure=>simp[intOf];omega
   ·go_wp2_with fail;go_ret;exact⟨_,rfl,⟨xs,AK.avf oI (by rw[show run.length=k by omega];exact Ln.out),Io.flat oI hn,fun b o n c e=>by simp at e;show w.heap.size<=b;omega⟩,hB⟩
end
section
open Go.RowKit
variable {B gn gw:Nat} {L:List (Nat×Nat)} {W:World} {arr wa:Array Value}
theorem ahB:(Tryz.prog.info? 22).map (fun i=>(i.zero,i.size,i.bytes))=some (some (.slice none 0 0),1,24):=ah
def aQ (L:List (Nat×Nat))(a:Nat):List Nat:=(L.filter fun p=>p.1==a).map fun p=>p.2
theorem Tg(L:List (Nat×Nat))(p:Nat×Nat)(a:Nat):aQ (L++[p]) a=if p.1=a then aQ L a++[p.2] else aQ L a:=by
 unfold aQ;rw[qk,de];by_cases h:p.1=a<;>simp[h]
theorem avl(x:Nat×Nat):(pc x).length=2:=rfl
theorem Zo{w:World}{a:Option Addr}{n c m:Nat}(h:Flat w 2 (.slice a m c) n (L.flatMap pc)){i:Nat}{x:Nat×Nat}(hi:L[i]? =some x):
  ∃b o,a=some ⟨b,o,none⟩/\w.cell? ⟨b,o+i*2,none⟩=some (I x.1)/\w.cell? ⟨b,o+i*2+1,none⟩=some (I x.2):=by
 obtain⟨b,o,ha,hc⟩:=BN avl ab h hi;exact⟨b,o,ha,hc 0 _ rfl,hc 1 _ rfl⟩
def nv (l:List Nat):List Value:=l.map fun(i:Nat)=>I (i:Int)
def fZ (L:List (Nat×Nat))(b:Nat):Nat:=(L.map fun p=>p.2).count b
theorem avm(L:List (Nat×Nat))(p:Nat×Nat)(b:Nat):fZ (L++[p]) b=fZ L b+if p.2=b then 1 else 0:=by
 unfold fZ;rw[de,zM];by_cases h:p.2=b<;>simp[h]
structure pJ (B gn gw n:Nat)(W:World)(L:List (Nat×Nat))(arr wa:Array Value):Prop where
 bn:az W gn arr
 bw:az W gw wa
 ne:gn≠gw
 ln:gn<B
 lw:gw<B
 hB:B<=W.heap.size
 sn:arr.size=n
 sw:wa.size=n
 wt:∀b<n,wa[b]? =some (I (fZ L b:Nat))
 row:∀a<n,∃va,arr[a]? =some va/\W.ownsRow B 3 1 va (aQ L a).length (nv (aQ L a))
 sep:∀(a a':Nat) (va fV:Value),a≠a'->arr[a]? =some va->arr[a']? =some fV->va.ownBlock=none\/va.ownBlock≠fV.ownBlock
theorem pJ.kept{n:Nat}{W':World}(h:pJ B gn gw n W L arr wa)(hb:aw W W'):pJ B gn gw n W' L arr wa:=
 { h with
  bn:=h.bn.kept hb h.bn.lt
  bw:=h.bw.kept hb h.bw.lt
  hB:=bj h.hB hb.size
  row:=fun a ha=>by
   obtain⟨va,h1,h2⟩:=h.row a ha
   exact⟨va,h1,pj h2 hb⟩ }
theorem pJ.drew{n:Nat}(h:pJ B gn gw n W L arr wa):pJ B gn gw n W.drew L arr wa:=h.kept ((Below.refl _ W).drew)
theorem pJ.start{n:Nat}(hn:az W gn (eB n (.slice none 0 0)))(hw:az W gw (eB n (.int .i64 0)))(hne:gn≠gw)(h1:gn<B)(h2:gw<B)(hB:B<=W.heap.size):pJ B gn gw n W [] (eB n (.slice none 0 0)) (eB n (.int .i64 0)) where
 bn:=hn
 bw:=hw
 ne:=hne
 ln:=h1
 lw:=h2
 hB:=hB
 sn:=AH _ _
 sw:=AH _ _
 wt:=fun b hb=>by rw[Cy _ _ _ hb];rfl
 row:=fun a ha=>⟨_,Cy _ _ _ ha,ko _ _ _ _⟩
 sep:=fun a a' va fV _ h1 _=>by
  have:va=.slice none 0 0:=by
   have hlt:=(ng.1 h1).1;rw[AH] at hlt;rw[Cy _ _ _ hlt] at h1;exact(dX h1).symm
  subst this;exact .inl rfl
theorem EI{e:TypeId}{k:Nat}{v:Value}{n:Nat}{xs:List Value}(h:W.ownsRow B e k v n xs):v.ownBlock=none\/∃g,v.ownBlock=some g/\B<=g/\g<W.heap.size:=by
 cases hv:v.ownBlock with
 |none=>exact .inl rfl
 |some g=>exact .inr ⟨g,rfl,h.lt g hv⟩
theorem pJ.step{n:Nat}{W2:World}(h:pJ B gn gw n W L arr wa)(p:Nat×Nat)(rm:p.1<n)(yV:p.2<n)(va:Value)(dU:arr[p.1]? =some va)
  (g cap:Nat) (aS:W2.ownsRow B 3 1 (.slice (some ⟨g,0,none⟩) ((aQ L p.1).length+1) cap) ((aQ L p.1).length+1) (nv (aQ L p.1)++[I (p.2:Nat)])) (tZ:W.grownBy W2 va.ownBlock) (hg:va.ownBlock=some g\/W.heap.size<=g) (hsz:W.heap.size<=W2.heap.size):
  pJ B gn gw n ((W2.setCell ⟨gn,p.1,none⟩ (.slice (some ⟨g,0,none⟩) ((aQ L p.1).length+1) cap)).setCell ⟨gw,p.2,none⟩ (I ((fZ L p.2+1:Nat)))) (L++[p])
   (arr.setIfInBounds p.1 (.slice (some ⟨g,0,none⟩) ((aQ L p.1).length+1) cap)) (wa.setIfInBounds p.2 (I ((fZ L p.2+1:Nat)))):=by
 have Ip:va.ownBlock=none\/∃g,va.ownBlock=some g/\B<=g/\g<W.heap.size:=by
  obtain⟨fV,e1,e2⟩:=h.row p.1 rm;rw[dU] at e1;cases e1;exact EI e2
 have hne:∀x,x<B->va.ownBlock≠some x:=fun x hx e=>by
  rcases Ip with h0|⟨g',h0,h1,_⟩
  ·rw[h0] at e;cases e
  ·rw[h0] at e;cases e;omega
 have Lm:B<=g:=(aS.lt g rfl).1
 have iK:∀{fV:Value} {m:Nat} {xs:List Value},W2.ownsRow B 3 1 fV m xs->((W2.setCell ⟨gn,p.1,none⟩ (.slice (some ⟨g,0,none⟩) ((aQ L p.1).length+1) cap)).setCell ⟨gw,p.2,none⟩ (I ((fZ L p.2+1:Nat)))).ownsRow B 3 1 fV m xs:=by
  intro fV m xs ho
  have Th:∀x,x<B->fV.ownBlock=none\/fV.ownBlock≠some x:=fun x hx=>by
   rcases EI ho with h0|⟨g',h0,h1,_⟩
   ·exact .inl h0
   ·exact .inr (by rw[h0];intro e;cases e;omega)
  have h1:W2.grownBy (W2.setCell ⟨gn,p.1,none⟩ (.slice (some ⟨g,0,none⟩) ((aQ L p.1).length+1) cap)) (some gn):=⟨rfl,rfl,rfl,ai,fun k _ hk=>uI _ _ _ _ (fun e=>hk (by rw[e]))⟩
  have h2:∀W3:World,W3.grownBy (W3.setCell ⟨gw,p.2,none⟩ (I ((fZ L p.2+1:Nat)))) (some gw):=fun W3=>⟨rfl,rfl,rfl,ai,fun k _ hk=>uI _ _ _ _ (fun e=>hk (by rw[e]))⟩
  exact(ho.kept h1 (Th gn h.ln)).kept (h2 _) (Th gw h.lw)
 exact {
  bn:=(((h.bn.grown tZ (hne gn h.ln)).set p.1 _).setOther _ _ (fun e=>h.ne e.symm))
  bw:=(((h.bw.grown tZ (hne gw h.lw)).setOther ⟨gn,p.1,none⟩ _ h.ne).set p.2 _)
  ne:=h.ne
  ln:=h.ln
  lw:=h.lw
  hB:=by simp only[World.size_setCell];exact bj h.hB hsz
  sn:=by rw[yi];exact h.sn
  sw:=by rw[yi];exact h.sw
  wt:=fun b hb=>by
   rw[avm];by_cases e:p.2=b
   ·subst e;rw[oz (by rw[h.sw];exact yV)];simp
   ·rw[nf e,h.wt b hb];simp[e]
  row:=fun a ha=>by
   by_cases e:p.1=a
   ·subst e;refine⟨_,by rw[oz (by rw[h.sn];exact rm)],?_⟩;rw[Tg,aq rfl];have:=iK aS;simpa [nv] using this
   ·obtain⟨fV,e1,e2⟩:=h.row a ha;refine⟨fV,by rw[nf e];exact e1,?_⟩;rw[Tg,af e];exact iK (e2.kept tZ (h.sep a p.1 fV va (fun x=>e x.symm) e1 dU))
  sep:=fun a a' x y Iq hx hy=>by
   by_cases e:p.1=a
   ·subst e;rw[oz (by rw[h.sn];exact rm)] at hx;cases hx;rw[nf Iq] at hy;right;intro e2;have vK:y.ownBlock=some g:=e2.symm
    have ha':a'<n:=by have:=(ng.1 hy).1;rw[h.sn] at this;exact this
    obtain⟨y',f1,f2⟩:=h.row a' ha';rw[hy] at f1;cases f1;have hlt:=(f2.lt g vK).2
    rcases hg with hg|hg
    ·rcases h.sep p.1 a' va y Iq dU hy with h0|h0
     ·rw[h0] at hg;cases hg
     ·exact h0 (hg.trans vK.symm)
    ·omega
   ·rw[nf e] at hx;by_cases e':p.1=a'
    ·subst e';rw[oz (by rw[h.sn];exact rm)] at hy;cases hy;right;intro e2;have uf:x.ownBlock=some g:=e2
     have ha:a<n:=by have:=(ng.1 hx).1;rw[h.sn] at this;exact this
     obtain⟨x',f1,f2⟩:=h.row a ha;rw[hx] at f1;cases f1;have hlt:=(f2.lt g uf).2
     rcases hg with hg|hg
     ·rcases h.sep p.1 a va x (fun z=>e z) dU hx with h0|h0
      ·rw[h0] at hg;cases hg
      ·exact h0 (hg.trans uf.symm)
     ·omega
    ·rw[nf e'] at hy
     exact h.sep a a' x y Iq hx hy }
end
section
open Go.RowKit
variable {B a b gn gw i x:Nat} {L:List (Nat×Nat)} {W W' w w3:World} {arr wa:Array Value} {done l:List Nat} {t t':Nat->Nat} {v:Value}
theorem ahC (f g:Nat->Nat)(i c:Nat):∀n,i<n->(∀a<n,a≠i->f a=g a)->f i=g i+c->((List.range n).map f).sum=((List.range n).map g).sum+c
 |0,h,_,_=>ab
 |n+1,h,h1,h2=>by
  rw[lV,de,de,List.sum_append,List.sum_append];simp only[dF,mF,Gg,List.sum_nil];by_cases e:i=n
  ·subst e
   have:(List.range i).map f=(List.range i).map g:=Kb fun a ha=>h1 a (by have:=gy.1 ha;omega) (by have:=gy.1 ha;omega)
   rw[this];omega
  ·rw[ahC f g i c n ab (fun a ha=>h1 a ab) h2,h1 n ab (fun e'=>e e'.symm)];omega
theorem ahD(n b:Nat)(L:List (Nat×Nat))(h:∀p∈L,p.1<n):(sJ (aQ L) n).count b=fZ L b:=by
 induction L with
 |nil=>
  have:sJ (aQ []) n=[]:=by
   unfold sJ;rw[List.flatMap_eq_nil_iff];intro a _;rfl
  rw[this];rfl
 |cons p L ih=>
  have ih:=ih (fun q hq=>h q (jC _ hq));unfold sJ at ih⊢;rw[List.count_flatMap] at ih⊢;rw[ahC (List.count b∘aQ (p::L)) (List.count b∘aQ L) p.1 (if p.2=b then 1 else 0) n (h p MW),ih]
  ·unfold fZ;rw[dF,List.count_cons];simp
  ·intro a _ ha;simp[aQ,Ne.symm ha]
  ·simp[aQ,List.count_cons]
theorem Cz{n:Nat}(h:∀p∈L,p.1<p.2/\p.2<n)(hb:b∈aQ L a):a<b/\b<n:=by
 unfold aQ at hb;obtain⟨p,hp,rfl⟩:=dm.1 hb;obtain⟨h1,h2⟩:=nj.1 hp;have:=h p h1;simp at h2;omega
def jc (W:World)(gw n:Nat)(t:Nat->Nat):Prop:=∃wa:Array Value,az W gw wa/\wa.size=n/\∀b<n,wa[b]? =some (I (t b:Nat))
theorem jc.cell{n:Nat}(h:jc W gw n t)(hb:b<n):W.cell? ⟨gw,b,none⟩=some (I (t b:Nat))/\W.frozen? ⟨gw,b,none⟩=false:=by
 obtain⟨wa,h1,h2,h3⟩:=h;exact⟨(h1.cell b).trans (h3 b hb),h1.frozen b⟩
theorem jc.set{n:Nat}(h:jc W gw n t)(b:Nat)(ho:∀c,c≠b->t' c=t c):jc (W.setCell ⟨gw,b,none⟩ (I (t' b:Nat))) gw n t':=by
 obtain⟨wa,h1,h2,h3⟩:=h;refine⟨_,h1.set b _,by rw[yi];exact h2,fun c hc=> ?_⟩;by_cases e:b=c
 ·subst e;rw[oz (by rw[h2];exact hc)]
 ·rw[nf e,h3 c hc,ho c (fun x=>e x.symm)]
theorem jc.kept{n:Nat}(h:jc W gw n t)(hb:Below B W W')(hg:gw<B):jc W' gw n t:=by
 obtain⟨wa,h1,h2,h3⟩:=h;exact⟨wa,h1.kept hb hg,h2,h3⟩
theorem jc.congr{n:Nat}(h:jc W gw n t)(ht:∀b<n,t' b=t b):jc W gw n t':=by
 obtain⟨wa,h1,h2,h3⟩:=h;exact⟨wa,h1,h2,fun b hb=>by rw[ht b hb];exact h3 b hb⟩
theorem pJ.read{n:Nat}(h:pJ B gn gw n W L arr wa)(ha:a<n):
  ∃va,∀W',cZ gw W W'->W'.cell? ⟨gn,a,none⟩=some va/\Flat W' 1 va (aQ L a).length (nv (aQ L a)):=by
 obtain⟨va,h1,h2⟩:=h.row a ha;refine⟨va,fun W' hA=>⟨?_,Flat.Zm h2 h.lw hA⟩⟩;rw[hA.2 gn a (jj h.ln h.hB) h.ne];exact(h.bn.cell a).trans h1
theorem pJ.ahE{n:Nat}(h:pJ B gn gw n W L arr wa):jc W gw n (fZ L):=⟨wa,h.bw,h.sw,h.wt⟩
theorem Zp{e:TypeId}{k:Nat}{n:Nat}{xs:List Value}(h:W.ownsRow B e k v n xs)(a:Addr)(u:Value)(ha:a.block<B):(W.setCell a u).ownsRow B e k v n xs:=by
 refine h.kept ⟨rfl,rfl,rfl,ai,fun j _ hj=>uI _ _ _ _ (fun e=>hj (by rw[e]))⟩ (row:=some a.block) ?_
 rcases EI h with h0|⟨g,h0,h1,_⟩
 ·exact .inl h0
 ·exact .inr (by rw[h0];intro e;cases e;omega)
theorem avn(l:List Nat):(nv l).length=l.length:=by simp[nv]
theorem Lq(l:List Nat)(i:Nat):nv (l++[i])=nv l++[I (i:Int)]:=by simp[nv]
theorem avo(h:l[i]? =some x):(nv l)[i]? =some (I (x:Int)):=by simp[nv,h]
theorem Ti{a:Option Addr}{m c n:Nat}(h:Flat w 1 (.slice a m c) n (nv l))(hi:l[i]? =some x):∃b o,a=some ⟨b,o,none⟩/\w.cell? ⟨b,o+i,none⟩=some (I (x:Int)):=by
 have hlt:=(bK.1 hi).1;obtain⟨b,o,ha,hc⟩:=h.cells (by rw[avn];omega);exact⟨b,o,ha,hc i _ (avo hi)⟩
theorem avp(Z:Nat->Bool)(k:Nat):(List.range (k+1)).filter Z=(List.range k).filter Z++if Z k then [k] else []:=by
 rw[lV,qk];by_cases h:Z k<;>simp[h]
structure QM (n gw:Nat)(L:List (Nat×Nat))(w w3 W:World)(row done:List Nat)(v:Value):Prop where
 ag:cZ gw w3 W
 wt:jc W gw n (fun b=>fZ L b-done.count b)
 own:W.ownsRow w3.heap.size 3 1 v row.length (nv row)
 be:aw w W
theorem QM.drew{n:Nat}{row:List Nat}(h:QM n gw L w w3 W row done v):QM n gw L w w3 W.drew row done v:=
 ⟨h.ag.drew,h.wt,pj h.own (Below.refl _ _).drew,h.be.drew⟩
theorem QM.kept{n:Nat}{row:List Nat}(h:QM n gw L w w3 W row done v)(hb:aw W W')(h1:gw<w3.heap.size):QM n gw L w w3 W' row done v:=
 ⟨⟨bj h.ag.1 hb.size,fun x o hx hg=>(hb.cell (p:=⟨x,o,none⟩) (jj hx h.ag.1)).trans (h.ag.2 x o hx hg)⟩,h.wt.kept hb (jj h1 h.ag.1),pj h.own hb,h.be.trans (hb.mono h.be.size)⟩
theorem QM.set{n:Nat}{row:List Nat}(h:QM n gw L w w3 W row done v)(b c:Nat)(hc:fZ L b-done.count b=c+1)(h1:gw<w3.heap.size)(h2:w.heap.size<=gw):
  QM n gw L w w3 (W.setCell ⟨gw,b,none⟩ (I c)) row (done++[b]) v where
 ag:=h.ag.trans (cZ.set gw W b _)
 wt:=by
  have:=h.wt.set (t':=fun x=>fZ L x-(done++[b]).count x) b (fun x hx=>by
   show fZ L x-(done++[b]).count x=fZ L x-done.count x
   rw[zM]
   simp[Ne.symm hx])
  have e:fZ L b-(done++[b]).count b=c:=by
   rw[zM];simp;omega
  simp only[e] at this;exact this
 own:=Zp h.own _ _ h1
 be:=h.be.setCell h2 _
theorem QM.app{n:Nat}{row:List Nat}{v':Value}(h:QM n gw L w w3 W row done v)(b:Nat)(h1:gw<w3.heap.size)(h2:w.heap.size<=gw)
  (ho:W'.ownsRow w3.heap.size 3 1 v' (row.length+1) (nv row++[I (b:Int)])) (hb:Below w3.heap.size W W'):QM n gw L w w3 W' (row++[b]) done v' where
 ag:=⟨bj h.ag.1 hb.size,fun x o hx hg=>(hb.cell (p:=⟨x,o,none⟩) hx).trans (h.ag.2 x o hx hg)⟩
 wt:=h.wt.kept hb h1
 own:=by rw[List.length_append,Lq];exact ho
 be:=h.be.trans (hb.mono ab)
def Tj (w4:World)(k:Nat)(v:Value)(wc:World):Prop:=∃ga gp gv:Nat,v=.pointer (some ⟨gv,0,none⟩)/\w4.heap.size<=ga/\w4.heap.size<=gp/\w4.heap.size<=gv/\ga≠gp/\ga≠gv/\gp≠gv/\
 az wc ga (eB k (.slice none 0 0))/\az wc gp #[I k,.slice (some ⟨ga,0,none⟩) k k]/\az wc gv #[.pointer (some ⟨gp,0,none⟩)]/\aw w4 wc
end
section
open Go.RowKit Go.Shelf
attribute [local go_sem] Oper.semAt_some
variable {A B C W W':World} {G g l lo:Nat} {P:Nat->Prop} {arr cs:Array Value} {nx:Nat->List Nat} {o:Obj} {wd:Nat->Option Nat}
def iF (P:Nat->Prop)(A B:World):Prop:=∀b o,P b->B.cell? ⟨b,o,none⟩=A.cell? ⟨b,o,none⟩
theorem iF.refl(P:Nat->Prop)(A:World):iF P A A:=fun _ _ _=>rfl
theorem iF.trans(h:iF P A B)(k:iF P B C):iF P A C:=fun b o hb=>(k b o hb).trans (h b o hb)
theorem iF.set(h:iF P A B)(a:Addr)(v:Value)(ha:¬P a.block):iF P A (B.setCell a v):=fun b o hb=>
 (QV _ _ _ _ (fun e=>ha (by rw[e];exact hb))).trans (h b o hb)
theorem iF.below{n:Nat}(h:Below n A B)(hP:∀b,P b->b<n):iF P A B:=fun b o hb=>h.cell (p:=⟨b,o,none⟩) (hP b hb)
def vL {n:Nat}(row:List (Fin n))(k:Nat):List (Fin n×Nat):=(row.zipIdx.drop k).reverse
def fv {n:Nat}(row:List (Fin n)):List Nat:=row.map Fin.val
theorem avq{n:Nat}(row:List (Fin n)):vL row (fv row).length=[]:=by simp[vL,fv]
theorem avr{n:Nat}(row:List (Fin n))(k:Nat)(x:Fin n)(h:row[k]? =some x):vL row k=vL row (k+1)++[(x,k)]:=by
 obtain⟨hk,rfl⟩:=bK.1 h;unfold vL;rw[List.drop_eq_getElem_cons (by simpa using hk)];simp
theorem avs{n:Nat}(row:List (Fin n))(k:Nat):(vL row k).length=row.length-k:=by simp[vL]
theorem avt{n:Nat}(row:List (Fin n)):(vL row 0).map Prod.fst=row.reverse:=by
 unfold vL;rw[uK,List.map_reverse,List.zipIdx_map_fst]
def Zq {n:Nat}(x:Fin n×Nat):Array Value:=#[I x.2,I x.1.val]
theorem avu{m:Nat}(n:Nat)(hn:1<=n)(row:List (Fin m))(tb:Nat)(v:Value)(w0:World)(P:Nat->Prop)(gK:w0.cell? ⟨tb,0,none⟩=some v)(bl:Flat w0 1 v (fv row).length (nv (fv row)))(hlen:(fv row).length<=1000000)
  (hP:∀b,P b->b<w0.heap.size) (hPt:P tb) (hPr:∀b o m c,v=.slice (some ⟨b,o,none⟩) m c->P b):
  SeqStopsK Fence.wide n Tryz.prog 176 #[.pointer (some ⟨tb,0,none⟩)] Zq (iF P) (fun xs=>xs=vL row 0) (fun _=>True) (fv row).length w0:=by
 intro l J Jx W hW hJ hJx hY h0;obtain⟨ka,ca,rfl,gz⟩:=bl.open;have fE:W.cell? ⟨tb,0,none⟩=some (.slice ka (fv row).length ca):=(hW.cell (p:=⟨tb,0,none⟩) (hP _ hPt)).trans gK;have HY:=ae hY;clear hY;refine callsIn_of_wp Tryz.func176 rfl trivial ?_ rfl;simp only[Tryz.ntmps176,zK,List.length_cons,List.length_nil,Nat.reduceAdd,Nat.reduceSub,JY,JZ,Kd,Kc,List.nil_append,List.cons_append]
 gi_wp2
 gi_loopw [3] (fun p wr=>∃k:Nat,k<=(fv row).length/\p=.int .i64 ((k:Int)-1)/\iF P w0 wr/\J (vL row k) wr) (fun p _=>(intOf p+1).toNat)
 case atStart=>exact⟨(fv row).length,cK _,rfl,iF.below hW hP,by rw[avq];exact h0⟩
 case round=>
  clear fE;obtain⟨k,hk,rfl,hK,Lr⟩:=hrel
  cases k with
  |zero=>
   gi_wp2
   go_end0;exact⟨⟨_,rfl⟩,.inl ⟨_,rfl,Lr⟩⟩
  |succ k=>
   have eb:k<(fv row).length:=ab;have e1:((k+1:Nat):Int)-1=(k:Int):=ab;rw[e1];have qD:=(hK tb 0 hPt).trans gK
   obtain⟨x,hx⟩:∃x,row[k]? =some x:=⟨row[k]'(by simpa [fv] using eb),ai⟩
   obtain⟨b,o,rfl,hc⟩:=Ti bl (i:=k) (x:=x.val) (by simp[fv,hx]);have yJ:=(hK b (o+k) (hPr b o _ _ rfl)).trans hc;have hsx:=avr row k x hx;have Hs:=ae hsx;have Zr:=ae (show(vL row (k+1)).length<(fv row).length by rw[avs];simp[fv] at eb⊢;omega);obtain⟨fn,tmps,assign,body,hy,hR⟩:=HY.out _ (x,k) wr Lr Zr.out;dsimp only[Zq] at hy;clear hsx e1 hx hc
   gi_wp2
   refine hR.mono ?_;rintro e W3 (⟨rfl,Zs,Ls⟩|⟨rfl,avv⟩)
   ·gi_wp2
    go_roundw
    case rel=>exact⟨k,ab,rfl,hK.trans Ls,by rw[Hs.out];exact Zs⟩
    case measure=>simp[intOf]
   ·gi_wp2
    refine DI (results_none rfl _ _ _) rfl ?_;exact⟨⟨_,rfl⟩,.inr ⟨_,trivial,avv⟩⟩
theorem backward(a:Option Addr)(n c:Nat)(w:World):Calls Tryz.prog 126 #[.slice a n c] w fun e w'=>e=.returned (.func (.func 176) #[] #[.pointer (some ⟨w.heap.size,0,none⟩)])/\w'=w.alloc (.cells #[.slice a n c] 22):=by
 go_enter Tryz.func126,Tryz.ntmps126;go_wp2_with fail;go_ret;exact⟨rfl,rfl⟩
theorem iF.putObj(W:World)(l:Nat)(o':Obj)(h:¬P l):iF P W (W.putObj l o'):=fun b o hb=>by
 have hne:b≠l:=by
  rintro rfl;exact h hb
 simp[World.cell?,World.putObj_heap_other hne]
theorem Zt{α:Type}{P:List α->Prop}(nil:P [])(append_singleton:∀l a,P l->P (l++[a]))(l:List α):P l:=by
 have h:∀m:List α,P m.reverse:=fun m=>by
  induction m with
  |nil=>exact nil
  |cons a m ih=>rw[wK];exact append_singleton _ _ ih
 have:=h l.reverse;rwa[List.reverse_reverse] at this
def AL (g:Nat->Nat)(l:List Nat):Nat:=l.foldl (fun m b=>(m|||2^b)|||g b) 0
def mK (nx:Nat->List Nat)(wd:Nat->Option Nat)(a:Nat):Nat->Option Nat:=fun x=>if x=a then some (AL (fun b=>(wd b).getD 0) (nx a)) else wd x
def xA (nx:Nat->List Nat)(al:List Nat):Nat->Option Nat:=al.foldl (mK nx) (fun _=>none)
theorem Zu(g:Nat->Nat)(l:List Nat)(b:Nat):AL g (l++[b])=(AL g l|||2^b)|||g b:=by simp[AL]
theorem Zv(g:Nat->Nat)(l:List Nat)(hl:∀b∈l,b<64/\g b<jb):AL g l<jb:=by
 induction l using Zt with
 |nil=>show 0<2^64;omega
 |append_singleton l b ih=>
  rw[Zu];have h1:=ih (fun c hc=>hl c (Gb _ hc));have h2:=hl b ai;exact MY (MY h1 (Td b h2.1)) h2.2
theorem avw(g:Nat->Nat)(l:List Nat)(k:Nat):(AL g l).testBit k=l.any fun b=>b==k||(g b).testBit k:=by
 induction l using Zt with
 |nil=>simp[AL]
 |append_singleton l b ih=>
  rw[Zu,Nat.testBit_or,Nat.testBit_or,ih,Nat.testBit_two_pow];simp[Bool.or_assoc];rfl
theorem ahF(nx:Nat->List Nat)(al:List Nat)(a:Nat):xA nx (al++[a])=mK nx (xA nx al) a:=by simp[xA]
theorem avx(nx:Nat->List Nat)(n:Nat)(hn:n<=64)(f:Nat->Nat->Bool)(jX:∀a<n,∀b∈nx a,b<n)(hf:∀a<n,∀k<n,f a k=(nx a).any fun b=>b==k||f b k)(al:List Nat)(cP:al.Nodup)(hlt:∀a∈al,a<n)
  (ho:∀q a,al[q]? =some a->∀b∈nx a,b∈al.take q):∀a∈al,∃m,xA nx al a=some m/\m<jb/\∀k<n,m.testBit k=f a k:=by
 induction al using Zt with
 |nil=>intro a ha;simp at ha
 |append_singleton al a ih=>
  have avy:=MX.1 cP
  have iX:∀x∈al,x<n:=fun x hx=>hlt x (Gb _ hx)
  have ih:=ih avy.1 iX (fun q x hq b hb=>by
   have fC:=(bK.1 hq).1;have:=ho q x (by rw[lT fC];exact hq) b hb
   rwa[uE ab] at this)
  have xC:=hlt a ai
  have dW:∀b∈nx a,b∈al:=fun b hb=>by
   have:=ho al.length a ai b hb;rwa[oC] at this
  intro x hx;rw[ahF];unfold mK;by_cases e:x=a
  ·subst e;rw[aq rfl];refine⟨_,rfl,Zv _ _ fun b hb=> ?_,fun k hk=> ?_⟩
   ·obtain⟨m,h1,h2,_⟩:=ih b (dW b hb);rw[h1];have:=jX x xC b hb;exact⟨ab,h2⟩
   ·rw[avw,hf x xC k hk,rR,yk,yk]
    have key:∀b∈nx x,((xA nx al b).getD 0).testBit k=f b k:=fun b hb=>by
     obtain⟨m,h1,_,h3⟩:=ih b (dW b hb);rw[h1];exact h3 k hk
    constructor
    ·rintro⟨b,hb,h⟩;exact⟨b,hb,by rwa[key b hb] at h⟩
    ·rintro⟨b,hb,h⟩;exact⟨b,hb,by rwa[key b hb]⟩
  ·rw[af e];refine ih x ?_
   rcases fL.1 hx with h|h
   ·exact h
   ·simp at h;exact absurd h e
def vM (W:World)(n lo:Nat)(arr:Array Value)(wd:Nat->Option Nat):Prop:=arr.size=n/\∀a<n,match wd a with
 |none=>arr[a]? =some (.slice none 0 0)
 |some m=>m<jb/\∃gi,lo<=gi/\gi<W.heap.size/\arr[a]? =some (.slice (some ⟨gi,0,none⟩) 1 1)/\W.cell? ⟨gi,0,none⟩=some (.int .u64 ((m:Nat):Int))
theorem vM.kept{n:Nat}(h:vM W n lo arr wd)(hs:W.heap.size<=W'.heap.size)(hc:∀b v,lo<=b->b<W.heap.size->W.cell? ⟨b,0,none⟩=some v->W'.cell? ⟨b,0,none⟩=some v):vM W' n lo arr wd:=by
 refine⟨h.1,fun a ha=> ?_⟩;have:=h.2 a ha;split
 ·rename_i e;rw[e] at this;exact this
 ·rename_i m e;rw[e] at this;obtain⟨h1,gi,h2,h3,h4,h5⟩:=this;exact⟨h1,gi,h2,ab,h4,hc gi _ h2 h3 h5⟩
theorem vM.step{n:Nat}(h:vM W n lo arr wd)(a:Nat)(ha:a<n)(jX:∀b∈nx a,b<n)(hn:n<=64)(oJ:lo<=W.heap.size)
  (hs:W.heap.size<W'.heap.size) (hc:∀b v,lo<=b->b<W.heap.size->W.cell? ⟨b,0,none⟩=some v->W'.cell? ⟨b,0,none⟩=some v)
  (hg:W'.cell? ⟨W.heap.size,0,none⟩=some (.int .u64 ((AL (fun b=>(wd b).getD 0) (nx a):Nat):Int))):
  vM W' n lo (arr.setIfInBounds a (.slice (some ⟨W.heap.size,0,none⟩) 1 1)) (mK nx wd a):=by
 have hk:=h.kept (W':=W') ab hc;refine⟨by rw[yi];exact h.1,fun x hx=> ?_⟩;unfold mK;by_cases e:x=a
 ·subst e;rw[aq rfl];refine⟨Zv _ _ fun b hb=>⟨by have:=jX b hb;omega,?_⟩,W.heap.size,oJ,hs,by rw[oz (by rw[h.1];exact hx)],hg⟩;have:=h.2 b (jX b hb)
  cases hw:wd b with
  |none=>show 0<2^64;omega
  |some m=>
   rw[hw] at this;exact this.1
 ·rw[af e];have:=hk.2 x hx;rw[nf (Ne.symm e)];exact this
theorem vM.start(W:World)(n lo:Nat):vM W n lo (eB n (.slice none 0 0)) (fun _=>none):=⟨AH _ _,fun _ ha=>Cy _ _ _ ha⟩
theorem avz(b o c:Nat)(w:World):
  Calls Tryz.prog 70 #[.slice (some ⟨b,o,none⟩) 1 c,.slice none 0 0] w fun e w'=>e=.returned (.tuple #[])/\w'=w:=by
 go_enter Tryz.func70,Tryz.ntmps70;go_wp2;refine wp_loop_rounds 1 ?_;rw[rounds_succ];go_wp2;go_end0;exact⟨rfl,rfl⟩
theorem az.ahG(h:az W g cs){row:Option Nat}(hg:W.grownBy W' row)(hr:∀r,row=some r->∃o:Obj,W.heap[r]? =some o/\o.isCells=false):az W' g cs:=by
 refine h.grown hg fun e=> ?_
 obtain⟨o,h1,h2⟩:=hr g e;obtain⟨t,h3⟩:=h;rw[h3] at h1;cases h1;cases h2
theorem az.putObj(h:az W g cs)(o':Obj)(hl:W.heap[l]? =some o)(ho:o.isCells=false):az (W.putObj l o') g cs:=
 h.ahG (grownBy_putObj' W l o') (fun r e=>by cases e;exact⟨o,hl,ho⟩)
theorem avA{n:Nat}{row done:List Nat}(h:rh nx n row done)(avB:∀i<n,i∈row)(jX:∀a<n,∀b∈nx a,b<n):∀q a,row.reverse[q]? =some a->∀b∈nx a,b∈row.reverse.take q:=by
 intro q a hq b hb
 have fC:q<row.length:=by have:=(bK.1 hq).1;simpa using this
 rw[List.getElem?_reverse fC] at hq;have xC:=h.lt a (eE hq);obtain⟨p,hp⟩:=wH (avB b (jX a xC b hb));have iV:=(bK.1 hp).1;have ha:=h.order p b hp a xC hb;obtain⟨j,hj⟩:=wH ha;have dJ:=(bK.1 hj).1;rw[dN] at dJ;rw[List.getElem?_take_of_lt ab] at hj;have hjq:j=row.length-1-q:=(List.getElem?_inj ab h.nodup).1 (hj.trans hq.symm)
 have:row.reverse[row.length-1-p]? =some b:=by
  rw[List.getElem?_reverse ab,show row.length-1-(row.length-1-p)=p by omega];exact hp
 refine eE (i:=row.length-1-p) ?_;rw[List.getElem?_take_of_lt ab];exact this
theorem avC{k ga gp:Nat}{f:Nat->Nat->Bool}(hn:k<=64)(hb:az W ga arr)(h0:W.cell? ⟨gp,0,none⟩=some (I k))(h1:W.cell? ⟨gp,1,none⟩=some (.slice (some ⟨ga,0,none⟩) k k))
  (eL:vM W k lo arr wd) (lB:∀i<k,∃m,wd i=some m/\m<jb/\∀j<k,m.testBit j=f i j):AG W (.pointer (some ⟨gp,0,none⟩)) k f:=by
 refine⟨hn,gp,ga,k,rfl,h0,h1,fun i hi=> ?_⟩;obtain⟨m,e,h2,h3⟩:=lB i hi;have:=eL.2 i hi;rw[e] at this;obtain⟨_,gi,_,_,h4,h5⟩:=this;exact⟨gi,1,m,(hb.cell i).trans h4,h5,h2,h3⟩
theorem Zw{a:Addr}{v:Value}(h:W.cell? a=some v)(o':Obj)(hl:W.heap[l]? =some o)(ho:o.isCells=false):(W.putObj l o').cell? a=some v:=
 cell_kept h (grownBy_putObj' W l o') (fun r e=>by cases e;exact⟨o,hl,ho⟩)
structure Touch (G:Nat)(W W':World):Prop where
 size:W'.heap.size=W.heap.size
 cell:∀b o,b≠G->W'.cell? ⟨b,o,none⟩=W.cell? ⟨b,o,none⟩
 others:KeepsOthers W W'
 below:∀B,B<=G->Below B W W'
 dM:∀g cs,g≠G->az W g cs->az W' g cs
theorem Touch.refl(G:Nat)(W:World):Touch G W W:=⟨rfl,fun _ _ _=>rfl,KeepsOthers.refl W,fun _ _=>Below.refl _ _,fun _ _ _ h=>h⟩
theorem Touch.trans(h:Touch G A B)(k:Touch G B C):Touch G A C:=
 ⟨k.size.trans h.size,fun b o hb=>(k.cell b o hb).trans (h.cell b o hb),h.others.trans k.others,fun n hn=>(h.below n hn).trans (k.below n hn),fun g cs hg hb=>k.dM g cs hg (h.dM g cs hg hb)⟩
theorem Touch.set(G o:Nat)(W:World)(v:Value):Touch G W (W.setCell ⟨G,o,none⟩ v):=
 ⟨ai,fun b o' hb=>QV _ _ _ _ (fun e=>hb (aG Addr.block e).symm),KeepsOthers.setCell _ _ _,fun _ hB=>(Below.refl _ W).setCell hB _,fun _ _ hg hb=>hb.setOther _ _ (fun e=>hg e.symm)⟩
theorem Touch.drew(h:Touch G W W'):Touch G W W'.drew:=
 ⟨h.size,h.cell,h.others.trans (KeepsOthers.drew _),fun B hB=>(h.below B hB).drew,fun g cs hg hb=>(h.dM g cs hg hb).drew⟩
theorem Touch.drewN(h:Touch G W W')(n:Nat):Touch G W (W'.drewN n):=
 ⟨h.size,h.cell,h.others.trans ⟨cK _,fun _ _ h _=>h⟩,fun B hB=>below_drewN (h.below B hB) n,fun g cs hg hb=>(h.dM g cs hg hb).drewN n⟩
theorem avD(G m i:Nat)(w:World)(hG:az w G #[.int .u64 ((m:Nat):Int)])(hm:m<jb)(hi:i<64):
  Calls Tryz.prog 127 #[.slice (some ⟨G,0,none⟩) 1 1,I i] w fun e w'=>e=.returned (.tuple #[])/\az w' G #[.int .u64 ((m|||2^i:Nat):Int)]/\Touch G w w':=by
 refine(auS G 0 1 m i w (hG.cell 0) (hG.frozen 0) hm hi).mono ?_;rintro e w' ⟨rfl,n,rfl⟩;exact⟨rfl,(hG.set 0 _).drewN n,(Touch.set G 0 w _).drewN n⟩
theorem avE(G m mb:Nat)(tv:Value)(w:World)(hG:az w G #[.int .u64 ((m:Nat):Int)])(hm:m<jb)
  (ht:(tv=.slice none 0 0/\mb=0)\/∃gi,tv=.slice (some ⟨gi,0,none⟩) 1 1/\w.cell? ⟨gi,0,none⟩=some (.int .u64 ((mb:Nat):Int))/\mb<jb):
  Calls Tryz.prog 70 #[.slice (some ⟨G,0,none⟩) 1 1,tv] w fun e w'=>e=.returned (.tuple #[])/\az w' G #[.int .u64 ((m|||mb:Nat):Int)]/\Touch G w w':=by
 rcases ht with⟨rfl,rfl⟩|⟨gi,rfl,hc,hmb⟩
 ·refine(avz G 0 1 w).mono ?_;rintro e w' ⟨rfl,rfl⟩;exact⟨rfl,by rw[Nat.or_zero];exact hG,Touch.refl _ _⟩
 ·refine(ahq G 0 1 gi 0 1 m mb w (hG.cell 0) (hG.frozen 0) hm hc hmb).mono ?_;rintro e w' ⟨rfl,rfl⟩;exact⟨rfl,hG.set 0 _,Touch.set G 0 w _⟩
def Zx (k ga:Nat)(L:List (Nat×Nat))(w W6:World)(al:List Nat)(W:World):Prop:=∃arr:Array Value,az W ga arr/\vM W k W6.heap.size arr (xA (aQ L) al)/\iF (fun b=>b<W6.heap.size/\b≠ga) W6 W/\W6.heap.size<=W.heap.size/\aw w W
theorem avF{n:Nat}{row:Option Nat}(hg:A.grownBy B row)(hr:∀r,row=some r->n<=r)(hP:∀b,P b->b<n)(hn:n<=A.heap.size):iF P A B:=fun b o hb=>by
 have:=hg.block b (jj (hP b hb) hn) (fun e=>by have:=hr b e.symm;have:=hP b hb;omega);simp[World.cell?,this]
theorem avG(k ga:Nat)(L:List (Nat×Nat))(w W6:World)(hw:w.heap.size<=W6.heap.size):OwnFrom W6.heap.size (fun(pre:List (Fin k×Nat)) W=>Zx k ga L w W6 (pre.map fun x=>x.1.val) W):=by
 intro s A B row hs hg hr;obtain⟨arr,h1,h2,h3,h4,h5⟩:=hs;refine⟨arr,h1.ahG hg (fun r e=>(hr r e).2),h2.kept hg.size (fun b v _ _ hc=>cell_kept hc hg (fun r e=>(hr r e).2)),h3.trans (avF hg (fun r e=>(hr r e).1) (fun b hb=>hb.1) h4),bj h4 hg.size,?_⟩;exact h5.grown hg h5.size (fun r e=>by have:=(hr r e).1;omega)
theorem iF.ahH{P':Nat->Prop}(h:iF P A B)(hp:∀b,P' b->P b):iF P' A B:=fun b o hb=>h b o (hp b hb)
theorem vM.val{n:Nat}(h:vM W n lo arr wd){b:Nat}(hb:b<n):∃tv,arr[b]? =some tv/\((tv=.slice none 0 0/\(wd b).getD 0=0)\/∃gi,tv=.slice (some ⟨gi,0,none⟩) 1 1/\lo<=gi/\gi<W.heap.size/\W.cell? ⟨gi,0,none⟩=some (.int .u64 (((wd b).getD 0:Nat):Int))/\(wd b).getD 0<jb):=by
 have:=h.2 b hb
 cases hw:wd b with
 |none=>rw[hw] at this;exact⟨_,this,.inl ⟨rfl,rfl⟩⟩
 |some m=>rw[hw] at this;obtain⟨h1,gi,h2,h3,h4,h5⟩:=this;exact⟨_,h4,.inr ⟨gi,rfl,h2,h3,h5,h1⟩⟩
theorem avH(w:World)(k:Nat):Tj w k (.pointer (some ⟨w.heap.size+1+1,0,none⟩)) (((w.alloc (.cells (eB k (.slice none 0 0)) 148)).alloc (.cells #[I k,.slice (some ⟨w.heap.size,0,none⟩) k k] 146)).alloc (.cells #[.pointer (some ⟨w.heap.size+1,0,none⟩)] 81)).drew:=by
 refine⟨w.heap.size,w.heap.size+1,w.heap.size+1+1,rfl,ab,ab,ab,ab,ab,ab,(((az.new w _ 148).alloc _).alloc _).drew,?_,?_,((((Below.refl _ w).alloc ax _).alloc ai _).alloc bq _).drew⟩
 ·have:=((az.new (w.alloc (.cells (eB k (.slice none 0 0)) 148)) #[I k,.slice (some ⟨w.heap.size,0,none⟩) k k] 146).alloc (.cells #[.pointer (some ⟨w.heap.size+1,0,none⟩)] 81)).drew;simpa using this
 ·have:=(az.new ((w.alloc (.cells (eB k (.slice none 0 0)) 148)).alloc (.cells #[I k,.slice (some ⟨w.heap.size,0,none⟩) k k] 146)) #[.pointer (some ⟨w.heap.size+1,0,none⟩)] 81).drew;simpa using this
theorem avI(w:World)(k:Nat):Tj w k (.pointer (some ⟨w.heap.size+1,0,none⟩)) (((w.alloc (.cells (eB k (.slice none 0 0)) 148)).alloc (.cells #[.pointer (some ⟨w.heap.size+1+1,0,none⟩)] 81)).alloc (.cells #[I k,.slice (some ⟨w.heap.size,0,none⟩) k k] 146)).drew:=by
 refine⟨w.heap.size,w.heap.size+1+1,w.heap.size+1,rfl,ab,ab,ab,ab,ab,ab,(((az.new w _ 148).alloc _).alloc _).drew,?_,?_,((((Below.refl _ w).alloc ax _).alloc ai _).alloc bq _).drew⟩
 ·have:=(az.new ((w.alloc (.cells (eB k (.slice none 0 0)) 148)).alloc (.cells #[.pointer (some ⟨w.heap.size+1+1,0,none⟩)] 81)) #[I k,.slice (some ⟨w.heap.size,0,none⟩) k k] 146).drew;simpa using this
 ·have:=((az.new (w.alloc (.cells (eB k (.slice none 0 0)) 148)) #[.pointer (some ⟨w.heap.size+1+1,0,none⟩)] 81).alloc (.cells #[I k,.slice (some ⟨w.heap.size,0,none⟩) k k] 146)).drew;simpa using this
theorem avJ(w:World)(k:Nat):Tj w k (.pointer (some ⟨w.heap.size,0,none⟩)) (((w.alloc (.cells #[.pointer (some ⟨w.heap.size+1+1,0,none⟩)] 81)).alloc (.cells (eB k (.slice none 0 0)) 148)).alloc (.cells #[I k,.slice (some ⟨w.heap.size+1,0,none⟩) k k] 146)).drew:=by
 refine⟨w.heap.size+1,w.heap.size+1+1,w.heap.size,rfl,ab,ab,ab,ab,ab,ab,?_,?_,(((az.new w _ 81).alloc _).alloc _).drew,((((Below.refl _ w).alloc ax _).alloc ai _).alloc bq _).drew⟩
 ·have:=((az.new (w.alloc (.cells #[.pointer (some ⟨w.heap.size+1+1,0,none⟩)] 81)) (eB k (.slice none 0 0)) 148).alloc (.cells #[I k,.slice (some ⟨w.heap.size+1,0,none⟩) k k] 146)).drew;simpa using this
 ·have:=(az.new ((w.alloc (.cells #[.pointer (some ⟨w.heap.size+1+1,0,none⟩)] 81)).alloc (.cells (eB k (.slice none 0 0)) 148)) #[I k,.slice (some ⟨w.heap.size+1,0,none⟩) k k] 146).drew;simpa using this
end
section
open Go.RowKit Go.Shelf
attribute [local go_sem] Oper.semAt_some
theorem avK:(Tryz.prog.info? 148).map (fun i=>(i.zero,i.size,i.bytes))=some (some (.slice none 0 0),1,24):=ah
theorem ahI:(Tryz.prog.info? 222).map (fun i=>(i.zero,i.size,i.bytes))=some (some (.int .u64 0),1,8):=ah
theorem avL (n:Nat)(L:List (Nat×Nat))(v:Value)(w:World)(hL:Flat w 2 v L.length (L.flatMap pc))(hn:n<=64)(rp:∀p∈L,p.1<p.2/\p.2<n)(Lt:L.length<=10000)
  (f:Nat->Nat->Bool) (hf:∀a<n,∀k<n,f a k=(aQ L a).any fun b=>b==k||f b k):
  Calls Tryz.prog 67 #[I n,v] w fun e w'=>∃p,e=.returned (.tuple #[p,I 0])/\AG w' p n f/\aw w w':=by
 obtain⟨ka,ca,rfl,gz⟩:=hL.open
 have yW:=fun W=>AJ (P:=Tryz.prog) 79 22 (.slice none 0 0) 24 n Tryz.underlying79 ahB rfl ab ab W
 have Tm:=fun W=>AJ (P:=Tryz.prog) 22 3 (.int .i64 0) 8 n Tryz.underlying22 rT rfl ab ab W
 have Hf:=ae hf;clear hf;refine(Gk (n:=5)).1 ?_;refine callsIn_of_wp_marks Tryz.func67 rfl trivial ?_ rfl;simp only[Tryz.ntmps67,zK,List.length_cons,List.length_nil,Nat.reduceAdd,Nat.reduceSub,JY,JZ,Kd,Kc,List.nil_append,List.cons_append];refine wpIn_wide.2 ?_;go_wp2_with fail
 obtain⟨W0,EJ,CA,hbG,EK,hbW,oh,vN⟩:∃W0:World,W0=(((w.alloc (.cells #[I n] 3)).alloc (.cells (eB n (.slice none 0 0)) 22)).alloc (.cells #[.slice (some ⟨w.heap.size+1,0,none⟩) n n] 79)).alloc (.cells (eB n (.int .i64 0)) 3)/\
   az W0 w.heap.size #[I n]/\az W0 (w.heap.size+1) (eB n (.slice none 0 0))/\az W0 (w.heap.size+1+1) #[.slice (some ⟨w.heap.size+1,0,none⟩) n n]/\az W0 (w.heap.size+1+1+1) (eB n (.int .i64 0))/\aw w W0/\W0.heap.size=w.heap.size+1+1+1+1:=by
  refine⟨_,rfl,(((az.new w #[I n] 3).alloc _).alloc _).alloc _,?_,?_,?_,((((Below.refl _ w).alloc ax _).alloc ai _).alloc bq _).alloc bq _,ai⟩
  ·have:=((az.new (w.alloc (.cells #[I n] 3)) (eB n (.slice none 0 0)) 22).alloc (.cells #[.slice (some ⟨w.heap.size+1,0,none⟩) n n] 79)).alloc (.cells (eB n (.int .i64 0)) 3);simpa using this
  ·have:=(az.new ((w.alloc (.cells #[I n] 3)).alloc (.cells (eB n (.slice none 0 0)) 22)) #[.slice (some ⟨w.heap.size+1,0,none⟩) n n] 79).alloc (.cells (eB n (.int .i64 0)) 3);simpa using this
  ·have:=az.new (((w.alloc (.cells #[I n] 3)).alloc (.cells (eB n (.slice none 0 0)) 22)).alloc (.cells #[.slice (some ⟨w.heap.size+1,0,none⟩) n n] 79)) (eB n (.int .i64 0)) 3;simpa using this
 rw[<-EJ];clear EJ;go_loopw [34] (fun i wr=>∃k:Nat,k<=L.length/\i=.int .i64 k/\aw W0 wr) (fun i _=>L.length-(intOf i).toNat)
 case atStart=>exact⟨0,ab,rfl,Below.refl _ _⟩
 case round=>
  obtain⟨k,hk,rfl,hB⟩:=hrel;have Lu:=(CA.kept hB ab).cell;by_cases hlt:k<L.length
  ·have pK:=rp L[k] (bP hlt);obtain⟨b,o,rfl,x0,x1⟩:=Zo ((hL.kept oh ax).kept hB ax) (i:=k) (x:=L[k]) (by simp[hlt])
   have fc:b<wr.heap.size:=by simpa using iT _ _ x0
   have EL:w.heap.size<wr.heap.size:=by have:=hB.size;omega
   have Zy:=hB.size;go_wp2_with fail;go_roundw
   case rel=>exact⟨k+1,ab,by go_num,hB.alloc Zy _⟩
   case measure=>simp[intOf];omega
  ·clear Lu yW Tm;have Zy:=hB.size;have ahJ:=CA.kept hB ab;have ahK:=EK.kept hB ab;have ahL:=pJ.start (B:=wr.heap.size) (hbG.kept hB ab) (hbW.kept hB ab) ab ab ab ax;have OB:aw w wr:=oh.trans (hB.mono oh.size);have Lv:w.heap.size+1+1+1<wr.heap.size:=ab
   obtain⟨w1,rfl⟩:∃w1:World,w1=wr:=⟨_,rfl⟩
   clear hB CA EK hbG hbW oh vN Zy;go_wp2_with fail;go_loopw [56] (fun i wr=>∃(k:Nat) (arr wa:Array Value),k<=L.length/\i=.int .i64 k/\pJ w1.heap.size (w.heap.size+1) (w.heap.size+1+1+1) n wr (L.take k) arr wa/\aw w wr/\az wr w.heap.size #[I n]/\az wr (w.heap.size+1+1) #[.slice (some ⟨w.heap.size+1,0,none⟩) n n]) (fun i _=>L.length-(intOf i).toNat)
   case atStart=>exact⟨0,_,_,ab,rfl,ahL,OB,ahJ,ahK⟩
   case round=>
    clear ahJ ahK ahL OB;obtain⟨k,arr,wa,hk,rfl,jX,hB,CA,EK⟩:=hrel;by_cases hlt:k<L.length
    ·obtain⟨x,hx⟩:∃x,L[k]? =some x:=⟨L[k],by simp[hlt]⟩
     have pK:=rp x (eE hx);obtain⟨b,o,rfl,x0,x1⟩:=Zo (hL.kept hB ax) (i:=k) (x:=x) hx
     have fc:b<wr.heap.size:=by simpa using iT _ _ x0
     have rm:x.1<n:=ab;have yV:x.2<n:=pK.2;obtain⟨va,dU,bl⟩:=jX.row x.1 ab
     have db:L.take (k+1)=L.take k++[x]:=by rw[DB,hx];rfl
     have hzW:=hB.size;have ju:=jX.hB;have hcG:=(jX.bn.cell x.1).trans dU;have hcT:wr.cell? ⟨w.heap.size+1+1,0,none⟩=some (.slice (some ⟨w.heap.size+1,0,none⟩) n n):=EK.cell 0;have cF:w.heap.size+1<wr.heap.size:=ab;have fO:w.heap.size+1+1<wr.heap.size:=ab;have xp:w.heap.size+1+1+1<wr.heap.size:=ab
     have AM:(aQ (L.take k) x.1).length<=10000:=by
      unfold aQ;rw[dE];exact bj (nQ _ _) (by rw[dN];omega)
     have uW:va.ownBlock=none\/∃g,va.ownBlock=some g/\w1.heap.size<=g/\g<wr.heap.size:=EI bl
     have yX:∀x,(x<w1.heap.size\/wr.heap.size<=x)->va.ownBlock≠some x:=fun x hx e=>by
      rcases uW with h0|⟨g,h0,h1,h2⟩
      ·rw[h0] at e;cases e
      ·rw[h0] at e;cases e;omega
     have yY:((wr.alloc (.cells #[I x.1,I x.2] 84)).alloc (.cells #[I x.2] 3)).heap[wr.heap.size+1]? =some (.cells #[I x.2] 3 (0,0)):=by
      have:=dV (wr.alloc (.cells #[I x.1,I x.2] 84)) (.cells #[I x.2] 3);simpa using this
     have hX:az ((wr.alloc (.cells #[I x.1,I x.2] 84)).alloc (.cells #[I x.2] 3)) wr.heap.size #[I x.1,I x.2]:=(az.new _ _ _).alloc _;have Ir:aw wr ((wr.alloc (.cells #[I x.1,I x.2] 84)).alloc (.cells #[I x.2] 3)):=((Below.refl _ _).alloc ax _).alloc ai _;have ahM:=jX.kept Ir;have jY:=jX.wt _ yV;have OC:=ae ((bl.alloc (.cells #[I x.1,I x.2] 84)).alloc (.cells #[I x.2] 3));have yZ:=ae yY;have HX:=ae hX;have Lw:=ae ahM;have EM:=ae Ir;have iZ:=yX (w.heap.size+1) ab;have pI:=yX (w.heap.size+1+1+1) ab;have yQ:=yX wr.heap.size ab;have Zz:=ae iZ;have Hv2:=ae pI;have ZA:=ae yQ;have OD:=yX (w.heap.size+1+1) ab;have Hv4:=ae OD;have hv5:=yX w.heap.size ab;have Hv5:=ae hv5
     have vO:fZ (L.take k) x.2<=10000:=by
      unfold fZ;exact bj Ka (by rw[dE,dN];omega)
     have mu:=ae dU;have Lx:=ae jY;have jd:=ae bl;have vP:=ae db;have Hx:=ae hx;have aGj:¬(w.heap.size+1=wr.heap.size):=ab;have aGk:¬(wr.heap.size=w.heap.size+1):=ab;clear yY hX Ir ahM yX iZ pI yQ OD hv5 dU jY bl db uW hx;go_wp2_with fail
     obtain⟨wx,pL⟩:∃wx,wx=wr.alloc (.cells #[I x.1,I x.2] 84):=⟨_,rfl⟩
     have dT:wx.cell? ⟨w.heap.size+1+1,0,none⟩=some (.slice (some ⟨w.heap.size+1,0,none⟩) n n):=by rw[pL];exact(EK.alloc _).cell 0
     have dG:wx.cell? ⟨w.heap.size+1,x.1,none⟩=some va:=by rw[pL];exact((jX.bn.alloc _).cell x.1).trans mu.out
     have ZB:wx.cell? ⟨wr.heap.size,0,none⟩=some (I x.1):=by rw[pL];exact(az.new _ _ _).cell 0
     have ZC:wx.cell? ⟨wr.heap.size,1,none⟩=some (I x.2):=by rw[pL];exact(az.new _ _ _).cell 1
     have HN:Hid (az (wx.alloc (.cells #[I x.2] 3)) w.heap.size #[I n]):=ae (by rw[pL];exact(CA.alloc _).alloc _);have HT:Hid (az (wx.alloc (.cells #[I x.2] 3)) (w.heap.size+1+1) #[.slice (some ⟨w.heap.size+1,0,none⟩) n n]):=ae (by rw[pL];exact(EK.alloc _).alloc _);rw[<-pL] at yZ HX Lw EM OC⊢;have eT:(wx.alloc (.cells #[I x.2] 3)).cell? ⟨w.heap.size+1+1,0,none⟩=some (.slice (some ⟨w.heap.size+1,0,none⟩) n n):=HT.out.cell 0;have eG:(wx.alloc (.cells #[I x.2] 3)).cell? ⟨w.heap.size+1,x.1,none⟩=some va:=(Lw.out.bn.cell x.1).trans mu.out;have ZD:(wx.alloc (.cells #[I x.2] 3)).cell? ⟨wr.heap.size,0,none⟩=some (I x.1):=HX.out.cell 0;have ZE:(wx.alloc (.cells #[I x.2] 3)).cell? ⟨wr.heap.size,1,none⟩=some (I x.2):=HX.out.cell 1
     have hzx:wx.heap.size=wr.heap.size+1:=by rw[pL];simp
     have Hwx:=ae pL;clear pL;refine kO 12 [(0,true),(1,true),(2,true),(3,true),(4,true),(5,true),(6,true),(7,true),(8,true),(9,true),(10,false),(11,false)] (fun w'=>w'.cell? ⟨w.heap.size+1+1,0,none⟩=some (.slice (some ⟨w.heap.size+1,0,none⟩) n n)/\w'.cell? ⟨wr.heap.size,0,none⟩=some (I x.1)/\w'.cell? ⟨wr.heap.size,1,none⟩=some (I x.2)/\w'.cell? ⟨w.heap.size+1,x.1,none⟩=some va) ah rfl rfl ah ⟨dT,ZB,ZC,dG⟩ ?_
     repeat refine gA ?_
     (refine kQ (fun K hK=> ?_);go_simp;refine hK.out _ _ ?_ ?_)
     ·exact⟨eT,ZD,ZE,eG⟩
     clear hK K;refine cJ ?_;refine kQ (fun K hK=> ?_);refine Gp eD _ _ 22 eD 3 _ 1 8 Tryz.underlying22 rT rfl ab ab w1.heap.size va (aQ (L.take k) x.1).length (nv (aQ (L.take k) x.1)) eD OC.out (wr.heap.size+1) 1 1 #[I x.2] 3 eD yZ.out rfl rfl ab ab Lw.out.hB ?_;intro g cap w2 fQ gE je ug xD bg;have OE:=Lw.out.bn.drew.grown xD Zz.out;have Iu:=Lw.out.bw.drew.grown xD Hv2.out;have hX2:=HX.out.drew.grown xD ZA.out;have cG2:=(OE.cell x.1).trans mu.out;have fG2:=OE.frozen x.1;have cW2:=(Iu.cell x.2).trans Lx.out;have fW2:=Iu.frozen x.2;have ZF:w2.cell? ⟨wr.heap.size,0,none⟩=some (I x.1):=hX2.cell 0;have cX2:w2.cell? ⟨wr.heap.size,1,none⟩=some (I x.2):=hX2.cell 1;have cT2:w2.cell? ⟨w.heap.size+1+1,0,none⟩=some (.slice (some ⟨w.heap.size+1,0,none⟩) n n):=(HT.out.drew.grown xD Hv4.out).cell 0;refine hK.out _ _ ⟨cT2,ZF,cX2,cG2⟩ ?_;clear hK K;refine cJ ?_;refine kP ?_;go_wp2_with fail;refine NoPanic.normal ?_;go_wp2_with fail;go_roundw
     case rel=>
      have hst:=Lw.out.drew.step x rm yV va mu.out g cap ug xD (je.imp id (fun e=>by rw[e];exact cK _)) bg.size;have tY:aw w w2:=(hB.trans (EM.out.drew.mono ab)).trans (bg.mono ab);have hN2:=HN.out.drew.grown xD Hv5.out;have fR:=HT.out.drew.grown xD Hv4.out;rw[show((fZ (L.take k) x.2+1:Nat):Int)=(fZ (L.take k) x.2:Int)+1 from ab] at hst;exact⟨k+1,_,_,ab,by go_num,by rw[vP.out];exact hst,(tY.setCell ai _).setCell bq _,(hN2.setOther _ _ ai).setOther _ _ bq,(fR.setOther _ _ ai).setOther _ _ ai⟩
     case measure=>simp[intOf];omega
    ·have hkL:k=L.length:=ab;have ZG:=jX;rw[hkL,fK] at ZG;have Lu:=CA.cell 0;have aGl:=jX.hB;have aGm:=hB.size
     have vO:∀b,fZ L b<=10000:=fun b=>by
      unfold fZ;exact bj Ka (by rw[dE];omega)
     have Tn:=ae ZG;have Hwl:=ae vO;have Lm:=jX.lw;have aGn:=jX.ln;clear jX ZG vO hkL
     obtain⟨w3,rfl⟩:∃w3:World,w3=wr:=⟨_,rfl⟩
     go_wp2_with fail;go_loopw [82,12] (fun i v wr=>∃k:Nat,k<=n/\i=.int .i64 k/\wr.ownsRow w3.heap.size 3 1 v ((List.range k).filter fun i=>decide (fZ L i=0)).length (nv ((List.range k).filter fun i=>decide (fZ L i=0)))/\aw w3 wr) (fun i _ _=>n-(intOf i).toNat)
     case atStart=>exact⟨0,ab,rfl,ko _ _ _ _,Below.refl _ _⟩
     case round=>
      obtain⟨k,hk,rfl,aS,fD⟩:=hrel;by_cases hlt:k<n
      ·have Ca:=fD.size;have cW:=(Tn.out.ahE.kept fD ab).cell hlt;have cW1:=cW.1;have cM:((List.range k).filter fun i=>decide (fZ L i=0)).length<=10000:=bj (nQ _ _) (by rw[BG];omega);have Ly:=ae (avp (fun i=>decide (fZ L i=0)) k);have yY:(wr.alloc (.cells #[I k] 3)).heap[wr.heap.size]? =some (.cells #[I k] 3 (0,0)):=dV _ _;have yZ:=ae yY;clear cW yY;by_cases hz:fZ L k=0
       ·have Iv:(((fZ L k:Nat):Int)==0)=true:=by rw[hz];rfl
        have Hz:=ae hz;clear hz
        go_wp2_with (at_builtin;go_must (refine tB rfl _ _ 22 rfl 3 _ 1 8 Tryz.underlying22 rT rfl ab ab w3.heap.size _ _ _ rfl (aS.alloc _) wr.heap.size 1 1 #[I k] 3 rfl yZ.out rfl rfl ab ab bq ?_);intro g cap w4 fQ gE je ZH avM lN)
        go_roundw
        case rel=>
         refine⟨k+1,ab,by go_num,?_,(fD.alloc Ca _).trans lN⟩
         have hd:decide (fZ L k=0)=true:=by rw[Hz.out];rfl
         rw[Ly.out,hd,aq rfl,Lq,List.length_append];exact ZH
        case measure=>simp[intOf];omega
       ·have Iv:(((fZ L k:Nat):Int)==0)=false:=by rw[mE];omega
        have Hz:=ae hz;clear hz;go_wp2_with fail;go_roundw
        case rel=>
         refine⟨k+1,ab,by go_num,?_,fD⟩
         have hd:decide (fZ L k=0)=false:=by simp[Hz.out]
         rw[Ly.out,hd,af ai,rS];exact aS
        case measure=>simp[intOf];omega
      ·obtain rfl:k=n:=ab;have Lz:=rh.start (aQ L) k
       have OG:((List.range k).filter fun i=>decide ((sJ (aQ L) k).count i=0))=(List.range k).filter fun i=>decide (fZ L i=0):=by
        congr 1;funext i;rw[ahD k i L fun p hp=>by have:=rp p hp;omega]
       rw[OG] at Lz
       have gP:QM k (w.heap.size+1+1+1) L w w3 wr ((List.range k).filter fun i=>decide (fZ L i=0)) [] u12:=
        ⟨cZ.below fD ax,(Tn.out.ahE.kept fD ab).congr (fun b _=>ai),aS,hB.trans (fD.mono ab)⟩
       have Hq0:=ae Lz;have zb:=ae gP;have avN:=(CA.kept fD ab).cell 0;have HbN:=ae CA;have HbT:=ae EK;clear Lz gP OG aS fD Lu;clear CA EK;go_wp2_with fail;go_loopw [14,12] (fun i v wr=>∃(q:Nat) (row:List Nat),q<=row.length/\i=.int .i64 q/\rh (aQ L) k row ((row.take q).flatMap (aQ L))/\QM k (w.heap.size+1+1+1) L w w3 wr row ((row.take q).flatMap (aQ L)) v) (fun i _ _=>k-(intOf i).toNat)
       case atStart=>exact⟨0,_,BM _,rfl,Hq0.out,zb.out⟩
       case round=>
        clear avN;obtain⟨q,row,hq,rfl,oW,gP⟩:=hrel;have eF:=oW.length_le;have dx:=Flat.eu gP.own;obtain⟨ra,rc,rfl,_⟩:=dx.open;by_cases hlt:q<row.length
        ·obtain⟨a,ha⟩:∃a,row[q]? =some a:=⟨row[q],by simp[hlt]⟩
         have xC:=oW.lt a (eE ha);obtain⟨va,Iw⟩:=Tn.out.read xC;obtain⟨g1,g2⟩:=Iw wr gP.ag;obtain⟨vb,vc,rfl,_⟩:=g2.open;have mu:=ae Iw;clear Iw;obtain⟨rb,ro,rfl,uX⟩:=Ti dx ha;have ahN:=(gP.ag.2 (w.heap.size+1+1) 0 ab ab).trans (HbT.out.cell 0);have dT:wr.cell? ⟨w.heap.size+1+1,0,none⟩=some (.slice (some ⟨w.heap.size+1,0,none⟩) k k):=ahN
         have uh:(aQ L a).length<=10000:=by
          unfold aQ;rw[dE];exact bj (nQ _ _) ab
         have Ix:=ae g2;have vI:=ae oW;have zb:=ae gP;have Ha:=ae ha;have Ln:=ae dx;clear g2 oW gP ha dx ahN;go_wp2_with fail;refine kO 9 [(0,true),(1,true),(2,true),(3,true),(4,true),(5,true),(6,true),(7,true),(8,true)] (fun w'=>w'.cell? ⟨w.heap.size+1+1,0,none⟩=some (.slice (some ⟨w.heap.size+1,0,none⟩) k k)/\w'.cell? ⟨rb,ro+q,none⟩=some (I a)/\w'.cell? ⟨w.heap.size+1,a,none⟩=some (.slice vb (aQ L a).length vc)) ah rfl rfl ah ⟨dT,uX,g1⟩ ?_
         iterate 9 refine gA ?_
         refine kP ?_;go_wp2_with fail;refine NoPanic.normal ?_;clear dT uX g1;go_wp2_with fail
         obtain⟨wo,rfl⟩:∃wo:World,wo=wr:=⟨_,rfl⟩
         go_loopw [109,12] (fun jv v wr=>∃(j:Nat) (row:List Nat),j<=(aQ L a).length/\jv=.int .i64 j/\row[q]? =some a/\rh (aQ L) k row ((row.take q).flatMap (aQ L)++(aQ L a).take j)/\QM k (w.heap.size+1+1+1) L w w3 wr row ((row.take q).flatMap (aQ L)++(aQ L a).take j) v) (fun jv _ _=>(aQ L a).length-(intOf jv).toNat)
         case atStart=>exact⟨0,row,ab,rfl,Ha.out,by rw[List.take_zero,rS];exact vI.out,by rw[List.take_zero,rS];exact zb.out.drew⟩
         case round=>
          clear Ix vI zb Ha Ln eF hlt hq;obtain⟨j,row,hj,rfl,ha,oW,gP⟩:=hrel;have eF:=oW.length_le;have dx:=Flat.eu gP.own;obtain⟨ra,rc,rfl,_⟩:=dx.open;have fC:=(bK.1 ha).1;by_cases hlt:j<(aQ L a).length
          ·obtain⟨x,hx⟩:∃x,(aQ L a)[j]? =some x:=⟨(aQ L a)[j],by simp[hlt]⟩
           have hxk:=Cz rp (eE hx);have uf:=hxk.2;obtain⟨g1,g2⟩:=mu.out wr gP.ag;obtain⟨xb,xo,rfl,yJ⟩:=Ti g2 hx;obtain⟨ey,ik,Iy,ZI⟩:=oW.step q a ha j x hx uf rfl;rw[ahD k x L fun p hp=>by have:=rp p hp;omega] at ik Iy ZI
           obtain⟨c,hc⟩:∃c,fZ L x-((row.take q).flatMap (aQ L)++(aQ L a).take j).count x=c+1:=⟨_,(Nat.succ_pred_eq_of_pos ab).symm⟩
           have dB:c<=10000:=by have:=Hwl.out x;omega
           have hw:=gP.wt.cell uf;simp only[hc] at hw;rw[show((c+1:Nat):Int)=(c:Int)+1 from ab] at hw;obtain⟨py,jo⟩:=hw;have iK:=gP.set x c hc ab ab
           have htj:(aQ L a).take (j+1)=(aQ L a).take j++[x]:=by rw[DB,hx];rfl
           have yY:((wr.setCell ⟨w.heap.size+1+1+1,x,none⟩ (I c)).alloc (.cells #[I x] 3)).heap[wr.heap.size]? =some (.cells #[I x] 3 (0,0)):=by
            have:=dV (wr.setCell ⟨w.heap.size+1+1+1,x,none⟩ (I c)) (.cells #[I x] 3);simpa using this
           have LA:=gP.ag.1;have ZJ:=ae iK;have yZ:=ae yY;have Hc:=ae hc;have Tp:=ae htj;have LB:=ae Iy;have Hs4:=ae ZI;have Ha:=ae ha;have EN:=ae ik;clear iK yY hc htj ey ik Iy ZI ha g1 g2 hx oW gP dx;by_cases hz:c=0
           ·have Iv:((c:Int)==0)=true:=by rw[hz];rfl
            have Hz:=ae hz;clear hz
            go_wp2_with (at_builtin;go_must (refine tB rfl _ _ 22 rfl 3 _ 1 8 Tryz.underlying22 rT rfl ab ab w3.heap.size _ _ _ rfl (ZJ.out.own.alloc _) wr.heap.size 1 1 #[I x] 3 rfl yZ.out rfl rfl ab ab bq ?_);intro g cap w4 fQ gE je ZH avM lN)
            go_roundw
            case rel=>
             have ZK:=LB.out (by have h1:=Hc.out;have h2:=Hz.out;have h3:=EN.out;omega);refine⟨j+1,row++[x],ab,by go_num,by rw[lT fC];exact Ha.out,?_,?_⟩
             ·rw[uE ab,Tp.out,<-List.append_assoc];exact ZK
             ·rw[uE ab,Tp.out,<-List.append_assoc];exact(ZJ.out.kept ((Below.refl _ _).alloc ax _) ab).app x ab ab ZH lN
            case measure=>simp[intOf];omega
           ·have Iv:((c:Int)==0)=false:=by rw[mE];omega
            have Hz:=ae hz;clear hz;go_wp2_with fail;go_roundw
            case rel=>
             have ZK:=Hs4.out (by have h1:=Hc.out;have h2:=Hz.out;have h3:=EN.out;omega);refine⟨j+1,row,ab,by go_num,Ha.out,?_,?_⟩
             ·rw[Tp.out,<-List.append_assoc];exact ZK
             ·rw[Tp.out,<-List.append_assoc];exact ZJ.out
            case measure=>simp[intOf];omega
          ·have iL:j=(aQ L a).length:=ab
           have htq:(row.take (q+1)).flatMap (aQ L)=(row.take q).flatMap (aQ L)++(aQ L a).take j:=by
            rw[DB,ha,oY,iL,fK];simp
           rw[<-htq] at oW gP;have vI:=ae oW;have zb:=ae gP;clear oW gP iL htq ha dx;go_wp2_with fail;go_roundw
           case rel=>exact⟨q+1,row,ab,by go_num,vI.out,zb.out⟩
           case measure=>simp[intOf];omega
        ·have sK:q=row.length:=ab
         have ff:(row.take q).flatMap (aQ L)=row.flatMap (aQ L):=by rw[sK,fK]
         rw[ff] at oW gP
         have hrn:=oW.length fun a _ b hb=>(Cz rp hb).1
         have Lu:=(gP.ag.2 w.heap.size 0 ab ab).trans (HbN.out.cell 0);have zc:wr.cell? ⟨w.heap.size+1+1,0,none⟩=some (.slice (some ⟨w.heap.size+1,0,none⟩) k k):=(gP.ag.2 (w.heap.size+1+1) 0 ab ab).trans (HbT.out.cell 0);have aGo:=gP.ag.1;have EL:w.heap.size<wr.heap.size:=ab;have aGp:¬row.length<k:=ab
         have yW:=fun W=>AJ (P:=Tryz.prog) 144 148 (.slice none 0 0) 24 k Tryz.underlying144 avK rfl ab ab W
         have vI:=ae oW;have zb:=ae gP;have Hrn:=ae hrn;have Ln:=ae dx;have HdT:=ae zc;clear oW gP ff sK hrn dx hq zc;go_upto_region 38 with fail
         obtain⟨w4,rfl⟩:∃w4:World,w4=wr:=⟨_,rfl⟩
         go_cut [17] from 133 (fun v wc=>Tj w4 k v wc)
         case first=>
          go_region
          all_goals
           go_wp2_with fail;go_meet
           first|exact avH w4 k|exact avI w4 k|exact avJ w4 k
         case rest=>
          clear yW;obtain⟨ga,gp,gv,rfl,a1,a2,a3,a4,a5,a6,hA,hP,hV,eI⟩:=hcut;go_wp2_with fail;refine(backward _ _ _ _).mono ?_;rintro e w6 ⟨rfl,rfl⟩;go_wp2_with fail;refine(wpIn_wide (n:=5)).1 ?_
          obtain⟨fr,avO⟩:∃fr:List (Fin k),fv fr=row:=⟨row.pmap (fun a h=>⟨a,h⟩) vI.out.lt,by simp[fv,List.map_pmap]⟩
          subst avO;have LC:=eI.size
          obtain⟨W6,Iz⟩:∃W6,W6=wc.alloc (.cells #[.slice ra (fv fr).length rc] 22):=⟨_,rfl⟩
          have ZL:W6.heap.size=wc.heap.size+1:=by rw[Iz];simp
          have rq:aw wc W6:=by rw[Iz];exact(Below.refl _ _).alloc ax _
          have LD:aw w4 W6:=eI.trans (rq.mono LC);have ZM:aw w W6:=zb.out.be.trans (LD.mono zb.out.be.size);have hA6:=hA.kept rq hA.lt;have ZN:=hP.kept rq hP.lt;have hV6:=hV.kept rq hV.lt
          have ahO:W6.cell? ⟨wc.heap.size,0,none⟩=some (.slice ra (fv fr).length rc):=by rw[Iz];exact(az.new wc _ 22).cell 0
          have aGq:=hA.lt;have aGr:=hP.lt;have aGs:=hV.lt;have ahP:=Ln.out.kept LD ax;have qE:=EI zb.out.own;have ahQ:Hid (∀W,iF (fun b=>b<W6.heap.size/\b≠ga) W6 W->W6.heap.size<=W.heap.size->cZ (w.heap.size+1+1+1) w3 W):=ae (fun W hK hs=>⟨ab,fun b o hb hg=>((hK b o ⟨ab,ab⟩).trans (LD.cell (p:=⟨b,o,none⟩) bq)).trans (zb.out.ag.2 b o hb hg)⟩)
          have ahR:=avu (5-1) ab fr wc.heap.size _ W6 (fun b=>b<W6.heap.size/\b≠ga) ahO ahP ab (fun b hb=>hb.1) ⟨ab,ab⟩ (fun b o m c e=>by
           rcases qE with h0|⟨g,h0,h1,h2⟩
           ·rw[e] at h0;cases h0
           ·rw[e] at h0
            have:b=g:=by simpa [Value.ownBlock] using h0
            omega)
          have cV6:=hV6.cell 0;have cP6:=ZN.cell 1;have ahS:=ZN.cell 0;have cN6:W6.cell? ⟨w.heap.size,0,none⟩=some (I k):=(LD.cell (p:=⟨w.heap.size,0,none⟩) bq).trans Lu;have cT6:W6.cell? ⟨w.heap.size+1+1,0,none⟩=some (.slice (some ⟨w.heap.size+1,0,none⟩) k k):=(LD.cell (p:=⟨w.heap.size+1+1,0,none⟩) bq).trans HdT.out;have avP:=ae ahR;have HA6:=ae hA6;have ZO:=ae cV6;have ZP:=ae cP6;have avQ:=ae ahS;have HN6:=ae cN6;have HT6:=ae cT6;have Hob:=ae qE;have avR:=ae ZM;have hw6:=ZM.size;have Hz6:=ae ZL;rw[<-Iz];clear ahR hA6 ZN hV6 ahO ahP cV6 cP6 ahS cN6 cT6 qE LD rq ZM hA hP hV eI Lu
          refine wpIn_rangeFunc_ownF rfl ab (gf:=176) (lb:=#[.pointer (some ⟨wc.heap.size,0,none⟩)]) rfl trivial (enters_of Tryz.func176 ah rfl)
           avP.out (fun h k=>iF.trans h k) (fun W l o o' hl _ _ _=>iF.putObj W l o' (fun h=>by have:=h.1;omega)) (Below.refl _ _) (fun _=>rfl)
           (fun(pre:List (Fin k×Nat)) W=>Zx k ga L w W6 (pre.map fun x=>x.1.val) W)
           (fun _ _ _=>False) (avG k ga L w W6 hw6) (fun _ _ _ _ _ hs _ _=>hs)
           ⟨_,HA6.out,vM.start _ _ _,iF.refl _ _,cK _,avR.out⟩ ?a1 ?assign ?body ?done ?stop
          case assign=>
           intro l x W K hK;dsimp only[Zq]
           gi_wp2
           exact hK
          case body=>
           rintro l pre x W ⟨arr,hb,eL,gu,hsz,Tq⟩ _;have cV:W.cell? ⟨gv,0,none⟩=some (.pointer (some ⟨gp,0,none⟩)):=(gu gv 0 ⟨ab,ab⟩).trans ZO.out;have LF:W.cell? ⟨gp,1,none⟩=some (.slice (some ⟨ga,0,none⟩) k k):=(gu gp 1 ⟨ab,ab⟩).trans ZP.out;have cN:W.cell? ⟨w.heap.size,0,none⟩=some (I k):=(gu w.heap.size 0 ⟨ab,ab⟩).trans HN6.out;have Tr:=x.1.isLt
           have AP:IntKind.i64.wrap ((IntKind.i64.wrap ((k:Int)+63)).tdiv 64)=1:=by
            rw[IntWalk.i64_in ((k:Int)+63) ab,Wn ab,show((k:Int)+63)/64=1 by omega];rfl
           have avS:∀W,(Instr.makeSlice 148 (.int .i64 1) (.int .i64 1)).run Tryz.prog W=.ok (.slice (some ⟨W.heap.size,0,none⟩) 1 1) (W.alloc (.cells #[.int .u64 0] 222)):=fun W=>AJ (P:=Tryz.prog) 148 222 (.int .u64 0) 8 1 Tryz.underlying148 ahI rfl ab ab W
           obtain⟨vo,ZQ⟩:∃vo,arr[x.1.val]? =some vo:=⟨arr[x.1.val]'(by rw[eL.1];exact Tr),ai⟩
           have aGt:ga<W.heap.size:=ab;have cT:=hb.alloc (.cells #[.int .u64 0] 222);have cG:=(cT.cell x.1.val).trans ZQ;have fG:=cT.frozen x.1.val;have hBl:aw W (W.alloc (.cells #[.int .u64 0] 222)).drew:=((Below.refl _ W).alloc ax _).drew;have ZR:=ae hBl;have Hb1:=ae cT;have Ts:=ae eL;have Tt:=ae gu;have Hvo:=ae ZQ;have Hbe:=ae Tq;have Hb:=ae hb;clear hBl cT eL gu ZQ Tq hb
           gi_wp2
           refine adQ 9 [(0,true),(1,true),(2,true),(3,true),(4,true),(5,true),(6,true),(7,true),(8,false)] (fun w'=>w'.cell? ⟨gv,0,none⟩=some (.pointer (some ⟨gp,0,none⟩))/\w'.cell? ⟨gp,1,none⟩=some (.slice (some ⟨ga,0,none⟩) k k)/\w'.cell? ⟨w.heap.size,0,none⟩=some (I k)) ah rfl rfl ah ah ⟨cV,LF,cN⟩ ?_
           iterate 8 refine Kn ?_
           refine WB (fun K hK=> ?_);go_simp;refine hK.out _ _ ⟨bB ZR.out ax cV,bB ZR.out ax LF,bB ZR.out ax cN⟩ ?_;clear hK K AP avS;refine cJ ?_;refine Rj ?_
           gi_wp2
           refine NoPanic.normal ?_
           obtain⟨W1,CB⟩:∃W1,W1=((W.setCell ⟨ga,x.1.val,none⟩ (.slice (some ⟨W.heap.size,0,none⟩) 1 1)).alloc (.cells #[.int .u64 0] 222)).drew:=⟨_,rfl⟩
           rw[<-CB]
           have cL:W1.heap.size=W.heap.size+1:=by rw[CB];simp
           have ZT:iF (fun b=>b<W.heap.size/\b≠ga) W W1:=by
            rw[CB];exact((iF.refl _ W).set _ _ (fun h=>h.2 rfl)).trans (iF.below (n:=W.heap.size) (((Below.refl _ _).alloc ai _).drew) (fun b hb=>hb.1))
           have bG1:az W1 W.heap.size #[.int .u64 0]:=by
            rw[CB];have:=(az.new (W.setCell ⟨ga,x.1.val,none⟩ (.slice (some ⟨W.heap.size,0,none⟩) 1 1)) #[.int .u64 0] 222).drew;simpa using this
           have bA1:az W1 ga (arr.setIfInBounds x.1.val (.slice (some ⟨W.heap.size,0,none⟩) 1 1)):=by rw[CB];exact((Hb.out.set _ _).alloc _).drew
           have ko1:KeepsOthers W W1:=by rw[CB];exact((KeepsOthers.setCell _ _ _).trans (KeepsOthers.alloc _ _)).trans (KeepsOthers.drew _)
           have be1:Below w.heap.size W W1:=by rw[CB];exact(((Below.refl _ _).setCell bq _).alloc bq _).drew
           have gC:iF (fun b=>b<W6.heap.size/\b≠ga) W6 W1:=Tt.out.trans (ZT.ahH fun b hb=>⟨ab,hb.2⟩);have cT1:=(gC (w.heap.size+1+1) 0 ⟨ab,ab⟩).trans HT6.out;have cV1:=(gC gv 0 ⟨ab,ab⟩).trans ZO.out;have ahT:=(gC gp 1 ⟨ab,ab⟩).trans ZP.out;obtain⟨va,Iw⟩:=Tn.out.read Tr;obtain⟨g1,g2⟩:=Iw W1 (ahQ.out W1 gC ab);obtain⟨vb,vc,rfl,_⟩:=g2.open
           have uh:(aQ L x.1.val).length<=10000:=by
            unfold aQ;rw[dE];exact bj (nQ _ _) ab
           have HW1:=ae CB;have ZU:=ae ZT;have om:=ae bG1;have vQ:=ae bA1;have avT:=ae ko1;have avU:=ae be1;have Hkk:=ae gC;have HT1:=ae cT1;have HV1:=ae cV1;have ZV:=ae ahT;have mu:=ae Iw;have Hz1:=ae cL;have xy:W.heap.size<W1.heap.size:=ab;clear CB ZT bG1 bA1 ko1 be1 gC cV1 ahT Iw g2 cV LF cN cG fG cL
           gi_wp2
           gi_loopw [157] (fun jv wr=>∃j:Nat,j<=(aQ L x.1.val).length/\jv=.int .i64 j/\az wr W.heap.size #[.int .u64 ((AL (fun b=>(xA (aQ L) (pre.map fun x=>x.1.val) b).getD 0) ((aQ L x.1.val).take j):Nat):Int)]/\Touch W.heap.size W1 wr) (fun jv _=>(aQ L x.1.val).length-(intOf jv).toNat)
           case atStart=>exact⟨0,ab,rfl,om.out,Touch.refl _ _⟩
           case round=>
            clear cT1 g1;obtain⟨j,hj,rfl,hG,hT⟩:=hrel;by_cases hlt:j<(aQ L x.1.val).length
            ·obtain⟨y,hy⟩:∃y,(aQ L x.1.val)[j]? =some y:=⟨(aQ L x.1.val)[j],by simp[hlt]⟩
             have ZW:=Cz rp (eE hy);have hy1:=ZW.1;have vK:=ZW.2;have hTs:=hT.size;have hkw:iF (fun b=>b<W6.heap.size/\b≠ga) W6 wr:=Hkk.out.trans (fun b o hb=>hT.cell b o (by have:=hb.1;omega));obtain⟨g1,g2⟩:=mu.out wr (ahQ.out wr hkw ab);obtain⟨xb,xo,rfl,yJ⟩:=Ti g2 hy;have cVr:=(hT.cell gv 0 ab).trans HV1.out;have cPr:=(hT.cell gp 1 ab).trans ZV.out;have ZX:=hT.dM ga _ ab vQ.out;have cAa:wr.cell? ⟨ga,x.1.val,none⟩=some (.slice (some ⟨W.heap.size,0,none⟩) 1 1):=(ZX.cell _).trans (by rw[oz (by rw[Ts.out.1];exact Tr)]);obtain⟨tv,htv,Tu⟩:=Ts.out.val vK;have cAy:wr.cell? ⟨ga,y,none⟩=some tv:=(ZX.cell y).trans (by rw[nf ab];exact htv)
             have gz:AL (fun b=>(xA (aQ L) (pre.map fun x=>x.1.val) b).getD 0) ((aQ L x.1.val).take j)<jb:=Zv _ _ fun b hb=>by
              have nZ:=(Cz rp (tu hb)).2;refine⟨ab,?_⟩;obtain⟨_,_,Tu⟩:=Ts.out.val nZ
              rcases Tu with⟨_,h⟩|⟨_,_,_,_,_,h⟩
              ·rw[h];show 0<2^64;omega
              ·exact h
             have Ly:=Zu (fun b=>(xA (aQ L) (pre.map fun x=>x.1.val) b).getD 0) ((aQ L x.1.val).take j) y;rw[show(aQ L x.1.val).take j++[y]=(aQ L x.1.val).take (j+1) by rw[DB,hy];rfl] at Ly;have Hfs:=ae Ly;have HG:=ae hG;have HT:=ae hT;have Hor:=ae Tu;have Hml:=ae gz;have HcV:=ae cVr;have HcP:=ae cPr;have HcA:=ae cAa;have HcY:=ae cAy;have hnG:ga≠W.heap.size:=ab;have hnV:gv≠W.heap.size:=ab;have hnP:gp≠W.heap.size:=ab;clear Ly hG hT Tu gz ZW hy hkw g1 g2 ZX htv hTs
             gi_wp2
             refine⟨trivial,?_⟩;refine(CallsIn.inRound l (Gk.2 (avD W.heap.size _ y wr HG.out Hml.out ab))).mono ?_;rintro e w2 ⟨rfl,OE,fR⟩;clear cVr cPr cAa cAy yJ;have cV2:=(fR.cell gv 0 hnV).trans HcV.out;have cP2:=(fR.cell gp 1 hnP).trans HcP.out;have cA2:=(fR.cell ga x.1.val hnG).trans HcA.out;have cY2:=(fR.cell ga y hnG).trans HcY.out;have Ix:=ae OE;have OH:=ae fR;clear OE fR
             gi_wp2
             refine adQ 14 [(0,true),(1,true),(2,true),(3,true),(4,true),(5,true),(6,true),(7,true),(8,true),(9,true),(10,true),(11,true),(12,true),(13,true)] (fun w'=>w'.cell? ⟨gv,0,none⟩=some (.pointer (some ⟨gp,0,none⟩))/\w'.cell? ⟨gp,1,none⟩=some (.slice (some ⟨ga,0,none⟩) k k)/\w'.cell? ⟨ga,x.1.val,none⟩=some (.slice (some ⟨W.heap.size,0,none⟩) 1 1)/\w'.cell? ⟨ga,y,none⟩=some tv) ah rfl rfl ah ah ⟨cV2,cP2,cA2,cY2⟩ ?_
             iterate 14 refine Kn ?_
             refine Rj ?_
             gi_wp2
             have ZY:=(HT.out.trans OH.out).drew
             have hjt:(tv=.slice none 0 0/\(xA (aQ L) (pre.map fun x=>x.1.val) y).getD 0=0)\/∃gi,tv=.slice (some ⟨gi,0,none⟩) 1 1/\w2.drew.cell? ⟨gi,0,none⟩=some (.int .u64 (((xA (aQ L) (pre.map fun x=>x.1.val) y).getD 0:Nat):Int))/\(xA (aQ L) (pre.map fun x=>x.1.val) y).getD 0<jb:=by
              rcases Hor.out with h|⟨gi,h1,h2,h3,h4,h5⟩
              ·exact .inl h
              ·exact .inr ⟨gi,h1,((ZY.cell gi 0 ab).trans (ZU.out gi 0 ⟨h3,ab⟩)).trans h4,h5⟩
             refine⟨trivial,?_⟩;refine(CallsIn.inRound l (Gk.2 (avE W.heap.size _ _ tv _ Ix.out.drew (MY Hml.out (Td y ab)) hjt))).mono ?_;rintro e w5 ⟨rfl,hG3,sM⟩;have LG:=ae hG3;have LH:=ae (ZY.trans sM);clear hG3 sM ZY hjt
             gi_wp2
             refine NoPanic.normal ?_
             gi_wp2
             go_roundw
             case rel=>exact⟨j+1,ab,by go_num,by rw[Hfs.out];exact LG.out,LH.out⟩
             case measure=>simp[intOf];omega
            ·have iL:j=(aQ L x.1.val).length:=ab;have hTs:=hT.size;have ZZ:=hG.cell 0;rw[iL,fK] at ZZ;have HG0:=ae ZZ;have hst:=Ts.out.step (W':=wr) x.1.val Tr (fun b hb=>(Cz rp hb).2) hn hsz ab (fun b v h1 h2 h3=>((hT.cell b 0 ab).trans (ZU.out b 0 ⟨h2,ab⟩)).trans h3) (by simpa using HG0.out);rw[<-ahF] at hst
             have cg:Zx k ga L w W6 ((pre++[x]).map fun x=>x.1.val) wr:=by
              rw[de];exact⟨_,hT.dM ga _ ab vQ.out,hst,Hkk.out.trans (fun b o hb=>hT.cell b o (by have:=hb.1;omega)),ab,Hbe.out.trans (avU.out.trans (hT.below _ ab))⟩
             have OI:=ae cg;have HT:=ae hT;clear ZZ hst cg iL hG hT
             gi_wp2
             exact⟨avT.out.trans HT.out.others,(ZU.out.ahH fun b hb=>⟨by have:=hb.1;omega,hb.2⟩).trans (fun b o hb=>HT.out.cell b o (by have:=hb.1;omega)),OI.out⟩
          case done=>
           rintro D ys W hD rfl ⟨arr,hb,eL,gu,hsz,Tq⟩ hK;have cV:W.cell? ⟨gv,0,none⟩=some (.pointer (some ⟨gp,0,none⟩)):=(gu gv 0 ⟨ab,ab⟩).trans ZO.out;have cP0:W.cell? ⟨gp,0,none⟩=some (I k):=(gu gp 0 ⟨ab,ab⟩).trans avQ.out;have LF:W.cell? ⟨gp,1,none⟩=some (.slice (some ⟨ga,0,none⟩) k k):=(gu gp 1 ⟨ab,ab⟩).trans ZP.out
           have ahU:=avx (aQ L) k hn f (fun a _ b hb=>(Cz rp hb).2) Hf.out (fv fr).reverse (List.pairwise_reverse.2 (vI.out.nodup.imp Ne.symm)) (fun a ha=>vI.out.lt a (List.mem_reverse.1 ha))
            (avA vI.out (vI.out.full fun a _ b hb=>(Cz rp hb).1) (fun a _ b hb=>(Cz rp hb).2))
           have Af:=vI.out.full fun a _ b hb=>(Cz rp hb).1
           have uU:(vL fr 0).map (fun x=>x.1.val)=(fv fr).reverse:=by
            have:=aG (List.map Fin.val) (avt fr);rw[List.map_map] at this;rw[fv,<-List.map_reverse,<-this];rfl
           rw[uU] at eL;have Iu:=belowK_b (w:=w) ax W D _ (.deferred none) ab hK rfl rfl;have IA:=avC hn (hb.putObj (.deferred none) hK rfl) (Zw cP0 _ hK rfl) (Zw LF _ hK rfl) (eL.kept (W':=W.putObj D (.deferred none)) ai (fun b v _ _ hc=>Zw hc _ hK rfl)) (fun i hi=>ahU i (List.mem_reverse.2 (Af i hi)));have avV:=ae IA;have HW2:=ae (Tq.trans Iu);clear ahU Af uU eL IA Iu cP0 LF hb gu;go_wp2_with fail;refine⟨ai,.inl ⟨_,_,rfl,run_takeDeferred hK,?_⟩⟩;exact⟨_,results_tmp2 rfl _ _ _,_,rfl,avV.out,HW2.out⟩
          case stop=>
           rintro D c pre W hD _ hf _;exact hf.elim
end
end Go.Proofs.YtkanpepkdcmpmaaGreatDoor
