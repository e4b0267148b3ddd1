import Derived.Test.YtngblilamkkikaaGreatDoorW33
import Derived.BigRegion
import Derived.Lib.SliceRun
import Derived.Deep.RegionWith
import Derived.Test.YtngblilamkkikaaGreatDoorW32
import Derived.RangeFuncNested
import Derived.RangeFuncBound
import Derived.RangeFuncCalls
import Derived.RangeFuncLeaves
import Derived.Shelf.Abstract
import Derived.Shelf.RegionOpen
import Derived.OwnWalkIn
import Derived.TacticsInMore
import Derived.LoopNIn
import Derived.LoopIn
import Derived.Deep.RegionLaw
import Derived.Deep.CutRange
set_option maxHeartbeats 40000000
set_option maxRecDepth 100000
set_option linter.all false
namespace Go.Proofs.YtngblilamkkikaaGreatDoor
section
open Go.RowKit
def rQ (run:List az)(i k:Nat):Bool:=match run[i]?,run[k]? with |some a,some b=>gJ a b|_,_=>false
def nR (run:List az)(i k:Nat):List (Nat×Nat):=((List.range' (i+1) (k-(i+1))).filter fun j=>rQ run i j).map fun j=>(i,j)
def vO (run:List az)(i:Nat):List (Nat×Nat):=(List.range i).flatMap fun j=>nR run j run.length
def mP (run:List az):List (Nat×Nat):=vO run run.length
theorem awE (run:List az)(i:Nat):nR run i (i+1)=[]:=by simp[nR]
theorem awF (run:List az)(i k:Nat)(h:i+1<=k):nR run i (k+1)=nR run i k++(if rQ run i k then [(i,k)] else []):=by
 unfold nR;rw[show k+1-(i+1)=(k-(i+1))+1 by omega,List.range'_concat,qq,cU];have:i+1+1*(k-(i+1))=k:=ab;rw[this];by_cases hd:rQ run i k<;>simp[hd]
theorem YW (run:List az)(i:Nat):vO run (i+1)=vO run i++nR run i run.length:=by
 unfold vO;rw[ng,nC];simp
theorem awG (run:List az)(i k:Nat)(h1:i+1<=k)(h2:k<=run.length):nR run i k<+:nR run i run.length:=by
 unfold nR;refine List.IsPrefix.map _ (List.IsPrefix.filter _ ?_)
 obtain⟨d,rfl⟩:∃d,k=i+1+d:=⟨k-(i+1),ab⟩
 obtain⟨e,he⟩:∃e,run.length=i+1+d+e:=⟨run.length-(i+1+d),ab⟩
 refine⟨List.range' (i+1+d) e,?_⟩;rw[he,show i+1+d-(i+1)=d by omega,show i+1+d+e-(i+1)=d+e by omega,List.range'_append_1]
theorem awH (run:List az)(i:Nat)(h:i<=run.length):vO run i<+:mP run:=by
 obtain⟨d,hd⟩:∃d,run.length=i+d:=⟨run.length-i,ab⟩
 unfold mP;rw[hd];clear h hd
 induction d with
 |zero=>exact List.prefix_rfl
 |succ d ih=>exact ih.trans (by rw[show i+(d+1)=(i+d)+1 by omega,YW];exact uJ _ _)
theorem awI (run:List az)(i k:Nat)(hi:i<run.length)(h1:i+1<=k)(h2:k<=run.length):vO run i++nR run i k<+:mP run:=by
 refine List.IsPrefix.trans ?_ (awH run (i+1) ab);rw[YW];exact(List.prefix_append_right_inj _).2 (awG run i k h1 h2)
def YX (x:Nat×Nat):Array Value:=#[.agg #[I x.1,I x.2]]
theorem Sk {run:List az}{i k:Nat}(hi:i<run.length)(hk:k<run.length):rQ run i k=gJ run[i] run[k]:=by simp[rQ,hi,hk]
theorem ahN:(Tryz.prog.info? 76).map (fun i=>(i.zero,i.size,i.bytes))=some (some (.agg #[.int .i64 0,.int .i64 0]),2,16):=ah
def pc (x:Nat×Nat):List Value:=[I x.1,I x.2]
end
section
open Go.RowKit
def Bo (run:List az):Nat->Nat->Nat->Bool
 |0,_,_=>false
 |d+1,i,k=>(List.range run.length).any fun j=>decide (i<j) && rQ run i j && (j==k||Bo run d j k)
def ed (run:List az)(i k:Nat):Bool:=Bo run run.length i k
theorem YY (run:List az)(d i k:Nat)(h:run.length<=i+1):Bo run d i k=false:=by
 cases d with
 |zero=>rfl
 |succ d=>
  rw[Bo,List.any_eq_false];intro j hj;have:=fK.1 hj;simp;intro h1;omega
theorem ahO (run:List az):∀(m d d' i k:Nat),run.length<=i+1+m->m<=d->m<=d'->Bo run d i k=Bo run d' i k
 |0,d,d',i,k,h,_,_=>by rw[YY _ _ _ _ ab,YY _ _ _ _ ab]
 |m+1,d,d',i,k,h,h1,h2=>by
  obtain⟨d,rfl⟩:∃e,d=e+1:=⟨d-1,ab⟩
  obtain⟨d',rfl⟩:∃e,d'=e+1:=⟨d'-1,ab⟩
  rw[Bo,Bo];congr 1;funext j;by_cases hj:i<j
  ·rw[ahO run m d d' j k ab ab ab]
  ·simp[hj]
theorem Sl (run:List az)(i k:Nat):ed run i k=(List.range run.length).any fun j=>decide (i<j) && rQ run i j && (j==k||ed run j k):=by
 unfold ed;rw[ahO run run.length run.length (run.length+1) i k ab ab ab,Bo]
theorem Gp (run:List az):∀(m i k:Nat),run.length<=i+m->ed run i k=true->i<k/\k<run.length
 |0,i,k,h,hl=>by
  unfold ed at hl;rw[YY _ _ _ _ ab] at hl;cases hl
 |m+1,i,k,h,hl=>by
  rw[Sl,Ae] at hl;obtain⟨j,hj,hc⟩:=hl;have vp:=fK.1 hj;simp only[bO,cP,uN,Cl] at hc;obtain⟨⟨h1,_⟩,h3⟩:=hc
  rcases h3 with rfl|h3
  ·exact⟨h1,vp⟩
  ·have:=Gp run m j k ab h3;exact⟨ab,this.2⟩
theorem ahP (run:List az)(i k:Nat)(h:k<=i):ed run i k=false:=by
 rw[Ls];intro hl;have:=Gp run run.length i k ab hl;omega
def eW (n:Nat)(z:Value):Array Value:=(List.replicate n z).toArray
theorem DF (n:Nat)(z:Value):(eW n z).size=n:=by simp[eW]
theorem DG (n:Nat)(z:Value)(j:Nat)(h:j<n):(eW n z)[j]? =some z:=by simp[eW,h]
theorem DI {P:Program}(t e:TypeId)(z:Value)(bytes n:Nat)(ht:P.underlying t=some (.slice e))(lj:(P.info? e).map (fun i=>(i.zero,i.size,i.bytes))=some (some z,1,bytes))(hz:z.cells=#[z])(jB:bytes<=1000)(hn:n<=1000000)(w:World):
  (Instr.makeSlice t (.int .i64 (n:Int)) (.int .i64 (n:Int))).run P w=.ok (.slice (some ⟨w.heap.size,0,none⟩) n n) (w.alloc (.cells (eW n z) e)):=by
 obtain⟨i0,hi,dY,dE,eB⟩:=uQ lj;have hb:bytes*n<=1000*1000000:=oY jB hn
 have hr:=run_make (P:=P) w t e i0 z ht hi dY .i64 .i64 n n ab (Int.le_refl _) (by
  rw[eB];have h3:((bytes*n:Nat):Int)<=1000000000:=ab;rw[Int.natCast_mul] at h3
  omega) ab
 simp only[iZ] at hr;rw[hr,hz,dE]
 have:madeCells #[z] (n*1)=eW n z:=by
  rw[<-Array.toList_inj,Nat.mul_one,toList_madeCells_one];rfl
 rw[this]
theorem awJ:(Tryz.prog.info? 4).map (fun i=>(i.zero,i.size,i.bytes))=some (some (.bool false),1,1):=ah
end
section
open Go.RowKit
theorem YZ {P:Program}{w:World}{ops:Array Oper}{rest:List Oper}{o:Oper}{a:Act}{Q:Exit->Act->World->Prop}(db:o.guard=none)(s x:Operand)(t:TypeId)
  (ho:o.op=.call { callee:=.builtin .append,args:=#[s,x],argTypes:=#[t,t] })
  (e:TypeId) (z:Value) (k bytes:Nat) (ht:P.underlying t=some (.slice e)) (lj:(P.info? e).map (fun i=>(i.zero,i.size,i.bytes))=some (some z,k,bytes)) (nh:z.cells.size=k) (hk:0<k) (jB:bytes<=1000)
  (B:Nat) (v:Value) (n:Nat) (xs:List Value) (hs:a.eval s=v) (aV:w.ownsRow B e k v n xs)
  (ad:Addr) (m c:Nat) (news:List Value) (hx:a.eval x=.slice (some ad) m c) (cH:Flat w k (.slice (some ad) m c) m news) (h1:∀u∈news,u.oneCell'=true)
  (jW:n+m<=100000000) (kF:B<=w.heap.size)
  (h:∀u w',w'.ownsRow B e k u (n+m) (xs++news)->w.grownBy w' v.ownBlock->Below B w w'->wpList P ops Q rest (a.put o.dst u) w'):wpList P ops Q (o::rest) a w:=by
 obtain⟨i0,hi,dY,dE,eB⟩:=uQ lj
 refine wpList_append_own_at w db s x t ho B e i0 z k bytes ht hi dY dE eB nh hk v n xs hs aV ad m c news hx cH.1 (fun j u hu=> ?_) h1 (by unfold maxLen;omega)
  (bh (oY jW jB) ab) kF ?_
 ·obtain⟨b,of,e1,ET⟩:=cH.cells (by have:=(bG.1 hu).1;omega);simp at e1;subst e1
  have kC:(⟨b,of,none⟩:Addr).add j=⟨b,of+j,none⟩:=by unfold Addr.add;split<;>simp_all
  rw[kC];exact ET j u hu
 ·intro u w' h2 h3 _ _;exact h u w' h2 h3 ((Below.refl B w).grown h3 kF (fun k' rS=>(aV.lt k' rS).1))
theorem ahQ (l:List Int):∀u∈iv l,u.oneCell'=true:=by
 intro u hu;obtain⟨x,_,rfl⟩:=dh.1 hu;rfl
theorem awK (l:List Ask):∀u∈l.flatMap Ask.cells,u.oneCell'=true:=by
 intro u hu;obtain⟨x,_,h⟩:=yh.1 hu;exact ahQ _ u h
theorem awL (l:List bQ):∀u∈l.flatMap bQ.cells,u.oneCell'=true:=by
 intro u hu;obtain⟨x,_,h⟩:=yh.1 hu;exact ahQ _ u h
theorem row_one (s:az)(va vs:Value)(ha:va.oneCell'=true)(hs:vs.oneCell'=true):∀u∈s.row va vs,u.oneCell'=true:=by
 intro u hu;simp only[az.row,bZ,kB,lO] at hu
 rcases hu with rfl|rfl|rfl|rfl|rfl|rfl|rfl|rfl|rfl|rfl|rfl<;>first|rfl|assumption
theorem ahR {w:World}:∀{l:List az} {xs:List Value},kE w l xs->∀u∈xs,u.oneCell'=true
 |[],_,h=>by
  have:_=[]:=h;subst this;simp
 |s::l,xs,⟨va,vs,ys,hx,h1,h2,h3⟩=>by
  intro u hu;rw[hx] at hu;obtain⟨_,_,rfl,_⟩:=h1.open;obtain⟨_,_,rfl,_⟩:=h2.open
  rcases fJ.1 hu with h|h
  ·exact row_one s _ _ rfl rfl u h
  ·exact ahR h3 u h
theorem Za {w:World}{k n c m:Nat}{xs:List Value}(h:Flat w k (.slice none m c) n xs):xs=[]:=by
 cases xs with
 |nil=>rfl
 |cons x xs=>
  obtain⟨b,o,e,_⟩:=h.cells ai;cases e
theorem awM (l:List Ask)(v:Value)(w:World)(h:je w v l)(hn:l.length<=1000000):
  Calls Tryz.prog 72 #[v] w fun e w'=>∃u,e=.returned u/\w'.ownsRow w.heap.size 94 7 u l.length (l.flatMap Ask.cells)/\ay w w':=by
 obtain⟨ka,ca,rfl,jf⟩:=h.open
 have qT:∀(w:World) (a:Option Addr) (n c n' c':Nat),(binOp .eql 81 (.slice a n c) (.slice none n' c')).run Tryz.prog w=.ok (.bool a.isNone) w:=fun w a n c n' c'=>Lib.run_eql_slice_nil w _ _ a n c n' c' Tryz.underlying81
 go_enter Tryz.func72,Tryz.ntmps72
 cases ka with
 |none=>
  have e:=Za h
  have e0:l.length=0:=by have:=h.1;rw[e] at this;simp at this;omega
  go_wp2_with fail;go_ret;exact⟨_,rfl,by rw[e0,e];exact jU _ _ _ _,Below.refl _ _⟩
 |some ad=>
  go_wp2_with (at_builtin;refine YZ rfl _ _ 81 rfl 94 _ 7 56 Tryz.underlying81 amR rfl ab ab w.heap.size _ 0 [] rfl (PD (n:=0) (cs:=#[]) (ej _ _) ai rfl ab) ad l.length ca _ rfl (Flat.kept (B:=w.heap.size) h dz aA) (awK l) ab ai ?_;intro u w1 aV sF aM)
  go_ret;exact⟨_,rfl,by simpa using aV,Below.trans (b:=w.alloc (.cells #[] 94)) dz aM⟩
theorem awN (l:List bQ)(v:Value)(w:World)(h:kD w v l)(hn:l.length<=1000000):
  Calls Tryz.prog 73 #[v] w fun e w'=>∃u,e=.returned u/\w'.ownsRow w.heap.size 65 5 u l.length (l.flatMap bQ.cells)/\ay w w':=by
 obtain⟨ka,ca,rfl,jf⟩:=h.open
 have qT:∀(w:World) (a:Option Addr) (n c n' c':Nat),(binOp .eql 82 (.slice a n c) (.slice none n' c')).run Tryz.prog w=.ok (.bool a.isNone) w:=fun w a n c n' c'=>Lib.run_eql_slice_nil w _ _ a n c n' c' Tryz.underlying82
 go_enter Tryz.func73,Tryz.ntmps73
 cases ka with
 |none=>
  have e:=Za h
  have e0:l.length=0:=by have:=h.1;rw[e] at this;simp at this;omega
  go_wp2_with fail;go_ret;exact⟨_,rfl,by rw[e0,e];exact jU _ _ _ _,Below.refl _ _⟩
 |some ad=>
  go_wp2_with (at_builtin;refine YZ rfl _ _ 82 rfl 65 _ 5 40 Tryz.underlying82 amQ rfl ab ab w.heap.size _ 0 [] rfl (PD (n:=0) (cs:=#[]) (ej _ _) ai rfl ab) ad l.length ca _ rfl (Flat.kept (B:=w.heap.size) h dz aA) (awL l) ab ai ?_;intro u w1 aV sF aM)
  go_ret;exact⟨_,rfl,by simpa using aV,Below.trans (b:=w.alloc (.cells #[] 65)) dz aM⟩
theorem awO (l:List az)(v:Value)(w:World)(h:gH w v l)(hn:l.length<=1000000):
  Calls Tryz.prog 71 #[v] w fun e w'=>∃u xs,e=.returned u/\kE w l xs/\w'.ownsRow w.heap.size 84 11 u l.length xs/\ay w w':=by
 obtain⟨ka,ca,rfl,jf⟩:=h.open;obtain⟨xs,hcs,cH⟩:=h
 have qT:∀(w:World) (a:Option Addr) (n c n' c':Nat),(binOp .eql 23 (.slice a n c) (.slice none n' c')).run Tryz.prog w=.ok (.bool a.isNone) w:=fun w a n c n' c'=>Lib.run_eql_slice_nil w _ _ a n c n' c' Tryz.underlying23
 go_enter Tryz.func71,Tryz.ntmps71
 cases ka with
 |none=>
  have e:=Za cH
  have e0:l.length=0:=by have:=cH.1;rw[e] at this;simp at this;omega
  go_wp2_with fail;go_ret;exact⟨_,xs,rfl,hcs,by rw[e0,e];exact jU _ _ _ _,Below.refl _ _⟩
 |some ad=>
  go_wp2_with (at_builtin;refine YZ rfl _ _ 23 rfl 84 _ 11 120 Tryz.underlying23 UO rfl ab ab w.heap.size _ 0 [] rfl (PD (n:=0) (cs:=#[]) (ej _ _) ai rfl ab) ad l.length ca _ rfl (Flat.kept (B:=w.heap.size) cH dz aA) (ahR hcs) ab ai ?_;intro u w1 aV sF aM)
  go_ret;exact⟨_,xs,rfl,hcs,by simpa using aV,Below.trans (b:=w.alloc (.cells #[] 84)) dz aM⟩
end
section
open Go.RowKit
variable {A B W w w':World} {B' B0 k:Nat} {P P':Nat->Prop} {e:TypeId} {l:List az} {v:Value} {xs:List Value}
def Same (P:Nat->Prop)(A B:World):Prop:=A.heap.size<=B.heap.size/\∀b,P b->B.heap[b]? =A.heap[b]?
theorem Same.refl(P:Nat->Prop)(A:World):Same P A A:=⟨cI _,fun _ _=>rfl⟩
theorem Same.trans{C:World}(h:Same P A B)(k:Same P B C):Same P A C:=⟨bh h.1 k.1,fun b hb=>(k.2 b hb).trans (h.2 b hb)⟩
theorem Same.Nv(h:Same P A B)(hp:∀b,P' b->P b):Same P' A B:=⟨h.1,fun b hb=>h.2 b (hp b hb)⟩
theorem Same.below{n:Nat}(h:Below n A B)(hp:∀b,P b->b<n):Same P A B:=⟨h.size,fun b hb=>h.block b (hp b hb)⟩
theorem Same.grown{row:Option Nat}(h:A.grownBy B row)(hp:∀b,P b->b<A.heap.size/\some b≠row):Same P A B:=⟨h.size,fun b hb=>h.block b (hp b hb).1 (hp b hb).2⟩
theorem Same.set(h:Same P A B)(a:Addr)(v:Value)(ha:¬P a.block):Same P A (B.setCell a v):=
 ⟨by simpa using h.1,fun b hb=>(zY B a b v (fun e=>ha (e▸hb))).trans (h.2 b hb)⟩
theorem Same.alloc(h:Same P A B)(o:Obj)(hp:∀b,P b->b<A.heap.size):Same P A (B.alloc o):=
 h.trans (Same.below ((Below.refl B.heap.size B).alloc aA o) fun b hb=>iB (hp b hb) h.1)
theorem Same.drew(h:Same P A B):Same P A B.drew:=h
theorem Same.cj(h:Same P A B){g:Nat}{cs:Array Value}(hb:ax A g cs)(hg:P g):ax B g cs:=by
 obtain⟨t,hb⟩:=hb;exact⟨t,(h.2 g hg).trans hb⟩
theorem Same.own(h:Same P A B){n:Nat}(ho:A.ownsRow B0 e k v n xs)(hv:∀g,v.ownBlock=some g->P g):B.ownsRow B0 e k v n xs:=by
 refine⟨ho.1,?_⟩
 rcases ho.2 with h0|⟨g,cap,cur,rfl,h1,h2,h3⟩
 ·exact .inl h0
 ·exact .inr ⟨g,cap,cur,rfl,h1,(h.2 g (hv g rfl)).trans h2,h3⟩
theorem Same.cell(h:Same P A B){b:Nat}(o:Nat)(hb:P b):B.cell? ⟨b,o,none⟩=A.cell? ⟨b,o,none⟩:=Iu (h.2 b hb)
def pV (P:Nat->Prop)(v:Value):Prop:=∀b o n c,v=.slice (some ⟨b,o,none⟩) n c->P b
theorem Flat.Zb{n:Nat}(h:Flat A k v n xs)(hv:pV P v)(hs:Same P A B):Flat B k v n xs:=by
 obtain⟨hl,hm,a,c,rfl,hr⟩:=h;refine⟨hl,hm,a,c,rfl,fun j u hu=> ?_⟩;obtain⟨b,o,ha,hc⟩:=hr j u hu;subst ha;exact⟨b,o,rfl,(hs.cell _ (hv b o n c rfl)).trans hc⟩
def kU (P:Nat->Prop)(w:World):List az->List Value->Prop
 |[],xs=>xs=[]
 |s::l,xs=>∃va vs ys,xs=s.row va vs++ys/\(je w va s.asks/\pV P va)/\(kD w vs s.sent/\pV P vs)/\kU P w l ys
theorem kU.kept(hs:Same P w w'):∀{l:List az} {xs:List Value},kU P w l xs->kU P w' l xs
 |[],_,h=>h
 |_::_,_,⟨va,vs,ys,hx,h1,h2,h3⟩=>⟨va,vs,ys,hx,⟨Flat.Zb h1.1 h1.2 hs,h1.2⟩,⟨Flat.Zb h2.1 h2.2 hs,h2.2⟩,h3.kept hs⟩
theorem kU.Nv(hp:∀b,P b->P' b):∀{l:List az} {xs:List Value},kU P w l xs->kU P' w l xs
 |[],_,h=>h
 |_::_,_,⟨va,vs,ys,hx,h1,h2,h3⟩=>⟨va,vs,ys,hx,⟨h1.1,fun b o n c e=>hp b (h1.2 b o n c e)⟩,⟨h2.1,fun b o n c e=>hp b (h2.2 b o n c e)⟩,h3.Nv hp⟩
theorem kU.cells:∀{l:List az} {xs:List Value},kU P w l xs->kE w l xs
 |[],_,h=>h
 |_::_,_,⟨va,vs,ys,hx,h1,h2,h3⟩=>⟨va,vs,ys,hx,h1.1,h2.1,h3.cells⟩
theorem kU.snoc{s:az}{va vs:Value}(h1:je w va s.asks/\pV P va)(h2:kD w vs s.sent/\pV P vs):∀{l:List az} {xs:List Value},kU P w l xs->kU P w (l++[s]) (xs++s.row va vs)
 |[],xs,h=>by
  have:xs=[]:=h;subst this;exact⟨va,vs,[],ai,h1,h2,rfl⟩
 |_::_,_,⟨fj,ES,ys,hx,g1,g2,g3⟩=>⟨fj,ES,ys++s.row va vs,by rw[hx,List.append_assoc],g1,g2,g3.snoc h1 h2⟩
theorem kU.at {P:Nat->Prop}{w:World}:∀{l:List az} {xs:List Value} {i:Nat} {s:az},kU P w l xs->l[i]? =some s->
  ∃va vs,(je w va s.asks/\pV P va)/\(kD w vs s.sent/\pV P vs)/\∀j u,(s.row va vs)[j]? =some u->xs[i*11+j]? =some u
 |[],_,_,_,_,h=>by simp at h
 |t::l,xs,0,s,⟨va,vs,zs,hx,h1,h2,h3⟩,h=>by
  simp at h;subst h;refine⟨va,vs,h1,h2,fun j u hu=> ?_⟩;have hj:=(bG.1 hu).1;rw[hx,Nat.zero_mul,eM,lJ hj];exact hu
 |t::l,xs,i+1,s,⟨va,vs,zs,hx,h1,h2,h3⟩,h=>by
  have h':l[i]? =some s:=by simpa using h
  obtain⟨fj,ES,g1,g2,g3⟩:=h3.at h';refine⟨fj,ES,g1,g2,fun j u hu=> ?_⟩;have:=g3 j u hu;have e:(i+1)*11+j=11+(i*11+j):=ab;have hl:(t.row va vs).length=11:=rfl;rw[hx,e,jz ab,hl,Nat.add_sub_cancel_left];exact this
def mh (B:Nat)(w:World)(v:Value)(l:List az):Prop:=∃xs,kU (fun b=>B<=b) w l xs/\Flat w 11 v l.length xs/\pV (fun b=>B<=b) v
theorem mh.sl{B:Nat}(h:mh B w v l):gH w v l:=by
 obtain⟨xs,h1,h2,_⟩:=h;exact⟨xs,h1.cells,h2⟩
theorem mh.awP{B:Nat}(h:mh B w v l)(hs:Same (fun b=>B<=b/\b<w.heap.size) w w'):mh B w' v l:=by
 obtain⟨xs,h1,h2,h3⟩:=h
 have key:∀{k:Nat} {u:Value} {n:Nat} {ys:List Value},Flat w k u n ys->pV (fun b=>B<=b) u->Flat w' k u n ys:=fun {k u n ys} hf hp=>by
  obtain⟨hl,hm,a,c,rfl,hr⟩:=hf;refine⟨hl,hm,a,c,rfl,fun j x hx=> ?_⟩;obtain⟨b,o,ha,hc⟩:=hr j x hx;subst ha;have:=eh _ _ hc;exact⟨b,o,rfl,(hs.cell _ ⟨hp b o n c rfl,by simpa using this⟩).trans hc⟩
 refine⟨xs,?_,key h2 h3,h3⟩;clear h2 h3;revert xs
 induction l with
 |nil=>intro xs h1;exact h1
 |cons s l ih=>
  rintro xs ⟨va,vs,ys,hx,g1,g2,g3⟩;exact⟨va,vs,ys,hx,⟨key g1.1 g1.2,g1.2⟩,⟨key g2.1 g2.2,g2.2⟩,ih ys g3⟩
theorem mh.kept{B:Nat}(h:mh B w v l)(hb:ay w w'):mh B w' v l:=h.awP (Same.below hb fun _ hb=>hb.2)
theorem mh.open{B:Nat}(h:mh B w v l):∃a c,v=.slice a l.length c/\l.length<=9223372036854775807:=h.sl.open
theorem mh.at {B:Nat}{w:World}{a:Option Addr}{n c:Nat}{l:List az}(h:mh B w (.slice a n c) l){i:Nat}{s:az}(hi:l[i]? =some s):
  ∃b o va vs,a=some ⟨b,o,none⟩/\(je w va s.asks/\pV (fun b=>B<=b) va)/\(kD w vs s.sent/\pV (fun b=>B<=b) vs)/\
   w.cell? ⟨b,o+i*11,none⟩=some (I s.ev.kind)/\w.cell? ⟨b,o+i*11+1,none⟩=some (I s.ev.node)/\w.cell? ⟨b,o+i*11+2,none⟩=some (I s.ev.arg)/\
   w.cell? ⟨b,o+i*11+3,none⟩=some (I s.ev.msg.node)/\w.cell? ⟨b,o+i*11+4,none⟩=some (I s.ev.msg.handler)/\w.cell? ⟨b,o+i*11+5,none⟩=some (I s.ev.msg.count)/\
   w.cell? ⟨b,o+i*11+6,none⟩=some (I s.ev.msg.index)/\w.cell? ⟨b,o+i*11+7,none⟩=some (I s.ev.msg.copy)/\w.cell? ⟨b,o+i*11+8,none⟩=some va/\
   w.cell? ⟨b,o+i*11+9,none⟩=some (.bool s.aX)/\w.cell? ⟨b,o+i*11+10,none⟩=some vs:=by
 obtain⟨xs,h1,h2,_⟩:=h;obtain⟨va,vs,g1,g2,g3⟩:=h1.at hi;have hlt:=(bG.1 hi).1;obtain⟨b,o,ha,hc⟩:=h2.cells (by rw[h1.cells.length];omega)
 have key:∀j u,(s.row va vs)[j]? =some u->w.cell? ⟨b,o+i*11+j,none⟩=some u:=fun j u hu=>by
  have:=hc _ u (g3 j u hu);rwa[<-Nat.add_assoc] at this
 exact⟨b,o,va,vs,ha,g1,g2,key 0 _ rfl,key 1 _ rfl,key 2 _ rfl,key 3 _ rfl,key 4 _ rfl,key 5 _ rfl,key 6 _ rfl,key 7 _ rfl,key 8 _ rfl,key 9 _ rfl,key 10 _ rfl⟩
theorem mh.nil(B:Nat)(w:World)(c:Nat):mh B w (.slice none 0 c) []:=⟨[],rfl,Flat.nil _ _ _ _,fun b o n c e=>by simp at e⟩
theorem kU.below{B:Nat}(hb:Below B w w')(hB:w.heap.size<=B):∀{l:List az} {xs:List Value},kU P w l xs->kU P w' l xs
 |[],_,h=>h
 |_::_,_,⟨va,vs,ys,hx,h1,h2,h3⟩=>⟨va,vs,ys,hx,⟨h1.1.kept hb hB,h1.2⟩,⟨h2.1.kept hb hB,h2.2⟩,h3.below hb hB⟩
theorem Sm{B:Nat}{n:Nat}(h:W.ownsRow B e k v n xs)(hB:B'<=B):pV (fun b=>B'<=b) v:=fun b o n c e=>by
 subst e;exact bh hB (h.lt b rfl).1
theorem mh.dU{B:Nat}{n:Nat}(h:w.ownsRow B e 11 v n xs)(hn:n=l.length)(hc:kU (fun b=>B'<=b) W l xs)(hb:Below B0 W w)(hB:W.heap.size<=B0)(nw:B'<=B):mh B' w v l:=by
 subst hn;exact⟨xs,hc.below hb hB,Flat.dU h,Sm h nw⟩
end
section
open Go.RowKit
variable {B g k:Nat} {e:TypeId} {l:List az} {ua us v:Value} {w w':World} {xs:List Value}
def cJ (g:Nat)(w w':World):Prop:=w.heap.size<=w'.heap.size/\∀b o,b<w.heap.size->b≠g->w'.cell? ⟨b,o,none⟩=w.cell? ⟨b,o,none⟩
theorem cJ.refl(g:Nat)(w:World):cJ g w w:=⟨cI _,fun _ _ _ _=>rfl⟩
theorem cJ.trans{a b c:World}(h:cJ g a b)(k:cJ g b c):cJ g a c:=
 ⟨bh h.1 k.1,fun x o hx hg=>(k.2 x o (iB hx h.1) hg).trans (h.2 x o hx hg)⟩
theorem cJ.below(h:Below B w w')(hB:w.heap.size<=B):cJ g w w':=⟨h.size,fun b o hb _=>h.cell (p:=⟨b,o,none⟩) (iB hb hB)⟩
theorem cJ.set(g:Nat)(w:World)(o:Nat)(v:Value):cJ g w (w.setCell ⟨g,o,none⟩ v):=
 ⟨ai,fun b o' _ hg=>Pz _ _ _ _ (by intro h;simp at h<;>exact hg h.1)⟩
theorem cJ.drew(h:cJ g w w'):cJ g w w'.drew:=h
theorem Flat.same{n:Nat}(h:Flat w k v n xs)(hb:∀b o,b<w.heap.size->w'.cell? ⟨b,o,none⟩=w.cell? ⟨b,o,none⟩):Flat w' k v n xs:=by
 obtain⟨hl,hm,a,c,hv,hr⟩:=h;refine⟨hl,hm,a,c,hv,fun j u hu=> ?_⟩;obtain⟨b,o,ha,hc⟩:=hr j u hu;have h2:=eh _ _ hc;exact⟨b,o,ha,(hb b _ h2).trans hc⟩
theorem Flat.PT{n:Nat}(h:w.ownsRow B e k v n xs)(hg:g<B)(ha:cJ g w w'):Flat w' k v n xs:=by
 have hf:=Flat.dU h;obtain⟨hl,hm,a,c,hv,hr⟩:=hf;refine⟨hl,hm,a,c,hv,fun j u hu=> ?_⟩;obtain⟨b,o,ha',hc⟩:=hr j u hu;have h2:=eh _ _ hc;refine⟨b,o,ha',(ha.2 b _ h2 ?_).trans hc⟩
 rcases h.2 with⟨rfl,_⟩|⟨g',cap,cur,rfl,hg',_⟩
 ·simp at hv;rw[<-hv.1] at ha';cases ha'
 ·simp at hv;rw[<-hv.1] at ha';simp at ha';omega
def pW (w:World)(g:Nat)(l:List az)(xs:List Value):Prop:=∀i s,l[i]? =some s->∃va vs,(∀w',cJ g w w'->je w' va s.asks/\kD w' vs s.sent)/\∀j u,(s.row va vs)[j]? =some u->xs[i*11+j]? =some u
theorem pW.kept(h:pW w g l xs)(ha:cJ g w w'):pW w' g l xs:=by
 intro i s hi;obtain⟨va,vs,h1,h2⟩:=h i s hi;exact⟨va,vs,fun w2 h3=>h1 w2 (ha.trans h3),h2⟩
theorem pW.start{w1:World}(h:kE w l xs)(hb:ay w w1)(hg:w.heap.size<=g):pW w1 g l xs:=by
 intro i s hi;obtain⟨va,vs,h1,h2,h3⟩:=h.at hi;refine⟨va,vs,fun w2 ha=> ?_,h3⟩
 have key:∀b o,b<w.heap.size->w2.cell? ⟨b,o,none⟩=w.cell? ⟨b,o,none⟩:=fun b o hlt=>
  (ha.2 b o (iB hlt hb.size) ab).trans (hb.cell (p:=⟨b,o,none⟩) hlt)
 exact⟨Flat.same h1 key,Flat.same h2 key⟩
theorem ahS {w:World}:∀(l:List az) (xs:List Value),xs.length=l.length*11->(∀i s,l[i]? =some s->∃va vs,je w va s.asks/\kD w vs s.sent/\∀j u,(s.row va vs)[j]? =some u->xs[i*11+j]? =some u)->kE w l xs
 |[],xs,hl,_=>zV.1 (by simpa using hl)
 |s::l,xs,hl,h=>by
  obtain⟨va,vs,h1,h2,h3⟩:=h 0 s rfl;refine⟨va,vs,xs.drop 11,?_,h1,h2,ahS l (xs.drop 11) ?_ ?_⟩
  ·have hx:xs.take 11=s.row va vs:=by
    have e11:(s.row va vs).length=11:=rfl
    have tu:11<=xs.length:=by rw[hl,List.length_cons];omega
    refine acb (by rw[dS,e11];omega) fun j hj=> ?_
    rw[dS] at hj
    have xr:j<(s.row va vs).length:=by rw[e11];omega
    have:=h3 j _ (cy xr);rw[List.getElem?_take_of_lt ab,cy xr];simpa using this
   rw[<-hx,List.take_append_drop]
  ·rw[nf,hl,List.length_cons];omega
  ·intro i t hi;obtain⟨fj,ES,g1,g2,g3⟩:=h (i+1) t (by simpa using hi);refine⟨fj,ES,g1,g2,fun j u hu=> ?_⟩;rw[nD];have:=g3 j u hu;rw[show(i+1)*11+j=11+(i*11+j) by omega] at this;exact this
theorem pW.cells(h:pW w g l xs)(hl:xs.length=l.length*11):kE w l xs:=
 ahS l xs hl fun i s hi=>by
  obtain⟨va,vs,h1,h2⟩:=h i s hi;have:=h1 w (cJ.refl _ _);exact⟨va,vs,this.1,this.2,h2⟩
theorem pW.store(h:pW w g l xs)(hk:k<l.length)(hl:xs.length=l.length*11)(hu:∀w',cJ g w w'->je w' ua l[k].asks/\kD w' us l[k].sent):
  pW w g l ((xs.set (k*11+8) ua).set (k*11+10) us):=by
 intro i s hi;obtain⟨va,vs,h1,h2⟩:=h i s hi;have hil:=(bG.1 hi).1;by_cases Al:i=k
 ·subst Al
  have es:s=l[i]:=by simpa [hil] using hi.symm
  subst es;refine⟨ua,us,hu,fun j u hj=> ?_⟩
  have ahT:j<11:=by have:=(bG.1 hj).1;exact this
  by_cases h8:j=8
  ·subst h8;rw[sX ab,zW ab];exact hj
  ·by_cases h10:j=10
   ·subst h10;rw[zW bC];exact hj
   ·rw[sX ab,sX ab];refine h2 j u ?_;rw[<-hj]
    match j,ahT,h8,h10 with
    |0,_,_,_=>rfl
    |1,_,_,_=>rfl
    |2,_,_,_=>rfl
    |3,_,_,_=>rfl
    |4,_,_,_=>rfl
    |5,_,_,_=>rfl
    |6,_,_,_=>rfl
    |7,_,_,_=>rfl
    |9,_,_,_=>rfl
    |8,_,h,_=>exact absurd rfl h
    |10,_,_,h=>exact absurd rfl h
    |n+11,h,_,_=>omega
 ·refine⟨va,vs,h1,fun j u hj=> ?_⟩
  have ahT:j<11:=by have:=(bG.1 hj).1;exact this
  rw[sX ab,sX ab];exact h2 j u hj
def uh (w:World)(g:Nat)(xs:List Value):Prop:=∀j,j<xs.length->w.cell? ⟨g,j,none⟩=xs[j]? /\w.frozen? ⟨g,j,none⟩=false
theorem uh.kept(h:uh w g xs)(hb:Below B w w')(hg:g<B):uh w' g xs:=fun j hj=>by
 have:=h j hj;exact⟨(hb.cell (p:=⟨g,j,none⟩) hg).trans this.1,(hb.frozen (p:=⟨g,j,none⟩) hg).trans this.2⟩
theorem uh.set(h:uh w g xs)(i:Nat)(hi:i<xs.length)(v:Value):uh (w.setCell ⟨g,i,none⟩ v) g (xs.set i v):=fun j hj=>by
 rw[List.length_set] at hj;have yz:=h j hj;have Ax:=h i hi;refine⟨?_,?_⟩
 ·by_cases e:i=j
  ·subst e;rw[zW hi];exact World.cell?_setCell_same _ _ _ (Ax.1.trans (cy hi))
  ·rw[sX e,Pz _ _ _ _ (by intro h;simp at h<;>exact e h.symm)];exact yz.1
 ·simpa using yz.2
theorem uh.dU{n:Nat}(h:w.ownsRow B e k v n xs)(hn:0<n):∃g cap,v=.slice (some ⟨g,0,none⟩) n cap/\B<=g/\g<w.heap.size/\uh w g xs:=by
 obtain⟨g,cap,rfl,hB,hg⟩:=h.form hn;refine⟨g,cap,rfl,hB,hg,fun j hj=>⟨?_,?_⟩⟩
 ·have:=h.cells (g:=g) rfl j xs[j] (by simp[hj])
  have kC:(⟨g,0,none⟩:Addr).add j=⟨g,0+j,none⟩:=by unfold Addr.add;split<;>simp_all
  rw[kC,eM] at this;rw[this];simp[hj]
 ·rcases h.2 with⟨e,_⟩|⟨g',cap',cur,e,_,hb,_⟩
  ·cases e
  ·simp at e;obtain⟨rfl,rfl⟩:=e;exact frozen_of_row w g j cur _ hb
theorem uh.flat{n cap:Nat}(h:uh w g xs)(hl:xs.length=n*11)(hn:n<=1000000):Flat w 11 (.slice (some ⟨g,0,none⟩) n cap) n xs:=
 Flat.rR hl ab fun j u hu=>by
  have:=h j (bG.1 hu).1;rw[eM,this.1,hu]
def Nw (B k:Nat)(xs:List Value):Prop:=∀i,i<k->∀u,(xs[i*11+8]? =some u\/xs[i*11+10]? =some u)->pV (fun b=>B<=b) u
theorem Nw.set(h:Nw B k xs)(hk:k*11+11<=xs.length)(h1:pV (fun b=>B<=b) ua)(h2:pV (fun b=>B<=b) us):Nw B (k+1) ((xs.set (k*11+8) ua).set (k*11+10) us):=by
 intro i hi u hu;by_cases e:i=k
 ·subst e
  rcases hu with hu|hu
  ·rw[sX ab,zW ab] at hu;cases hu;exact h1
  ·rw[zW (by rw[List.length_set];omega)] at hu;cases hu;exact h2
 ·rcases hu with hu|hu
  ·rw[sX ab,sX ab] at hu;exact h i ab u (.inl hu)
  ·rw[sX ab,sX ab] at hu;exact h i ab u (.inr hu)
theorem pW.awQ(h:pW w g l xs)(hl:xs.length=l.length*11)(hf:Nw B l.length xs):kU (fun b=>B<=b) w l xs:=by
 have key:∀(m:List az) (d:Nat) (ys:List Value),l.drop d=m->ys=xs.drop (d*11)->kU (fun b=>B<=b) w m ys:=by
  intro m
  induction m with
  |nil=>
   intro d ys hd hy
   have:l.length<=d:=by
    have:=aG List.length hd;simp at this;omega
   show ys=[]
   rw[hy,List.drop_eq_nil_iff];omega
  |cons s m ih=>
   intro d ys hd hy
   have lE:d<l.length:=by
    have:=aG List.length hd;simp at this;omega
   have hs:l[d]? =some s:=by
    have:(l.drop d)[0]? =some s:=by rw[hd];rfl
    simpa using this
   obtain⟨va,vs,h1,h2⟩:=h d s hs;have hq:=h1 w (cJ.refl _ _);refine⟨va,vs,xs.drop ((d+1)*11),?_,⟨hq.1,hf d lE va (.inl (h2 8 va rfl))⟩,⟨hq.2,hf d lE vs (.inr (h2 10 vs rfl))⟩,ih (d+1) _ ?_ rfl⟩
   ·rw[hy];apply wm;intro j;have fO:(s.row va vs).length=11:=rfl;by_cases hj:j<11
    ·rw[lJ ab,nD];have hu:(s.row va vs)[j]? =some ((s.row va vs)[j]' ab):=cy ab;rw[hu,h2 j _ hu]
    ·rw[jz ab,nD,nD,fO];congr 1;omega
   ·have h3:=aG List.tail hd;rwa[List.tail_drop,List.tail_cons] at h3
 exact key l 0 xs ai ai
theorem awR(run:List az)(v:Value)(w:World)(hrun:gH w v run)(hn:run.length<=1000000)(zk:∀s∈run,s.asks.length<=1000000)(Dr:∀s∈run,s.sent.length<=1000000):
  Calls Tryz.prog 28 #[v] w fun e w'=>∃u,e=.returned u/\mh w.heap.size w' u run/\ay w w':=by
 have ahU:=hrun;obtain⟨ka,ca,rfl,jf⟩:=hrun.open;go_enter Tryz.func28,Tryz.ntmps28;go_wp2_with fail;refine(awO run _ _ ahU hn).mono ?_;rintro e w1 ⟨u,xs,rfl,hcs,aV,aM⟩;by_cases h0:run.length=0
 ·have hr:run=[]:=zV.1 h0;subst hr;have cH:=Flat.dU aV;have dF:=Sm aV aA;obtain⟨a,c,rfl,_⟩:=cH.open;simp only[List.length_nil] at aV cH⊢;go_wp2_with fail;refine wp_loop_rounds 1 ?_;rw[rounds_succ];go_wp2_with fail;go_ret;exact⟨_,rfl,⟨[],rfl,Flat.nil _ _ _ _,dF⟩,aM⟩
 ·obtain⟨g,cap,rfl,DJ,kj,Gq⟩:=uh.dU aV ab;have zp:=pW.start hcs aM DJ;have tu:=aV.1;clear aV hcs;go_wp2_with fail;go_loopw [9] (fun p wr=>∃(k:Nat) (xs:List Value),k<=run.length/\p=.int .i64 k/\xs.length=run.length*11/\uh wr g xs/\pW wr g run xs/\Nw w.heap.size k xs/\ay w wr/\g<wr.heap.size) (fun p _=>run.length-(intOf p).toNat)
  case atStart=>exact⟨0,xs,ab,rfl,tu,Gq,zp,fun i hi=>ab,aM,kj⟩
  case round=>
   clear Gq zp tu;obtain⟨k,xs,hk,rfl,tu,Gq,zp,dQ,hB,rA⟩:=hrel;have Kc:=ae dQ;clear dQ;by_cases hlt:k<run.length
   ·obtain⟨va,vs,h1,h2⟩:=zp k run[k] (by simp[hlt]);have hq:=h1 wr (cJ.refl _ _);obtain⟨qa,da,rfl,_⟩:=hq.1.open;obtain⟨qs,ds,rfl,_⟩:=hq.2.open;have e8:=h2 8 _ rfl;have e10:=h2 10 _ rfl;have r8:=Gq (k*11+8) ab;have r10:=Gq (k*11+10) ab;have c8:=r8.1.trans e8;have c10:=r10.1.trans e10;have f8:=r8.2;have f10:=r10.2;have oM:=zk run[k] (cA hlt);have Bm:=Dr run[k] (cA hlt)
    have nS:∀W,ay wr W->Calls Tryz.prog 72 #[.slice qa run[k].asks.length da] W fun e w'=>∃u,e=.returned u/\w'.ownsRow W.heap.size 94 7 u run[k].asks.length (run[k].asks.flatMap Ask.cells)/\ay W w':=
     fun W hW=>awM _ _ _ (hq.1.kept hW aA) oM
    have wS:∀W,ay wr W->Calls Tryz.prog 73 #[.slice qs run[k].sent.length ds] W fun e w'=>∃u,e=.returned u/\w'.ownsRow W.heap.size 65 5 u run[k].sent.length (run[k].sent.flatMap bQ.cells)/\ay W w':=
     fun W hW=>awN _ _ _ (hq.2.kept hW aA) Bm
    have ui:=ae nS;have Hqs:=ae wS;have He8:=ae e8;have aDA:=ae e10;clear nS wS h1 h2 r8 r10 e8 e10 hq ahU;go_wp2_with fail
    go_region_with (first
     |(go_at_call 72;refine(ui.out _ dz).mono ?_;rintro e w2 ⟨ua,rfl,Zc,cn⟩
       obtain⟨a1,d1,rfl,Ns⟩:=(Flat.dU Zc).open;have eB:=cn.size;simp only[heap_drew] at eB;have c8':=(cn.cell (p:=⟨g,k*11+8,none⟩) rA).trans c8;have awS:=(cn.cell (p:=⟨g,k*11+10,none⟩) rA).trans c10
       have Kd:=Below.then (w:=wr) dz cn)
     |(go_at_call 73;refine(Hqs.out _ Kd).mono ?_;rintro e w3 ⟨us,rfl,Ke,gm⟩
       obtain⟨a2,d2,rfl,yQ⟩:=(Flat.dU Ke).open;have uf:=gm.size;have Kf:g<w2.heap.size:=ab;have aDB:=(gm.cell (p:=⟨g,k*11+8,none⟩) Kf).trans c8';have aDC:=(gm.cell (p:=⟨g,k*11+10,none⟩) Kf).trans awS;have aDD:=(gm.frozen (p:=⟨g,k*11+8,none⟩) Kf).trans ((cn.frozen (p:=⟨g,k*11+8,none⟩) rA).trans f8)
       have aDE:=(gm.frozen (p:=⟨g,k*11+10,none⟩) Kf).trans ((cn.frozen (p:=⟨g,k*11+10,none⟩) rA).trans f10)))
    all_goals
     go_wp2_with fail;go_roundw
     case rel=>
      have ahV:cJ g w2 w3:=cJ.below gm aA;have wK:cJ g wr w3:=(cJ.below Kd aA).trans ahV;have awT:g<w3.heap.size:=ab;have awU:uh w3 g xs:=(Gq.kept Kd rA).kept gm Kf;have awV:ay w w3:=(hB.trans (Kd.mono hB.size)).trans (gm.mono (bh hB.size eB));refine⟨k+1,_,ab,by go_num,?_,(awU.set (k*11+8) ab _).set (k*11+10) (by rw[List.length_set];omega) _,?_,Kc.out.set ab (Sm Zc (bh hB.size aA)) (Sm Ke (bh hB.size eB)),Below.setCell (Below.setCell awV DJ _) DJ _,by simpa using awT⟩
      ·rw[List.length_set,List.length_set];exact tu
      ·refine pW.kept (pW.store (zp.kept wK) hlt tu (fun W hW=> ?_)) ((cJ.set _ _ _ _).trans (cJ.set _ _ _ _));exact⟨Flat.PT Zc rA (ahV.trans hW),Flat.PT Ke Kf hW⟩
     case measure=>simp[intOf];omega
   ·go_wp2_with fail;go_ret;exact⟨_,rfl,⟨xs,zp.awQ tu (by rw[show run.length=k by omega];exact Kc.out),Gq.flat tu hn,fun b o n c e=>by simp at e;show w.heap.size<=b;omega⟩,hB⟩
end
section
open Go.RowKit
variable {B gn gw:Nat} {L:List (Nat×Nat)} {W:World} {arr wa:Array Value}
theorem ahW:(Tryz.prog.info? 22).map (fun i=>(i.zero,i.size,i.bytes))=some (some (.slice none 0 0),1,24):=ah
def aR (L:List (Nat×Nat))(a:Nat):List Nat:=(L.filter fun p=>p.1==a).map fun p=>p.2
theorem Sn(L:List (Nat×Nat))(p:Nat×Nat)(a:Nat):aR (L++[p]) a=if p.1=a then aR L a++[p.2] else aR L a:=by
 unfold aR;rw[qq,cU];by_cases h:p.1=a<;>simp[h]
theorem awW(x:Nat×Nat):(pc x).length=2:=rfl
theorem Zd{w:World}{a:Option Addr}{n c m:Nat}(h:Flat w 2 (.slice a m c) n (L.flatMap pc)){i:Nat}{x:Nat×Nat}(hi:L[i]? =some x):
  ∃b o,a=some ⟨b,o,none⟩/\w.cell? ⟨b,o+i*2,none⟩=some (I x.1)/\w.cell? ⟨b,o+i*2+1,none⟩=some (I x.2):=by
 obtain⟨b,o,ha,hc⟩:=Aj awW ab h hi;exact⟨b,o,ha,hc 0 _ rfl,hc 1 _ rfl⟩
def nv (l:List Nat):List Value:=l.map fun(i:Nat)=>I (i:Int)
def fw (L:List (Nat×Nat))(b:Nat):Nat:=(L.map fun p=>p.2).count b
theorem awX(L:List (Nat×Nat))(p:Nat×Nat)(b:Nat):fw (L++[p]) b=fw L b+if p.2=b then 1 else 0:=by
 unfold fw;rw[cU,Ac];by_cases h:p.2=b<;>simp[h]
structure oO (B gn gw n:Nat)(W:World)(L:List (Nat×Nat))(arr wa:Array Value):Prop where
 bn:ax W gn arr
 bw:ax W gw wa
 ne:gn≠gw
 ln:gn<B
 lw:gw<B
 hB:B<=W.heap.size
 sn:arr.size=n
 sw:wa.size=n
 wt:∀b<n,wa[b]? =some (I (fw L b:Nat))
 row:∀a<n,∃va,arr[a]? =some va/\W.ownsRow B 3 1 va (aR L a).length (nv (aR L a))
 sep:∀(a a':Nat) (va fj:Value),a≠a'->arr[a]? =some va->arr[a']? =some fj->va.ownBlock=none\/va.ownBlock≠fj.ownBlock
theorem oO.kept{n:Nat}{W':World}(h:oO B gn gw n W L arr wa)(hb:ay W W'):oO B gn gw n W' L arr wa:=
 { h with
  bn:=h.bn.kept hb h.bn.lt
  bw:=h.bw.kept hb h.bw.lt
  hB:=bh h.hB hb.size
  row:=fun a ha=>by
   obtain⟨va,h1,h2⟩:=h.row a ha
   exact⟨va,h1,rU h2 hb⟩ }
theorem oO.drew{n:Nat}(h:oO B gn gw n W L arr wa):oO B gn gw n W.drew L arr wa:=h.kept ((Below.refl _ W).drew)
theorem oO.start{n:Nat}(hn:ax W gn (eW n (.slice none 0 0)))(hw:ax W gw (eW n (.int .i64 0)))(hne:gn≠gw)(h1:gn<B)(h2:gw<B)(hB:B<=W.heap.size):oO B gn gw n W [] (eW n (.slice none 0 0)) (eW n (.int .i64 0)) where
 bn:=hn
 bw:=hw
 ne:=hne
 ln:=h1
 lw:=h2
 hB:=hB
 sn:=DF _ _
 sw:=DF _ _
 wt:=fun b hb=>by rw[DG _ _ _ hb];rfl
 row:=fun a ha=>⟨_,DG _ _ _ ha,jU _ _ _ _⟩
 sep:=fun a a' va fj _ h1 _=>by
  have:va=.slice none 0 0:=by
   have hlt:=(nB.1 h1).1;rw[DF] at hlt;rw[DG _ _ _ hlt] at h1;exact(ei h1).symm
  subst this;exact .inl rfl
theorem DK{e:TypeId}{k:Nat}{v:Value}{n:Nat}{xs:List Value}(h:W.ownsRow B e k v n xs):v.ownBlock=none\/∃g,v.ownBlock=some g/\B<=g/\g<W.heap.size:=by
 cases hv:v.ownBlock with
 |none=>exact .inl rfl
 |some g=>exact .inr ⟨g,rfl,h.lt g hv⟩
theorem oO.step{n:Nat}{W2:World}(h:oO B gn gw n W L arr wa)(p:Nat×Nat)(pS:p.1<n)(xp:p.2<n)(va:Value)(gG:arr[p.1]? =some va)
  (g cap:Nat) (aV:W2.ownsRow B 3 1 (.slice (some ⟨g,0,none⟩) ((aR L p.1).length+1) cap) ((aR L p.1).length+1) (nv (aR L p.1)++[I (p.2:Nat)])) (sF:W.grownBy W2 va.ownBlock) (hg:va.ownBlock=some g\/W.heap.size<=g) (hsz:W.heap.size<=W2.heap.size):
  oO B gn gw n ((W2.setCell ⟨gn,p.1,none⟩ (.slice (some ⟨g,0,none⟩) ((aR L p.1).length+1) cap)).setCell ⟨gw,p.2,none⟩ (I ((fw L p.2+1:Nat)))) (L++[p])
   (arr.setIfInBounds p.1 (.slice (some ⟨g,0,none⟩) ((aR L p.1).length+1) cap)) (wa.setIfInBounds p.2 (I ((fw L p.2+1:Nat)))):=by
 have Gr:va.ownBlock=none\/∃g,va.ownBlock=some g/\B<=g/\g<W.heap.size:=by
  obtain⟨fj,e1,e2⟩:=h.row p.1 pS;rw[gG] at e1;cases e1;exact DK e2
 have hne:∀x,x<B->va.ownBlock≠some x:=fun x hx e=>by
  rcases Gr with h0|⟨g',h0,h1,_⟩
  ·rw[h0] at e;cases e
  ·rw[h0] at e;cases e;omega
 have DJ:B<=g:=(aV.lt g rfl).1
 have fq:∀{fj:Value} {m:Nat} {xs:List Value},W2.ownsRow B 3 1 fj m xs->((W2.setCell ⟨gn,p.1,none⟩ (.slice (some ⟨g,0,none⟩) ((aR L p.1).length+1) cap)).setCell ⟨gw,p.2,none⟩ (I ((fw L p.2+1:Nat)))).ownsRow B 3 1 fj m xs:=by
  intro fj m xs ho
  have Sp:∀x,x<B->fj.ownBlock=none\/fj.ownBlock≠some x:=fun x hx=>by
   rcases DK ho with h0|⟨g',h0,h1,_⟩
   ·exact .inl h0
   ·exact .inr (by rw[h0];intro e;cases e;omega)
  have h1:W2.grownBy (W2.setCell ⟨gn,p.1,none⟩ (.slice (some ⟨g,0,none⟩) ((aR L p.1).length+1) cap)) (some gn):=⟨rfl,rfl,rfl,ai,fun k _ hk=>zY _ _ _ _ (fun e=>hk (by rw[e]))⟩
  have h2:∀W3:World,W3.grownBy (W3.setCell ⟨gw,p.2,none⟩ (I ((fw L p.2+1:Nat)))) (some gw):=fun W3=>⟨rfl,rfl,rfl,ai,fun k _ hk=>zY _ _ _ _ (fun e=>hk (by rw[e]))⟩
  exact(ho.kept h1 (Sp gn h.ln)).kept (h2 _) (Sp gw h.lw)
 exact {
  bn:=(((h.bn.grown sF (hne gn h.ln)).set p.1 _).setOther _ _ (fun e=>h.ne e.symm))
  bw:=(((h.bw.grown sF (hne gw h.lw)).setOther ⟨gn,p.1,none⟩ _ h.ne).set p.2 _)
  ne:=h.ne
  ln:=h.ln
  lw:=h.lw
  hB:=by simp only[World.size_setCell];exact bh h.hB hsz
  sn:=by rw[Ip];exact h.sn
  sw:=by rw[Ip];exact h.sw
  wt:=fun b hb=>by
   rw[awX];by_cases e:p.2=b
   ·subst e;rw[sT (by rw[h.sw];exact xp)];simp
   ·rw[qp e,h.wt b hb];simp[e]
  row:=fun a ha=>by
   by_cases e:p.1=a
   ·subst e;refine⟨_,by rw[sT (by rw[h.sn];exact pS)],?_⟩;rw[Sn,aj rfl];have:=fq aV;simpa [nv] using this
   ·obtain⟨fj,e1,e2⟩:=h.row a ha;refine⟨fj,by rw[qp e];exact e1,?_⟩;rw[Sn,af e];exact fq (e2.kept sF (h.sep a p.1 fj va (fun x=>e x.symm) e1 gG))
  sep:=fun a a' x y Gs hx hy=>by
   by_cases e:p.1=a
   ·subst e;rw[sT (by rw[h.sn];exact pS)] at hx;cases hx;rw[qp Gs] at hy;right;intro e2;have ud:y.ownBlock=some g:=e2.symm
    have ha':a'<n:=by have:=(nB.1 hy).1;rw[h.sn] at this;exact this
    obtain⟨y',f1,f2⟩:=h.row a' ha';rw[hy] at f1;cases f1;have hlt:=(f2.lt g ud).2
    rcases hg with hg|hg
    ·rcases h.sep p.1 a' va y Gs gG hy with h0|h0
     ·rw[h0] at hg;cases hg
     ·exact h0 (hg.trans ud.symm)
    ·omega
   ·rw[qp e] at hx;by_cases e':p.1=a'
    ·subst e';rw[sT (by rw[h.sn];exact pS)] at hy;cases hy;right;intro e2;have vP:x.ownBlock=some g:=e2
     have ha:a<n:=by have:=(nB.1 hx).1;rw[h.sn] at this;exact this
     obtain⟨x',f1,f2⟩:=h.row a ha;rw[hx] at f1;cases f1;have hlt:=(f2.lt g vP).2
     rcases hg with hg|hg
     ·rcases h.sep p.1 a va x (fun z=>e z) gG hx with h0|h0
      ·rw[h0] at hg;cases hg
      ·exact h0 (hg.trans vP.symm)
     ·omega
    ·rw[qp e'] at hy
     exact h.sep a a' x y Gs hx hy }
end
section
open Go.RowKit
variable {B a b gn gw i x:Nat} {L:List (Nat×Nat)} {W W' w w3:World} {arr wa:Array Value} {done l:List Nat} {t t':Nat->Nat} {v:Value}
theorem ahX (f g:Nat->Nat)(i c:Nat):∀n,i<n->(∀a<n,a≠i->f a=g a)->f i=g i+c->((List.range n).map f).sum=((List.range n).map g).sum+c
 |0,h,_,_=>ab
 |n+1,h,h1,h2=>by
  rw[ng,cU,cU,List.sum_append,List.sum_append];simp only[cY,lN,EO,List.sum_nil];by_cases e:i=n
  ·subst e
   have:(List.range i).map f=(List.range i).map g:=Ix fun a ha=>h1 a (by have:=fK.1 ha;omega) (by have:=fK.1 ha;omega)
   rw[this];omega
  ·rw[ahX f g i c n ab (fun a ha=>h1 a ab) h2,h1 n ab (fun e'=>e e'.symm)];omega
theorem ahY(n b:Nat)(L:List (Nat×Nat))(h:∀p∈L,p.1<n):(rz (aR L) n).count b=fw L b:=by
 induction L with
 |nil=>
  have:rz (aR []) n=[]:=by
   unfold rz;rw[List.flatMap_eq_nil_iff];intro a _;rfl
  rw[this];rfl
 |cons p L ih=>
  have ih:=ih (fun q hq=>h q (kA _ hq));unfold rz at ih⊢;rw[List.count_flatMap] at ih⊢;rw[ahX (List.count b∘aR (p::L)) (List.count b∘aR L) p.1 (if p.2=b then 1 else 0) n (h p Lo),ih]
  ·unfold fw;rw[cY,List.count_cons];simp
  ·intro a _ ha;simp[aR,Ne.symm ha]
  ·simp[aR,List.count_cons]
theorem Bp{n:Nat}(h:∀p∈L,p.1<p.2/\p.2<n)(hb:b∈aR L a):a<b/\b<n:=by
 unfold aR at hb;obtain⟨p,hp,rfl⟩:=dh.1 hb;obtain⟨h1,h2⟩:=mq.1 hp;have:=h p h1;simp at h2;omega
def iu (W:World)(gw n:Nat)(t:Nat->Nat):Prop:=∃wa:Array Value,ax W gw wa/\wa.size=n/\∀b<n,wa[b]? =some (I (t b:Nat))
theorem iu.cell{n:Nat}(h:iu W gw n t)(hb:b<n):W.cell? ⟨gw,b,none⟩=some (I (t b:Nat))/\W.frozen? ⟨gw,b,none⟩=false:=by
 obtain⟨wa,h1,h2,h3⟩:=h;exact⟨(h1.cell b).trans (h3 b hb),h1.frozen b⟩
theorem iu.set{n:Nat}(h:iu W gw n t)(b:Nat)(ho:∀c,c≠b->t' c=t c):iu (W.setCell ⟨gw,b,none⟩ (I (t' b:Nat))) gw n t':=by
 obtain⟨wa,h1,h2,h3⟩:=h;refine⟨_,h1.set b _,by rw[Ip];exact h2,fun c hc=> ?_⟩;by_cases e:b=c
 ·subst e;rw[sT (by rw[h2];exact hc)]
 ·rw[qp e,h3 c hc,ho c (fun x=>e x.symm)]
theorem iu.kept{n:Nat}(h:iu W gw n t)(hb:Below B W W')(hg:gw<B):iu W' gw n t:=by
 obtain⟨wa,h1,h2,h3⟩:=h;exact⟨wa,h1.kept hb hg,h2,h3⟩
theorem iu.congr{n:Nat}(h:iu W gw n t)(ht:∀b<n,t' b=t b):iu W gw n t':=by
 obtain⟨wa,h1,h2,h3⟩:=h;exact⟨wa,h1,h2,fun b hb=>by rw[ht b hb];exact h3 b hb⟩
theorem oO.read{n:Nat}(h:oO B gn gw n W L arr wa)(ha:a<n):
  ∃va,∀W',cJ gw W W'->W'.cell? ⟨gn,a,none⟩=some va/\Flat W' 1 va (aR L a).length (nv (aR L a)):=by
 obtain⟨va,h1,h2⟩:=h.row a ha;refine⟨va,fun W' hA=>⟨?_,Flat.PT h2 h.lw hA⟩⟩;rw[hA.2 gn a (iB h.ln h.hB) h.ne];exact(h.bn.cell a).trans h1
theorem oO.ahZ{n:Nat}(h:oO B gn gw n W L arr wa):iu W gw n (fw L):=⟨wa,h.bw,h.sw,h.wt⟩
theorem Ze{e:TypeId}{k:Nat}{n:Nat}{xs:List Value}(h:W.ownsRow B e k v n xs)(a:Addr)(u:Value)(ha:a.block<B):(W.setCell a u).ownsRow B e k v n xs:=by
 refine h.kept ⟨rfl,rfl,rfl,ai,fun j _ hj=>zY _ _ _ _ (fun e=>hj (by rw[e]))⟩ (row:=some a.block) ?_
 rcases DK h with h0|⟨g,h0,h1,_⟩
 ·exact .inl h0
 ·exact .inr (by rw[h0];intro e;cases e;omega)
theorem awY(l:List Nat):(nv l).length=l.length:=by simp[nv]
theorem Zf(l:List Nat)(i:Nat):nv (l++[i])=nv l++[I (i:Int)]:=by simp[nv]
theorem awZ(h:l[i]? =some x):(nv l)[i]? =some (I (x:Int)):=by simp[nv,h]
theorem Sq{a:Option Addr}{m c n:Nat}(h:Flat w 1 (.slice a m c) n (nv l))(hi:l[i]? =some x):∃b o,a=some ⟨b,o,none⟩/\w.cell? ⟨b,o+i,none⟩=some (I (x:Int)):=by
 have hlt:=(bG.1 hi).1;obtain⟨b,o,ha,hc⟩:=h.cells (by rw[awY];omega);exact⟨b,o,ha,hc i _ (awZ hi)⟩
theorem axa(Z:Nat->Bool)(k:Nat):(List.range (k+1)).filter Z=(List.range k).filter Z++if Z k then [k] else []:=by
 rw[ng,qq];by_cases h:Z k<;>simp[h]
structure QM (n gw:Nat)(L:List (Nat×Nat))(w w3 W:World)(row done:List Nat)(v:Value):Prop where
 ag:cJ gw w3 W
 wt:iu W gw n (fun b=>fw L b-done.count b)
 own:W.ownsRow w3.heap.size 3 1 v row.length (nv row)
 be:ay w W
theorem QM.drew{n:Nat}{row:List Nat}(h:QM n gw L w w3 W row done v):QM n gw L w w3 W.drew row done v:=
 ⟨h.ag.drew,h.wt,rU h.own (Below.refl _ _).drew,h.be.drew⟩
theorem QM.kept{n:Nat}{row:List Nat}(h:QM n gw L w w3 W row done v)(hb:ay W W')(h1:gw<w3.heap.size):QM n gw L w w3 W' row done v:=
 ⟨⟨bh h.ag.1 hb.size,fun x o hx hg=>(hb.cell (p:=⟨x,o,none⟩) (iB hx h.ag.1)).trans (h.ag.2 x o hx hg)⟩,h.wt.kept hb (iB h1 h.ag.1),rU h.own hb,h.be.trans (hb.mono h.be.size)⟩
theorem QM.set{n:Nat}{row:List Nat}(h:QM n gw L w w3 W row done v)(b c:Nat)(hc:fw L b-done.count b=c+1)(h1:gw<w3.heap.size)(h2:w.heap.size<=gw):
  QM n gw L w w3 (W.setCell ⟨gw,b,none⟩ (I c)) row (done++[b]) v where
 ag:=h.ag.trans (cJ.set gw W b _)
 wt:=by
  have:=h.wt.set (t':=fun x=>fw L x-(done++[b]).count x) b (fun x hx=>by
   show fw L x-(done++[b]).count x=fw L x-done.count x
   rw[Ac]
   simp[Ne.symm hx])
  have e:fw L b-(done++[b]).count b=c:=by
   rw[Ac];simp;omega
  simp only[e] at this;exact this
 own:=Ze h.own _ _ h1
 be:=h.be.setCell h2 _
theorem QM.app{n:Nat}{row:List Nat}{v':Value}(h:QM n gw L w w3 W row done v)(b:Nat)(h1:gw<w3.heap.size)(h2:w.heap.size<=gw)
  (ho:W'.ownsRow w3.heap.size 3 1 v' (row.length+1) (nv row++[I (b:Int)])) (hb:Below w3.heap.size W W'):QM n gw L w w3 W' (row++[b]) done v' where
 ag:=⟨bh h.ag.1 hb.size,fun x o hx hg=>(hb.cell (p:=⟨x,o,none⟩) hx).trans (h.ag.2 x o hx hg)⟩
 wt:=h.wt.kept hb h1
 own:=by rw[List.length_append,Zf];exact ho
 be:=h.be.trans (hb.mono ab)
def Sr (w4:World)(k:Nat)(v:Value)(wc:World):Prop:=∃ga gp gv:Nat,v=.pointer (some ⟨gv,0,none⟩)/\w4.heap.size<=ga/\w4.heap.size<=gp/\w4.heap.size<=gv/\ga≠gp/\ga≠gv/\gp≠gv/\
 ax wc ga (eW k (.slice none 0 0))/\ax wc gp #[I k,.slice (some ⟨ga,0,none⟩) k k]/\ax wc gv #[.pointer (some ⟨gp,0,none⟩)]/\ay w4 wc
end
section
open Go.RowKit Go.Shelf
attribute [local go_sem] Oper.semAt_some
variable {A B C W W':World} {G g l lo:Nat} {P:Nat->Prop} {arr cs:Array Value} {nx:Nat->List Nat} {o:Obj} {wd:Nat->Option Nat}
def gR (P:Nat->Prop)(A B:World):Prop:=∀b o,P b->B.cell? ⟨b,o,none⟩=A.cell? ⟨b,o,none⟩
theorem gR.refl(P:Nat->Prop)(A:World):gR P A A:=fun _ _ _=>rfl
theorem gR.trans(h:gR P A B)(k:gR P B C):gR P A C:=fun b o hb=>(k b o hb).trans (h b o hb)
theorem gR.set(h:gR P A B)(a:Addr)(v:Value)(ha:¬P a.block):gR P A (B.setCell a v):=fun b o hb=>
 (Pz _ _ _ _ (fun e=>ha (by rw[e];exact hb))).trans (h b o hb)
theorem gR.below{n:Nat}(h:Below n A B)(hP:∀b,P b->b<n):gR P A B:=fun b o hb=>h.cell (p:=⟨b,o,none⟩) (hP b hb)
def uj {n:Nat}(row:List (Fin n))(k:Nat):List (Fin n×Nat):=(row.zipIdx.drop k).reverse
def fv {n:Nat}(row:List (Fin n)):List Nat:=row.map Fin.val
theorem axb{n:Nat}(row:List (Fin n)):uj row (fv row).length=[]:=by simp[uj,fv]
theorem axc{n:Nat}(row:List (Fin n))(k:Nat)(x:Fin n)(h:row[k]? =some x):uj row k=uj row (k+1)++[(x,k)]:=by
 obtain⟨hk,rfl⟩:=bG.1 h;unfold uj;rw[List.drop_eq_getElem_cons (by simpa using hk)];simp
theorem axd{n:Nat}(row:List (Fin n))(k:Nat):(uj row k).length=row.length-k:=by simp[uj]
theorem axe{n:Nat}(row:List (Fin n)):(uj row 0).map Prod.fst=row.reverse:=by
 unfold uj;rw[sY,List.map_reverse,List.zipIdx_map_fst]
def Zg {n:Nat}(x:Fin n×Nat):Array Value:=#[I x.2,I x.1.val]
theorem axf{m:Nat}(n:Nat)(hn:1<=n)(row:List (Fin m))(tb:Nat)(v:Value)(w0:World)(P:Nat->Prop)(fL:w0.cell? ⟨tb,0,none⟩=some v)(aW:Flat w0 1 v (fv row).length (nv (fv row)))(hlen:(fv row).length<=1000000)
  (hP:∀b,P b->b<w0.heap.size) (hPt:P tb) (hPr:∀b o m c,v=.slice (some ⟨b,o,none⟩) m c->P b):
  SeqStopsK Fence.wide n Tryz.prog 152 #[.pointer (some ⟨tb,0,none⟩)] Zg (gR P) (fun xs=>xs=uj row 0) (fun _=>True) (fv row).length w0:=by
 intro l J Jx W hW hJ hJx hY h0;obtain⟨ka,ca,rfl,jf⟩:=aW.open;have lH:W.cell? ⟨tb,0,none⟩=some (.slice ka (fv row).length ca):=(hW.cell (p:=⟨tb,0,none⟩) (hP _ hPt)).trans fL;have HY:=ae hY;clear hY;refine callsIn_of_wp Tryz.func152 rfl trivial ?_ rfl;simp only[Tryz.ntmps152,yf,List.length_cons,List.length_nil,Nat.reduceAdd,Nat.reduceSub,Iv,Iw,Iz,Iy,List.nil_append,List.cons_append]
 gi_wp2
 gi_loopw [3] (fun p wr=>∃k:Nat,k<=(fv row).length/\p=.int .i64 ((k:Int)-1)/\gR P w0 wr/\J (uj row k) wr) (fun p _=>(intOf p+1).toNat)
 case atStart=>exact⟨(fv row).length,cI _,rfl,gR.below hW hP,by rw[axb];exact h0⟩
 case round=>
  clear lH;obtain⟨k,hk,rfl,hK,Kg⟩:=hrel
  cases k with
  |zero=>
   gi_wp2
   go_end0;exact⟨⟨_,rfl⟩,.inl ⟨_,rfl,Kg⟩⟩
  |succ k=>
   have lW:k<(fv row).length:=ab;have e1:((k+1:Nat):Int)-1=(k:Int):=ab;rw[e1];have nr:=(hK tb 0 hPt).trans fL
   obtain⟨x,hx⟩:∃x,row[k]? =some x:=⟨row[k]'(by simpa [fv] using lW),ai⟩
   obtain⟨b,o,rfl,hc⟩:=Sq aW (i:=k) (x:=x.val) (by simp[fv,hx]);have wY:=(hK b (o+k) (hPr b o _ _ rfl)).trans hc;have hsx:=axc row k x hx;have Hs:=ae hsx;have Zh:=ae (show(uj row (k+1)).length<(fv row).length by rw[axd];simp[fv] at lW⊢;omega);obtain⟨fn,tmps,assign,body,hy,hR⟩:=HY.out _ (x,k) wr Kg Zh.out;dsimp only[Zg] at hy;clear hsx e1 hx hc
   gi_wp2
   refine hR.mono ?_;rintro e W3 (⟨rfl,Zi,DL⟩|⟨rfl,axg⟩)
   ·gi_wp2
    go_roundw
    case rel=>exact⟨k,ab,rfl,hK.trans DL,by rw[Hs.out];exact Zi⟩
    case measure=>simp[intOf]
   ·gi_wp2
    refine wv (results_none rfl _ _ _) rfl ?_;exact⟨⟨_,rfl⟩,.inr ⟨_,trivial,axg⟩⟩
theorem backward(a:Option Addr)(n c:Nat)(w:World):Calls Tryz.prog 106 #[.slice a n c] w fun e w'=>e=.returned (.func (.func 152) #[] #[.pointer (some ⟨w.heap.size,0,none⟩)])/\w'=w.alloc (.cells #[.slice a n c] 22):=by
 go_enter Tryz.func106,Tryz.ntmps106;go_wp2_with fail;go_ret;exact⟨rfl,rfl⟩
theorem gR.putObj(W:World)(l:Nat)(o':Obj)(h:¬P l):gR P W (W.putObj l o'):=fun b o hb=>by
 have hne:b≠l:=by
  rintro rfl;exact h hb
 simp[World.cell?,World.putObj_heap_other hne]
theorem Zj{α:Type}{P:List α->Prop}(nil:P [])(append_singleton:∀l a,P l->P (l++[a]))(l:List α):P l:=by
 have h:∀m:List α,P m.reverse:=fun m=>by
  induction m with
  |nil=>exact nil
  |cons a m ih=>rw[uM];exact append_singleton _ _ ih
 have:=h l.reverse;rwa[List.reverse_reverse] at this
def zy (g:Nat->Nat)(l:List Nat):Nat:=l.foldl (fun m b=>(m|||2^b)|||g b) 0
def lU (nx:Nat->List Nat)(wd:Nat->Option Nat)(a:Nat):Nat->Option Nat:=fun x=>if x=a then some (zy (fun b=>(wd b).getD 0) (nx a)) else wd x
def vQ (nx:Nat->List Nat)(al:List Nat):Nat->Option Nat:=al.foldl (lU nx) (fun _=>none)
theorem Zk(g:Nat->Nat)(l:List Nat)(b:Nat):zy g (l++[b])=(zy g l|||2^b)|||g b:=by simp[zy]
theorem Zl(g:Nat->Nat)(l:List Nat)(hl:∀b∈l,b<64/\g b<iq):zy g l<iq:=by
 induction l using Zj with
 |nil=>show 0<2^64;omega
 |append_singleton l b ih=>
  rw[Zk];have h1:=ih (fun c hc=>hl c (EK _ hc));have h2:=hl b ai;exact Lt (Lt h1 (Sj b h2.1)) h2.2
theorem axh(g:Nat->Nat)(l:List Nat)(k:Nat):(zy g l).testBit k=l.any fun b=>b==k||(g b).testBit k:=by
 induction l using Zj with
 |nil=>simp[zy]
 |append_singleton l b ih=>
  rw[Zk,Nat.testBit_or,Nat.testBit_or,ih,Nat.testBit_two_pow];simp[Bool.or_assoc];rfl
theorem aia(nx:Nat->List Nat)(al:List Nat)(a:Nat):vQ nx (al++[a])=lU nx (vQ nx al) a:=by simp[vQ]
theorem axi(nx:Nat->List Nat)(n:Nat)(hn:n<=64)(f:Nat->Nat->Bool)(ju:∀a<n,∀b∈nx a,b<n)(hf:∀a<n,∀k<n,f a k=(nx a).any fun b=>b==k||f b k)(al:List Nat)(cB:al.Nodup)(hlt:∀a∈al,a<n)
  (ho:∀q a,al[q]? =some a->∀b∈nx a,b∈al.take q):∀a∈al,∃m,vQ nx al a=some m/\m<iq/\∀k<n,m.testBit k=f a k:=by
 induction al using Zj with
 |nil=>intro a ha;simp at ha
 |append_singleton al a ih=>
  have axj:=Lr.1 cB
  have ik:∀x∈al,x<n:=fun x hx=>hlt x (EK _ hx)
  have ih:=ih axj.1 ik (fun q x hq b hb=>by
   have fu:=(bG.1 hq).1;have:=ho q x (by rw[lJ fu];exact hq) b hb
   rwa[sU ab] at this)
  have vJ:=hlt a ai
  have dF:∀b∈nx a,b∈al:=fun b hb=>by
   have:=ho al.length a ai b hb;rwa[nW] at this
  intro x hx;rw[aia];unfold lU;by_cases e:x=a
  ·subst e;rw[aj rfl];refine⟨_,rfl,Zl _ _ fun b hb=> ?_,fun k hk=> ?_⟩
   ·obtain⟨m,h1,h2,_⟩:=ih b (dF b hb);rw[h1];have:=ju x vJ b hb;exact⟨ab,h2⟩
   ·rw[axh,hf x vJ k hk,qy,Ae,Ae]
    have key:∀b∈nx x,((vQ nx al b).getD 0).testBit k=f b k:=fun b hb=>by
     obtain⟨m,h1,_,h3⟩:=ih b (dF b hb);rw[h1];exact h3 k hk
    constructor
    ·rintro⟨b,hb,h⟩;exact⟨b,hb,by rwa[key b hb] at h⟩
    ·rintro⟨b,hb,h⟩;exact⟨b,hb,by rwa[key b hb]⟩
  ·rw[af e];refine ih x ?_
   rcases fJ.1 hx with h|h
   ·exact h
   ·simp at h;exact absurd h e
def uk (W:World)(n lo:Nat)(arr:Array Value)(wd:Nat->Option Nat):Prop:=arr.size=n/\∀a<n,match wd a with
 |none=>arr[a]? =some (.slice none 0 0)
 |some m=>m<iq/\∃gi,lo<=gi/\gi<W.heap.size/\arr[a]? =some (.slice (some ⟨gi,0,none⟩) 1 1)/\W.cell? ⟨gi,0,none⟩=some (.int .u64 ((m:Nat):Int))
theorem uk.kept{n:Nat}(h:uk W n lo arr wd)(hs:W.heap.size<=W'.heap.size)(hc:∀b v,lo<=b->b<W.heap.size->W.cell? ⟨b,0,none⟩=some v->W'.cell? ⟨b,0,none⟩=some v):uk W' n lo arr wd:=by
 refine⟨h.1,fun a ha=> ?_⟩;have:=h.2 a ha;split
 ·rename_i e;rw[e] at this;exact this
 ·rename_i m e;rw[e] at this;obtain⟨h1,gi,h2,h3,h4,h5⟩:=this;exact⟨h1,gi,h2,ab,h4,hc gi _ h2 h3 h5⟩
theorem uk.step{n:Nat}(h:uk W n lo arr wd)(a:Nat)(ha:a<n)(ju:∀b∈nx a,b<n)(hn:n<=64)(nI:lo<=W.heap.size)
  (hs:W.heap.size<W'.heap.size) (hc:∀b v,lo<=b->b<W.heap.size->W.cell? ⟨b,0,none⟩=some v->W'.cell? ⟨b,0,none⟩=some v)
  (hg:W'.cell? ⟨W.heap.size,0,none⟩=some (.int .u64 ((zy (fun b=>(wd b).getD 0) (nx a):Nat):Int))):
  uk W' n lo (arr.setIfInBounds a (.slice (some ⟨W.heap.size,0,none⟩) 1 1)) (lU nx wd a):=by
 have hk:=h.kept (W':=W') ab hc;refine⟨by rw[Ip];exact h.1,fun x hx=> ?_⟩;unfold lU;by_cases e:x=a
 ·subst e;rw[aj rfl];refine⟨Zl _ _ fun b hb=>⟨by have:=ju b hb;omega,?_⟩,W.heap.size,nI,hs,by rw[sT (by rw[h.1];exact hx)],hg⟩;have:=h.2 b (ju b hb)
  cases hw:wd b with
  |none=>show 0<2^64;omega
  |some m=>
   rw[hw] at this;exact this.1
 ·rw[af e];have:=hk.2 x hx;rw[qp (Ne.symm e)];exact this
theorem uk.start(W:World)(n lo:Nat):uk W n lo (eW n (.slice none 0 0)) (fun _=>none):=⟨DF _ _,fun _ ha=>DG _ _ _ ha⟩
theorem axk(b o c:Nat)(w:World):
  Calls Tryz.prog 62 #[.slice (some ⟨b,o,none⟩) 1 c,.slice none 0 0] w fun e w'=>e=.returned (.tuple #[])/\w'=w:=by
 go_enter Tryz.func62,Tryz.ntmps62;go_wp2;refine wp_loop_rounds 1 ?_;rw[rounds_succ];go_wp2;go_end0;exact⟨rfl,rfl⟩
theorem ax.aib(h:ax W g cs){row:Option Nat}(hg:W.grownBy W' row)(hr:∀r,row=some r->∃o:Obj,W.heap[r]? =some o/\o.isCells=false):ax W' g cs:=by
 refine h.grown hg fun e=> ?_
 obtain⟨o,h1,h2⟩:=hr g e;obtain⟨t,h3⟩:=h;rw[h3] at h1;cases h1;cases h2
theorem ax.putObj(h:ax W g cs)(o':Obj)(hl:W.heap[l]? =some o)(ho:o.isCells=false):ax (W.putObj l o') g cs:=
 h.aib (grownBy_putObj' W l o') (fun r e=>by cases e;exact⟨o,hl,ho⟩)
theorem axl{n:Nat}{row done:List Nat}(h:pU nx n row done)(axm:∀i<n,i∈row)(ju:∀a<n,∀b∈nx a,b<n):∀q a,row.reverse[q]? =some a->∀b∈nx a,b∈row.reverse.take q:=by
 intro q a hq b hb
 have fu:q<row.length:=by have:=(bG.1 hq).1;simpa using this
 rw[List.getElem?_reverse fu] at hq;have vJ:=h.lt a (dD hq);obtain⟨p,hp⟩:=yb (axm b (ju a vJ b hb));have ig:=(bG.1 hp).1;have ha:=h.order p b hp a vJ hb;obtain⟨j,hj⟩:=yb ha;have dV:=(bG.1 hj).1;rw[dS] at dV;rw[List.getElem?_take_of_lt ab] at hj;have hjq:j=row.length-1-q:=(List.getElem?_inj ab h.nodup).1 (hj.trans hq.symm)
 have:row.reverse[row.length-1-p]? =some b:=by
  rw[List.getElem?_reverse ab,show row.length-1-(row.length-1-p)=p by omega];exact hp
 refine dD (i:=row.length-1-p) ?_;rw[List.getElem?_take_of_lt ab];exact this
theorem axn{k ga gp:Nat}{f:Nat->Nat->Bool}(hn:k<=64)(hb:ax W ga arr)(h0:W.cell? ⟨gp,0,none⟩=some (I k))(h1:W.cell? ⟨gp,1,none⟩=some (.slice (some ⟨ga,0,none⟩) k k))
  (dH:uk W k lo arr wd) (kH:∀i<k,∃m,wd i=some m/\m<iq/\∀j<k,m.testBit j=f i j):zx W (.pointer (some ⟨gp,0,none⟩)) k f:=by
 refine⟨hn,gp,ga,k,rfl,h0,h1,fun i hi=> ?_⟩;obtain⟨m,e,h2,h3⟩:=kH i hi;have:=dH.2 i hi;rw[e] at this;obtain⟨_,gi,_,_,h4,h5⟩:=this;exact⟨gi,1,m,(hb.cell i).trans h4,h5,h2,h3⟩
theorem Zm{a:Addr}{v:Value}(h:W.cell? a=some v)(o':Obj)(hl:W.heap[l]? =some o)(ho:o.isCells=false):(W.putObj l o').cell? a=some v:=
 cell_kept h (grownBy_putObj' W l o') (fun r e=>by cases e;exact⟨o,hl,ho⟩)
structure Touch (G:Nat)(W W':World):Prop where
 size:W'.heap.size=W.heap.size
 cell:∀b o,b≠G->W'.cell? ⟨b,o,none⟩=W.cell? ⟨b,o,none⟩
 others:KeepsOthers W W'
 below:∀B,B<=G->Below B W W'
 cj:∀g cs,g≠G->ax W g cs->ax W' g cs
theorem Touch.refl(G:Nat)(W:World):Touch G W W:=⟨rfl,fun _ _ _=>rfl,KeepsOthers.refl W,fun _ _=>Below.refl _ _,fun _ _ _ h=>h⟩
theorem Touch.trans(h:Touch G A B)(k:Touch G B C):Touch G A C:=
 ⟨k.size.trans h.size,fun b o hb=>(k.cell b o hb).trans (h.cell b o hb),h.others.trans k.others,fun n hn=>(h.below n hn).trans (k.below n hn),fun g cs hg hb=>k.cj g cs hg (h.cj g cs hg hb)⟩
theorem Touch.set(G o:Nat)(W:World)(v:Value):Touch G W (W.setCell ⟨G,o,none⟩ v):=
 ⟨ai,fun b o' hb=>Pz _ _ _ _ (fun e=>hb (aG Addr.block e).symm),KeepsOthers.setCell _ _ _,fun _ hB=>(Below.refl _ W).setCell hB _,fun _ _ hg hb=>hb.setOther _ _ (fun e=>hg e.symm)⟩
theorem Touch.drew(h:Touch G W W'):Touch G W W'.drew:=
 ⟨h.size,h.cell,h.others.trans (KeepsOthers.drew _),fun B hB=>(h.below B hB).drew,fun g cs hg hb=>(h.cj g cs hg hb).drew⟩
theorem Touch.drewN(h:Touch G W W')(n:Nat):Touch G W (W'.drewN n):=
 ⟨h.size,h.cell,h.others.trans ⟨cI _,fun _ _ h _=>h⟩,fun B hB=>below_drewN (h.below B hB) n,fun g cs hg hb=>(h.cj g cs hg hb).drewN n⟩
theorem axo(G m i:Nat)(w:World)(hG:ax w G #[.int .u64 ((m:Nat):Int)])(hm:m<iq)(hi:i<64):
  Calls Tryz.prog 107 #[.slice (some ⟨G,0,none⟩) 1 1,I i] w fun e w'=>e=.returned (.tuple #[])/\ax w' G #[.int .u64 ((m|||2^i:Nat):Int)]/\Touch G w w':=by
 refine(awC G 0 1 m i w (hG.cell 0) (hG.frozen 0) hm hi).mono ?_;rintro e w' ⟨rfl,n,rfl⟩;exact⟨rfl,(hG.set 0 _).drewN n,(Touch.set G 0 w _).drewN n⟩
theorem axp(G m mb:Nat)(tv:Value)(w:World)(hG:ax w G #[.int .u64 ((m:Nat):Int)])(hm:m<iq)
  (ht:(tv=.slice none 0 0/\mb=0)\/∃gi,tv=.slice (some ⟨gi,0,none⟩) 1 1/\w.cell? ⟨gi,0,none⟩=some (.int .u64 ((mb:Nat):Int))/\mb<iq):
  Calls Tryz.prog 62 #[.slice (some ⟨G,0,none⟩) 1 1,tv] w fun e w'=>e=.returned (.tuple #[])/\ax w' G #[.int .u64 ((m|||mb:Nat):Int)]/\Touch G w w':=by
 rcases ht with⟨rfl,rfl⟩|⟨gi,rfl,hc,Br⟩
 ·refine(axk G 0 1 w).mono ?_;rintro e w' ⟨rfl,rfl⟩;exact⟨rfl,by rw[Nat.or_zero];exact hG,Touch.refl _ _⟩
 ·refine(ahL G 0 1 gi 0 1 m mb w (hG.cell 0) (hG.frozen 0) hm hc Br).mono ?_;rintro e w' ⟨rfl,rfl⟩;exact⟨rfl,hG.set 0 _,Touch.set G 0 w _⟩
def Zn (k ga:Nat)(L:List (Nat×Nat))(w W6:World)(al:List Nat)(W:World):Prop:=∃arr:Array Value,ax W ga arr/\uk W k W6.heap.size arr (vQ (aR L) al)/\gR (fun b=>b<W6.heap.size/\b≠ga) W6 W/\W6.heap.size<=W.heap.size/\ay w W
theorem axq{n:Nat}{row:Option Nat}(hg:A.grownBy B row)(hr:∀r,row=some r->n<=r)(hP:∀b,P b->b<n)(hn:n<=A.heap.size):gR P A B:=fun b o hb=>by
 have:=hg.block b (iB (hP b hb) hn) (fun e=>by have:=hr b e.symm;have:=hP b hb;omega);simp[World.cell?,this]
theorem axr(k ga:Nat)(L:List (Nat×Nat))(w W6:World)(hw:w.heap.size<=W6.heap.size):OwnFrom W6.heap.size (fun(pre:List (Fin k×Nat)) W=>Zn k ga L w W6 (pre.map fun x=>x.1.val) W):=by
 intro s A B row hs hg hr;obtain⟨arr,h1,h2,h3,h4,h5⟩:=hs;refine⟨arr,h1.aib hg (fun r e=>(hr r e).2),h2.kept hg.size (fun b v _ _ hc=>cell_kept hc hg (fun r e=>(hr r e).2)),h3.trans (axq hg (fun r e=>(hr r e).1) (fun b hb=>hb.1) h4),bh h4 hg.size,?_⟩;exact h5.grown hg h5.size (fun r e=>by have:=(hr r e).1;omega)
theorem gR.Nv{P':Nat->Prop}(h:gR P A B)(hp:∀b,P' b->P b):gR P' A B:=fun b o hb=>h b o (hp b hb)
theorem uk.val{n:Nat}(h:uk W n lo arr wd){b:Nat}(hb:b<n):∃tv,arr[b]? =some tv/\((tv=.slice none 0 0/\(wd b).getD 0=0)\/∃gi,tv=.slice (some ⟨gi,0,none⟩) 1 1/\lo<=gi/\gi<W.heap.size/\W.cell? ⟨gi,0,none⟩=some (.int .u64 (((wd b).getD 0:Nat):Int))/\(wd b).getD 0<iq):=by
 have:=h.2 b hb
 cases hw:wd b with
 |none=>rw[hw] at this;exact⟨_,this,.inl ⟨rfl,rfl⟩⟩
 |some m=>rw[hw] at this;obtain⟨h1,gi,h2,h3,h4,h5⟩:=this;exact⟨_,h4,.inr ⟨gi,rfl,h2,h3,h5,h1⟩⟩
theorem axs(w:World)(k:Nat):Sr w k (.pointer (some ⟨w.heap.size+1+1,0,none⟩)) (((w.alloc (.cells (eW k (.slice none 0 0)) 148)).alloc (.cells #[I k,.slice (some ⟨w.heap.size,0,none⟩) k k] 146)).alloc (.cells #[.pointer (some ⟨w.heap.size+1,0,none⟩)] 73)).drew:=by
 refine⟨w.heap.size,w.heap.size+1,w.heap.size+1+1,rfl,ab,ab,ab,ab,ab,ab,(((ax.new w _ 148).alloc _).alloc _).drew,?_,?_,((((Below.refl _ w).alloc aA _).alloc ai _).alloc bC _).drew⟩
 ·have:=((ax.new (w.alloc (.cells (eW k (.slice none 0 0)) 148)) #[I k,.slice (some ⟨w.heap.size,0,none⟩) k k] 146).alloc (.cells #[.pointer (some ⟨w.heap.size+1,0,none⟩)] 73)).drew;simpa using this
 ·have:=(ax.new ((w.alloc (.cells (eW k (.slice none 0 0)) 148)).alloc (.cells #[I k,.slice (some ⟨w.heap.size,0,none⟩) k k] 146)) #[.pointer (some ⟨w.heap.size+1,0,none⟩)] 73).drew;simpa using this
theorem axt(w:World)(k:Nat):Sr w k (.pointer (some ⟨w.heap.size+1,0,none⟩)) (((w.alloc (.cells (eW k (.slice none 0 0)) 148)).alloc (.cells #[.pointer (some ⟨w.heap.size+1+1,0,none⟩)] 73)).alloc (.cells #[I k,.slice (some ⟨w.heap.size,0,none⟩) k k] 146)).drew:=by
 refine⟨w.heap.size,w.heap.size+1+1,w.heap.size+1,rfl,ab,ab,ab,ab,ab,ab,(((ax.new w _ 148).alloc _).alloc _).drew,?_,?_,((((Below.refl _ w).alloc aA _).alloc ai _).alloc bC _).drew⟩
 ·have:=(ax.new ((w.alloc (.cells (eW k (.slice none 0 0)) 148)).alloc (.cells #[.pointer (some ⟨w.heap.size+1+1,0,none⟩)] 73)) #[I k,.slice (some ⟨w.heap.size,0,none⟩) k k] 146).drew;simpa using this
 ·have:=((ax.new (w.alloc (.cells (eW k (.slice none 0 0)) 148)) #[.pointer (some ⟨w.heap.size+1+1,0,none⟩)] 73).alloc (.cells #[I k,.slice (some ⟨w.heap.size,0,none⟩) k k] 146)).drew;simpa using this
theorem axu(w:World)(k:Nat):Sr w k (.pointer (some ⟨w.heap.size,0,none⟩)) (((w.alloc (.cells #[.pointer (some ⟨w.heap.size+1+1,0,none⟩)] 73)).alloc (.cells (eW k (.slice none 0 0)) 148)).alloc (.cells #[I k,.slice (some ⟨w.heap.size+1,0,none⟩) k k] 146)).drew:=by
 refine⟨w.heap.size+1,w.heap.size+1+1,w.heap.size,rfl,ab,ab,ab,ab,ab,ab,?_,?_,(((ax.new w _ 73).alloc _).alloc _).drew,((((Below.refl _ w).alloc aA _).alloc ai _).alloc bC _).drew⟩
 ·have:=((ax.new (w.alloc (.cells #[.pointer (some ⟨w.heap.size+1+1,0,none⟩)] 73)) (eW k (.slice none 0 0)) 148).alloc (.cells #[I k,.slice (some ⟨w.heap.size+1,0,none⟩) k k] 146)).drew;simpa using this
 ·have:=(ax.new ((w.alloc (.cells #[.pointer (some ⟨w.heap.size+1+1,0,none⟩)] 73)).alloc (.cells (eW k (.slice none 0 0)) 148)) #[I k,.slice (some ⟨w.heap.size+1,0,none⟩) k k] 146).drew;simpa using this
end
section
open Go.RowKit Go.Shelf
attribute [local go_sem] Oper.semAt_some
theorem axv:(Tryz.prog.info? 148).map (fun i=>(i.zero,i.size,i.bytes))=some (some (.slice none 0 0),1,24):=ah
theorem aic:(Tryz.prog.info? 196).map (fun i=>(i.zero,i.size,i.bytes))=some (some (.int .u64 0),1,8):=ah
theorem axw (n:Nat)(L:List (Nat×Nat))(v:Value)(w:World)(hL:Flat w 2 v L.length (L.flatMap pc))(hn:n<=64)(pX:∀p∈L,p.1<p.2/\p.2<n)(Kh:L.length<=10000)
  (f:Nat->Nat->Bool) (hf:∀a<n,∀k<n,f a k=(aR L a).any fun b=>b==k||f b k):
  Calls Tryz.prog 59 #[I n,v] w fun e w'=>∃p,e=.returned (.tuple #[p,I 0])/\zx w' p n f/\ay w w':=by
 obtain⟨ka,ca,rfl,jf⟩:=hL.open
 have DM:=fun W=>DI (P:=Tryz.prog) 71 22 (.slice none 0 0) 24 n Tryz.underlying71 ahW rfl ab ab W
 have Zo:=fun W=>DI (P:=Tryz.prog) 22 3 (.int .i64 0) 8 n Tryz.underlying22 Co rfl ab ab W
 have Hf:=ae hf;clear hf;refine(ER (n:=5)).1 ?_;refine callsIn_of_wp_marks Tryz.func59 rfl trivial ?_ rfl;simp only[Tryz.ntmps59,yf,List.length_cons,List.length_nil,Nat.reduceAdd,Nat.reduceSub,Iv,Iw,Iz,Iy,List.nil_append,List.cons_append];refine wpIn_wide.2 ?_;go_wp2_with fail
 obtain⟨W0,DN,Bs,hbG,DO,hbW,kV,xk⟩:∃W0:World,W0=(((w.alloc (.cells #[I n] 3)).alloc (.cells (eW n (.slice none 0 0)) 22)).alloc (.cells #[.slice (some ⟨w.heap.size+1,0,none⟩) n n] 71)).alloc (.cells (eW n (.int .i64 0)) 3)/\
   ax W0 w.heap.size #[I n]/\ax W0 (w.heap.size+1) (eW n (.slice none 0 0))/\ax W0 (w.heap.size+1+1) #[.slice (some ⟨w.heap.size+1,0,none⟩) n n]/\ax W0 (w.heap.size+1+1+1) (eW n (.int .i64 0))/\ay w W0/\W0.heap.size=w.heap.size+1+1+1+1:=by
  refine⟨_,rfl,(((ax.new w #[I n] 3).alloc _).alloc _).alloc _,?_,?_,?_,((((Below.refl _ w).alloc aA _).alloc ai _).alloc bC _).alloc bC _,ai⟩
  ·have:=((ax.new (w.alloc (.cells #[I n] 3)) (eW n (.slice none 0 0)) 22).alloc (.cells #[.slice (some ⟨w.heap.size+1,0,none⟩) n n] 71)).alloc (.cells (eW n (.int .i64 0)) 3);simpa using this
  ·have:=(ax.new ((w.alloc (.cells #[I n] 3)).alloc (.cells (eW n (.slice none 0 0)) 22)) #[.slice (some ⟨w.heap.size+1,0,none⟩) n n] 71).alloc (.cells (eW n (.int .i64 0)) 3);simpa using this
  ·have:=ax.new (((w.alloc (.cells #[I n] 3)).alloc (.cells (eW n (.slice none 0 0)) 22)).alloc (.cells #[.slice (some ⟨w.heap.size+1,0,none⟩) n n] 71)) (eW n (.int .i64 0)) 3;simpa using this
 rw[<-DN];clear DN;go_loopw [34] (fun i wr=>∃k:Nat,k<=L.length/\i=.int .i64 k/\ay W0 wr) (fun i _=>L.length-(intOf i).toNat)
 case atStart=>exact⟨0,ab,rfl,Below.refl _ _⟩
 case round=>
  obtain⟨k,hk,rfl,hB⟩:=hrel;have Ki:=(Bs.kept hB ab).cell;by_cases hlt:k<L.length
  ·have oH:=pX L[k] (cA hlt);obtain⟨b,o,rfl,x0,x1⟩:=Zd ((hL.kept kV aA).kept hB aA) (i:=k) (x:=L[k]) (by simp[hlt])
   have fB:b<wr.heap.size:=by simpa using eh _ _ x0
   have Kj:w.heap.size<wr.heap.size:=by have:=hB.size;omega
   have Zp:=hB.size;go_wp2_with fail;go_roundw
   case rel=>exact⟨k+1,ab,by go_num,hB.alloc Zp _⟩
   case measure=>simp[intOf];omega
  ·clear Ki DM Zo;have Zp:=hB.size;have aid:=Bs.kept hB ab;have aie:=DO.kept hB ab;have aif:=oO.start (B:=wr.heap.size) (hbG.kept hB ab) (hbW.kept hB ab) ab ab ab aA;have aih:ay w wr:=kV.trans (hB.mono kV.size);have Kk:w.heap.size+1+1+1<wr.heap.size:=ab
   obtain⟨w1,rfl⟩:∃w1:World,w1=wr:=⟨_,rfl⟩
   clear hB Bs DO hbG hbW kV xk Zp;go_wp2_with fail;go_loopw [56] (fun i wr=>∃(k:Nat) (arr wa:Array Value),k<=L.length/\i=.int .i64 k/\oO w1.heap.size (w.heap.size+1) (w.heap.size+1+1+1) n wr (L.take k) arr wa/\ay w wr/\ax wr w.heap.size #[I n]/\ax wr (w.heap.size+1+1) #[.slice (some ⟨w.heap.size+1,0,none⟩) n n]) (fun i _=>L.length-(intOf i).toNat)
   case atStart=>exact⟨0,_,_,ab,rfl,aif,aih,aid,aie⟩
   case round=>
    clear aid aie aif aih;obtain⟨k,arr,wa,hk,rfl,ju,hB,Bs,DO⟩:=hrel;by_cases hlt:k<L.length
    ·obtain⟨x,hx⟩:∃x,L[k]? =some x:=⟨L[k],by simp[hlt]⟩
     have oH:=pX x (dD hx);obtain⟨b,o,rfl,x0,x1⟩:=Zd (hL.kept hB aA) (i:=k) (x:=x) hx
     have fB:b<wr.heap.size:=by simpa using eh _ _ x0
     have pS:x.1<n:=ab;have xp:x.2<n:=oH.2;obtain⟨va,gG,aW⟩:=ju.row x.1 ab
     have cM:L.take (k+1)=L.take k++[x]:=by rw[Ci,hx];rfl
     have hzW:=hB.size;have jP:=ju.hB;have hcG:=(ju.bn.cell x.1).trans gG;have hcT:wr.cell? ⟨w.heap.size+1+1,0,none⟩=some (.slice (some ⟨w.heap.size+1,0,none⟩) n n):=DO.cell 0;have cq:w.heap.size+1<wr.heap.size:=ab;have jY:w.heap.size+1+1<wr.heap.size:=ab;have yT:w.heap.size+1+1+1<wr.heap.size:=ab
     have Ss:(aR (L.take k) x.1).length<=10000:=by
      unfold aR;rw[dy];exact bh (nb _ _) (by rw[dS];omega)
     have tA:va.ownBlock=none\/∃g,va.ownBlock=some g/\w1.heap.size<=g/\g<wr.heap.size:=DK aW
     have xA:∀x,(x<w1.heap.size\/wr.heap.size<=x)->va.ownBlock≠some x:=fun x hx e=>by
      rcases tA with h0|⟨g,h0,h1,h2⟩
      ·rw[h0] at e;cases e
      ·rw[h0] at e;cases e;omega
     have xC:((wr.alloc (.cells #[I x.1,I x.2] 76)).alloc (.cells #[I x.2] 3)).heap[wr.heap.size+1]? =some (.cells #[I x.2] 3 (0,0)):=by
      have:=ej (wr.alloc (.cells #[I x.1,I x.2] 76)) (.cells #[I x.2] 3);simpa using this
     have hX:ax ((wr.alloc (.cells #[I x.1,I x.2] 76)).alloc (.cells #[I x.2] 3)) wr.heap.size #[I x.1,I x.2]:=(ax.new _ _ _).alloc _;have Gt:ay wr ((wr.alloc (.cells #[I x.1,I x.2] 76)).alloc (.cells #[I x.2] 3)):=((Below.refl _ _).alloc aA _).alloc ai _;have aii:=ju.kept Gt;have jx:=ju.wt _ xp;have Nx:=ae ((aW.alloc (.cells #[I x.1,I x.2] 76)).alloc (.cells #[I x.2] 3));have xD:=ae xC;have HX:=ae hX;have Kl:=ae aii;have DR:=ae Gt;have iO:=xA (w.heap.size+1) ab;have qW:=xA (w.heap.size+1+1+1) ab;have xh:=xA wr.heap.size ab;have Zq:=ae iO;have Hv2:=ae qW;have Zs:=ae xh;have Nj:=xA (w.heap.size+1+1) ab;have Hv4:=ae Nj;have hv5:=xA w.heap.size ab;have Hv5:=ae hv5
     have um:fw (L.take k) x.2<=10000:=by
      unfold fw;exact bh Ln (by rw[dy,dS];omega)
     have oP:=ae gG;have Km:=ae jx;have pY:=ae aW;have uo:=ae cM;have Hx:=ae hx;have aDF:¬(w.heap.size+1=wr.heap.size):=ab;have aDG:¬(wr.heap.size=w.heap.size+1):=ab;clear xC hX Gt aii xA iO qW xh Nj hv5 gG jx aW cM tA hx;go_wp2_with fail
     obtain⟨wx,oQ⟩:∃wx,wx=wr.alloc (.cells #[I x.1,I x.2] 76):=⟨_,rfl⟩
     have dT:wx.cell? ⟨w.heap.size+1+1,0,none⟩=some (.slice (some ⟨w.heap.size+1,0,none⟩) n n):=by rw[oQ];exact(DO.alloc _).cell 0
     have dG:wx.cell? ⟨w.heap.size+1,x.1,none⟩=some va:=by rw[oQ];exact((ju.bn.alloc _).cell x.1).trans oP.out
     have Zt:wx.cell? ⟨wr.heap.size,0,none⟩=some (I x.1):=by rw[oQ];exact(ax.new _ _ _).cell 0
     have Zu:wx.cell? ⟨wr.heap.size,1,none⟩=some (I x.2):=by rw[oQ];exact(ax.new _ _ _).cell 1
     have HN:Hid (ax (wx.alloc (.cells #[I x.2] 3)) w.heap.size #[I n]):=ae (by rw[oQ];exact(Bs.alloc _).alloc _);have HT:Hid (ax (wx.alloc (.cells #[I x.2] 3)) (w.heap.size+1+1) #[.slice (some ⟨w.heap.size+1,0,none⟩) n n]):=ae (by rw[oQ];exact(DO.alloc _).alloc _);rw[<-oQ] at xD HX Kl DR Nx⊢;have eT:(wx.alloc (.cells #[I x.2] 3)).cell? ⟨w.heap.size+1+1,0,none⟩=some (.slice (some ⟨w.heap.size+1,0,none⟩) n n):=HT.out.cell 0;have eG:(wx.alloc (.cells #[I x.2] 3)).cell? ⟨w.heap.size+1,x.1,none⟩=some va:=(Kl.out.bn.cell x.1).trans oP.out;have Zv:(wx.alloc (.cells #[I x.2] 3)).cell? ⟨wr.heap.size,0,none⟩=some (I x.1):=HX.out.cell 0;have Zw:(wx.alloc (.cells #[I x.2] 3)).cell? ⟨wr.heap.size,1,none⟩=some (I x.2):=HX.out.cell 1
     have hzx:wx.heap.size=wr.heap.size+1:=by rw[oQ];simp
     have Hwx:=ae oQ;clear oQ;refine lP 12 [(0,true),(1,true),(2,true),(3,true),(4,true),(5,true),(6,true),(7,true),(8,true),(9,true),(10,false),(11,false)] (fun w'=>w'.cell? ⟨w.heap.size+1+1,0,none⟩=some (.slice (some ⟨w.heap.size+1,0,none⟩) n n)/\w'.cell? ⟨wr.heap.size,0,none⟩=some (I x.1)/\w'.cell? ⟨wr.heap.size,1,none⟩=some (I x.2)/\w'.cell? ⟨w.heap.size+1,x.1,none⟩=some va) ah rfl rfl ah ⟨dT,Zt,Zu,dG⟩ ?_
     repeat refine jh ?_
     (refine nG (fun K hK=> ?_);go_simp;refine hK.out _ _ ?_ ?_)
     ·exact⟨eT,Zv,Zw,eG⟩
     clear hK K;refine bV ?_;refine nG (fun K hK=> ?_);refine UN iY _ _ 22 iY 3 _ 1 8 Tryz.underlying22 Co rfl ab ab w1.heap.size va (aR (L.take k) x.1).length (nv (aR (L.take k) x.1)) iY Nx.out (wr.heap.size+1) 1 1 #[I x.2] 3 iY xD.out rfl rfl ab ab Kl.out.hB ?_;intro g cap w2 kj kS oR Be Gu cn;have Ny:=Kl.out.bn.drew.grown Gu Zq.out;have Nz:=Kl.out.bw.drew.grown Gu Hv2.out;have hX2:=HX.out.drew.grown Gu Zs.out;have cG2:=(Ny.cell x.1).trans oP.out;have fG2:=Ny.frozen x.1;have cW2:=(Nz.cell x.2).trans Km.out;have fW2:=Nz.frozen x.2;have Zx:w2.cell? ⟨wr.heap.size,0,none⟩=some (I x.1):=hX2.cell 0;have cX2:w2.cell? ⟨wr.heap.size,1,none⟩=some (I x.2):=hX2.cell 1;have cT2:w2.cell? ⟨w.heap.size+1+1,0,none⟩=some (.slice (some ⟨w.heap.size+1,0,none⟩) n n):=(HT.out.drew.grown Gu Hv4.out).cell 0;refine hK.out _ _ ⟨cT2,Zx,cX2,cG2⟩ ?_;clear hK K;refine bV ?_;refine lQ ?_;go_wp2_with fail;refine NoPanic.normal ?_;go_wp2_with fail;go_roundw
     case rel=>
      have hst:=Kl.out.drew.step x pS xp va oP.out g cap Be Gu (oR.imp id (fun e=>by rw[e];exact cI _)) cn.size;have nw:ay w w2:=(hB.trans (DR.out.drew.mono ab)).trans (cn.mono ab);have hN2:=HN.out.drew.grown Gu Hv5.out;have gX:=HT.out.drew.grown Gu Hv4.out;rw[show((fw (L.take k) x.2+1:Nat):Int)=(fw (L.take k) x.2:Int)+1 from ab] at hst;exact⟨k+1,_,_,ab,by go_num,by rw[uo.out];exact hst,(nw.setCell ai _).setCell bC _,(hN2.setOther _ _ ai).setOther _ _ bC,(gX.setOther _ _ ai).setOther _ _ ai⟩
     case measure=>simp[intOf];omega
    ·have hkL:k=L.length:=ab;have Zy:=ju;rw[hkL,fx] at Zy;have Ki:=Bs.cell 0;have aDH:=ju.hB;have aDI:=hB.size
     have um:∀b,fw L b<=10000:=fun b=>by
      unfold fw;exact bh Ln (by rw[dy];omega)
     have Su:=ae Zy;have Hwl:=ae um;have DJ:=ju.lw;have aDJ:=ju.ln;clear ju Zy um hkL
     obtain⟨w3,rfl⟩:∃w3:World,w3=wr:=⟨_,rfl⟩
     go_wp2_with fail;go_loopw [82,12] (fun i v wr=>∃k:Nat,k<=n/\i=.int .i64 k/\wr.ownsRow w3.heap.size 3 1 v ((List.range k).filter fun i=>decide (fw L i=0)).length (nv ((List.range k).filter fun i=>decide (fw L i=0)))/\ay w3 wr) (fun i _ _=>n-(intOf i).toNat)
     case atStart=>exact⟨0,ab,rfl,jU _ _ _ _,Below.refl _ _⟩
     case round=>
      obtain⟨k,hk,rfl,aV,gm⟩:=hrel;by_cases hlt:k<n
      ·have LW:=gm.size;have cW:=(Su.out.ahZ.kept gm ab).cell hlt;have cW1:=cW.1;have cH:((List.range k).filter fun i=>decide (fw L i=0)).length<=10000:=bh (nb _ _) (by rw[Aa];omega);have Kn:=ae (axa (fun i=>decide (fw L i=0)) k);have xC:(wr.alloc (.cells #[I k] 3)).heap[wr.heap.size]? =some (.cells #[I k] 3 (0,0)):=ej _ _;have xD:=ae xC;clear cW xC;by_cases hz:fw L k=0
       ·have NA:(((fw L k:Nat):Int)==0)=true:=by rw[hz];rfl
        have Hz:=ae hz;clear hz
        go_wp2_with (at_builtin;go_must (refine uT rfl _ _ 22 rfl 3 _ 1 8 Tryz.underlying22 Co rfl ab ab w3.heap.size _ _ _ rfl (aV.alloc _) wr.heap.size 1 1 #[I k] 3 rfl xD.out rfl rfl ab ab bC ?_);intro g cap w4 kj kS oR Zz axx ks)
        go_roundw
        case rel=>
         refine⟨k+1,ab,by go_num,?_,(gm.alloc LW _).trans ks⟩
         have hd:decide (fw L k=0)=true:=by rw[Hz.out];rfl
         rw[Kn.out,hd,aj rfl,Zf,List.length_append];exact Zz
        case measure=>simp[intOf];omega
       ·have NA:(((fw L k:Nat):Int)==0)=false:=by rw[nV];omega
        have Hz:=ae hz;clear hz;go_wp2_with fail;go_roundw
        case rel=>
         refine⟨k+1,ab,by go_num,?_,gm⟩
         have hd:decide (fw L k=0)=false:=by simp[Hz.out]
         rw[Kn.out,hd,af ai,uO];exact aV
        case measure=>simp[intOf];omega
      ·obtain rfl:k=n:=ab;have Ko:=pU.start (aR L) k
       have hfe:((List.range k).filter fun i=>decide ((rz (aR L) k).count i=0))=(List.range k).filter fun i=>decide (fw L i=0):=by
        congr 1;funext i;rw[ahY k i L fun p hp=>by have:=pX p hp;omega]
       rw[hfe] at Ko
       have fR:QM k (w.heap.size+1+1+1) L w w3 wr ((List.range k).filter fun i=>decide (fw L i=0)) [] u12:=
        ⟨cJ.below gm aA,(Su.out.ahZ.kept gm ab).congr (fun b _=>ai),aV,hB.trans (gm.mono ab)⟩
       have Hq0:=ae Ko;have xE:=ae fR;have axy:=(Bs.kept gm ab).cell 0;have HbN:=ae Bs;have HbT:=ae DO;clear Ko fR hfe aV gm Ki;clear Bs DO;go_wp2_with fail;go_loopw [14,12] (fun i v wr=>∃(q:Nat) (row:List Nat),q<=row.length/\i=.int .i64 q/\pU (aR L) k row ((row.take q).flatMap (aR L))/\QM k (w.heap.size+1+1+1) L w w3 wr row ((row.take q).flatMap (aR L)) v) (fun i _ _=>k-(intOf i).toNat)
       case atStart=>exact⟨0,_,Ai _,rfl,Hq0.out,xE.out⟩
       case round=>
        clear axy;obtain⟨q,row,hq,rfl,nS,fR⟩:=hrel;have fO:=nS.length_le;have dQ:=Flat.dU fR.own;obtain⟨ra,rc,rfl,_⟩:=dQ.open;by_cases hlt:q<row.length
        ·obtain⟨a,ha⟩:∃a,row[q]? =some a:=⟨row[q],by simp[hlt]⟩
         have vJ:=nS.lt a (dD ha);obtain⟨va,Gv⟩:=Su.out.read vJ;obtain⟨g1,g2⟩:=Gv wr fR.ag;obtain⟨vb,vc,rfl,_⟩:=g2.open;have oP:=ae Gv;clear Gv;obtain⟨rb,ro,rfl,tB⟩:=Sq dQ ha;have aij:=(fR.ag.2 (w.heap.size+1+1) 0 ab ab).trans (HbT.out.cell 0);have dT:wr.cell? ⟨w.heap.size+1+1,0,none⟩=some (.slice (some ⟨w.heap.size+1,0,none⟩) k k):=aij
         have xt:(aR L a).length<=10000:=by
          unfold aR;rw[dy];exact bh (nb _ _) ab
         have ZA:=ae g2;have ui:=ae nS;have xE:=ae fR;have Ha:=ae ha;have Kc:=ae dQ;clear g2 nS fR ha dQ aij;go_wp2_with fail;refine lP 9 [(0,true),(1,true),(2,true),(3,true),(4,true),(5,true),(6,true),(7,true),(8,true)] (fun w'=>w'.cell? ⟨w.heap.size+1+1,0,none⟩=some (.slice (some ⟨w.heap.size+1,0,none⟩) k k)/\w'.cell? ⟨rb,ro+q,none⟩=some (I a)/\w'.cell? ⟨w.heap.size+1,a,none⟩=some (.slice vb (aR L a).length vc)) ah rfl rfl ah ⟨dT,tB,g1⟩ ?_
         iterate 9 refine jh ?_
         refine lQ ?_;go_wp2_with fail;refine NoPanic.normal ?_;clear dT tB g1;go_wp2_with fail
         obtain⟨wo,rfl⟩:∃wo:World,wo=wr:=⟨_,rfl⟩
         go_loopw [109,12] (fun jv v wr=>∃(j:Nat) (row:List Nat),j<=(aR L a).length/\jv=.int .i64 j/\row[q]? =some a/\pU (aR L) k row ((row.take q).flatMap (aR L)++(aR L a).take j)/\QM k (w.heap.size+1+1+1) L w w3 wr row ((row.take q).flatMap (aR L)++(aR L a).take j) v) (fun jv _ _=>(aR L a).length-(intOf jv).toNat)
         case atStart=>exact⟨0,row,ab,rfl,Ha.out,by rw[List.take_zero,uO];exact ui.out,by rw[List.take_zero,uO];exact xE.out.drew⟩
         case round=>
          clear ZA ui xE Ha Kc fO hlt hq;obtain⟨j,row,hj,rfl,ha,nS,fR⟩:=hrel;have fO:=nS.length_le;have dQ:=Flat.dU fR.own;obtain⟨ra,rc,rfl,_⟩:=dQ.open;have fu:=(bG.1 ha).1;by_cases hlt:j<(aR L a).length
          ·obtain⟨x,hx⟩:∃x,(aR L a)[j]? =some x:=⟨(aR L a)[j],by simp[hlt]⟩
           have hxk:=Bp pX (dD hx);have vP:=hxk.2;obtain⟨g1,g2⟩:=oP.out wr fR.ag;obtain⟨xb,xo,rfl,wY⟩:=Sq g2 hx;obtain⟨eP,ic,ZB,ZC⟩:=nS.step q a ha j x hx vP rfl;rw[ahY k x L fun p hp=>by have:=pX p hp;omega] at ic ZB ZC
           obtain⟨c,hc⟩:∃c,fw L x-((row.take q).flatMap (aR L)++(aR L a).take j).count x=c+1:=⟨_,(Nat.succ_pred_eq_of_pos ab).symm⟩
           have dp:c<=10000:=by have:=Hwl.out x;omega
           have hw:=fR.wt.cell vP;simp only[hc] at hw;rw[show((c+1:Nat):Int)=(c:Int)+1 from ab] at hw;obtain⟨ou,iF⟩:=hw;have fq:=fR.set x c hc ab ab
           have htj:(aR L a).take (j+1)=(aR L a).take j++[x]:=by rw[Ci,hx];rfl
           have xC:((wr.setCell ⟨w.heap.size+1+1+1,x,none⟩ (I c)).alloc (.cells #[I x] 3)).heap[wr.heap.size]? =some (.cells #[I x] 3 (0,0)):=by
            have:=ej (wr.setCell ⟨w.heap.size+1+1+1,x,none⟩ (I c)) (.cells #[I x] 3);simpa using this
           have ZD:=fR.ag.1;have Gw:=ae fq;have xD:=ae xC;have Hc:=ae hc;have Sv:=ae htj;have ZE:=ae ZB;have Hs4:=ae ZC;have Ha:=ae ha;have NB:=ae ic;clear fq xC hc htj eP ic ZB ZC ha g1 g2 hx nS fR dQ;by_cases hz:c=0
           ·have NA:((c:Int)==0)=true:=by rw[hz];rfl
            have Hz:=ae hz;clear hz
            go_wp2_with (at_builtin;go_must (refine uT rfl _ _ 22 rfl 3 _ 1 8 Tryz.underlying22 Co rfl ab ab w3.heap.size _ _ _ rfl (Gw.out.own.alloc _) wr.heap.size 1 1 #[I x] 3 rfl xD.out rfl rfl ab ab bC ?_);intro g cap w4 kj kS oR Zz axx ks)
            go_roundw
            case rel=>
             have ZF:=ZE.out (by have h1:=Hc.out;have h2:=Hz.out;have h3:=NB.out;omega);refine⟨j+1,row++[x],ab,by go_num,by rw[lJ fu];exact Ha.out,?_,?_⟩
             ·rw[sU ab,Sv.out,<-List.append_assoc];exact ZF
             ·rw[sU ab,Sv.out,<-List.append_assoc];exact(Gw.out.kept ((Below.refl _ _).alloc aA _) ab).app x ab ab Zz ks
            case measure=>simp[intOf];omega
           ·have NA:((c:Int)==0)=false:=by rw[nV];omega
            have Hz:=ae hz;clear hz;go_wp2_with fail;go_roundw
            case rel=>
             have ZF:=Hs4.out (by have h1:=Hc.out;have h2:=Hz.out;have h3:=NB.out;omega);refine⟨j+1,row,ab,by go_num,Ha.out,?_,?_⟩
             ·rw[Sv.out,<-List.append_assoc];exact ZF
             ·rw[Sv.out,<-List.append_assoc];exact Gw.out
            case measure=>simp[intOf];omega
          ·have gV:j=(aR L a).length:=ab
           have htq:(row.take (q+1)).flatMap (aR L)=(row.take q).flatMap (aR L)++(aR L a).take j:=by
            rw[Ci,ha,nC,gV,fx];simp
           rw[<-htq] at nS fR;have ui:=ae nS;have xE:=ae fR;clear nS fR gV htq ha dQ;go_wp2_with fail;go_roundw
           case rel=>exact⟨q+1,row,ab,by go_num,ui.out,xE.out⟩
           case measure=>simp[intOf];omega
        ·have rf:q=row.length:=ab
         have iN:(row.take q).flatMap (aR L)=row.flatMap (aR L):=by rw[rf,fx]
         rw[iN] at nS fR
         have hrn:=nS.length fun a _ b hb=>(Bp pX hb).1
         have Ki:=(fR.ag.2 w.heap.size 0 ab ab).trans (HbN.out.cell 0);have hdT:wr.cell? ⟨w.heap.size+1+1,0,none⟩=some (.slice (some ⟨w.heap.size+1,0,none⟩) k k):=(fR.ag.2 (w.heap.size+1+1) 0 ab ab).trans (HbT.out.cell 0);have axz:=fR.ag.1;have Kj:w.heap.size<wr.heap.size:=ab;have aDK:¬row.length<k:=ab
         have DM:=fun W=>DI (P:=Tryz.prog) 144 148 (.slice none 0 0) 24 k Tryz.underlying144 axv rfl ab ab W
         have ui:=ae nS;have xE:=ae fR;have Hrn:=ae hrn;have Kc:=ae dQ;have HdT:=ae hdT;clear nS fR iN rf hrn dQ hq hdT;go_upto_region 38 with fail
         obtain⟨w4,rfl⟩:∃w4:World,w4=wr:=⟨_,rfl⟩
         go_cut [17] from 133 (fun v wc=>Sr w4 k v wc)
         case first=>
          go_region
          all_goals
           go_wp2_with fail;go_meet
           first|exact axs w4 k|exact axt w4 k|exact axu w4 k
         case rest=>
          clear DM;obtain⟨ga,gp,gv,rfl,a1,a2,a3,a4,a5,a6,hA,hP,hV,iP⟩:=hcut;go_wp2_with fail;refine(backward _ _ _ _).mono ?_;rintro e w6 ⟨rfl,rfl⟩;go_wp2_with fail;refine(wpIn_wide (n:=5)).1 ?_
          obtain⟨fr,axA⟩:∃fr:List (Fin k),fv fr=row:=⟨row.pmap (fun a h=>⟨a,h⟩) ui.out.lt,by simp[fv,List.map_pmap]⟩
          subst axA;have Kq:=iP.size
          obtain⟨W6,Sx⟩:∃W6,W6=wc.alloc (.cells #[.slice ra (fv fr).length rc] 22):=⟨_,rfl⟩
          have hz6:W6.heap.size=wc.heap.size+1:=by rw[Sx];simp
          have rB:ay wc W6:=by rw[Sx];exact(Below.refl _ _).alloc aA _
          have Kr:ay w4 W6:=iP.trans (rB.mono Kq);have ZG:ay w W6:=xE.out.be.trans (Kr.mono xE.out.be.size);have hA6:=hA.kept rB hA.lt;have ZH:=hP.kept rB hP.lt;have hV6:=hV.kept rB hV.lt
          have aik:W6.cell? ⟨wc.heap.size,0,none⟩=some (.slice ra (fv fr).length rc):=by rw[Sx];exact(ax.new wc _ 22).cell 0
          have aDL:=hA.lt;have aDM:=hP.lt;have aDN:=hV.lt;have ail:=Kc.out.kept Kr aA;have pz:=DK xE.out.own;have aim:Hid (∀W,gR (fun b=>b<W6.heap.size/\b≠ga) W6 W->W6.heap.size<=W.heap.size->cJ (w.heap.size+1+1+1) w3 W):=ae (fun W hK hs=>⟨ab,fun b o hb hg=>((hK b o ⟨ab,ab⟩).trans (Kr.cell (p:=⟨b,o,none⟩) bC)).trans (xE.out.ag.2 b o hb hg)⟩)
          have ain:=axf (5-1) ab fr wc.heap.size _ W6 (fun b=>b<W6.heap.size/\b≠ga) aik ail ab (fun b hb=>hb.1) ⟨ab,ab⟩ (fun b o m c e=>by
           rcases pz with h0|⟨g,h0,h1,h2⟩
           ·rw[e] at h0;cases h0
           ·rw[e] at h0
            have:b=g:=by simpa [Value.ownBlock] using h0
            omega)
          have cV6:=hV6.cell 0;have cP6:=ZH.cell 1;have aio:=ZH.cell 0;have cN6:W6.cell? ⟨w.heap.size,0,none⟩=some (I k):=(Kr.cell (p:=⟨w.heap.size,0,none⟩) bC).trans Ki;have cT6:W6.cell? ⟨w.heap.size+1+1,0,none⟩=some (.slice (some ⟨w.heap.size+1,0,none⟩) k k):=(Kr.cell (p:=⟨w.heap.size+1+1,0,none⟩) bC).trans HdT.out;have axB:=ae ain;have HA6:=ae hA6;have ZI:=ae cV6;have ZJ:=ae cP6;have axC:=ae aio;have HN6:=ae cN6;have HT6:=ae cT6;have Hob:=ae pz;have axD:=ae ZG;have hw6:=ZG.size;have Hz6:=ae hz6;rw[<-Sx];clear ain hA6 ZH hV6 aik ail cV6 cP6 aio cN6 cT6 pz Kr rB ZG hA hP hV iP Ki
          refine wpIn_rangeFunc_ownF rfl ab (gf:=152) (lb:=#[.pointer (some ⟨wc.heap.size,0,none⟩)]) rfl trivial (enters_of Tryz.func152 ah rfl)
           axB.out (fun h k=>gR.trans h k) (fun W l o o' hl _ _ _=>gR.putObj W l o' (fun h=>by have:=h.1;omega)) (Below.refl _ _) (fun _=>rfl)
           (fun(pre:List (Fin k×Nat)) W=>Zn k ga L w W6 (pre.map fun x=>x.1.val) W)
           (fun _ _ _=>False) (axr k ga L w W6 hw6) (fun _ _ _ _ _ hs _ _=>hs)
           ⟨_,HA6.out,uk.start _ _ _,gR.refl _ _,cI _,axD.out⟩ ?a1 ?assign ?body ?done ?stop
          case assign=>
           intro l x W K hK;dsimp only[Zg]
           gi_wp2
           exact hK
          case body=>
           rintro l pre x W ⟨arr,hb,dH,iQ,hsz,zz⟩ _;have cV:W.cell? ⟨gv,0,none⟩=some (.pointer (some ⟨gp,0,none⟩)):=(iQ gv 0 ⟨ab,ab⟩).trans ZI.out;have Ks:W.cell? ⟨gp,1,none⟩=some (.slice (some ⟨ga,0,none⟩) k k):=(iQ gp 1 ⟨ab,ab⟩).trans ZJ.out;have cN:W.cell? ⟨w.heap.size,0,none⟩=some (I k):=(iQ w.heap.size 0 ⟨ab,ab⟩).trans HN6.out;have Sy:=x.1.isLt
           have zj:IntKind.i64.wrap ((IntKind.i64.wrap ((k:Int)+63)).tdiv 64)=1:=by
            rw[IntWalk.i64_in ((k:Int)+63) ab,Int.tdiv_eq_ediv_of_nonneg ab,show((k:Int)+63)/64=1 by omega];rfl
           have axE:∀W,(Instr.makeSlice 148 (.int .i64 1) (.int .i64 1)).run Tryz.prog W=.ok (.slice (some ⟨W.heap.size,0,none⟩) 1 1) (W.alloc (.cells #[.int .u64 0] 196)):=fun W=>DI (P:=Tryz.prog) 148 196 (.int .u64 0) 8 1 Tryz.underlying148 aic rfl ab ab W
           obtain⟨vo,ZK⟩:∃vo,arr[x.1.val]? =some vo:=⟨arr[x.1.val]'(by rw[dH.1];exact Sy),ai⟩
           have aDO:ga<W.heap.size:=ab;have cC:=hb.alloc (.cells #[.int .u64 0] 196);have cG:=(cC.cell x.1.val).trans ZK;have fG:=cC.frozen x.1.val;have hBl:ay W (W.alloc (.cells #[.int .u64 0] 196)).drew:=((Below.refl _ W).alloc aA _).drew;have ZL:=ae hBl;have Hb1:=ae cC;have Sz:=ae dH;have SA:=ae iQ;have Hvo:=ae ZK;have Hbe:=ae zz;have Hb:=ae hb;clear hBl cC dH iQ ZK zz hb
           gi_wp2
           refine ack 9 [(0,true),(1,true),(2,true),(3,true),(4,true),(5,true),(6,true),(7,true),(8,false)] (fun w'=>w'.cell? ⟨gv,0,none⟩=some (.pointer (some ⟨gp,0,none⟩))/\w'.cell? ⟨gp,1,none⟩=some (.slice (some ⟨ga,0,none⟩) k k)/\w'.cell? ⟨w.heap.size,0,none⟩=some (I k)) ah rfl rfl ah ah ⟨cV,Ks,cN⟩ ?_
           iterate 8 refine IH ?_
           refine UY (fun K hK=> ?_);go_simp;refine hK.out _ _ ⟨eK ZL.out aA cV,eK ZL.out aA Ks,eK ZL.out aA cN⟩ ?_;clear hK K zj axE;refine bV ?_;refine PI ?_
           gi_wp2
           refine NoPanic.normal ?_
           obtain⟨W1,Bt⟩:∃W1,W1=((W.setCell ⟨ga,x.1.val,none⟩ (.slice (some ⟨W.heap.size,0,none⟩) 1 1)).alloc (.cells #[.int .u64 0] 196)).drew:=⟨_,rfl⟩
           rw[<-Bt]
           have dE:W1.heap.size=W.heap.size+1:=by rw[Bt];simp
           have ZM:gR (fun b=>b<W.heap.size/\b≠ga) W W1:=by
            rw[Bt];exact((gR.refl _ W).set _ _ (fun h=>h.2 rfl)).trans (gR.below (n:=W.heap.size) (((Below.refl _ _).alloc ai _).drew) (fun b hb=>hb.1))
           have bG1:ax W1 W.heap.size #[.int .u64 0]:=by
            rw[Bt];have:=(ax.new (W.setCell ⟨ga,x.1.val,none⟩ (.slice (some ⟨W.heap.size,0,none⟩) 1 1)) #[.int .u64 0] 196).drew;simpa using this
           have bA1:ax W1 ga (arr.setIfInBounds x.1.val (.slice (some ⟨W.heap.size,0,none⟩) 1 1)):=by rw[Bt];exact((Hb.out.set _ _).alloc _).drew
           have ko1:KeepsOthers W W1:=by rw[Bt];exact((KeepsOthers.setCell _ _ _).trans (KeepsOthers.alloc _ _)).trans (KeepsOthers.drew _)
           have be1:Below w.heap.size W W1:=by rw[Bt];exact(((Below.refl _ _).setCell bC _).alloc bC _).drew
           have fA:gR (fun b=>b<W6.heap.size/\b≠ga) W6 W1:=SA.out.trans (ZM.Nv fun b hb=>⟨ab,hb.2⟩);have cT1:=(fA (w.heap.size+1+1) 0 ⟨ab,ab⟩).trans HT6.out;have cV1:=(fA gv 0 ⟨ab,ab⟩).trans ZI.out;have aip:=(fA gp 1 ⟨ab,ab⟩).trans ZJ.out;obtain⟨va,Gv⟩:=Su.out.read Sy;obtain⟨g1,g2⟩:=Gv W1 (aim.out W1 fA ab);obtain⟨vb,vc,rfl,_⟩:=g2.open
           have xt:(aR L x.1.val).length<=10000:=by
            unfold aR;rw[dy];exact bh (nb _ _) ab
           have HW1:=ae Bt;have ZN:=ae ZM;have zA:=ae bG1;have zB:=ae bA1;have axF:=ae ko1;have axG:=ae be1;have Hkk:=ae fA;have HT1:=ae cT1;have HV1:=ae cV1;have ZO:=ae aip;have oP:=ae Gv;have Hz1:=ae dE;have vH:W.heap.size<W1.heap.size:=ab;clear Bt ZM bG1 bA1 ko1 be1 fA cV1 aip Gv g2 cV Ks cN cG fG dE
           gi_wp2
           gi_loopw [157] (fun jv wr=>∃j:Nat,j<=(aR L x.1.val).length/\jv=.int .i64 j/\ax wr W.heap.size #[.int .u64 ((zy (fun b=>(vQ (aR L) (pre.map fun x=>x.1.val) b).getD 0) ((aR L x.1.val).take j):Nat):Int)]/\Touch W.heap.size W1 wr) (fun jv _=>(aR L x.1.val).length-(intOf jv).toNat)
           case atStart=>exact⟨0,ab,rfl,zA.out,Touch.refl _ _⟩
           case round=>
            clear cT1 g1;obtain⟨j,hj,rfl,hG,hT⟩:=hrel;by_cases hlt:j<(aR L x.1.val).length
            ·obtain⟨y,hy⟩:∃y,(aR L x.1.val)[j]? =some y:=⟨(aR L x.1.val)[j],by simp[hlt]⟩
             have ZP:=Bp pX (dD hy);have hy1:=ZP.1;have ud:=ZP.2;have hTs:=hT.size;have hkw:gR (fun b=>b<W6.heap.size/\b≠ga) W6 wr:=Hkk.out.trans (fun b o hb=>hT.cell b o (by have:=hb.1;omega));obtain⟨g1,g2⟩:=oP.out wr (aim.out wr hkw ab);obtain⟨xb,xo,rfl,wY⟩:=Sq g2 hy;have cVr:=(hT.cell gv 0 ab).trans HV1.out;have cPr:=(hT.cell gp 1 ab).trans ZO.out;have ZQ:=hT.cj ga _ ab zB.out;have cAa:wr.cell? ⟨ga,x.1.val,none⟩=some (.slice (some ⟨W.heap.size,0,none⟩) 1 1):=(ZQ.cell _).trans (by rw[sT (by rw[Sz.out.1];exact Sy)]);obtain⟨tv,htv,SB⟩:=Sz.out.val ud;have cAy:wr.cell? ⟨ga,y,none⟩=some tv:=(ZQ.cell y).trans (by rw[qp ab];exact htv)
             have jf:zy (fun b=>(vQ (aR L) (pre.map fun x=>x.1.val) b).getD 0) ((aR L x.1.val).take j)<iq:=Zl _ _ fun b hb=>by
              have ug:=(Bp pX (uH hb)).2;refine⟨ab,?_⟩;obtain⟨_,_,SB⟩:=Sz.out.val ug
              rcases SB with⟨_,h⟩|⟨_,_,_,_,_,h⟩
              ·rw[h];show 0<2^64;omega
              ·exact h
             have Kn:=Zk (fun b=>(vQ (aR L) (pre.map fun x=>x.1.val) b).getD 0) ((aR L x.1.val).take j) y;rw[show(aR L x.1.val).take j++[y]=(aR L x.1.val).take (j+1) by rw[Ci,hy];rfl] at Kn;have Hfs:=ae Kn;have HG:=ae hG;have HT:=ae hT;have Hor:=ae SB;have Hml:=ae jf;have HcV:=ae cVr;have HcP:=ae cPr;have HcA:=ae cAa;have HcY:=ae cAy;have hnG:ga≠W.heap.size:=ab;have hnV:gv≠W.heap.size:=ab;have hnP:gp≠W.heap.size:=ab;clear Kn hG hT SB jf ZP hy hkw g1 g2 ZQ htv hTs
             gi_wp2
             refine⟨trivial,?_⟩;refine(CallsIn.inRound l (ER.2 (axo W.heap.size _ y wr HG.out Hml.out ab))).mono ?_;rintro e w2 ⟨rfl,Ny,gX⟩;clear cVr cPr cAa cAy wY;have cV2:=(gX.cell gv 0 hnV).trans HcV.out;have cP2:=(gX.cell gp 1 hnP).trans HcP.out;have cA2:=(gX.cell ga x.1.val hnG).trans HcA.out;have cY2:=(gX.cell ga y hnG).trans HcY.out;have ZA:=ae Ny;have NC:=ae gX;clear Ny gX
             gi_wp2
             refine ack 14 [(0,true),(1,true),(2,true),(3,true),(4,true),(5,true),(6,true),(7,true),(8,true),(9,true),(10,true),(11,true),(12,true),(13,true)] (fun w'=>w'.cell? ⟨gv,0,none⟩=some (.pointer (some ⟨gp,0,none⟩))/\w'.cell? ⟨gp,1,none⟩=some (.slice (some ⟨ga,0,none⟩) k k)/\w'.cell? ⟨ga,x.1.val,none⟩=some (.slice (some ⟨W.heap.size,0,none⟩) 1 1)/\w'.cell? ⟨ga,y,none⟩=some tv) ah rfl rfl ah ah ⟨cV2,cP2,cA2,cY2⟩ ?_
             iterate 14 refine IH ?_
             refine PI ?_
             gi_wp2
             have ZR:=(HT.out.trans NC.out).drew
             have hjt:(tv=.slice none 0 0/\(vQ (aR L) (pre.map fun x=>x.1.val) y).getD 0=0)\/∃gi,tv=.slice (some ⟨gi,0,none⟩) 1 1/\w2.drew.cell? ⟨gi,0,none⟩=some (.int .u64 (((vQ (aR L) (pre.map fun x=>x.1.val) y).getD 0:Nat):Int))/\(vQ (aR L) (pre.map fun x=>x.1.val) y).getD 0<iq:=by
              rcases Hor.out with h|⟨gi,h1,h2,h3,h4,h5⟩
              ·exact .inl h
              ·exact .inr ⟨gi,h1,((ZR.cell gi 0 ab).trans (ZN.out gi 0 ⟨h3,ab⟩)).trans h4,h5⟩
             refine⟨trivial,?_⟩;refine(CallsIn.inRound l (ER.2 (axp W.heap.size _ _ tv _ ZA.out.drew (Lt Hml.out (Sj y ab)) hjt))).mono ?_;rintro e w5 ⟨rfl,hG3,DT⟩;have Kt:=ae hG3;have ZT:=ae (ZR.trans DT);clear hG3 DT ZR hjt
             gi_wp2
             refine NoPanic.normal ?_
             gi_wp2
             go_roundw
             case rel=>exact⟨j+1,ab,by go_num,by rw[Hfs.out];exact Kt.out,ZT.out⟩
             case measure=>simp[intOf];omega
            ·have gV:j=(aR L x.1.val).length:=ab;have hTs:=hT.size;have ZU:=hG.cell 0;rw[gV,fx] at ZU;have HG0:=ae ZU;have hst:=Sz.out.step (W':=wr) x.1.val Sy (fun b hb=>(Bp pX hb).2) hn hsz ab (fun b v h1 h2 h3=>((hT.cell b 0 ab).trans (ZN.out b 0 ⟨h2,ab⟩)).trans h3) (by simpa using HG0.out);rw[<-aia] at hst
             have au:Zn k ga L w W6 ((pre++[x]).map fun x=>x.1.val) wr:=by
              rw[cU];exact⟨_,hT.cj ga _ ab zB.out,hst,Hkk.out.trans (fun b o hb=>hT.cell b o (by have:=hb.1;omega)),ab,Hbe.out.trans (axG.out.trans (hT.below _ ab))⟩
             have Gx:=ae au;have HT:=ae hT;clear ZU hst au gV hG hT
             gi_wp2
             exact⟨axF.out.trans HT.out.others,(ZN.out.Nv fun b hb=>⟨by have:=hb.1;omega,hb.2⟩).trans (fun b o hb=>HT.out.cell b o (by have:=hb.1;omega)),Gx.out⟩
          case done=>
           rintro D ys W hD rfl ⟨arr,hb,dH,iQ,hsz,zz⟩ hK;have cV:W.cell? ⟨gv,0,none⟩=some (.pointer (some ⟨gp,0,none⟩)):=(iQ gv 0 ⟨ab,ab⟩).trans ZI.out;have cP0:W.cell? ⟨gp,0,none⟩=some (I k):=(iQ gp 0 ⟨ab,ab⟩).trans axC.out;have Ks:W.cell? ⟨gp,1,none⟩=some (.slice (some ⟨ga,0,none⟩) k k):=(iQ gp 1 ⟨ab,ab⟩).trans ZJ.out
           have aiq:=axi (aR L) k hn f (fun a _ b hb=>(Bp pX hb).2) Hf.out (fv fr).reverse (List.pairwise_reverse.2 (ui.out.nodup.imp Ne.symm)) (fun a ha=>ui.out.lt a (List.mem_reverse.1 ha))
            (axl ui.out (ui.out.full fun a _ b hb=>(Bp pX hb).1) (fun a _ b hb=>(Bp pX hb).2))
           have yB:=ui.out.full fun a _ b hb=>(Bp pX hb).1
           have tw:(uj fr 0).map (fun x=>x.1.val)=(fv fr).reverse:=by
            have:=aG (List.map Fin.val) (axe fr);rw[List.map_map] at this;rw[fv,<-List.map_reverse,<-this];rfl
           rw[tw] at dH;have Nz:=belowK_b (w:=w) aA W D _ (.deferred none) ab hK rfl rfl;have FY:=axn hn (hb.putObj (.deferred none) hK rfl) (Zm cP0 _ hK rfl) (Zm Ks _ hK rfl) (dH.kept (W':=W.putObj D (.deferred none)) ai (fun b v _ _ hc=>Zm hc _ hK rfl)) (fun i hi=>aiq i (List.mem_reverse.2 (yB i hi)));have axH:=ae FY;have HW2:=ae (zz.trans Nz);clear aiq yB tw dH FY Nz cP0 Ks hb iQ;go_wp2_with fail;refine⟨ai,.inl ⟨_,_,rfl,run_takeDeferred hK,?_⟩⟩;exact⟨_,results_tmp2 rfl _ _ _,_,rfl,axH.out,HW2.out⟩
          case stop=>
           rintro D c pre W hD _ hf _;exact hf.elim
end
end Go.Proofs.YtngblilamkkikaaGreatDoor
