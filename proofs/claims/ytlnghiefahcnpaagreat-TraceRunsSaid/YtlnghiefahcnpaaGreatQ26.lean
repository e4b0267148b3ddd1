import Derived.Test.YtlnghiefahcnpaaGreatQ25
import Derived.BigRegion
import Derived.Lib.SliceRun
import Derived.Deep.RegionWith
import Derived.Test.YtlnghiefahcnpaaGreatQ23
import Derived.RangeFuncNested
import Derived.RangeFuncBound
import Derived.RangeFuncCalls
import Derived.RangeFuncLeaves
import Derived.Shelf.Abstract
import Derived.Shelf.RegionOpen
import Derived.OwnWalkIn
import Derived.TacticsInMore
import Derived.LoopNIn
import Derived.LoopIn
import Derived.Deep.RegionLaw
import Derived.Deep.CutRange
set_option maxHeartbeats 40000000
set_option maxRecDepth 100000
set_option linter.all false
namespace Go.Proofs.YtlnghiefahcnpaaGreat
section
open Go.RowKit
def ow (run:List af)(i k:Nat):Bool:=match run[i]?,run[k]? with |some a,some b=>bP a b|_,_=>false
def kI (run:List af)(i k:Nat):List (Nat×Nat):=((List.range' (i+1) (k-(i+1))).filter fun j=>ow run i j).map fun j=>(i,j)
def qK (run:List af)(i:Nat):List (Nat×Nat):=(List.range i).flatMap fun j=>kI run j run.length
def jK (run:List af):List (Nat×Nat):=qK run run.length
theorem ajt (run:List af)(i:Nat):kI run i (i+1)=[]:=by simp[kI]
theorem aju (run:List af)(i k:Nat)(h:i+1<=k):kI run i (k+1)=kI run i k++(if ow run i k then [(i,k)] else []):=by
 unfold kI;rw[show k+1-(i+1)=(k-(i+1))+1 by omega,List.range'_concat,fY,dw];have:i+1+1*(k-(i+1))=k:=aa;rw[this];by_cases hd:ow run i k<;>simp[hd]
theorem Lr (run:List af)(i:Nat):qK run (i+1)=qK run i++kI run i run.length:=by
 unfold qK;rw[qA,Bi];simp
theorem ajv (run:List af)(i k:Nat)(h1:i+1<=k)(h2:k<=run.length):kI run i k<+:kI run i run.length:=by
 unfold kI;refine List.IsPrefix.map _ (List.IsPrefix.filter _ ?_)
 obtain⟨d,rfl⟩:∃d,k=i+1+d:=⟨k-(i+1),aa⟩
 obtain⟨e,he⟩:∃e,run.length=i+1+d+e:=⟨run.length-(i+1+d),aa⟩
 refine⟨List.range' (i+1+d) e,?_⟩;rw[he,show i+1+d-(i+1)=d by omega,show i+1+d+e-(i+1)=d+e by omega,List.range'_append_1]
theorem ajw (run:List af)(i:Nat)(h:i<=run.length):qK run i<+:jK run:=by
 obtain⟨d,hd⟩:∃d,run.length=i+d:=⟨run.length-i,aa⟩
 unfold jK;rw[hd];clear h hd
 induction d with
 |zero=>exact List.prefix_rfl
 |succ d ih=>exact ih.trans (by rw[show i+(d+1)=(i+d)+1 by omega,Lr];exact qw _ _)
theorem ajx (run:List af)(i k:Nat)(hi:i<run.length)(h1:i+1<=k)(h2:k<=run.length):qK run i++kI run i k<+:jK run:=by
 refine List.IsPrefix.trans ?_ (ajw run (i+1) aa);rw[Lr];exact(List.prefix_append_right_inj _).2 (ajv run i k h1 h2)
def Ls (x:Nat×Nat):Array Value:=#[.agg #[I x.1,I x.2]]
theorem Ic {run:List af}{i k:Nat}(hi:i<run.length)(hk:k<run.length):ow run i k=bP run[i] run[k]:=by simp[ow,hi,hk]
theorem ajy:(Tryz.prog.info? 168).map (fun i=>(i.zero,i.size,i.bytes))=some (some (.agg #[.int .i64 0,.int .i64 0]),2,16):=ah
def pc (x:Nat×Nat):List Value:=[I x.1,I x.2]
end
section
open Go.RowKit
def wh (run:List af):Nat->Nat->Nat->Bool
 |0,_,_=>false
 |d+1,i,k=>(List.range run.length).any fun j=>decide (i<j) && ow run i j && (j==k||wh run d j k)
def fw (run:List af)(i k:Nat):Bool:=wh run run.length i k
theorem Lt (run:List af)(d i k:Nat)(h:run.length<=i+1):wh run d i k=false:=by
 cases d with
 |zero=>rfl
 |succ d=>
  rw[wh,List.any_eq_false];intro j hj;have:=eF.1 hj;simp;intro h1;omega
theorem Uz (run:List af):∀(m d d' i k:Nat),run.length<=i+1+m->m<=d->m<=d'->wh run d i k=wh run d' i k
 |0,d,d',i,k,h,_,_=>by rw[Lt _ _ _ _ aa,Lt _ _ _ _ aa]
 |m+1,d,d',i,k,h,h1,h2=>by
  obtain⟨d,rfl⟩:∃e,d=e+1:=⟨d-1,aa⟩
  obtain⟨d',rfl⟩:∃e,d'=e+1:=⟨d'-1,aa⟩
  rw[wh,wh];congr 1;funext j;by_cases hj:i<j
  ·rw[Uz run m d d' j k aa aa aa]
  ·simp[hj]
theorem Ie (run:List af)(i k:Nat):fw run i k=(List.range run.length).any fun j=>decide (i<j) && ow run i j && (j==k||fw run j k):=by
 unfold fw;rw[Uz run run.length run.length (run.length+1) i k aa aa aa,wh]
theorem BG (run:List af):∀(m i k:Nat),run.length<=i+m->fw run i k=true->i<k/\k<run.length
 |0,i,k,h,hl=>by
  unfold fw at hl;rw[Lt _ _ _ _ aa] at hl;cases hl
 |m+1,i,k,h,hl=>by
  rw[Ie,qy] at hl;obtain⟨j,hj,hc⟩:=hl;have BH:=eF.1 hj;simp only[bN,dv,og,xE] at hc;obtain⟨⟨h1,_⟩,h3⟩:=hc
  rcases h3 with rfl|h3
  ·exact⟨h1,BH⟩
  ·have:=BG run m j k aa h3;exact⟨aa,this.2⟩
theorem UA (run:List af)(i k:Nat)(h:k<=i):fw run i k=false:=by
 rw[zt];intro hl;have:=BG run run.length i k aa hl;omega
def eA (n:Nat)(z:Value):Array Value:=(List.replicate n z).toArray
theorem BI (n:Nat)(z:Value):(eA n z).size=n:=by simp[eA]
theorem BJ (n:Nat)(z:Value)(j:Nat)(h:j<n):(eA n z)[j]? =some z:=by simp[eA,h]
theorem BK {P:Program}(t e:TypeId)(z:Value)(bytes n:Nat)(ht:P.underlying t=some (.slice e))(mO:(P.info? e).map (fun i=>(i.zero,i.size,i.bytes))=some (some z,1,bytes))(hz:z.cells=#[z])(kq:bytes<=1000)(hn:n<=1000000)(w:World):
  (Instr.makeSlice t (.int .i64 (n:Int)) (.int .i64 (n:Int))).run P w=.ok (.slice (some ⟨w.heap.size,0,none⟩) n n) (w.alloc (.cells (eA n z) e)):=by
 obtain⟨i0,hi,jn,ij,kF⟩:=info_parts mO;have hb:bytes*n<=1000*1000000:=Nat.mul_le_mul kq hn
 have hr:=run_make (P:=P) w t e i0 z ht hi jn .i64 .i64 n n aa (Int.le_refl _) (by
  rw[kF];have h3:((bytes*n:Nat):Int)<=1000000000:=aa;rw[Int.natCast_mul] at h3
  omega) aa
 simp only[iT] at hr;rw[hr,hz,ij]
 have:madeCells #[z] (n*1)=eA n z:=by
  rw[<-Array.toList_inj,Nat.mul_one,toList_madeCells_one];rfl
 rw[this]
theorem ajz:(Tryz.prog.info? 4).map (fun i=>(i.zero,i.size,i.bytes))=some (some (.bool false),1,1):=ah
end
section
open Go.RowKit
theorem Ig {P:Program}{w:World}{ops:Array Oper}{rest:List Oper}{o:Oper}{a:Act}{Q:Exit->Act->World->Prop}(ez:o.guard=none)(s x:Operand)(t:TypeId)
  (ho:o.op=.call { callee:=.builtin .append,args:=#[s,x],argTypes:=#[t,t] })
  (e:TypeId) (z:Value) (k bytes:Nat) (ht:P.underlying t=some (.slice e)) (mO:(P.info? e).map (fun i=>(i.zero,i.size,i.bytes))=some (some z,k,bytes)) (po:z.cells.size=k) (hk:0<k) (kq:bytes<=1000)
  (B:Nat) (v:Value) (n:Nat) (xs:List Value) (hs:a.eval s=v) (bE:w.ownsRow B e k v n xs)
  (ad:Addr) (m c:Nat) (news:List Value) (hx:a.eval x=.slice (some ad) m c) (dM:Flat w k (.slice (some ad) m c) m news) (h1:∀u∈news,u.oneCell'=true)
  (kE:n+m<=100000000) (lY:B<=w.heap.size)
  (h:∀u w',w'.ownsRow B e k u (n+m) (xs++news)->w.grownBy w' v.ownBlock->Below B w w'->wpList P ops Q rest (a.put o.dst u) w'):wpList P ops Q (o::rest) a w:=by
 obtain⟨i0,hi,jn,ij,kF⟩:=info_parts mO
 refine wpList_append_own_at w ez s x t ho B e i0 z k bytes ht hi jn ij kF po hk v n xs hs bE ad m c news hx dM.1 (fun j u hu=> ?_) h1 (by unfold maxLen;omega)
  (Nat.le_trans (Nat.mul_le_mul kE kq) aa) lY ?_
 ·obtain⟨b,of,e1,DX⟩:=dM.cells (by have:=(bk.1 hu).1;omega);simp at e1;subst e1
  have lq:(⟨b,of,none⟩:Addr).add j=⟨b,of+j,none⟩:=by unfold Addr.add;split<;>simp_all
  rw[lq];exact DX j u hu
 ·intro u w' h2 h3 _ _;exact h u w' h2 h3 ((Below.refl B w).grown h3 lY (fun k' tw=>(bE.lt k' tw).1))
theorem UB (l:List Int):∀u∈iv l,u.oneCell'=true:=by
 intro u hu;obtain⟨x,_,rfl⟩:=fZ.1 hu;rfl
theorem ajA (l:List Ask):∀u∈l.flatMap Ask.cells,u.oneCell'=true:=by
 intro u hu;obtain⟨x,_,h⟩:=DU.1 hu;exact UB _ u h
theorem ajB (l:List bm):∀u∈l.flatMap bm.cells,u.oneCell'=true:=by
 intro u hu;obtain⟨x,_,h⟩:=DU.1 hu;exact UB _ u h
theorem row_one (s:af)(va vs:Value)(ha:va.oneCell'=true)(hs:vs.oneCell'=true):∀u∈s.row va vs,u.oneCell'=true:=by
 intro u hu;simp only[af.row,eM,qz,qD] at hu
 rcases hu with rfl|rfl|rfl|rfl|rfl|rfl|rfl|rfl|rfl|rfl|rfl<;>first|rfl|assumption
theorem Lu {w:World}:∀{l:List af} {xs:List Value},eb w l xs->∀u∈xs,u.oneCell'=true
 |[],_,h=>by
  have:_=[]:=h;subst this;simp
 |s::l,xs,⟨va,vs,ys,hx,h1,h2,h3⟩=>by
  intro u hu;rw[hx] at hu;obtain⟨_,_,rfl,_⟩:=h1.open;obtain⟨_,_,rfl,_⟩:=h2.open
  rcases fA.1 hu with h|h
  ·exact row_one s _ _ rfl rfl u h
  ·exact Lu h3 u h
theorem Lv {w:World}{k n c m:Nat}{xs:List Value}(h:Flat w k (.slice none m c) n xs):xs=[]:=by
 cases xs with
 |nil=>rfl
 |cons x xs=>
  obtain⟨b,o,e,_⟩:=h.cells ae;cases e
theorem ajC (l:List Ask)(v:Value)(w:World)(h:fk w v l)(hn:l.length<=1000000):
  Calls Tryz.prog 71 #[v] w fun e w'=>∃u,e=.returned u/\w'.ownsRow w.heap.size 100 7 u l.length (l.flatMap Ask.cells)/\Below w.heap.size w w':=by
 obtain⟨ka,ca,rfl,ft⟩:=h.open
 have qT:∀(w:World) (a:Option Addr) (n c n' c':Nat),(binOp .eql 64 (.slice a n c) (.slice none n' c')).run Tryz.prog w=.ok (.bool a.isNone) w:=fun w a n c n' c'=>Lib.run_eql_slice_nil w _ _ a n c n' c' Tryz.underlying64
 go_enter Tryz.func71,Tryz.ntmps71
 cases ka with
 |none=>
  have e:=Lv h
  have e0:l.length=0:=by have:=h.1;rw[e] at this;simp at this;omega
  go_wp2_with fail;go_ret;exact⟨_,rfl,by rw[e0,e];exact lf _ _ _ _,Below.refl _ _⟩
 |some ad=>
  go_wp2_with (at_builtin;refine Ig rfl _ _ 64 rfl 100 _ 7 56 Tryz.underlying64 aiE rfl aa aa w.heap.size _ 0 [] rfl (HJ (n:=0) (cs:=#[]) (jH _ _) ae rfl aa) ad l.length ca _ rfl (Flat.kept (B:=w.heap.size) h bc av) (ajA l) aa ae ?_;intro u w1 bE jq ay)
  go_ret;exact⟨_,rfl,by simpa using bE,Below.trans (b:=w.alloc (.cells #[] 100)) bc ay⟩
theorem ajD (l:List bm)(v:Value)(w:World)(h:fm w v l)(hn:l.length<=1000000):
  Calls Tryz.prog 72 #[v] w fun e w'=>∃u,e=.returned u/\w'.ownsRow w.heap.size 61 5 u l.length (l.flatMap bm.cells)/\Below w.heap.size w w':=by
 obtain⟨ka,ca,rfl,ft⟩:=h.open
 have qT:∀(w:World) (a:Option Addr) (n c n' c':Nat),(binOp .eql 65 (.slice a n c) (.slice none n' c')).run Tryz.prog w=.ok (.bool a.isNone) w:=fun w a n c n' c'=>Lib.run_eql_slice_nil w _ _ a n c n' c' Tryz.underlying65
 go_enter Tryz.func72,Tryz.ntmps72
 cases ka with
 |none=>
  have e:=Lv h
  have e0:l.length=0:=by have:=h.1;rw[e] at this;simp at this;omega
  go_wp2_with fail;go_ret;exact⟨_,rfl,by rw[e0,e];exact lf _ _ _ _,Below.refl _ _⟩
 |some ad=>
  go_wp2_with (at_builtin;refine Ig rfl _ _ 65 rfl 61 _ 5 40 Tryz.underlying65 aiD rfl aa aa w.heap.size _ 0 [] rfl (HJ (n:=0) (cs:=#[]) (jH _ _) ae rfl aa) ad l.length ca _ rfl (Flat.kept (B:=w.heap.size) h bc av) (ajB l) aa ae ?_;intro u w1 bE jq ay)
  go_ret;exact⟨_,rfl,by simpa using bE,Below.trans (b:=w.alloc (.cells #[] 61)) bc ay⟩
theorem ajE (l:List af)(v:Value)(w:World)(h:bU w v l)(hn:l.length<=1000000):
  Calls Tryz.prog 70 #[v] w fun e w'=>∃u xs,e=.returned u/\eb w l xs/\w'.ownsRow w.heap.size 67 11 u l.length xs/\Below w.heap.size w w':=by
 obtain⟨ka,ca,rfl,ft⟩:=h.open;obtain⟨xs,hcs,dM⟩:=h
 have qT:∀(w:World) (a:Option Addr) (n c n' c':Nat),(binOp .eql 28 (.slice a n c) (.slice none n' c')).run Tryz.prog w=.ok (.bool a.isNone) w:=fun w a n c n' c'=>Lib.run_eql_slice_nil w _ _ a n c n' c' Tryz.underlying28
 go_enter Tryz.func70,Tryz.ntmps70
 cases ka with
 |none=>
  have e:=Lv dM
  have e0:l.length=0:=by have:=dM.1;rw[e] at this;simp at this;omega
  go_wp2_with fail;go_ret;exact⟨_,xs,rfl,hcs,by rw[e0,e];exact lf _ _ _ _,Below.refl _ _⟩
 |some ad=>
  go_wp2_with (at_builtin;refine Ig rfl _ _ 28 rfl 67 _ 11 120 Tryz.underlying28 Bv rfl aa aa w.heap.size _ 0 [] rfl (HJ (n:=0) (cs:=#[]) (jH _ _) ae rfl aa) ad l.length ca _ rfl (Flat.kept (B:=w.heap.size) dM bc av) (Lu hcs) aa ae ?_;intro u w1 bE jq ay)
  go_ret;exact⟨_,xs,rfl,hcs,by simpa using bE,Below.trans (b:=w.alloc (.cells #[] 67)) bc ay⟩
end
section
open Go.RowKit
def cE (P:Nat->Prop)(A B:World):Prop:=A.heap.size<=B.heap.size/\∀b,P b->B.heap[b]? =A.heap[b]?
theorem cE.refl (P:Nat->Prop)(A:World):cE P A A:=⟨di _,fun _ _=>rfl⟩
theorem cE.trans {P:Nat->Prop}{A B C:World}(h:cE P A B)(k:cE P B C):cE P A C:=⟨Nat.le_trans h.1 k.1,fun b hb=>(k.2 b hb).trans (h.2 b hb)⟩
theorem cE.ox {P P':Nat->Prop}{A B:World}(h:cE P A B)(hp:∀b,P' b->P b):cE P' A B:=⟨h.1,fun b hb=>h.2 b (hp b hb)⟩
theorem cE.below {P:Nat->Prop}{A B:World}{n:Nat}(h:Below n A B)(hp:∀b,P b->b<n):cE P A B:=⟨h.size,fun b hb=>h.block b (hp b hb)⟩
theorem cE.grown {P:Nat->Prop}{A B:World}{row:Option Nat}(h:A.grownBy B row)(hp:∀b,P b->b<A.heap.size/\some b≠row):cE P A B:=⟨h.size,fun b hb=>h.block b (hp b hb).1 (hp b hb).2⟩
theorem cE.set {P:Nat->Prop}{A B:World}(h:cE P A B)(a:Addr)(v:Value)(ha:¬P a.block):cE P A (B.setCell a v):=
 ⟨by simpa using h.1,fun b hb=>(Bk B a b v (fun e=>ha (e▸hb))).trans (h.2 b hb)⟩
theorem cE.alloc {P:Nat->Prop}{A B:World}(h:cE P A B)(o:Obj)(hp:∀b,P b->b<A.heap.size):cE P A (B.alloc o):=
 h.trans (cE.below ((Below.refl B.heap.size B).alloc av o) fun b hb=>jm (hp b hb) h.1)
theorem cE.drew {P:Nat->Prop}{A B:World}(h:cE P A B):cE P A B.drew:=h
theorem cE.im {P:Nat->Prop}{A B:World}(h:cE P A B){g:Nat}{cs:Array Value}(hb:az A g cs)(hg:P g):az B g cs:=by
 obtain⟨t,hb⟩:=hb;exact⟨t,(h.2 g hg).trans hb⟩
theorem cE.own {P:Nat->Prop}{A B:World}(h:cE P A B){B0:Nat}{e:TypeId}{k:Nat}{v:Value}{n:Nat}{xs:List Value}(ho:A.ownsRow B0 e k v n xs)(hv:∀g,v.ownBlock=some g->P g):B.ownsRow B0 e k v n xs:=by
 refine⟨ho.1,?_⟩
 rcases ho.2 with h0|⟨g,cap,cur,rfl,h1,h2,h3⟩
 ·exact .inl h0
 ·exact .inr ⟨g,cap,cur,rfl,h1,(h.2 g (hv g rfl)).trans h2,h3⟩
theorem cE.cell {P:Nat->Prop}{A B:World}(h:cE P A B){b:Nat}(o:Nat)(hb:P b):B.cell? ⟨b,o,none⟩=A.cell? ⟨b,o,none⟩:=Bh (h.2 b hb)
def kJ (P:Nat->Prop)(v:Value):Prop:=∀b o n c,v=.slice (some ⟨b,o,none⟩) n c->P b
theorem Flat.UC {P:Nat->Prop}{A B:World}{k:Nat}{v:Value}{n:Nat}{xs:List Value}(h:Flat A k v n xs)(hv:kJ P v)(hs:cE P A B):Flat B k v n xs:=by
 obtain⟨hl,hm,a,c,rfl,hr⟩:=h;refine⟨hl,hm,a,c,rfl,fun j u hu=> ?_⟩;obtain⟨b,o,ha,hc⟩:=hr j u hu;subst ha;exact⟨b,o,rfl,(hs.cell _ (hv b o n c rfl)).trans hc⟩
def gT (P:Nat->Prop)(w:World):List af->List Value->Prop
 |[],xs=>xs=[]
 |s::l,xs=>∃va vs ys,xs=s.row va vs++ys/\(fk w va s.asks/\kJ P va)/\(fm w vs s.sent/\kJ P vs)/\gT P w l ys
theorem gT.kept {P:Nat->Prop}{w w':World}(hs:cE P w w'):∀{l:List af} {xs:List Value},gT P w l xs->gT P w' l xs
 |[],_,h=>h
 |_::_,_,⟨va,vs,ys,hx,h1,h2,h3⟩=>⟨va,vs,ys,hx,⟨Flat.UC h1.1 h1.2 hs,h1.2⟩,⟨Flat.UC h2.1 h2.2 hs,h2.2⟩,h3.kept hs⟩
theorem gT.ox {P P':Nat->Prop}{w:World}(hp:∀b,P b->P' b):∀{l:List af} {xs:List Value},gT P w l xs->gT P' w l xs
 |[],_,h=>h
 |_::_,_,⟨va,vs,ys,hx,h1,h2,h3⟩=>⟨va,vs,ys,hx,⟨h1.1,fun b o n c e=>hp b (h1.2 b o n c e)⟩,⟨h2.1,fun b o n c e=>hp b (h2.2 b o n c e)⟩,h3.ox hp⟩
theorem gT.cells {P:Nat->Prop}{w:World}:∀{l:List af} {xs:List Value},gT P w l xs->eb w l xs
 |[],_,h=>h
 |_::_,_,⟨va,vs,ys,hx,h1,h2,h3⟩=>⟨va,vs,ys,hx,h1.1,h2.1,h3.cells⟩
theorem gT.snoc {P:Nat->Prop}{w:World}{s:af}{va vs:Value}(h1:fk w va s.asks/\kJ P va)(h2:fm w vs s.sent/\kJ P vs):∀{l:List af} {xs:List Value},gT P w l xs->gT P w (l++[s]) (xs++s.row va vs)
 |[],xs,h=>by
  have:xs=[]:=h;subst this;exact⟨va,vs,[],ae,h1,h2,rfl⟩
 |_::_,_,⟨iV,xF,ys,hx,g1,g2,g3⟩=>⟨iV,xF,ys++s.row va vs,by rw[hx,List.append_assoc],g1,g2,g3.snoc h1 h2⟩
theorem gT.at {P:Nat->Prop}{w:World}:∀{l:List af} {xs:List Value} {i:Nat} {s:af},gT P w l xs->l[i]? =some s->
  ∃va vs,(fk w va s.asks/\kJ P va)/\(fm w vs s.sent/\kJ P vs)/\∀j u,(s.row va vs)[j]? =some u->xs[i*11+j]? =some u
 |[],_,_,_,_,h=>by simp at h
 |t::l,xs,0,s,⟨va,vs,zs,hx,h1,h2,h3⟩,h=>by
  simp at h;subst h;refine⟨va,vs,h1,h2,fun j u hu=> ?_⟩;have hj:=(bk.1 hu).1;rw[hx,Nat.zero_mul,fK,kj hj];exact hu
 |t::l,xs,i+1,s,⟨va,vs,zs,hx,h1,h2,h3⟩,h=>by
  have h':l[i]? =some s:=by simpa using h
  obtain⟨iV,xF,g1,g2,g3⟩:=h3.at h';refine⟨iV,xF,g1,g2,fun j u hu=> ?_⟩;have:=g3 j u hu;have e:(i+1)*11+j=11+(i*11+j):=aa;have hl:(t.row va vs).length=11:=rfl;rw[hx,e,cD aa,hl,Nat.add_sub_cancel_left];exact this
def jL (B:Nat)(w:World)(v:Value)(l:List af):Prop:=∃xs,gT (fun b=>B<=b) w l xs/\Flat w 11 v l.length xs/\kJ (fun b=>B<=b) v
theorem jL.sl {B:Nat}{w:World}{v:Value}{l:List af}(h:jL B w v l):bU w v l:=by
 obtain⟨xs,h1,h2,_⟩:=h;exact⟨xs,h1.cells,h2⟩
theorem jL.ajF {B:Nat}{w w':World}{v:Value}{l:List af}(h:jL B w v l)(hs:cE (fun b=>B<=b/\b<w.heap.size) w w'):jL B w' v l:=by
 obtain⟨xs,h1,h2,h3⟩:=h
 have key:∀{k:Nat} {u:Value} {n:Nat} {ys:List Value},Flat w k u n ys->kJ (fun b=>B<=b) u->Flat w' k u n ys:=fun {k u n ys} hf hp=>by
  obtain⟨hl,hm,a,c,rfl,hr⟩:=hf;refine⟨hl,hm,a,c,rfl,fun j x hx=> ?_⟩;obtain⟨b,o,ha,hc⟩:=hr j x hx;subst ha;have:=ic _ _ hc;exact⟨b,o,rfl,(hs.cell _ ⟨hp b o n c rfl,by simpa using this⟩).trans hc⟩
 refine⟨xs,?_,key h2 h3,h3⟩;clear h2 h3;revert xs
 induction l with
 |nil=>intro xs h1;exact h1
 |cons s l ih=>
  rintro xs ⟨va,vs,ys,hx,g1,g2,g3⟩;exact⟨va,vs,ys,hx,⟨key g1.1 g1.2,g1.2⟩,⟨key g2.1 g2.2,g2.2⟩,ih ys g3⟩
theorem jL.kept {B:Nat}{w w':World}{v:Value}{l:List af}(h:jL B w v l)(hb:Below w.heap.size w w'):jL B w' v l:=h.ajF (cE.below hb fun _ hb=>hb.2)
theorem jL.open {B:Nat}{w:World}{v:Value}{l:List af}(h:jL B w v l):∃a c,v=.slice a l.length c/\l.length<=9223372036854775807:=h.sl.open
theorem jL.at {B:Nat}{w:World}{a:Option Addr}{n c:Nat}{l:List af}(h:jL B w (.slice a n c) l){i:Nat}{s:af}(hi:l[i]? =some s):
  ∃b o va vs,a=some ⟨b,o,none⟩/\(fk w va s.asks/\kJ (fun b=>B<=b) va)/\(fm w vs s.sent/\kJ (fun b=>B<=b) vs)/\
   w.cell? ⟨b,o+i*11,none⟩=some (I s.ev.kind)/\w.cell? ⟨b,o+i*11+1,none⟩=some (I s.ev.node)/\w.cell? ⟨b,o+i*11+2,none⟩=some (I s.ev.arg)/\
   w.cell? ⟨b,o+i*11+3,none⟩=some (I s.ev.msg.node)/\w.cell? ⟨b,o+i*11+4,none⟩=some (I s.ev.msg.handler)/\w.cell? ⟨b,o+i*11+5,none⟩=some (I s.ev.msg.count)/\
   w.cell? ⟨b,o+i*11+6,none⟩=some (I s.ev.msg.index)/\w.cell? ⟨b,o+i*11+7,none⟩=some (I s.ev.msg.copy)/\w.cell? ⟨b,o+i*11+8,none⟩=some va/\
   w.cell? ⟨b,o+i*11+9,none⟩=some (.bool s.ax)/\w.cell? ⟨b,o+i*11+10,none⟩=some vs:=by
 obtain⟨xs,h1,h2,_⟩:=h;obtain⟨va,vs,g1,g2,g3⟩:=h1.at hi;have hlt:=(bk.1 hi).1;obtain⟨b,o,ha,hc⟩:=h2.cells (by rw[h1.cells.length];omega)
 have key:∀j u,(s.row va vs)[j]? =some u->w.cell? ⟨b,o+i*11+j,none⟩=some u:=fun j u hu=>by
  have:=hc _ u (g3 j u hu);rwa[<-Nat.add_assoc] at this
 exact⟨b,o,va,vs,ha,g1,g2,key 0 _ rfl,key 1 _ rfl,key 2 _ rfl,key 3 _ rfl,key 4 _ rfl,key 5 _ rfl,key 6 _ rfl,key 7 _ rfl,key 8 _ rfl,key 9 _ rfl,key 10 _ rfl⟩
theorem jL.nil (B:Nat)(w:World)(c:Nat):jL B w (.slice none 0 c) []:=⟨[],rfl,Flat.nil _ _ _ _,fun b o n c e=>by simp at e⟩
theorem gT.below {P:Nat->Prop}{w w':World}{B:Nat}(hb:Below B w w')(hB:w.heap.size<=B):∀{l:List af} {xs:List Value},gT P w l xs->gT P w' l xs
 |[],_,h=>h
 |_::_,_,⟨va,vs,ys,hx,h1,h2,h3⟩=>⟨va,vs,ys,hx,⟨h1.1.kept hb hB,h1.2⟩,⟨h2.1.kept hb hB,h2.2⟩,h3.below hb hB⟩
theorem Ih {W:World}{B:Nat}{e:TypeId}{k:Nat}{v:Value}{n:Nat}{xs:List Value}(h:W.ownsRow B e k v n xs){B':Nat}(hB:B'<=B):kJ (fun b=>B'<=b) v:=fun b o n c e=>by
 subst e;exact Nat.le_trans hB (h.lt b rfl).1
theorem jL.iU {w W:World}{B0 B B':Nat}{e:TypeId}{v:Value}{l:List af}{n:Nat}{xs:List Value}(h:w.ownsRow B e 11 v n xs)(hn:n=l.length)(hc:gT (fun b=>B'<=b) W l xs)(hb:Below B0 W w)(hB:W.heap.size<=B0)(jo:B'<=B):jL B' w v l:=by
 subst hn;exact⟨xs,hc.below hb hB,Flat.iU h,Ih h jo⟩
end
section
open Go.RowKit
def cq (g:Nat)(w w':World):Prop:=w.heap.size<=w'.heap.size/\∀b o,b<w.heap.size->b≠g->w'.cell? ⟨b,o,none⟩=w.cell? ⟨b,o,none⟩
theorem cq.refl (g:Nat)(w:World):cq g w w:=⟨di _,fun _ _ _ _=>rfl⟩
theorem cq.trans {g:Nat}{a b c:World}(h:cq g a b)(k:cq g b c):cq g a c:=
 ⟨Nat.le_trans h.1 k.1,fun x o hx hg=>(k.2 x o (jm hx h.1) hg).trans (h.2 x o hx hg)⟩
theorem cq.below {g B:Nat}{w w':World}(h:Below B w w')(hB:w.heap.size<=B):cq g w w':=⟨h.size,fun b o hb _=>h.cell (p:=⟨b,o,none⟩) (jm hb hB)⟩
theorem cq.set (g:Nat)(w:World)(o:Nat)(v:Value):cq g w (w.setCell ⟨g,o,none⟩ v):=
 ⟨ae,fun b o' _ hg=>Hh _ _ _ _ (by intro h;simp at h<;>exact hg h.1)⟩
theorem cq.drew {g:Nat}{w w':World}(h:cq g w w'):cq g w w'.drew:=h
theorem Flat.same {w w':World}{k:Nat}{v:Value}{n:Nat}{xs:List Value}(h:Flat w k v n xs)(hb:∀b o,b<w.heap.size->w'.cell? ⟨b,o,none⟩=w.cell? ⟨b,o,none⟩):Flat w' k v n xs:=by
 obtain⟨hl,hm,a,c,hv,hr⟩:=h;refine⟨hl,hm,a,c,hv,fun j u hu=> ?_⟩;obtain⟨b,o,ha,hc⟩:=hr j u hu;have h2:=ic _ _ hc;exact⟨b,o,ha,(hb b _ h2).trans hc⟩
theorem Flat.Ii {w w':World}{B g:Nat}{e:TypeId}{k:Nat}{v:Value}{n:Nat}{xs:List Value}(h:w.ownsRow B e k v n xs)(hg:g<B)(ha:cq g w w'):Flat w' k v n xs:=by
 have hf:=Flat.iU h;obtain⟨hl,hm,a,c,hv,hr⟩:=hf;refine⟨hl,hm,a,c,hv,fun j u hu=> ?_⟩;obtain⟨b,o,ha',hc⟩:=hr j u hu;have h2:=ic _ _ hc;refine⟨b,o,ha',(ha.2 b _ h2 ?_).trans hc⟩
 rcases h.2 with⟨rfl,_⟩|⟨g',cap,cur,rfl,hg',_⟩
 ·simp at hv;rw[<-hv.1] at ha';cases ha'
 ·simp at hv;rw[<-hv.1] at ha';simp at ha';omega
def mc (w:World)(g:Nat)(l:List af)(xs:List Value):Prop:=∀i s,l[i]? =some s->∃va vs,(∀w',cq g w w'->fk w' va s.asks/\fm w' vs s.sent)/\∀j u,(s.row va vs)[j]? =some u->xs[i*11+j]? =some u
theorem mc.kept {w w':World}{g:Nat}{l:List af}{xs:List Value}(h:mc w g l xs)(ha:cq g w w'):mc w' g l xs:=by
 intro i s hi;obtain⟨va,vs,h1,h2⟩:=h i s hi;exact⟨va,vs,fun w2 h3=>h1 w2 (ha.trans h3),h2⟩
theorem mc.start {w w1:World}{g:Nat}{l:List af}{xs:List Value}(h:eb w l xs)(hb:Below w.heap.size w w1)(hg:w.heap.size<=g):mc w1 g l xs:=by
 intro i s hi;obtain⟨va,vs,h1,h2,h3⟩:=h.at hi;refine⟨va,vs,fun w2 ha=> ?_,h3⟩
 have key:∀b o,b<w.heap.size->w2.cell? ⟨b,o,none⟩=w.cell? ⟨b,o,none⟩:=fun b o hlt=>
  (ha.2 b o (jm hlt hb.size) aa).trans (hb.cell (p:=⟨b,o,none⟩) hlt)
 exact⟨Flat.same h1 key,Flat.same h2 key⟩
theorem Lw {w:World}:∀(l:List af) (xs:List Value),xs.length=l.length*11->(∀i s,l[i]? =some s->∃va vs,fk w va s.asks/\fm w vs s.sent/\∀j u,(s.row va vs)[j]? =some u->xs[i*11+j]? =some u)->eb w l xs
 |[],xs,hl,_=>Hi.1 (by simpa using hl)
 |s::l,xs,hl,h=>by
  obtain⟨va,vs,h1,h2,h3⟩:=h 0 s rfl;refine⟨va,vs,xs.drop 11,?_,h1,h2,Lw l (xs.drop 11) ?_ ?_⟩
  ·have hx:xs.take 11=s.row va vs:=by
    have e11:(s.row va vs).length=11:=rfl
    have nb:11<=xs.length:=by rw[hl,List.length_cons];omega
    refine zy (by rw[eo,e11];omega) fun j hj=> ?_
    rw[eo] at hj
    have zC:j<(s.row va vs).length:=by rw[e11];omega
    have:=h3 j _ (List.getElem?_eq_getElem zC);rw[xu aa,List.getElem?_eq_getElem zC];simpa using this
   rw[<-hx,List.take_append_drop]
  ·rw[lj,hl,List.length_cons];omega
  ·intro i t hi;obtain⟨iV,xF,g1,g2,g3⟩:=h (i+1) t (by simpa using hi);refine⟨iV,xF,g1,g2,fun j u hu=> ?_⟩;rw[lW];have:=g3 j u hu;rw[show(i+1)*11+j=11+(i*11+j) by omega] at this;exact this
theorem mc.cells {w:World}{g:Nat}{l:List af}{xs:List Value}(h:mc w g l xs)(hl:xs.length=l.length*11):eb w l xs:=
 Lw l xs hl fun i s hi=>by
  obtain⟨va,vs,h1,h2⟩:=h i s hi;have:=h1 w (cq.refl _ _);exact⟨va,vs,this.1,this.2,h2⟩
theorem mc.store {w:World}{g k:Nat}{l:List af}{xs:List Value}(h:mc w g l xs)(hk:k<l.length)(hl:xs.length=l.length*11){ua us:Value}(hu:∀w',cq g w w'->fk w' ua l[k].asks/\fm w' us l[k].sent):
  mc w g l ((xs.set (k*11+8) ua).set (k*11+10) us):=by
 intro i s hi;obtain⟨va,vs,h1,h2⟩:=h i s hi;have hil:=(bk.1 hi).1;by_cases Eg:i=k
 ·subst Eg
  have es:s=l[i]:=by simpa [hil] using hi.symm
  subst es;refine⟨ua,us,hu,fun j u hj=> ?_⟩
  have UE:j<11:=by have:=(bk.1 hj).1;exact this
  by_cases h8:j=8
  ·subst h8;rw[pd aa,vN aa];exact hj
  ·by_cases h10:j=10
   ·subst h10;rw[vN (by simp;omega)];exact hj
   ·rw[pd aa,pd aa];refine h2 j u ?_;rw[<-hj]
    match j,UE,h8,h10 with
    |0,_,_,_=>rfl
    |1,_,_,_=>rfl
    |2,_,_,_=>rfl
    |3,_,_,_=>rfl
    |4,_,_,_=>rfl
    |5,_,_,_=>rfl
    |6,_,_,_=>rfl
    |7,_,_,_=>rfl
    |9,_,_,_=>rfl
    |8,_,h,_=>exact absurd rfl h
    |10,_,_,h=>exact absurd rfl h
    |n+11,h,_,_=>omega
 ·refine⟨va,vs,h1,fun j u hj=> ?_⟩
  have UE:j<11:=by have:=(bk.1 hj).1;exact this
  rw[pd aa,pd aa];exact h2 j u hj
def pz (w:World)(g:Nat)(xs:List Value):Prop:=∀j,j<xs.length->w.cell? ⟨g,j,none⟩=xs[j]? /\w.frozen? ⟨g,j,none⟩=false
theorem pz.kept {w w':World}{g:Nat}{xs:List Value}(h:pz w g xs){B:Nat}(hb:Below B w w')(hg:g<B):pz w' g xs:=fun j hj=>by
 have:=h j hj;exact⟨(hb.cell (p:=⟨g,j,none⟩) hg).trans this.1,(hb.frozen (p:=⟨g,j,none⟩) hg).trans this.2⟩
theorem pz.set {w:World}{g:Nat}{xs:List Value}(h:pz w g xs)(i:Nat)(hi:i<xs.length)(v:Value):pz (w.setCell ⟨g,i,none⟩ v) g (xs.set i v):=fun j hj=>by
 rw[List.length_set] at hj;have xY:=h j hj;have wj:=h i hi;refine⟨?_,?_⟩
 ·by_cases e:i=j
  ·subst e;rw[vN hi];exact World.cell?_setCell_same _ _ _ (wj.1.trans (List.getElem?_eq_getElem hi))
  ·rw[pd e,Hh _ _ _ _ (by intro h;simp at h<;>exact e h.symm)];exact xY.1
 ·simpa using xY.2
theorem pz.iU {w:World}{B:Nat}{e:TypeId}{k:Nat}{v:Value}{n:Nat}{xs:List Value}(h:w.ownsRow B e k v n xs)(hn:0<n):∃g cap,v=.slice (some ⟨g,0,none⟩) n cap/\B<=g/\g<w.heap.size/\pz w g xs:=by
 obtain⟨g,cap,rfl,hB,hg⟩:=h.form hn;refine⟨g,cap,rfl,hB,hg,fun j hj=>⟨?_,?_⟩⟩
 ·have:=h.cells (g:=g) rfl j xs[j] (by simp[hj])
  have lq:(⟨g,0,none⟩:Addr).add j=⟨g,0+j,none⟩:=by unfold Addr.add;split<;>simp_all
  rw[lq,fK] at this;rw[this];simp[hj]
 ·rcases h.2 with⟨e,_⟩|⟨g',cap',cur,e,_,hb,_⟩
  ·cases e
  ·simp at e;obtain⟨rfl,rfl⟩:=e;exact frozen_of_row w g j cur _ hb
theorem pz.flat {w:World}{g n cap:Nat}{xs:List Value}(h:pz w g xs)(hl:xs.length=n*11)(hn:n<=1000000):Flat w 11 (.slice (some ⟨g,0,none⟩) n cap) n xs:=
 Flat.Bs hl aa fun j u hu=>by
  have:=h j (bk.1 hu).1;rw[fK,this.1,hu]
def El (B k:Nat)(xs:List Value):Prop:=∀i,i<k->∀u,(xs[i*11+8]? =some u\/xs[i*11+10]? =some u)->kJ (fun b=>B<=b) u
theorem El.set {B k:Nat}{xs:List Value}(h:El B k xs)(hk:k*11+11<=xs.length){ua us:Value}(h1:kJ (fun b=>B<=b) ua)(h2:kJ (fun b=>B<=b) us):El B (k+1) ((xs.set (k*11+8) ua).set (k*11+10) us):=by
 intro i hi u hu;by_cases e:i=k
 ·subst e
  rcases hu with hu|hu
  ·rw[pd aa,vN aa] at hu;cases hu;exact h1
  ·rw[vN (by rw[List.length_set];omega)] at hu;cases hu;exact h2
 ·rcases hu with hu|hu
  ·rw[pd aa,pd aa] at hu;exact h i aa u (.inl hu)
  ·rw[pd aa,pd aa] at hu;exact h i aa u (.inr hu)
theorem mc.ajG {w:World}{g B:Nat}{l:List af}{xs:List Value}(h:mc w g l xs)(hl:xs.length=l.length*11)(hf:El B l.length xs):gT (fun b=>B<=b) w l xs:=by
 have key:∀(m:List af) (d:Nat) (ys:List Value),l.drop d=m->ys=xs.drop (d*11)->gT (fun b=>B<=b) w m ys:=by
  intro m
  induction m with
  |nil=>
   intro d ys hd hy
   have:l.length<=d:=by
    have:=kp List.length hd;simp at this;omega
   show ys=[]
   rw[hy,List.drop_eq_nil_iff];omega
  |cons s m ih=>
   intro d ys hd hy
   have mf:d<l.length:=by
    have:=kp List.length hd;simp at this;omega
   have hs:l[d]? =some s:=by
    have:(l.drop d)[0]? =some s:=by rw[hd];rfl
    simpa using this
   obtain⟨va,vs,h1,h2⟩:=h d s hs;have hq:=h1 w (cq.refl _ _);refine⟨va,vs,xs.drop ((d+1)*11),?_,⟨hq.1,hf d mf va (.inl (h2 8 va rfl))⟩,⟨hq.2,hf d mf vs (.inr (h2 10 vs rfl))⟩,ih (d+1) _ ?_ rfl⟩
   ·rw[hy];apply rH;intro j;have iq:(s.row va vs).length=11:=rfl;by_cases hj:j<11
    ·rw[kj aa,lW];have hu:(s.row va vs)[j]? =some ((s.row va vs)[j]' aa):=List.getElem?_eq_getElem aa;rw[hu,h2 j _ hu]
    ·rw[cD aa,lW,lW,iq];congr 1;omega
   ·have h3:=kp List.tail hd;rwa[List.tail_drop,List.tail_cons] at h3
 exact key l 0 xs ae ae
theorem UF (run:List af)(v:Value)(w:World)(hrun:bU w v run)(hn:run.length<=1000000)(rP:∀s∈run,s.asks.length<=1000000)(rQ:∀s∈run,s.sent.length<=1000000):
  Calls Tryz.prog 39 #[v] w fun e w'=>∃u,e=.returned u/\jL w.heap.size w' u run/\Below w.heap.size w w':=by
 have UG:=hrun;obtain⟨ka,ca,rfl,ft⟩:=hrun.open;go_enter Tryz.func39,Tryz.ntmps39;go_wp2_with fail;refine(ajE run _ _ UG hn).mono ?_;rintro e w1 ⟨u,xs,rfl,hcs,bE,ay⟩;by_cases h0:run.length=0
 ·have hr:run=[]:=Hi.1 h0;subst hr;have dM:=Flat.iU bE;have bg:=Ih bE av;obtain⟨a,c,rfl,_⟩:=dM.open;simp only[List.length_nil] at bE dM⊢;go_wp2_with fail;refine wp_loop_rounds 1 ?_;rw[rounds_succ];go_wp2_with fail;go_ret;exact⟨_,rfl,⟨[],rfl,Flat.nil _ _ _ _,bg⟩,ay⟩
 ·obtain⟨g,cap,rfl,Em,eP,iu⟩:=pz.iU bE aa;have tB:=mc.start hcs ay Em;have nb:=bE.1;clear bE hcs;go_wp2_with fail;go_loopw [9] (fun p wr=>∃(k:Nat) (xs:List Value),k<=run.length/\p=.int .i64 k/\xs.length=run.length*11/\pz wr g xs/\mc wr g run xs/\El w.heap.size k xs/\Below w.heap.size w wr/\g<wr.heap.size) (fun p _=>run.length-(intOf p).toNat)
  case atStart=>exact⟨0,xs,aa,rfl,nb,iu,tB,fun i hi=>aa,ay,eP⟩
  case round=>
   clear iu tB nb;obtain⟨k,xs,hk,rfl,nb,iu,tB,dK,hB,vZ⟩:=hrel;have BM:=ab dK;clear dK;by_cases hlt:k<run.length
   ·obtain⟨va,vs,h1,h2⟩:=tB k run[k] (by simp[hlt]);have hq:=h1 wr (cq.refl _ _);obtain⟨qa,da,rfl,_⟩:=hq.1.open;obtain⟨qs,ds,rfl,_⟩:=hq.2.open;have e8:=h2 8 _ rfl;have e10:=h2 10 _ rfl;have r8:=iu (k*11+8) aa;have r10:=iu (k*11+10) aa;have c8:=r8.1.trans e8;have c10:=r10.1.trans e10;have f8:=r8.2;have f10:=r10.2;have eZ:=rP run[k] (cT hlt);have fB:=rQ run[k] (cT hlt)
    have kK:∀W,Below wr.heap.size wr W->Calls Tryz.prog 71 #[.slice qa run[k].asks.length da] W fun e w'=>∃u,e=.returned u/\w'.ownsRow W.heap.size 100 7 u run[k].asks.length (run[k].asks.flatMap Ask.cells)/\Below W.heap.size W w':=
     fun W hW=>ajC _ _ _ (hq.1.kept hW av) eZ
    have rR:∀W,Below wr.heap.size wr W->Calls Tryz.prog 72 #[.slice qs run[k].sent.length ds] W fun e w'=>∃u,e=.returned u/\w'.ownsRow W.heap.size 61 5 u run[k].sent.length (run[k].sent.flatMap bm.cells)/\Below W.heap.size W w':=
     fun W hW=>ajD _ _ _ (hq.2.kept hW av) fB
    have pA:=ab kK;have Hqs:=ab rR;have He8:=ab e8;have awn:=ab e10;clear kK rR h1 h2 r8 r10 e8 e10 hq UG;go_wp2_with fail
    go_region_with (first
     |(go_at_call 71;refine(pA.out _ bc).mono ?_;rintro e w2 ⟨ua,rfl,Lz,bO⟩
       obtain⟨a1,d1,rfl,Ln⟩:=(Flat.iU Lz).open;have kF:=bO.size;simp only[heap_drew] at kF;have c8':=(bO.cell (p:=⟨g,k*11+8,none⟩) vZ).trans c8;have ajH:=(bO.cell (p:=⟨g,k*11+10,none⟩) vZ).trans c10
       have Ij:=Below.then (w:=wr) bc bO)
     |(go_at_call 72;refine(Hqs.out _ Ij).mono ?_;rintro e w3 ⟨us,rfl,BN,cy⟩
       obtain⟨a2,d2,rfl,UH⟩:=(Flat.iU BN).open;have wk:=cy.size;have BP:g<w2.heap.size:=aa;have awo:=(cy.cell (p:=⟨g,k*11+8,none⟩) BP).trans c8';have awq:=(cy.cell (p:=⟨g,k*11+10,none⟩) BP).trans ajH;have awr:=(cy.frozen (p:=⟨g,k*11+8,none⟩) BP).trans ((bO.frozen (p:=⟨g,k*11+8,none⟩) vZ).trans f8)
       have aws:=(cy.frozen (p:=⟨g,k*11+10,none⟩) BP).trans ((bO.frozen (p:=⟨g,k*11+10,none⟩) vZ).trans f10)))
    all_goals
     go_wp2_with fail;go_roundw
     case rel=>
      have UI:cq g w2 w3:=cq.below cy av;have rS:cq g wr w3:=(cq.below Ij av).trans UI;have ajI:g<w3.heap.size:=aa;have ajJ:pz w3 g xs:=(iu.kept Ij vZ).kept cy BP;have ajK:Below w.heap.size w w3:=(hB.trans (Ij.mono hB.size)).trans (cy.mono (Nat.le_trans hB.size kF));refine⟨k+1,_,aa,by go_num,?_,(ajJ.set (k*11+8) aa _).set (k*11+10) (by rw[List.length_set];omega) _,?_,BM.out.set aa (Ih Lz (Nat.le_trans hB.size av)) (Ih BN (Nat.le_trans hB.size kF)),Below.setCell (Below.setCell ajK Em _) Em _,by simpa using ajI⟩
      ·rw[List.length_set,List.length_set];exact nb
      ·refine mc.kept (mc.store (tB.kept rS) hlt nb (fun W hW=> ?_)) ((cq.set _ _ _ _).trans (cq.set _ _ _ _));exact⟨Flat.Ii Lz vZ (UI.trans hW),Flat.Ii BN BP hW⟩
     case measure=>simp[intOf];omega
   ·go_wp2_with fail;go_ret;exact⟨_,rfl,⟨xs,tB.ajG nb (by rw[show run.length=k by omega];exact BM.out),iu.flat nb hn,fun b o n c e=>by simp at e;show w.heap.size<=b;omega⟩,hB⟩
theorem ajL (run:List af)(v:Value)(w:World)(hrun:bU w v run)(hn:run.length<=1000000)(rP:∀s∈run,s.asks.length<=1000000)(rQ:∀s∈run,s.sent.length<=1000000):
  Calls Tryz.prog 39 #[v] w fun e w'=>∃u,e=.returned u/\bU w' u run/\Below w.heap.size w w':=
 (UF run v w hrun hn rP rQ).mono fun _ _ ⟨u,h1,h2,h3⟩=>⟨u,h1,h2.sl,h3⟩
end
section
open Go.RowKit
theorem ajM:(Tryz.prog.info? 22).map (fun i=>(i.zero,i.size,i.bytes))=some (some (.slice none 0 0),1,24):=ah
def bu (L:List (Nat×Nat))(a:Nat):List Nat:=(L.filter fun p=>p.1==a).map fun p=>p.2
theorem UJ (L:List (Nat×Nat))(p:Nat×Nat)(a:Nat):bu (L++[p]) a=if p.1=a then bu L a++[p.2] else bu L a:=by
 unfold bu;rw[fY,dw];by_cases h:p.1=a<;>simp[h]
theorem ajN (x:Nat×Nat):(pc x).length=2:=rfl
theorem UK {w:World}{a:Option Addr}{n c m:Nat}{L:List (Nat×Nat)}(h:Flat w 2 (.slice a m c) n (L.flatMap pc)){i:Nat}{x:Nat×Nat}(hi:L[i]? =some x):
  ∃b o,a=some ⟨b,o,none⟩/\w.cell? ⟨b,o+i*2,none⟩=some (I x.1)/\w.cell? ⟨b,o+i*2+1,none⟩=some (I x.2):=by
 obtain⟨b,o,ha,hc⟩:=Bt ajN aa h hi;exact⟨b,o,ha,hc 0 _ rfl,hc 1 _ rfl⟩
def nv (l:List Nat):List Value:=l.map fun(i:Nat)=>I (i:Int)
def ee (L:List (Nat×Nat))(b:Nat):Nat:=(L.map fun p=>p.2).count b
theorem ajO (L:List (Nat×Nat))(p:Nat×Nat)(b:Nat):ee (L++[p]) b=ee L b+if p.2=b then 1 else 0:=by
 unfold ee;rw[dw,zq];by_cases h:p.2=b<;>simp[h]
structure ly (B gn gw n:Nat)(W:World)(L:List (Nat×Nat))(arr wa:Array Value):Prop where
 bn:az W gn arr
 bw:az W gw wa
 ne:gn≠gw
 ln:gn<B
 lw:gw<B
 hB:B<=W.heap.size
 sn:arr.size=n
 sw:wa.size=n
 wt:∀b<n,wa[b]? =some (I (ee L b:Nat))
 row:∀a<n,∃va,arr[a]? =some va/\W.ownsRow B 3 1 va (bu L a).length (nv (bu L a))
 sep:∀(a a':Nat) (va iV:Value),a≠a'->arr[a]? =some va->arr[a']? =some iV->va.ownBlock=none\/va.ownBlock≠iV.ownBlock
theorem ly.kept {B gn gw n:Nat}{W W':World}{L:List (Nat×Nat)}{arr wa:Array Value}(h:ly B gn gw n W L arr wa)(hb:Below W.heap.size W W'):ly B gn gw n W' L arr wa:=
 { h with
  bn:=h.bn.kept hb h.bn.lt
  bw:=h.bw.kept hb h.bw.lt
  hB:=Nat.le_trans h.hB hb.size
  row:=fun a ha=>by
   obtain⟨va,h1,h2⟩:=h.row a ha
   exact⟨va,h1,zA h2 hb⟩ }
theorem ly.drew {B gn gw n:Nat}{W:World}{L:List (Nat×Nat)}{arr wa:Array Value}(h:ly B gn gw n W L arr wa):ly B gn gw n W.drew L arr wa:=h.kept ((Below.refl _ W).drew)
theorem ly.start {B gn gw n:Nat}{W:World}(hn:az W gn (eA n (.slice none 0 0)))(hw:az W gw (eA n (.int .i64 0)))(hne:gn≠gw)(h1:gn<B)(h2:gw<B)(hB:B<=W.heap.size):ly B gn gw n W [] (eA n (.slice none 0 0)) (eA n (.int .i64 0)) where
 bn:=hn
 bw:=hw
 ne:=hne
 ln:=h1
 lw:=h2
 hB:=hB
 sn:=BI _ _
 sw:=BI _ _
 wt:=fun b hb=>by rw[BJ _ _ _ hb];rfl
 row:=fun a ha=>⟨_,BJ _ _ _ ha,lf _ _ _ _⟩
 sep:=fun a a' va iV _ h1 _=>by
  have:va=.slice none 0 0:=by
   have hlt:=(vM.1 h1).1;rw[BI] at hlt;rw[BJ _ _ _ hlt] at h1;exact(tq h1).symm
  subst this;exact .inl rfl
theorem En {W:World}{B:Nat}{e:TypeId}{k:Nat}{v:Value}{n:Nat}{xs:List Value}(h:W.ownsRow B e k v n xs):v.ownBlock=none\/∃g,v.ownBlock=some g/\B<=g/\g<W.heap.size:=by
 cases hv:v.ownBlock with
 |none=>exact .inl rfl
 |some g=>exact .inr ⟨g,rfl,h.lt g hv⟩
theorem ly.step {B gn gw n:Nat}{W W2:World}{L:List (Nat×Nat)}{arr wa:Array Value}(h:ly B gn gw n W L arr wa)(p:Nat×Nat)(tC:p.1<n)(xZ:p.2<n)(va:Value)(dy:arr[p.1]? =some va)
  (g cap:Nat) (bE:W2.ownsRow B 3 1 (.slice (some ⟨g,0,none⟩) ((bu L p.1).length+1) cap) ((bu L p.1).length+1) (nv (bu L p.1)++[I (p.2:Nat)])) (jq:W.grownBy W2 va.ownBlock) (hg:va.ownBlock=some g\/W.heap.size<=g) (hsz:W.heap.size<=W2.heap.size):
  ly B gn gw n ((W2.setCell ⟨gn,p.1,none⟩ (.slice (some ⟨g,0,none⟩) ((bu L p.1).length+1) cap)).setCell ⟨gw,p.2,none⟩ (I ((ee L p.2+1:Nat)))) (L++[p])
   (arr.setIfInBounds p.1 (.slice (some ⟨g,0,none⟩) ((bu L p.1).length+1) cap)) (wa.setIfInBounds p.2 (I ((ee L p.2+1:Nat)))):=by
 have hvb:va.ownBlock=none\/∃g,va.ownBlock=some g/\B<=g/\g<W.heap.size:=by
  obtain⟨iV,e1,e2⟩:=h.row p.1 tC;rw[dy] at e1;cases e1;exact En e2
 have hne:∀x,x<B->va.ownBlock≠some x:=fun x hx e=>by
  rcases hvb with h0|⟨g',h0,h1,_⟩
  ·rw[h0] at e;cases e
  ·rw[h0] at e;cases e;omega
 have Em:B<=g:=(bE.lt g rfl).1
 have gz:∀{iV:Value} {m:Nat} {xs:List Value},W2.ownsRow B 3 1 iV m xs->((W2.setCell ⟨gn,p.1,none⟩ (.slice (some ⟨g,0,none⟩) ((bu L p.1).length+1) cap)).setCell ⟨gw,p.2,none⟩ (I ((ee L p.2+1:Nat)))).ownsRow B 3 1 iV m xs:=by
  intro iV m xs ho
  have Ik:∀x,x<B->iV.ownBlock=none\/iV.ownBlock≠some x:=fun x hx=>by
   rcases En ho with h0|⟨g',h0,h1,_⟩
   ·exact .inl h0
   ·exact .inr (by rw[h0];intro e;cases e;omega)
  have h1:W2.grownBy (W2.setCell ⟨gn,p.1,none⟩ (.slice (some ⟨g,0,none⟩) ((bu L p.1).length+1) cap)) (some gn):=⟨rfl,rfl,rfl,ae,fun k _ hk=>Bk _ _ _ _ (fun e=>hk (by rw[e]))⟩
  have h2:∀W3:World,W3.grownBy (W3.setCell ⟨gw,p.2,none⟩ (I ((ee L p.2+1:Nat)))) (some gw):=fun W3=>⟨rfl,rfl,rfl,ae,fun k _ hk=>Bk _ _ _ _ (fun e=>hk (by rw[e]))⟩
  exact(ho.kept h1 (Ik gn h.ln)).kept (h2 _) (Ik gw h.lw)
 exact {
  bn:=(((h.bn.grown jq (hne gn h.ln)).set p.1 _).pk _ _ (fun e=>h.ne e.symm))
  bw:=(((h.bw.grown jq (hne gw h.lw)).pk ⟨gn,p.1,none⟩ _ h.ne).set p.2 _)
  ne:=h.ne
  ln:=h.ln
  lw:=h.lw
  hB:=by simp only[World.size_setCell];exact Nat.le_trans h.hB hsz
  sn:=by rw[xx];exact h.sn
  sw:=by rw[xx];exact h.sw
  wt:=fun b hb=>by
   rw[ajO];by_cases e:p.2=b
   ·subst e;rw[qq (by rw[h.sw];exact xZ)];simp
   ·rw[oY e,h.wt b hb];simp[e]
  row:=fun a ha=>by
   by_cases e:p.1=a
   ·subst e;refine⟨_,by rw[qq (by rw[h.sn];exact tC)],?_⟩;rw[UJ,if_pos rfl];have:=gz bE;simpa [nv] using this
   ·obtain⟨iV,e1,e2⟩:=h.row a ha;refine⟨iV,by rw[oY e];exact e1,?_⟩;rw[UJ,if_neg e];exact gz (e2.kept jq (h.sep a p.1 iV va (fun x=>e x.symm) e1 dy))
  sep:=fun a a' x y LA hx hy=>by
   by_cases e:p.1=a
   ·subst e;rw[qq (by rw[h.sn];exact tC)] at hx;cases hx;rw[oY LA] at hy;right;intro e2;have zD:y.ownBlock=some g:=e2.symm
    have ha':a'<n:=by have:=(vM.1 hy).1;rw[h.sn] at this;exact this
    obtain⟨y',f1,f2⟩:=h.row a' ha';rw[hy] at f1;cases f1;have hlt:=(f2.lt g zD).2
    rcases hg with hg|hg
    ·rcases h.sep p.1 a' va y LA dy hy with h0|h0
     ·rw[h0] at hg;cases hg
     ·exact h0 (hg.trans zD.symm)
    ·omega
   ·rw[oY e] at hx;by_cases e':p.1=a'
    ·subst e';rw[qq (by rw[h.sn];exact tC)] at hy;cases hy;right;intro e2;have wm:x.ownBlock=some g:=e2
     have ha:a<n:=by have:=(vM.1 hx).1;rw[h.sn] at this;exact this
     obtain⟨x',f1,f2⟩:=h.row a ha;rw[hx] at f1;cases f1;have hlt:=(f2.lt g wm).2
     rcases hg with hg|hg
     ·rcases h.sep p.1 a va x (fun z=>e z) dy hx with h0|h0
      ·rw[h0] at hg;cases hg
      ·exact h0 (hg.trans wm.symm)
     ·omega
    ·rw[oY e'] at hy
     exact h.sep a a' x y LA hx hy }
end
section
open Go.RowKit
theorem UL (f g:Nat->Nat)(i c:Nat):∀n,i<n->(∀a<n,a≠i->f a=g a)->f i=g i+c->((List.range n).map f).sum=((List.range n).map g).sum+c
 |0,h,_,_=>aa
 |n+1,h,h1,h2=>by
  rw[qA,dw,dw,List.sum_append,List.sum_append];simp only[ey,vU,List.sum_cons,List.sum_nil];by_cases e:i=n
  ·subst e
   have:(List.range i).map f=(List.range i).map g:=List.map_congr_left fun a ha=>h1 a (by have:=eF.1 ha;omega) (by have:=eF.1 ha;omega)
   rw[this];omega
  ·rw[UL f g i c n aa (fun a ha=>h1 a aa) h2,h1 n aa (fun e'=>e e'.symm)];omega
theorem UM (n b:Nat)(L:List (Nat×Nat))(h:∀p∈L,p.1<n):(mP (bu L) n).count b=ee L b:=by
 induction L with
 |nil=>
  have:mP (bu []) n=[]:=by
   unfold mP;rw[List.flatMap_eq_nil_iff];intro a _;rfl
  rw[this];rfl
 |cons p L ih=>
  have ih:=ih (fun q hq=>h q (zm _ hq));unfold mP at ih⊢;rw[List.count_flatMap] at ih⊢;rw[UL (List.count b∘bu (p::L)) (List.count b∘bu L) p.1 (if p.2=b then 1 else 0) n (h p xz),ih]
  ·unfold ee;rw[ey,List.count_cons];simp
  ·intro a _ ha;simp[bu,Ne.symm ha]
  ·simp[bu,List.count_cons]
theorem wq {L:List (Nat×Nat)}{n a b:Nat}(h:∀p∈L,p.1<p.2/\p.2<n)(hb:b∈bu L a):a<b/\b<n:=by
 unfold bu at hb;obtain⟨p,hp,rfl⟩:=fZ.1 hb;obtain⟨h1,h2⟩:=jG.1 hp;have:=h p h1;simp at h2;omega
def fE (W:World)(gw n:Nat)(t:Nat->Nat):Prop:=∃wa:Array Value,az W gw wa/\wa.size=n/\∀b<n,wa[b]? =some (I (t b:Nat))
theorem fE.cell {W:World}{gw n:Nat}{t:Nat->Nat}(h:fE W gw n t){b:Nat}(hb:b<n):W.cell? ⟨gw,b,none⟩=some (I (t b:Nat))/\W.frozen? ⟨gw,b,none⟩=false:=by
 obtain⟨wa,h1,h2,h3⟩:=h;exact⟨(h1.cell b).trans (h3 b hb),h1.frozen b⟩
theorem fE.set {W:World}{gw n:Nat}{t t':Nat->Nat}(h:fE W gw n t)(b:Nat)(ho:∀c,c≠b->t' c=t c):fE (W.setCell ⟨gw,b,none⟩ (I (t' b:Nat))) gw n t':=by
 obtain⟨wa,h1,h2,h3⟩:=h;refine⟨_,h1.set b _,by rw[xx];exact h2,fun c hc=> ?_⟩;by_cases e:b=c
 ·subst e;rw[qq (by rw[h2];exact hc)]
 ·rw[oY e,h3 c hc,ho c (fun x=>e x.symm)]
theorem fE.kept {W W':World}{gw n B:Nat}{t:Nat->Nat}(h:fE W gw n t)(hb:Below B W W')(hg:gw<B):fE W' gw n t:=by
 obtain⟨wa,h1,h2,h3⟩:=h;exact⟨wa,h1.kept hb hg,h2,h3⟩
theorem fE.congr {W:World}{gw n:Nat}{t t':Nat->Nat}(h:fE W gw n t)(ht:∀b<n,t' b=t b):fE W gw n t':=by
 obtain⟨wa,h1,h2,h3⟩:=h;exact⟨wa,h1,h2,fun b hb=>by rw[ht b hb];exact h3 b hb⟩
theorem ly.read {B gn gw n:Nat}{W:World}{L:List (Nat×Nat)}{arr wa:Array Value}(h:ly B gn gw n W L arr wa){a:Nat}(ha:a<n):
  ∃va,∀W',cq gw W W'->W'.cell? ⟨gn,a,none⟩=some va/\Flat W' 1 va (bu L a).length (nv (bu L a)):=by
 obtain⟨va,h1,h2⟩:=h.row a ha;refine⟨va,fun W' hA=>⟨?_,Flat.Ii h2 h.lw hA⟩⟩;rw[hA.2 gn a (jm h.ln h.hB) h.ne];exact(h.bn.cell a).trans h1
theorem ly.UN {B gn gw n:Nat}{W:World}{L:List (Nat×Nat)}{arr wa:Array Value}(h:ly B gn gw n W L arr wa):fE W gw n (ee L):=⟨wa,h.bw,h.sw,h.wt⟩
theorem Il {W:World}{B:Nat}{e:TypeId}{k:Nat}{v:Value}{n:Nat}{xs:List Value}(h:W.ownsRow B e k v n xs)(a:Addr)(u:Value)(ha:a.block<B):(W.setCell a u).ownsRow B e k v n xs:=by
 refine h.kept ⟨rfl,rfl,rfl,ae,fun j _ hj=>Bk _ _ _ _ (fun e=>hj (by rw[e]))⟩ (row:=some a.block) ?_
 rcases En h with h0|⟨g,h0,h1,_⟩
 ·exact .inl h0
 ·exact .inr (by rw[h0];intro e;cases e;omega)
theorem ajP (l:List Nat):(nv l).length=l.length:=by simp[nv]
theorem UO (l:List Nat)(i:Nat):nv (l++[i])=nv l++[I (i:Int)]:=by simp[nv]
theorem ajQ {l:List Nat}{i x:Nat}(h:l[i]? =some x):(nv l)[i]? =some (I (x:Int)):=by simp[nv,h]
theorem Im {w:World}{a:Option Addr}{m c n:Nat}{l:List Nat}(h:Flat w 1 (.slice a m c) n (nv l)){i x:Nat}(hi:l[i]? =some x):∃b o,a=some ⟨b,o,none⟩/\w.cell? ⟨b,o+i,none⟩=some (I (x:Int)):=by
 have hlt:=(bk.1 hi).1;obtain⟨b,o,ha,hc⟩:=h.cells (by rw[ajP];omega);exact⟨b,o,ha,hc i _ (ajQ hi)⟩
theorem ajR (Z:Nat->Bool)(k:Nat):(List.range (k+1)).filter Z=(List.range k).filter Z++if Z k then [k] else []:=by
 rw[qA,fY];by_cases h:Z k<;>simp[h]
structure QM (n gw:Nat)(L:List (Nat×Nat))(w w3 W:World)(row done:List Nat)(v:Value):Prop where
 ag:cq gw w3 W
 wt:fE W gw n (fun b=>ee L b-done.count b)
 own:W.ownsRow w3.heap.size 3 1 v row.length (nv row)
 be:Below w.heap.size w W
theorem QM.drew {n gw:Nat}{L:List (Nat×Nat)}{w w3 W:World}{row done:List Nat}{v:Value}(h:QM n gw L w w3 W row done v):QM n gw L w w3 W.drew row done v:=
 ⟨h.ag.drew,h.wt,zA h.own (Below.refl _ _).drew,h.be.drew⟩
theorem QM.kept {n gw:Nat}{L:List (Nat×Nat)}{w w3 W W':World}{row done:List Nat}{v:Value}(h:QM n gw L w w3 W row done v)(hb:Below W.heap.size W W')(h1:gw<w3.heap.size):QM n gw L w w3 W' row done v:=
 ⟨⟨Nat.le_trans h.ag.1 hb.size,fun x o hx hg=>(hb.cell (p:=⟨x,o,none⟩) (jm hx h.ag.1)).trans (h.ag.2 x o hx hg)⟩,h.wt.kept hb (jm h1 h.ag.1),zA h.own hb,h.be.trans (hb.mono h.be.size)⟩
theorem QM.set {n gw:Nat}{L:List (Nat×Nat)}{w w3 W:World}{row done:List Nat}{v:Value}(h:QM n gw L w w3 W row done v)(b c:Nat)(hc:ee L b-done.count b=c+1)(h1:gw<w3.heap.size)(h2:w.heap.size<=gw):
  QM n gw L w w3 (W.setCell ⟨gw,b,none⟩ (I c)) row (done++[b]) v where
 ag:=h.ag.trans (cq.set gw W b _)
 wt:=by
  have:=h.wt.set (t':=fun x=>ee L x-(done++[b]).count x) b (fun x hx=>by
   show ee L x-(done++[b]).count x=ee L x-done.count x
   rw[zq]
   simp[Ne.symm hx])
  have e:ee L b-(done++[b]).count b=c:=by
   rw[zq];simp;omega
  simp only[e] at this;exact this
 own:=Il h.own _ _ h1
 be:=h.be.setCell h2 _
theorem QM.app {n gw:Nat}{L:List (Nat×Nat)}{w w3 W W':World}{row done:List Nat}{v v':Value}(h:QM n gw L w w3 W row done v)(b:Nat)(h1:gw<w3.heap.size)(h2:w.heap.size<=gw)
  (ho:W'.ownsRow w3.heap.size 3 1 v' (row.length+1) (nv row++[I (b:Int)])) (hb:Below w3.heap.size W W'):QM n gw L w w3 W' (row++[b]) done v' where
 ag:=⟨Nat.le_trans h.ag.1 hb.size,fun x o hx hg=>(hb.cell (p:=⟨x,o,none⟩) hx).trans (h.ag.2 x o hx hg)⟩
 wt:=h.wt.kept hb h1
 own:=by rw[List.length_append,UO];exact ho
 be:=h.be.trans (hb.mono aa)
def Io (w4:World)(k:Nat)(v:Value)(wc:World):Prop:=∃ga gp gv:Nat,v=.pointer (some ⟨gv,0,none⟩)/\w4.heap.size<=ga/\w4.heap.size<=gp/\w4.heap.size<=gv/\ga≠gp/\ga≠gv/\gp≠gv/\
 az wc ga (eA k (.slice none 0 0))/\az wc gp #[I k,.slice (some ⟨ga,0,none⟩) k k]/\az wc gv #[.pointer (some ⟨gp,0,none⟩)]/\Below w4.heap.size w4 wc
end
section
open Go.RowKit Go.Shelf
attribute [local go_sem] Oper.semAt_some
def fe (P:Nat->Prop)(A B:World):Prop:=∀b o,P b->B.cell? ⟨b,o,none⟩=A.cell? ⟨b,o,none⟩
theorem fe.refl (P:Nat->Prop)(A:World):fe P A A:=fun _ _ _=>rfl
theorem fe.trans {P:Nat->Prop}{A B C:World}(h:fe P A B)(k:fe P B C):fe P A C:=fun b o hb=>(k b o hb).trans (h b o hb)
theorem fe.set {P:Nat->Prop}{A B:World}(h:fe P A B)(a:Addr)(v:Value)(ha:¬P a.block):fe P A (B.setCell a v):=fun b o hb=>
 (Hh _ _ _ _ (fun e=>ha (by rw[e];exact hb))).trans (h b o hb)
theorem fe.below {P:Nat->Prop}{A B:World}{n:Nat}(h:Below n A B)(hP:∀b,P b->b<n):fe P A B:=fun b o hb=>h.cell (p:=⟨b,o,none⟩) (hP b hb)
def pB {n:Nat}(row:List (Fin n))(k:Nat):List (Fin n×Nat):=(row.zipIdx.drop k).reverse
def fv {n:Nat}(row:List (Fin n)):List Nat:=row.map Fin.val
theorem ajS {n:Nat}(row:List (Fin n)):pB row (fv row).length=[]:=by simp[pB,fv]
theorem ajT {n:Nat}(row:List (Fin n))(k:Nat)(x:Fin n)(h:row[k]? =some x):pB row k=pB row (k+1)++[(x,k)]:=by
 obtain⟨hk,rfl⟩:=bk.1 h;unfold pB;rw[List.drop_eq_getElem_cons (by simpa using hk)];simp
theorem ajU {n:Nat}(row:List (Fin n))(k:Nat):(pB row k).length=row.length-k:=by simp[pB]
theorem ajV {n:Nat}(row:List (Fin n)):(pB row 0).map Prod.fst=row.reverse:=by
 unfold pB;rw[List.drop_zero,List.map_reverse,List.zipIdx_map_fst]
def LB {n:Nat}(x:Fin n×Nat):Array Value:=#[I x.2,I x.1.val]
theorem ajW {m:Nat}(n:Nat)(hn:1<=n)(row:List (Fin m))(tb:Nat)(v:Value)(w0:World)(P:Nat->Prop)(iY:w0.cell? ⟨tb,0,none⟩=some v)(bD:Flat w0 1 v (fv row).length (nv (fv row)))(hlen:(fv row).length<=1000000)
  (hP:∀b,P b->b<w0.heap.size) (UQ:P tb) (hPr:∀b o m c,v=.slice (some ⟨b,o,none⟩) m c->P b):
  SeqStopsK Fence.wide n Tryz.prog 142 #[.pointer (some ⟨tb,0,none⟩)] LB (fe P) (fun xs=>xs=pB row 0) (fun _=>True) (fv row).length w0:=by
 intro l J Jx W hW hJ hJx hY h0;obtain⟨ka,ca,rfl,ft⟩:=bD.open;have Ip:W.cell? ⟨tb,0,none⟩=some (.slice ka (fv row).length ca):=(hW.cell (p:=⟨tb,0,none⟩) (hP _ UQ)).trans iY;have HY:=ab hY;clear hY;refine callsIn_of_wp Tryz.func142 rfl trivial ?_ rfl;simp only[Tryz.ntmps142,zr,List.length_cons,List.length_nil,Nat.reduceAdd,Nat.reduceSub,Hw,Hy,List.push_toArray,HD,List.nil_append,List.cons_append]
 gi_wp2
 gi_loopw [3] (fun p wr=>∃k:Nat,k<=(fv row).length/\p=.int .i64 ((k:Int)-1)/\fe P w0 wr/\J (pB row k) wr) (fun p _=>(intOf p+1).toNat)
 case atStart=>exact⟨(fv row).length,di _,rfl,fe.below hW hP,by rw[ajS];exact h0⟩
 case round=>
  clear Ip;obtain⟨k,hk,rfl,hK,BQ⟩:=hrel
  cases k with
  |zero=>
   gi_wp2
   go_end0;exact⟨⟨_,rfl⟩,.inl ⟨_,rfl,BQ⟩⟩
  |succ k=>
   have kr:k<(fv row).length:=aa;have e1:((k+1:Nat):Int)-1=(k:Int):=aa;rw[e1];have ya:=(hK tb 0 UQ).trans iY
   obtain⟨x,hx⟩:∃x,row[k]? =some x:=⟨row[k]'(by simpa [fv] using kr),ae⟩
   obtain⟨b,o,rfl,hc⟩:=Im bD (i:=k) (x:=x.val) (by simp[fv,hx]);have qF:=(hK b (o+k) (hPr b o _ _ rfl)).trans hc;have UR:=ajT row k x hx;have Hs:=ab UR;have LC:=ab (show(pB row (k+1)).length<(fv row).length by rw[ajU];simp[fv] at kr⊢;omega);obtain⟨fn,tmps,assign,body,hy,hR⟩:=HY.out _ (x,k) wr BQ LC.out;dsimp only[LB] at hy;clear UR e1 hx hc
   gi_wp2
   refine hR.mono ?_;rintro e W3 (⟨rfl,hJ3,hk3⟩|⟨rfl,ajX⟩)
   ·gi_wp2
    go_roundw
    case rel=>exact⟨k,aa,rfl,hK.trans hk3,by rw[Hs.out];exact hJ3⟩
    case measure=>simp[intOf]
   ·gi_wp2
    refine bodyPost_ret (results_none rfl _ _ _) rfl ?_;exact⟨⟨_,rfl⟩,.inr ⟨_,trivial,ajX⟩⟩
theorem backward (a:Option Addr)(n c:Nat)(w:World):Calls Tryz.prog 114 #[.slice a n c] w fun e w'=>e=.returned (.func (.func 142) #[] #[.pointer (some ⟨w.heap.size,0,none⟩)])/\w'=w.alloc (.cells #[.slice a n c] 22):=by
 go_enter Tryz.func114,Tryz.ntmps114;go_wp2_with fail;go_ret;exact⟨rfl,rfl⟩
theorem fe.putObj {P:Nat->Prop}(W:World)(l:Nat)(o':Obj)(h:¬P l):fe P W (W.putObj l o'):=fun b o hb=>by
 have hne:b≠l:=by
  rintro rfl;exact h hb
 simp[World.cell?,World.putObj_heap_other hne]
theorem LD {α:Type}{P:List α->Prop}(nil:P [])(append_singleton:∀l a,P l->P (l++[a]))(l:List α):P l:=by
 have h:∀m:List α,P m.reverse:=fun m=>by
  induction m with
  |nil=>exact nil
  |cons a m ih=>rw[lh];exact append_singleton _ _ ih
 have:=h l.reverse;rwa[List.reverse_reverse] at this
def tD (g:Nat->Nat)(l:List Nat):Nat:=l.foldl (fun m b=>(m|||2^b)|||g b) 0
def gA (nx:Nat->List Nat)(wd:Nat->Option Nat)(a:Nat):Nat->Option Nat:=fun x=>if x=a then some (tD (fun b=>(wd b).getD 0) (nx a)) else wd x
def qL (nx:Nat->List Nat)(al:List Nat):Nat->Option Nat:=al.foldl (gA nx) (fun _=>none)
theorem LF (g:Nat->Nat)(l:List Nat)(b:Nat):tD g (l++[b])=(tD g l|||2^b)|||g b:=by simp[tD]
theorem LG (g:Nat->Nat)(l:List Nat)(hl:∀b∈l,b<64/\g b<fM):tD g l<fM:=by
 induction l using LD with
 |nil=>show 0<2^64;omega
 |append_singleton l b ih=>
  rw[LF];have h1:=ih (fun c hc=>hl c (DO _ hc));have h2:=hl b ae;exact Nat.or_lt_two_pow (Nat.or_lt_two_pow h1 (Ib b h2.1)) h2.2
theorem ajY (g:Nat->Nat)(l:List Nat)(k:Nat):(tD g l).testBit k=l.any fun b=>b==k||(g b).testBit k:=by
 induction l using LD with
 |nil=>simp[tD]
 |append_singleton l b ih=>
  rw[LF,Nat.testBit_or,Nat.testBit_or,ih,Nat.testBit_two_pow];simp[Bool.or_assoc];rfl
theorem UT (nx:Nat->List Nat)(al:List Nat)(a:Nat):qL nx (al++[a])=gA nx (qL nx al) a:=by simp[qL]
theorem ajZ (nx:Nat->List Nat)(n:Nat)(hn:n<=64)(f:Nat->Nat->Bool)(gB:∀a<n,∀b∈nx a,b<n)(hf:∀a<n,∀k<n,f a k=(nx a).any fun b=>b==k||f b k)(al:List Nat)(ct:al.Nodup)(hlt:∀a∈al,a<n)
  (ho:∀q a,al[q]? =some a->∀b∈nx a,b∈al.take q):∀a∈al,∃m,qL nx al a=some m/\m<fM/\∀k<n,m.testBit k=f a k:=by
 induction al using LD with
 |nil=>intro a ha;simp at ha
 |append_singleton al a ih=>
  have aka:=List.nodup_append.1 ct
  have gj:∀x∈al,x<n:=fun x hx=>hlt x (DO _ hx)
  have ih:=ih aka.1 gj (fun q x hq b hb=>by
   have eY:=(bk.1 hq).1;have:=ho q x (by rw[kj eY];exact hq) b hb
   rwa[iH aa] at this)
  have qM:=hlt a ae
  have bg:∀b∈nx a,b∈al:=fun b hb=>by
   have:=ho al.length a ae b hb;rwa[List.take_left] at this
  intro x hx;rw[UT];unfold gA;by_cases e:x=a
  ·subst e;rw[if_pos rfl];refine⟨_,rfl,LG _ _ fun b hb=> ?_,fun k hk=> ?_⟩
   ·obtain⟨m,h1,h2,_⟩:=ih b (bg b hb);rw[h1];have:=gB x qM b hb;exact⟨aa,h2⟩
   ·rw[ajY,hf x qM k hk,zu,qy,qy]
    have key:∀b∈nx x,((qL nx al b).getD 0).testBit k=f b k:=fun b hb=>by
     obtain⟨m,h1,_,h3⟩:=ih b (bg b hb);rw[h1];exact h3 k hk
    constructor
    ·rintro⟨b,hb,h⟩;exact⟨b,hb,by rwa[key b hb] at h⟩
    ·rintro⟨b,hb,h⟩;exact⟨b,hb,by rwa[key b hb]⟩
  ·rw[if_neg e];refine ih x ?_
   rcases fA.1 hx with h|h
   ·exact h
   ·simp at h;exact absurd h e
def pC (W:World)(n lo:Nat)(arr:Array Value)(wd:Nat->Option Nat):Prop:=arr.size=n/\∀a<n,match wd a with
 |none=>arr[a]? =some (.slice none 0 0)
 |some m=>m<fM/\∃gi,lo<=gi/\gi<W.heap.size/\arr[a]? =some (.slice (some ⟨gi,0,none⟩) 1 1)/\W.cell? ⟨gi,0,none⟩=some (.int .u64 ((m:Nat):Int))
theorem pC.kept {W W':World}{n lo:Nat}{arr:Array Value}{wd:Nat->Option Nat}(h:pC W n lo arr wd)(hs:W.heap.size<=W'.heap.size)(hc:∀b v,lo<=b->b<W.heap.size->W.cell? ⟨b,0,none⟩=some v->W'.cell? ⟨b,0,none⟩=some v):pC W' n lo arr wd:=by
 refine⟨h.1,fun a ha=> ?_⟩;have:=h.2 a ha;split
 ·rename_i e;rw[e] at this;exact this
 ·rename_i m e;rw[e] at this;obtain⟨h1,gi,h2,h3,h4,h5⟩:=this;exact⟨h1,gi,h2,aa,h4,hc gi _ h2 h3 h5⟩
theorem pC.step {W W':World}{n lo:Nat}{arr:Array Value}{nx:Nat->List Nat}{wd:Nat->Option Nat}(h:pC W n lo arr wd)(a:Nat)(ha:a<n)(gB:∀b∈nx a,b<n)(hn:n<=64)(kL:lo<=W.heap.size)
  (hs:W.heap.size<W'.heap.size) (hc:∀b v,lo<=b->b<W.heap.size->W.cell? ⟨b,0,none⟩=some v->W'.cell? ⟨b,0,none⟩=some v)
  (hg:W'.cell? ⟨W.heap.size,0,none⟩=some (.int .u64 ((tD (fun b=>(wd b).getD 0) (nx a):Nat):Int))):
  pC W' n lo (arr.setIfInBounds a (.slice (some ⟨W.heap.size,0,none⟩) 1 1)) (gA nx wd a):=by
 have hk:=h.kept (W':=W') aa hc;refine⟨by rw[xx];exact h.1,fun x hx=> ?_⟩;unfold gA;by_cases e:x=a
 ·subst e;rw[if_pos rfl];refine⟨LG _ _ fun b hb=>⟨by have:=gB b hb;omega,?_⟩,W.heap.size,kL,hs,by rw[qq (by rw[h.1];exact hx)],hg⟩;have:=h.2 b (gB b hb)
  cases hw:wd b with
  |none=>show 0<2^64;omega
  |some m=>
   rw[hw] at this;exact this.1
 ·rw[if_neg e];have:=hk.2 x hx;rw[oY (Ne.symm e)];exact this
theorem pC.start (W:World)(n lo:Nat):pC W n lo (eA n (.slice none 0 0)) (fun _=>none):=⟨BI _ _,fun _ ha=>BJ _ _ _ ha⟩
theorem akb (b o c:Nat)(w:World):
  Calls Tryz.prog 116 #[.slice (some ⟨b,o,none⟩) 1 c,.slice none 0 0] w fun e w'=>e=.returned (.tuple #[])/\w'=w:=by
 go_enter Tryz.func116,Tryz.ntmps116;go_wp2;refine wp_loop_rounds 1 ?_;rw[rounds_succ];go_wp2;go_end0;exact⟨rfl,rfl⟩
theorem az.UU {W W':World}{g:Nat}{cs:Array Value}(h:az W g cs){row:Option Nat}(hg:W.grownBy W' row)(hr:∀r,row=some r->∃o:Obj,W.heap[r]? =some o/\o.isCells=false):az W' g cs:=by
 refine h.grown hg fun e=> ?_
 obtain⟨o,h1,h2⟩:=hr g e;obtain⟨t,h3⟩:=h;rw[h3] at h1;cases h1;cases h2
theorem az.putObj {W:World}{g:Nat}{cs:Array Value}(h:az W g cs){l:Nat}{o:Obj}(o':Obj)(hl:W.heap[l]? =some o)(ho:o.isCells=false):az (W.putObj l o') g cs:=
 h.UU (grownBy_putObj' W l o') (fun r e=>by cases e;exact⟨o,hl,ho⟩)
theorem akc {nx:Nat->List Nat}{n:Nat}{row done:List Nat}(h:lZ nx n row done)(akd:∀i<n,i∈row)(gB:∀a<n,∀b∈nx a,b<n):∀q a,row.reverse[q]? =some a->∀b∈nx a,b∈row.reverse.take q:=by
 intro q a hq b hb
 have eY:q<row.length:=by have:=(bk.1 hq).1;simpa using this
 rw[List.getElem?_reverse eY] at hq;have qM:=h.lt a (dJ hq);obtain⟨p,hp⟩:=qu (akd b (gB a qM b hb));have fF:=(bk.1 hp).1;have ha:=h.order p b hp a qM hb;obtain⟨j,hj⟩:=qu ha;have dD:=(bk.1 hj).1;rw[eo] at dD;rw[xu aa] at hj;have hjq:j=row.length-1-q:=(List.getElem?_inj aa h.nodup).1 (hj.trans hq.symm)
 have:row.reverse[row.length-1-p]? =some b:=by
  rw[List.getElem?_reverse aa,show row.length-1-(row.length-1-p)=p by omega];exact hp
 refine dJ (i:=row.length-1-p) ?_;rw[xu aa];exact this
theorem ake {k ga gp lo:Nat}{W:World}{arr:Array Value}{f:Nat->Nat->Bool}{wd:Nat->Option Nat}(hn:k<=64)(hb:az W ga arr)(h0:W.cell? ⟨gp,0,none⟩=some (I k))(h1:W.cell? ⟨gp,1,none⟩=some (.slice (some ⟨ga,0,none⟩) k k))
  (ed:pC W k lo arr wd) (gu:∀i<k,∃m,wd i=some m/\m<fM/\∀j<k,m.testBit j=f i j):zB W (.pointer (some ⟨gp,0,none⟩)) k f:=by
 refine⟨hn,gp,ga,k,rfl,h0,h1,fun i hi=> ?_⟩;obtain⟨m,e,h2,h3⟩:=gu i hi;have:=ed.2 i hi;rw[e] at this;obtain⟨_,gi,_,_,h4,h5⟩:=this;exact⟨gi,1,m,(hb.cell i).trans h4,h5,h2,h3⟩
theorem LH {W:World}{a:Addr}{v:Value}{l:Nat}{o:Obj}(h:W.cell? a=some v)(o':Obj)(hl:W.heap[l]? =some o)(ho:o.isCells=false):(W.putObj l o').cell? a=some v:=
 cell_kept h (grownBy_putObj' W l o') (fun r e=>by cases e;exact⟨o,hl,ho⟩)
structure Touch (G:Nat)(W W':World):Prop where
 size:W'.heap.size=W.heap.size
 cell:∀b o,b≠G->W'.cell? ⟨b,o,none⟩=W.cell? ⟨b,o,none⟩
 others:KeepsOthers W W'
 below:∀B,B<=G->Below B W W'
 im:∀g cs,g≠G->az W g cs->az W' g cs
theorem Touch.refl (G:Nat)(W:World):Touch G W W:=⟨rfl,fun _ _ _=>rfl,KeepsOthers.refl W,fun _ _=>Below.refl _ _,fun _ _ _ h=>h⟩
theorem Touch.trans {G:Nat}{A B C:World}(h:Touch G A B)(k:Touch G B C):Touch G A C:=
 ⟨k.size.trans h.size,fun b o hb=>(k.cell b o hb).trans (h.cell b o hb),h.others.trans k.others,fun n hn=>(h.below n hn).trans (k.below n hn),fun g cs hg hb=>k.im g cs hg (h.im g cs hg hb)⟩
theorem Touch.set (G o:Nat)(W:World)(v:Value):Touch G W (W.setCell ⟨G,o,none⟩ v):=
 ⟨ae,fun b o' hb=>Hh _ _ _ _ (fun e=>hb (kp Addr.block e).symm),KeepsOthers.setCell _ _ _,fun _ hB=>(Below.refl _ W).setCell hB _,fun _ _ hg hb=>hb.pk _ _ (fun e=>hg e.symm)⟩
theorem Touch.drew {G:Nat}{W W':World}(h:Touch G W W'):Touch G W W'.drew:=
 ⟨h.size,h.cell,h.others.trans (KeepsOthers.drew _),fun B hB=>(h.below B hB).drew,fun g cs hg hb=>(h.im g cs hg hb).drew⟩
theorem Touch.drewN {G:Nat}{W W':World}(h:Touch G W W')(n:Nat):Touch G W (W'.drewN n):=
 ⟨h.size,h.cell,h.others.trans ⟨di _,fun _ _ h _=>h⟩,fun B hB=>below_drewN (h.below B hB) n,fun g cs hg hb=>(h.im g cs hg hb).drewN n⟩
theorem akf (G m i:Nat)(w:World)(hG:az w G #[.int .u64 ((m:Nat):Int)])(hm:m<fM)(hi:i<64):
  Calls Tryz.prog 115 #[.slice (some ⟨G,0,none⟩) 1 1,I i] w fun e w'=>e=.returned (.tuple #[])/\az w' G #[.int .u64 ((m|||2^i:Nat):Int)]/\Touch G w w':=by
 refine(ajq G 0 1 m i w (hG.cell 0) (hG.frozen 0) hm hi).mono ?_;rintro e w' ⟨rfl,n,rfl⟩;exact⟨rfl,(hG.set 0 _).drewN n,(Touch.set G 0 w _).drewN n⟩
theorem akg (G m mb:Nat)(tv:Value)(w:World)(hG:az w G #[.int .u64 ((m:Nat):Int)])(hm:m<fM)
  (ht:(tv=.slice none 0 0/\mb=0)\/∃gi,tv=.slice (some ⟨gi,0,none⟩) 1 1/\w.cell? ⟨gi,0,none⟩=some (.int .u64 ((mb:Nat):Int))/\mb<fM):
  Calls Tryz.prog 116 #[.slice (some ⟨G,0,none⟩) 1 1,tv] w fun e w'=>e=.returned (.tuple #[])/\az w' G #[.int .u64 ((m|||mb:Nat):Int)]/\Touch G w w':=by
 rcases ht with⟨rfl,rfl⟩|⟨gi,rfl,hc,hmb⟩
 ·refine(akb G 0 1 w).mono ?_;rintro e w' ⟨rfl,rfl⟩;exact⟨rfl,by rw[Nat.or_zero];exact hG,Touch.refl _ _⟩
 ·refine(ajr G 0 1 gi 0 1 m mb w (hG.cell 0) (hG.frozen 0) hm hc hmb).mono ?_;rintro e w' ⟨rfl,rfl⟩;exact⟨rfl,hG.set 0 _,Touch.set G 0 w _⟩
def LI (k ga:Nat)(L:List (Nat×Nat))(w W6:World)(al:List Nat)(W:World):Prop:=∃arr:Array Value,az W ga arr/\pC W k W6.heap.size arr (qL (bu L) al)/\fe (fun b=>b<W6.heap.size/\b≠ga) W6 W/\W6.heap.size<=W.heap.size/\Below w.heap.size w W
theorem akh {P:Nat->Prop}{A B:World}{n:Nat}{row:Option Nat}(hg:A.grownBy B row)(hr:∀r,row=some r->n<=r)(hP:∀b,P b->b<n)(hn:n<=A.heap.size):fe P A B:=fun b o hb=>by
 have:=hg.block b (jm (hP b hb) hn) (fun e=>by have:=hr b e.symm;have:=hP b hb;omega);simp[World.cell?,this]
theorem aki (k ga:Nat)(L:List (Nat×Nat))(w W6:World)(hw:w.heap.size<=W6.heap.size):OwnFrom W6.heap.size (fun(pre:List (Fin k×Nat)) W=>LI k ga L w W6 (pre.map fun x=>x.1.val) W):=by
 intro s A B row hs hg hr;obtain⟨arr,h1,h2,h3,h4,h5⟩:=hs;refine⟨arr,h1.UU hg (fun r e=>(hr r e).2),h2.kept hg.size (fun b v _ _ hc=>cell_kept hc hg (fun r e=>(hr r e).2)),h3.trans (akh hg (fun r e=>(hr r e).1) (fun b hb=>hb.1) h4),Nat.le_trans h4 hg.size,?_⟩;exact h5.grown hg h5.size (fun r e=>by have:=(hr r e).1;omega)
theorem fe.ox {P P':Nat->Prop}{A B:World}(h:fe P A B)(hp:∀b,P' b->P b):fe P' A B:=fun b o hb=>h b o (hp b hb)
theorem pC.val {W:World}{n lo:Nat}{arr:Array Value}{wd:Nat->Option Nat}(h:pC W n lo arr wd){b:Nat}(hb:b<n):∃tv,arr[b]? =some tv/\((tv=.slice none 0 0/\(wd b).getD 0=0)\/∃gi,tv=.slice (some ⟨gi,0,none⟩) 1 1/\lo<=gi/\gi<W.heap.size/\W.cell? ⟨gi,0,none⟩=some (.int .u64 (((wd b).getD 0:Nat):Int))/\(wd b).getD 0<fM):=by
 have:=h.2 b hb
 cases hw:wd b with
 |none=>rw[hw] at this;exact⟨_,this,.inl ⟨rfl,rfl⟩⟩
 |some m=>rw[hw] at this;obtain⟨h1,gi,h2,h3,h4,h5⟩:=this;exact⟨_,h4,.inr ⟨gi,rfl,h2,h3,h5,h1⟩⟩
theorem akj (w:World)(k:Nat):Io w k (.pointer (some ⟨w.heap.size+1+1,0,none⟩)) (((w.alloc (.cells (eA k (.slice none 0 0)) 174)).alloc (.cells #[I k,.slice (some ⟨w.heap.size,0,none⟩) k k] 177)).alloc (.cells #[.pointer (some ⟨w.heap.size+1,0,none⟩)] 114)).drew:=by
 refine⟨w.heap.size,w.heap.size+1,w.heap.size+1+1,rfl,aa,aa,aa,aa,aa,aa,(((az.new w _ 174).alloc _).alloc _).drew,?_,?_,((((Below.refl _ w).alloc av _).alloc ae _).alloc (by simp;omega) _).drew⟩
 ·have:=((az.new (w.alloc (.cells (eA k (.slice none 0 0)) 174)) #[I k,.slice (some ⟨w.heap.size,0,none⟩) k k] 177).alloc (.cells #[.pointer (some ⟨w.heap.size+1,0,none⟩)] 114)).drew;simpa using this
 ·have:=(az.new ((w.alloc (.cells (eA k (.slice none 0 0)) 174)).alloc (.cells #[I k,.slice (some ⟨w.heap.size,0,none⟩) k k] 177)) #[.pointer (some ⟨w.heap.size+1,0,none⟩)] 114).drew;simpa using this
theorem akk (w:World)(k:Nat):Io w k (.pointer (some ⟨w.heap.size+1,0,none⟩)) (((w.alloc (.cells (eA k (.slice none 0 0)) 174)).alloc (.cells #[.pointer (some ⟨w.heap.size+1+1,0,none⟩)] 114)).alloc (.cells #[I k,.slice (some ⟨w.heap.size,0,none⟩) k k] 177)).drew:=by
 refine⟨w.heap.size,w.heap.size+1+1,w.heap.size+1,rfl,aa,aa,aa,aa,aa,aa,(((az.new w _ 174).alloc _).alloc _).drew,?_,?_,((((Below.refl _ w).alloc av _).alloc ae _).alloc (by simp;omega) _).drew⟩
 ·have:=(az.new ((w.alloc (.cells (eA k (.slice none 0 0)) 174)).alloc (.cells #[.pointer (some ⟨w.heap.size+1+1,0,none⟩)] 114)) #[I k,.slice (some ⟨w.heap.size,0,none⟩) k k] 177).drew;simpa using this
 ·have:=((az.new (w.alloc (.cells (eA k (.slice none 0 0)) 174)) #[.pointer (some ⟨w.heap.size+1+1,0,none⟩)] 114).alloc (.cells #[I k,.slice (some ⟨w.heap.size,0,none⟩) k k] 177)).drew;simpa using this
theorem akl (w:World)(k:Nat):Io w k (.pointer (some ⟨w.heap.size,0,none⟩)) (((w.alloc (.cells #[.pointer (some ⟨w.heap.size+1+1,0,none⟩)] 114)).alloc (.cells (eA k (.slice none 0 0)) 174)).alloc (.cells #[I k,.slice (some ⟨w.heap.size+1,0,none⟩) k k] 177)).drew:=by
 refine⟨w.heap.size+1,w.heap.size+1+1,w.heap.size,rfl,aa,aa,aa,aa,aa,aa,?_,?_,(((az.new w _ 114).alloc _).alloc _).drew,((((Below.refl _ w).alloc av _).alloc ae _).alloc (by simp;omega) _).drew⟩
 ·have:=((az.new (w.alloc (.cells #[.pointer (some ⟨w.heap.size+1+1,0,none⟩)] 114)) (eA k (.slice none 0 0)) 174).alloc (.cells #[I k,.slice (some ⟨w.heap.size+1,0,none⟩) k k] 177)).drew;simpa using this
 ·have:=(az.new ((w.alloc (.cells #[.pointer (some ⟨w.heap.size+1+1,0,none⟩)] 114)).alloc (.cells (eA k (.slice none 0 0)) 174)) #[I k,.slice (some ⟨w.heap.size+1,0,none⟩) k k] 177).drew;simpa using this
end
section
open Go.RowKit Go.Shelf
attribute [local go_sem] Oper.semAt_some
theorem akm:(Tryz.prog.info? 174).map (fun i=>(i.zero,i.size,i.bytes))=some (some (.slice none 0 0),1,24):=ah
theorem akn:(Tryz.prog.info? 219).map (fun i=>(i.zero,i.size,i.bytes))=some (some (.int .u64 0),1,8):=ah
theorem ako (n:Nat)(L:List (Nat×Nat))(v:Value)(w:World)(hL:Flat w 2 v L.length (L.flatMap pc))(hn:n<=64)(pD:∀p∈L,p.1<p.2/\p.2<n)(hLl:L.length<=10000)
  (f:Nat->Nat->Bool) (hf:∀a<n,∀k<n,f a k=(bu L a).any fun b=>b==k||f b k):
  Calls Tryz.prog 73 #[I n,v] w fun e w'=>∃p,e=.returned (.tuple #[p,I 0])/\zB w' p n f/\Below w.heap.size w w':=by
 obtain⟨ka,ca,rfl,ft⟩:=hL.open
 have xS:=fun W=>BK (P:=Tryz.prog) 210 22 (.slice none 0 0) 24 n Tryz.underlying210 ajM rfl aa aa W
 have LJ:=fun W=>BK (P:=Tryz.prog) 22 3 (.int .i64 0) 8 n Tryz.underlying22 DZ rfl aa aa W
 have Hf:=ab hf;clear hf;refine(callsIn_wide (n:=5)).1 ?_;refine callsIn_of_wp_marks Tryz.func73 rfl trivial ?_ rfl;simp only[Tryz.ntmps73,zr,List.length_cons,List.length_nil,Nat.reduceAdd,Nat.reduceSub,Hw,Hy,List.push_toArray,HD,List.nil_append,List.cons_append];refine wpIn_wide.2 ?_;go_wp2_with fail
 obtain⟨W0,UW,wu,UX,yb,UY,rT,Eo⟩:∃W0:World,W0=(((w.alloc (.cells #[I n] 3)).alloc (.cells (eA n (.slice none 0 0)) 22)).alloc (.cells #[.slice (some ⟨w.heap.size+1,0,none⟩) n n] 210)).alloc (.cells (eA n (.int .i64 0)) 3)/\
   az W0 w.heap.size #[I n]/\az W0 (w.heap.size+1) (eA n (.slice none 0 0))/\az W0 (w.heap.size+1+1) #[.slice (some ⟨w.heap.size+1,0,none⟩) n n]/\az W0 (w.heap.size+1+1+1) (eA n (.int .i64 0))/\Below w.heap.size w W0/\W0.heap.size=w.heap.size+1+1+1+1:=by
  refine⟨_,rfl,(((az.new w #[I n] 3).alloc _).alloc _).alloc _,?_,?_,?_,((((Below.refl _ w).alloc av _).alloc ae _).alloc (by simp;omega) _).alloc (by simp;omega) _,ae⟩
  ·have:=((az.new (w.alloc (.cells #[I n] 3)) (eA n (.slice none 0 0)) 22).alloc (.cells #[.slice (some ⟨w.heap.size+1,0,none⟩) n n] 210)).alloc (.cells (eA n (.int .i64 0)) 3);simpa using this
  ·have:=(az.new ((w.alloc (.cells #[I n] 3)).alloc (.cells (eA n (.slice none 0 0)) 22)) #[.slice (some ⟨w.heap.size+1,0,none⟩) n n] 210).alloc (.cells (eA n (.int .i64 0)) 3);simpa using this
  ·have:=az.new (((w.alloc (.cells #[I n] 3)).alloc (.cells (eA n (.slice none 0 0)) 22)).alloc (.cells #[.slice (some ⟨w.heap.size+1,0,none⟩) n n] 210)) (eA n (.int .i64 0)) 3;simpa using this
 rw[<-UW];clear UW;go_loopw [34] (fun i wr=>∃k:Nat,k<=L.length/\i=.int .i64 k/\Below W0.heap.size W0 wr) (fun i _=>L.length-(intOf i).toNat)
 case atStart=>exact⟨0,aa,rfl,Below.refl _ _⟩
 case round=>
  obtain⟨k,hk,rfl,hB⟩:=hrel;have BR:=(wu.kept hB aa).cell;by_cases hlt:k<L.length
  ·have js:=pD L[k] (cT hlt);obtain⟨b,o,rfl,x0,x1⟩:=UK ((hL.kept rT av).kept hB av) (i:=k) (x:=L[k]) (by simp[hlt])
   have fC:b<wr.heap.size:=by simpa using ic _ _ x0
   have hNl:w.heap.size<wr.heap.size:=by have:=hB.size;omega
   have LK:=hB.size;go_wp2_with fail;go_roundw
   case rel=>exact⟨k+1,aa,by go_num,hB.alloc LK _⟩
   case measure=>simp[intOf];omega
  ·clear BR xS LJ;have LK:=hB.size;have UZ:=wu.kept hB aa;have Va:=yb.kept hB aa;have Vb:=ly.start (B:=wr.heap.size) (UX.kept hB aa) (UY.kept hB aa) aa aa aa av;have oy:Below w.heap.size w wr:=rT.trans (hB.mono rT.size);have hn4:w.heap.size+1+1+1<wr.heap.size:=aa
   obtain⟨w1,rfl⟩:∃w1:World,w1=wr:=⟨_,rfl⟩
   clear hB wu yb UX UY rT Eo LK;go_wp2_with fail;go_loopw [56] (fun i wr=>∃(k:Nat) (arr wa:Array Value),k<=L.length/\i=.int .i64 k/\ly w1.heap.size (w.heap.size+1) (w.heap.size+1+1+1) n wr (L.take k) arr wa/\Below w.heap.size w wr/\az wr w.heap.size #[I n]/\az wr (w.heap.size+1+1) #[.slice (some ⟨w.heap.size+1,0,none⟩) n n]) (fun i _=>L.length-(intOf i).toNat)
   case atStart=>exact⟨0,_,_,aa,rfl,Vb,oy,UZ,Va⟩
   case round=>
    clear UZ Va Vb oy;obtain⟨k,arr,wa,hk,rfl,gB,hB,wu,yb⟩:=hrel;by_cases hlt:k<L.length
    ·obtain⟨x,hx⟩:∃x,L[k]? =some x:=⟨L[k],by simp[hlt]⟩
     have js:=pD x (dJ hx);obtain⟨b,o,rfl,x0,x1⟩:=UK (hL.kept hB av) (i:=k) (x:=x) hx
     have fC:b<wr.heap.size:=by simpa using ic _ _ x0
     have tC:x.1<n:=aa;have xZ:x.2<n:=js.2;obtain⟨va,dy,bD⟩:=gB.row x.1 aa
     have cm:L.take (k+1)=L.take k++[x]:=by rw[Bm,hx];rfl
     have hzW:=hB.size;have tE:=gB.hB;have hcG:=(gB.bn.cell x.1).trans dy;have hcT:wr.cell? ⟨w.heap.size+1+1,0,none⟩=some (.slice (some ⟨w.heap.size+1,0,none⟩) n n):=yb.cell 0;have cn:w.heap.size+1<wr.heap.size:=aa;have pE:w.heap.size+1+1<wr.heap.size:=aa;have Vc:w.heap.size+1+1+1<wr.heap.size:=aa
     have hln:(bu (L.take k) x.1).length<=10000:=by
      unfold bu;rw[List.length_map];exact Nat.le_trans (List.length_filter_le _ _) (by rw[eo];omega)
     have pF:va.ownBlock=none\/∃g,va.ownBlock=some g/\w1.heap.size<=g/\g<wr.heap.size:=En bD
     have BS:∀x,(x<w1.heap.size\/wr.heap.size<=x)->va.ownBlock≠some x:=fun x hx e=>by
      rcases pF with h0|⟨g,h0,h1,h2⟩
      ·rw[h0] at e;cases e
      ·rw[h0] at e;cases e;omega
     have rU:((wr.alloc (.cells #[I x.1,I x.2] 168)).alloc (.cells #[I x.2] 3)).heap[wr.heap.size+1]? =some (.cells #[I x.2] 3 (0,0)):=by
      have:=jH (wr.alloc (.cells #[I x.1,I x.2] 168)) (.cells #[I x.2] 3);simpa using this
     have hX:az ((wr.alloc (.cells #[I x.1,I x.2] 168)).alloc (.cells #[I x.2] 3)) wr.heap.size #[I x.1,I x.2]:=(az.new _ _ _).alloc _;have zE:Below wr.heap.size wr ((wr.alloc (.cells #[I x.1,I x.2] 168)).alloc (.cells #[I x.2] 3)):=((Below.refl _ _).alloc av _).alloc ae _;have Vd:=gB.kept zE;have gC:=gB.wt _ xZ;have Ve:=ab ((bD.alloc (.cells #[I x.1,I x.2] 168)).alloc (.cells #[I x.2] 3));have yc:=ab rU;have HX:=ab hX;have BT:=ab Vd;have Iq:=ab zE;have jt:=BS (w.heap.size+1) aa;have rV:=BS (w.heap.size+1+1+1) aa;have rW:=BS wr.heap.size aa;have Hv1:=ab jt;have Hv2:=ab rV;have Hv3:=ab rW;have Ep:=BS (w.heap.size+1+1) aa;have Vf:=ab Ep;have Vg:=BS w.heap.size aa;have Hv5:=ab Vg
     have Er:ee (L.take k) x.2<=10000:=by
      unfold ee;exact Nat.le_trans List.count_le_length (by rw[List.length_map,eo];omega)
     have yd:=ab dy;have BU:=ab gC;have awt:=ab bD;have Htk:=ab cm;have Hx:=ab hx;have awu:¬(w.heap.size+1=wr.heap.size):=aa;have awv:¬(wr.heap.size=w.heap.size+1):=aa;clear rU hX zE Vd BS jt rV rW Ep Vg dy gC bD cm pF hx;go_wp2_with fail
     obtain⟨wx,tF⟩:∃wx,wx=wr.alloc (.cells #[I x.1,I x.2] 168):=⟨_,rfl⟩
     have dT:wx.cell? ⟨w.heap.size+1+1,0,none⟩=some (.slice (some ⟨w.heap.size+1,0,none⟩) n n):=by rw[tF];exact(yb.alloc _).cell 0
     have dG:wx.cell? ⟨w.heap.size+1,x.1,none⟩=some va:=by rw[tF];exact((gB.bn.alloc _).cell x.1).trans yd.out
     have dX0:wx.cell? ⟨wr.heap.size,0,none⟩=some (I x.1):=by rw[tF];exact(az.new _ _ _).cell 0
     have dX1:wx.cell? ⟨wr.heap.size,1,none⟩=some (I x.2):=by rw[tF];exact(az.new _ _ _).cell 1
     have HN:Hid (az (wx.alloc (.cells #[I x.2] 3)) w.heap.size #[I n]):=ab (by rw[tF];exact(wu.alloc _).alloc _);have HT:Hid (az (wx.alloc (.cells #[I x.2] 3)) (w.heap.size+1+1) #[.slice (some ⟨w.heap.size+1,0,none⟩) n n]):=ab (by rw[tF];exact(yb.alloc _).alloc _);rw[<-tF] at yc HX BT Iq Ve⊢;have eT:(wx.alloc (.cells #[I x.2] 3)).cell? ⟨w.heap.size+1+1,0,none⟩=some (.slice (some ⟨w.heap.size+1,0,none⟩) n n):=HT.out.cell 0;have eG:(wx.alloc (.cells #[I x.2] 3)).cell? ⟨w.heap.size+1,x.1,none⟩=some va:=(BT.out.bn.cell x.1).trans yd.out;have eX0:(wx.alloc (.cells #[I x.2] 3)).cell? ⟨wr.heap.size,0,none⟩=some (I x.1):=HX.out.cell 0;have eX1:(wx.alloc (.cells #[I x.2] 3)).cell? ⟨wr.heap.size,1,none⟩=some (I x.2):=HX.out.cell 1
     have hzx:wx.heap.size=wr.heap.size+1:=by rw[tF];simp
     have Hwx:=ab tF;clear tF;refine xK 12 [(0,true),(1,true),(2,true),(3,true),(4,true),(5,true),(6,true),(7,true),(8,true),(9,true),(10,false),(11,false)] (fun w'=>w'.cell? ⟨w.heap.size+1+1,0,none⟩=some (.slice (some ⟨w.heap.size+1,0,none⟩) n n)/\w'.cell? ⟨wr.heap.size,0,none⟩=some (I x.1)/\w'.cell? ⟨wr.heap.size,1,none⟩=some (I x.2)/\w'.cell? ⟨w.heap.size+1,x.1,none⟩=some va) ah rfl rfl ah ⟨dT,dX0,dX1,dG⟩ ?_
     repeat refine xR ?_
     (refine Uc (fun K hK=> ?_);go_simp;refine hK.out _ _ ?_ ?_)
     ·exact⟨eT,eX0,eX1,eG⟩
     clear hK K
     (try simp only[Act.put,List.setIfInBounds_toArray,List.set_cons_zero,List.set_cons_succ])
     refine Uc (fun K hK=> ?_);refine ais kZ _ _ 22 kZ 3 _ 1 8 Tryz.underlying22 DZ rfl aa aa w1.heap.size va (bu (L.take k) x.1).length (nv (bu (L.take k) x.1)) kZ Ve.out (wr.heap.size+1) 1 1 #[I x.2] 3 kZ yc.out rfl rfl aa aa BT.out.hB ?_;intro g cap w2 eP qI xU wv zF bO;have Es:=BT.out.bn.drew.grown zF Hv1.out;have Et:=BT.out.bw.drew.grown zF Hv2.out;have Vh:=HX.out.drew.grown zF Hv3.out;have cG2:=(Es.cell x.1).trans yd.out;have fG2:=Es.frozen x.1;have cW2:=(Et.cell x.2).trans BU.out;have fW2:=Et.frozen x.2;have cX0:w2.cell? ⟨wr.heap.size,0,none⟩=some (I x.1):=Vh.cell 0;have cX2:w2.cell? ⟨wr.heap.size,1,none⟩=some (I x.2):=Vh.cell 1;have cT2:w2.cell? ⟨w.heap.size+1+1,0,none⟩=some (.slice (some ⟨w.heap.size+1,0,none⟩) n n):=(HT.out.drew.grown zF Vf.out).cell 0;refine hK.out _ _ ⟨cT2,cX0,cX2,cG2⟩ ?_;clear hK K
     (try simp only[Act.put,List.setIfInBounds_toArray,List.set_cons_zero,List.set_cons_succ])
     refine xM ?_;go_wp2_with fail;refine NoPanic.normal ?_;go_wp2_with fail;go_roundw
     case rel=>
      have hst:=BT.out.drew.step x tC xZ va yd.out g cap wv zF (xU.imp id (fun e=>by rw[e];exact di _)) bO.size;have jo:Below w.heap.size w w2:=(hB.trans (Iq.out.drew.mono aa)).trans (bO.mono aa);have hN2:=HN.out.drew.grown zF Hv5.out;have ju:=HT.out.drew.grown zF Vf.out;rw[show((ee (L.take k) x.2+1:Nat):Int)=(ee (L.take k) x.2:Int)+1 from aa] at hst;exact⟨k+1,_,_,aa,by go_num,by rw[Htk.out];exact hst,(jo.setCell ae _).setCell (by simp;omega) _,(hN2.pk _ _ ae).pk _ _ (by simp;omega),(ju.pk _ _ ae).pk _ _ ae⟩
     case measure=>simp[intOf];omega
    ·have Vi:k=L.length:=aa;have LL:=gB;rw[Vi,ig] at LL;have BR:=wu.cell 0;have aww:=gB.hB;have Vj:=hB.size
     have Er:∀b,ee L b<=10000:=fun b=>by
      unfold ee;exact Nat.le_trans List.count_le_length (by rw[List.length_map];omega)
     have Ir:=ab LL;have Hwl:=ab Er;have Em:=gB.lw;have awx:=gB.ln;clear gB LL Er Vi
     obtain⟨w3,rfl⟩:∃w3:World,w3=wr:=⟨_,rfl⟩
     go_wp2_with fail;go_loopw [82,12] (fun i v wr=>∃k:Nat,k<=n/\i=.int .i64 k/\wr.ownsRow w3.heap.size 3 1 v ((List.range k).filter fun i=>decide (ee L i=0)).length (nv ((List.range k).filter fun i=>decide (ee L i=0)))/\Below w3.heap.size w3 wr) (fun i _ _=>n-(intOf i).toNat)
     case atStart=>exact⟨0,aa,rfl,lf _ _ _ _,Below.refl _ _⟩
     case round=>
      obtain⟨k,hk,rfl,bE,cy⟩:=hrel;by_cases hlt:k<n
      ·have LM:=cy.size;have cW:=(Ir.out.UN.kept cy aa).cell hlt;have cW1:=cW.1;have dM:((List.range k).filter fun i=>decide (ee L i=0)).length<=10000:=Nat.le_trans (List.length_filter_le _ _) (by rw[xA];omega);have BV:=ab (ajR (fun i=>decide (ee L i=0)) k);have rU:(wr.alloc (.cells #[I k] 3)).heap[wr.heap.size]? =some (.cells #[I k] 3 (0,0)):=jH _ _;have yc:=ab rU;clear cW rU;by_cases hz:ee L k=0
       ·have Eu:(((ee L k:Nat):Int)==0)=true:=by rw[hz];rfl
        have Hz:=ab hz;clear hz
        go_wp2_with (at_builtin;go_must (refine Bu rfl _ _ 22 rfl 3 _ 1 8 Tryz.underlying22 DZ rfl aa aa w3.heap.size _ _ _ rfl (bE.alloc _) wr.heap.size 1 1 #[I k] 3 rfl yc.out rfl rfl aa aa (by simp;omega) ?_);intro g cap w4 eP qI xU LN akp mg)
        go_roundw
        case rel=>
         refine⟨k+1,aa,by go_num,?_,(cy.alloc LM _).trans mg⟩
         have hd:decide (ee L k=0)=true:=by rw[Hz.out];rfl
         rw[BV.out,hd,if_pos rfl,UO,List.length_append];exact LN
        case measure=>simp[intOf];omega
       ·have Eu:(((ee L k:Nat):Int)==0)=false:=by rw[Bj];omega
        have Hz:=ab hz;clear hz;go_wp2_with fail;go_roundw
        case rel=>
         refine⟨k+1,aa,by go_num,?_,cy⟩
         have hd:decide (ee L k=0)=false:=by simp[Hz.out]
         rw[BV.out,hd,if_neg ae,vS];exact bE
        case measure=>simp[intOf];omega
      ·obtain rfl:k=n:=aa;have LO:=lZ.start (bu L) k
       have Vk:((List.range k).filter fun i=>decide ((mP (bu L) k).count i=0))=(List.range k).filter fun i=>decide (ee L i=0):=by
        congr 1;funext i;rw[UM k i L fun p hp=>by have:=pD p hp;omega]
       rw[Vk] at LO
       have eB:QM k (w.heap.size+1+1+1) L w w3 wr ((List.range k).filter fun i=>decide (ee L i=0)) [] u12:=
        ⟨cq.below cy av,(Ir.out.UN.kept cy aa).congr (fun b _=>ae),bE,hB.trans (cy.mono aa)⟩
       have Hq0:=ab LO;have rY:=ab eB;have akq:=(wu.kept cy aa).cell 0;have HbN:=ab wu;have Vm:=ab yb;clear LO eB Vk bE cy BR;clear wu yb;go_wp2_with fail;go_loopw [14,12] (fun i v wr=>∃(q:Nat) (row:List Nat),q<=row.length/\i=.int .i64 q/\lZ (bu L) k row ((row.take q).flatMap (bu L))/\QM k (w.heap.size+1+1+1) L w w3 wr row ((row.take q).flatMap (bu L)) v) (fun i _ _=>k-(intOf i).toNat)
       case atStart=>exact⟨0,_,Nat.zero_le _,rfl,Hq0.out,rY.out⟩
       case round=>
        clear akq;obtain⟨q,row,hq,rfl,kK,eB⟩:=hrel;have iq:=kK.length_le;have dK:=Flat.iU eB.own;obtain⟨ra,rc,rfl,_⟩:=dK.open;by_cases hlt:q<row.length
        ·obtain⟨a,ha⟩:∃a,row[q]? =some a:=⟨row[q],by simp[hlt]⟩
         have qM:=kK.lt a (dJ ha);obtain⟨va,zG⟩:=Ir.out.read qM;obtain⟨g1,g2⟩:=zG wr eB.ag;obtain⟨vb,vc,rfl,_⟩:=g2.open;have yd:=ab zG;clear zG;obtain⟨rb,ro,rfl,mR⟩:=Im dK ha;have Vn:=(eB.ag.2 (w.heap.size+1+1) 0 aa aa).trans (Vm.out.cell 0);have dT:wr.cell? ⟨w.heap.size+1+1,0,none⟩=some (.slice (some ⟨w.heap.size+1,0,none⟩) k k):=Vn
         have mS:(bu L a).length<=10000:=by
          unfold bu;rw[List.length_map];exact Nat.le_trans (List.length_filter_le _ _) aa
         have LP:=ab g2;have pA:=ab kK;have rY:=ab eB;have Ha:=ab ha;have BM:=ab dK;clear g2 kK eB ha dK Vn;go_wp2_with fail;refine xK 9 [(0,true),(1,true),(2,true),(3,true),(4,true),(5,true),(6,true),(7,true),(8,true)] (fun w'=>w'.cell? ⟨w.heap.size+1+1,0,none⟩=some (.slice (some ⟨w.heap.size+1,0,none⟩) k k)/\w'.cell? ⟨rb,ro+q,none⟩=some (I a)/\w'.cell? ⟨w.heap.size+1,a,none⟩=some (.slice vb (bu L a).length vc)) ah rfl rfl ah ⟨dT,mR,g1⟩ ?_
         iterate 9 refine xR ?_
         refine xM ?_;go_wp2_with fail;refine NoPanic.normal ?_;clear dT mR g1;go_wp2_with fail
         obtain⟨wo,rfl⟩:∃wo:World,wo=wr:=⟨_,rfl⟩
         go_loopw [109,12] (fun jv v wr=>∃(j:Nat) (row:List Nat),j<=(bu L a).length/\jv=.int .i64 j/\row[q]? =some a/\lZ (bu L) k row ((row.take q).flatMap (bu L)++(bu L a).take j)/\QM k (w.heap.size+1+1+1) L w w3 wr row ((row.take q).flatMap (bu L)++(bu L a).take j) v) (fun jv _ _=>(bu L a).length-(intOf jv).toNat)
         case atStart=>exact⟨0,row,aa,rfl,Ha.out,by rw[List.take_zero,vS];exact pA.out,by rw[List.take_zero,vS];exact rY.out.drew⟩
         case round=>
          clear LP pA rY Ha BM iq hlt hq;obtain⟨j,row,hj,rfl,ha,kK,eB⟩:=hrel;have iq:=kK.length_le;have dK:=Flat.iU eB.own;obtain⟨ra,rc,rfl,_⟩:=dK.open;have eY:=(bk.1 ha).1;by_cases hlt:j<(bu L a).length
          ·obtain⟨x,hx⟩:∃x,(bu L a)[j]? =some x:=⟨(bu L a)[j],by simp[hlt]⟩
           have hxk:=wq pD (dJ hx);have wm:=hxk.2;obtain⟨g1,g2⟩:=yd.out wr eB.ag;obtain⟨xb,xo,rfl,qF⟩:=Im g2 hx;obtain⟨eC,gD,Ew,LQ⟩:=kK.step q a ha j x hx wm rfl;rw[UM k x L fun p hp=>by have:=pD p hp;omega] at gD Ew LQ
           obtain⟨c,hc⟩:∃c,ee L x-((row.take q).flatMap (bu L)++(bu L a).take j).count x=c+1:=⟨_,(Nat.succ_pred_eq_of_pos aa).symm⟩
           have dc:c<=10000:=by have:=Hwl.out x;omega
           have hw:=eB.wt.cell wm;simp only[hc] at hw;rw[show((c+1:Nat):Int)=(c:Int)+1 from aa] at hw;obtain⟨pG,oz⟩:=hw;have gz:=eB.set x c hc aa aa
           have Vo:(bu L a).take (j+1)=(bu L a).take j++[x]:=by rw[Bm,hx];rfl
           have rU:((wr.setCell ⟨w.heap.size+1+1+1,x,none⟩ (I c)).alloc (.cells #[I x] 3)).heap[wr.heap.size]? =some (.cells #[I x] 3 (0,0)):=by
            have:=jH (wr.setCell ⟨w.heap.size+1+1+1,x,none⟩ (I c)) (.cells #[I x] 3);simpa using this
           have awy:=eB.ag.1;have LR:=ab gz;have yc:=ab rU;have Hc:=ab hc;have Iu:=ab Vo;have Hs3:=ab Ew;have Hs4:=ab LQ;have Ha:=ab ha;have Vp:=ab gD;clear gz rU hc Vo eC gD Ew LQ ha g1 g2 hx kK eB dK;by_cases hz:c=0
           ·have Eu:((c:Int)==0)=true:=by rw[hz];rfl
            have Hz:=ab hz;clear hz
            go_wp2_with (at_builtin;go_must (refine Bu rfl _ _ 22 rfl 3 _ 1 8 Tryz.underlying22 DZ rfl aa aa w3.heap.size _ _ _ rfl (LR.out.own.alloc _) wr.heap.size 1 1 #[I x] 3 rfl yc.out rfl rfl aa aa (by simp;omega) ?_);intro g cap w4 eP qI xU LN akp mg)
            go_roundw
            case rel=>
             have LS:=Hs3.out (by have h1:=Hc.out;have h2:=Hz.out;have h3:=Vp.out;omega);refine⟨j+1,row++[x],aa,by go_num,by rw[kj eY];exact Ha.out,?_,?_⟩
             ·rw[iH aa,Iu.out,<-List.append_assoc];exact LS
             ·rw[iH aa,Iu.out,<-List.append_assoc];exact(LR.out.kept ((Below.refl _ _).alloc av _) aa).app x aa aa LN mg
            case measure=>simp[intOf];omega
           ·have Eu:((c:Int)==0)=false:=by rw[Bj];omega
            have Hz:=ab hz;clear hz;go_wp2_with fail;go_roundw
            case rel=>
             have LS:=Hs4.out (by have h1:=Hc.out;have h2:=Hz.out;have h3:=Vp.out;omega);refine⟨j+1,row,aa,by go_num,Ha.out,?_,?_⟩
             ·rw[Iu.out,<-List.append_assoc];exact LS
             ·rw[Iu.out,<-List.append_assoc];exact LR.out
            case measure=>simp[intOf];omega
          ·have dN:j=(bu L a).length:=aa
           have Vq:(row.take (q+1)).flatMap (bu L)=(row.take q).flatMap (bu L)++(bu L a).take j:=by
            rw[Bm,ha,Bi,dN,ig];simp
           rw[<-Vq] at kK eB;have pA:=ab kK;have rY:=ab eB;clear kK eB dN Vq ha dK;go_wp2_with fail;go_roundw
           case rel=>exact⟨q+1,row,aa,by go_num,pA.out,rY.out⟩
           case measure=>simp[intOf];omega
        ·have mQ:q=row.length:=aa
         have iw:(row.take q).flatMap (bu L)=row.flatMap (bu L):=by rw[mQ,ig]
         rw[iw] at kK eB
         have Vr:=kK.length fun a _ b hb=>(wq pD hb).1
         have BR:=(eB.ag.2 w.heap.size 0 aa aa).trans (HbN.out.cell 0);have Vs:wr.cell? ⟨w.heap.size+1+1,0,none⟩=some (.slice (some ⟨w.heap.size+1,0,none⟩) k k):=(eB.ag.2 (w.heap.size+1+1) 0 aa aa).trans (Vm.out.cell 0);have awz:=eB.ag.1;have hNl:w.heap.size<wr.heap.size:=aa;have awA:¬row.length<k:=aa
         have xS:=fun W=>BK (P:=Tryz.prog) 175 174 (.slice none 0 0) 24 k Tryz.underlying175 akm rfl aa aa W
         have pA:=ab kK;have rY:=ab eB;have Hrn:=ab Vr;have BM:=ab dK;have HdT:=ab Vs;clear kK eB iw mQ Vr dK hq Vs;go_upto_region 38 with fail
         obtain⟨w4,rfl⟩:∃w4:World,w4=wr:=⟨_,rfl⟩
         go_cut [17] from 133 (fun v wc=>Io w4 k v wc)
         case first=>
          go_region
          all_goals
           go_wp2_with fail;go_meet
           first|exact akj w4 k|exact akk w4 k|exact akl w4 k
         case rest=>
          clear xS;obtain⟨ga,gp,gv,rfl,a1,a2,a3,a4,a5,a6,hA,hP,hV,kM⟩:=hcut;go_wp2_with fail;refine(backward _ _ _ _).mono ?_;rintro e w6 ⟨rfl,rfl⟩;go_wp2_with fail;refine(wpIn_wide (n:=5)).1 ?_
          obtain⟨fr,akr⟩:∃fr:List (Fin k),fv fr=row:=⟨row.pmap (fun a h=>⟨a,h⟩) pA.out.lt,by simp[fv,List.map_pmap]⟩
          subst akr;have BW:=kM.size
          obtain⟨W6,Iv⟩:∃W6,W6=wc.alloc (.cells #[.slice ra (fv fr).length rc] 22):=⟨_,rfl⟩
          have hz6:W6.heap.size=wc.heap.size+1:=by rw[Iv];simp
          have lz:Below wc.heap.size wc W6:=by rw[Iv];exact(Below.refl _ _).alloc av _
          have oA:Below w4.heap.size w4 W6:=kM.trans (lz.mono BW);have LU:Below w.heap.size w W6:=rY.out.be.trans (oA.mono rY.out.be.size);have Vt:=hA.kept lz hA.lt;have LV:=hP.kept lz hP.lt;have Vu:=hV.kept lz hV.lt
          have Vv:W6.cell? ⟨wc.heap.size,0,none⟩=some (.slice ra (fv fr).length rc):=by rw[Iv];exact(az.new wc _ 22).cell 0
          have awB:=hA.lt;have awC:=hP.lt;have awD:=hV.lt;have Vw:=BM.out.kept oA av;have mh:=En rY.out.own;have Vx:Hid (∀W,fe (fun b=>b<W6.heap.size/\b≠ga) W6 W->W6.heap.size<=W.heap.size->cq (w.heap.size+1+1+1) w3 W):=ab (fun W hK hs=>⟨aa,fun b o hb hg=>((hK b o ⟨aa,aa⟩).trans (oA.cell (p:=⟨b,o,none⟩) (by simp;omega))).trans (rY.out.ag.2 b o hb hg)⟩)
          have Vy:=ajW (5-1) aa fr wc.heap.size _ W6 (fun b=>b<W6.heap.size/\b≠ga) Vv Vw aa (fun b hb=>hb.1) ⟨aa,aa⟩ (fun b o m c e=>by
           rcases mh with h0|⟨g,h0,h1,h2⟩
           ·rw[e] at h0;cases h0
           ·rw[e] at h0
            have:b=g:=by simpa [Value.ownBlock] using h0
            omega)
          have Vz:=Vu.cell 0;have VA:=LV.cell 1;have VB:=LV.cell 0;have VC:W6.cell? ⟨w.heap.size,0,none⟩=some (I k):=(oA.cell (p:=⟨w.heap.size,0,none⟩) (by simp;omega)).trans BR;have VD:W6.cell? ⟨w.heap.size+1+1,0,none⟩=some (.slice (some ⟨w.heap.size+1,0,none⟩) k k):=(oA.cell (p:=⟨w.heap.size+1+1,0,none⟩) (by simp;omega)).trans HdT.out;have akt:=ab Vy;have HA6:=ab Vt;have LW:=ab Vz;have LX:=ab VA;have aku:=ab VB;have HN6:=ab VC;have HT6:=ab VD;have VE:=ab mh;have akv:=ab LU;have hw6:=LU.size;have Hz6:=ab hz6;rw[<-Iv];clear Vy Vt LV Vu Vv Vw Vz VA VB VC VD mh oA lz LU hA hP hV kM BR
          refine wpIn_rangeFunc_ownF rfl aa (gf:=142) (lb:=#[.pointer (some ⟨wc.heap.size,0,none⟩)]) rfl trivial (enters_of Tryz.func142 ah rfl)
           akt.out (fun h k=>fe.trans h k) (fun W l o o' hl _ _ _=>fe.putObj W l o' (fun h=>by have:=h.1;omega)) (Below.refl _ _) (fun _=>rfl)
           (fun(pre:List (Fin k×Nat)) W=>LI k ga L w W6 (pre.map fun x=>x.1.val) W)
           (fun _ _ _=>False) (aki k ga L w W6 hw6) (fun _ _ _ _ _ hs _ _=>hs)
           ⟨_,HA6.out,pC.start _ _ _,fe.refl _ _,di _,akv.out⟩ ?a1 ?assign ?body ?done ?stop
          case assign=>
           intro l x W K hK;dsimp only[LB]
           gi_wp2
           exact hK
          case body=>
           rintro l pre x W ⟨arr,hb,ed,tG,hsz,Iw⟩ _;have cV:W.cell? ⟨gv,0,none⟩=some (.pointer (some ⟨gp,0,none⟩)):=(tG gv 0 ⟨aa,aa⟩).trans LW.out;have BX:W.cell? ⟨gp,1,none⟩=some (.slice (some ⟨ga,0,none⟩) k k):=(tG gp 1 ⟨aa,aa⟩).trans LX.out;have cN:W.cell? ⟨w.heap.size,0,none⟩=some (I k):=(tG w.heap.size 0 ⟨aa,aa⟩).trans HN6.out;have Ix:=x.1.isLt
           have wy:IntKind.i64.wrap ((IntKind.i64.wrap ((k:Int)+63)).tdiv 64)=1:=by
            rw[IntWalk.i64_in ((k:Int)+63) aa,Int.tdiv_eq_ediv_of_nonneg aa,show((k:Int)+63)/64=1 by omega];rfl
           have akw:∀W,(Instr.makeSlice 174 (.int .i64 1) (.int .i64 1)).run Tryz.prog W=.ok (.slice (some ⟨W.heap.size,0,none⟩) 1 1) (W.alloc (.cells #[.int .u64 0] 219)):=fun W=>BK (P:=Tryz.prog) 174 219 (.int .u64 0) 8 1 Tryz.underlying174 akn rfl aa aa W
           obtain⟨vo,ng⟩:∃vo,arr[x.1.val]? =some vo:=⟨arr[x.1.val]'(by rw[ed.1];exact Ix),ae⟩
           have awE:ga<W.heap.size:=aa;have bH:=hb.alloc (.cells #[.int .u64 0] 219);have cG:=(bH.cell x.1.val).trans ng;have fG:=bH.frozen x.1.val;have VF:Below W.heap.size W (W.alloc (.cells #[.int .u64 0] 219)).drew:=((Below.refl _ W).alloc av _).drew;have LY:=ab VF;have Hb1:=ab bH;have Iy:=ab ed;have Hkp:=ab tG;have Hvo:=ab ng;have Hbe:=ab Iw;have Hb:=ab hb;clear VF bH ed tG ng Iw hb
           gi_wp2
           refine Uh 9 [(0,true),(1,true),(2,true),(3,true),(4,true),(5,true),(6,true),(7,true),(8,false)] (fun w'=>w'.cell? ⟨gv,0,none⟩=some (.pointer (some ⟨gp,0,none⟩))/\w'.cell? ⟨gp,1,none⟩=some (.slice (some ⟨ga,0,none⟩) k k)/\w'.cell? ⟨w.heap.size,0,none⟩=some (I k)) ah rfl rfl ah ah ⟨cV,BX,cN⟩ ?_
           iterate 8 refine BC ?_
           refine Lg (fun K hK=> ?_);go_simp;refine hK.out _ _ ⟨cw LY.out av cV,cw LY.out av BX,cw LY.out av cN⟩ ?_;clear hK K wy akw
           (try simp only[Act.put,List.setIfInBounds_toArray,List.set_cons_zero,List.set_cons_succ])
           refine HP ?_
           gi_wp2
           refine NoPanic.normal ?_
           obtain⟨W1,wz⟩:∃W1,W1=((W.setCell ⟨ga,x.1.val,none⟩ (.slice (some ⟨W.heap.size,0,none⟩) 1 1)).alloc (.cells #[.int .u64 0] 219)).drew:=⟨_,rfl⟩
           rw[<-wz]
           have ij:W1.heap.size=W.heap.size+1:=by rw[wz];simp
           have LZ:fe (fun b=>b<W.heap.size/\b≠ga) W W1:=by
            rw[wz];exact((fe.refl _ W).set _ _ (fun h=>h.2 rfl)).trans (fe.below (n:=W.heap.size) (((Below.refl _ _).alloc ae _).drew) (fun b hb=>hb.1))
           have VG:az W1 W.heap.size #[.int .u64 0]:=by
            rw[wz];have:=(az.new (W.setCell ⟨ga,x.1.val,none⟩ (.slice (some ⟨W.heap.size,0,none⟩) 1 1)) #[.int .u64 0] 219).drew;simpa using this
           have VH:az W1 ga (arr.setIfInBounds x.1.val (.slice (some ⟨W.heap.size,0,none⟩) 1 1)):=by rw[wz];exact((Hb.out.set _ _).alloc _).drew
           have VJ:KeepsOthers W W1:=by rw[wz];exact((KeepsOthers.setCell _ _ _).trans (KeepsOthers.alloc _ _)).trans (KeepsOthers.drew _)
           have VK:Below w.heap.size W W1:=by rw[wz];exact(((Below.refl _ _).setCell (by simp;omega) _).alloc (by simp;omega) _).drew
           have eQ:fe (fun b=>b<W6.heap.size/\b≠ga) W6 W1:=Hkp.out.trans (LZ.ox fun b hb=>⟨aa,hb.2⟩);have VL:=(eQ (w.heap.size+1+1) 0 ⟨aa,aa⟩).trans HT6.out;have VN:=(eQ gv 0 ⟨aa,aa⟩).trans LW.out;have VO:=(eQ gp 1 ⟨aa,aa⟩).trans LX.out;obtain⟨va,zG⟩:=Ir.out.read Ix;obtain⟨g1,g2⟩:=zG W1 (Vx.out W1 eQ aa);obtain⟨vb,vc,rfl,_⟩:=g2.open
           have mS:(bu L x.1.val).length<=10000:=by
            unfold bu;rw[List.length_map];exact Nat.le_trans (List.length_filter_le _ _) aa
           have HW1:=ab wz;have Ma:=ab LZ;have HG1:=ab VG;have VP:=ab VH;have akx:=ab VJ;have aky:=ab VK;have VQ:=ab eQ;have HT1:=ab VL;have HV1:=ab VN;have HP1:=ab VO;have yd:=ab zG;have Hz1:=ab ij;have qJ:W.heap.size<W1.heap.size:=aa;clear wz LZ VG VH VJ VK eQ VN VO zG g2 cV BX cN cG fG ij
           gi_wp2
           gi_loopw [157] (fun jv wr=>∃j:Nat,j<=(bu L x.1.val).length/\jv=.int .i64 j/\az wr W.heap.size #[.int .u64 ((tD (fun b=>(qL (bu L) (pre.map fun x=>x.1.val) b).getD 0) ((bu L x.1.val).take j):Nat):Int)]/\Touch W.heap.size W1 wr) (fun jv _=>(bu L x.1.val).length-(intOf jv).toNat)
           case atStart=>exact⟨0,aa,rfl,HG1.out,Touch.refl _ _⟩
           case round=>
            clear VL g1;obtain⟨j,hj,rfl,hG,hT⟩:=hrel;by_cases hlt:j<(bu L x.1.val).length
            ·obtain⟨y,hy⟩:∃y,(bu L x.1.val)[j]? =some y:=⟨(bu L x.1.val)[j],by simp[hlt]⟩
             have Mb:=wq pD (dJ hy);have Iz:=Mb.1;have zD:=Mb.2;have VS:=hT.size;have VT:fe (fun b=>b<W6.heap.size/\b≠ga) W6 wr:=VQ.out.trans (fun b o hb=>hT.cell b o (by have:=hb.1;omega));obtain⟨g1,g2⟩:=yd.out wr (Vx.out wr VT aa);obtain⟨xb,xo,rfl,qF⟩:=Im g2 hy;have VU:=(hT.cell gv 0 aa).trans HV1.out;have VV:=(hT.cell gp 1 aa).trans HP1.out;have Mc:=hT.im ga _ aa VP.out;have VW:wr.cell? ⟨ga,x.1.val,none⟩=some (.slice (some ⟨W.heap.size,0,none⟩) 1 1):=(Mc.cell _).trans (by rw[qq (by rw[Iy.out.1];exact Ix)]);obtain⟨tv,VX,IA⟩:=Iy.out.val zD;have VY:wr.cell? ⟨ga,y,none⟩=some tv:=(Mc.cell y).trans (by rw[oY aa];exact VX)
             have ft:tD (fun b=>(qL (bu L) (pre.map fun x=>x.1.val) b).getD 0) ((bu L x.1.val).take j)<fM:=LG _ _ fun b hb=>by
              have hbk:=(wq pD (vP hb)).2;refine⟨aa,?_⟩;obtain⟨_,_,IA⟩:=Iy.out.val hbk
              rcases IA with⟨_,h⟩|⟨_,_,_,_,_,h⟩
              ·rw[h];show 0<2^64;omega
              ·exact h
             have BV:=LF (fun b=>(qL (bu L) (pre.map fun x=>x.1.val) b).getD 0) ((bu L x.1.val).take j) y;rw[show(bu L x.1.val).take j++[y]=(bu L x.1.val).take (j+1) by rw[Bm,hy];rfl] at BV;have Hfs:=ab BV;have HG:=ab hG;have HT:=ab hT;have Hor:=ab IA;have VZ:=ab ft;have HcV:=ab VU;have HcP:=ab VV;have HcA:=ab VW;have HcY:=ab VY;have Wa:ga≠W.heap.size:=aa;have hnV:gv≠W.heap.size:=aa;have hnP:gp≠W.heap.size:=aa;clear BV hG hT IA ft Mb hy VT g1 g2 Mc VX VS
             gi_wp2
             refine⟨trivial,?_⟩;refine(CallsIn.inRound l (callsIn_wide.2 (akf W.heap.size _ y wr HG.out VZ.out aa))).mono ?_;rintro e w2 ⟨rfl,Es,ju⟩;clear VU VV VW VY qF;have cV2:=(ju.cell gv 0 hnV).trans HcV.out;have cP2:=(ju.cell gp 1 hnP).trans HcP.out;have IB:=(ju.cell ga x.1.val Wa).trans HcA.out;have cY2:=(ju.cell ga y Wa).trans HcY.out;have LP:=ab Es;have HT2:=ab ju;clear Es ju
             gi_wp2
             refine Uh 14 [(0,true),(1,true),(2,true),(3,true),(4,true),(5,true),(6,true),(7,true),(8,true),(9,true),(10,true),(11,true),(12,true),(13,true)] (fun w'=>w'.cell? ⟨gv,0,none⟩=some (.pointer (some ⟨gp,0,none⟩))/\w'.cell? ⟨gp,1,none⟩=some (.slice (some ⟨ga,0,none⟩) k k)/\w'.cell? ⟨ga,x.1.val,none⟩=some (.slice (some ⟨W.heap.size,0,none⟩) 1 1)/\w'.cell? ⟨ga,y,none⟩=some tv) ah rfl rfl ah ah ⟨cV2,cP2,IB,cY2⟩ ?_
             iterate 14 refine BC ?_
             refine HP ?_
             gi_wp2
             have Md:=(HT.out.trans HT2.out).drew
             have Wb:(tv=.slice none 0 0/\(qL (bu L) (pre.map fun x=>x.1.val) y).getD 0=0)\/∃gi,tv=.slice (some ⟨gi,0,none⟩) 1 1/\w2.drew.cell? ⟨gi,0,none⟩=some (.int .u64 (((qL (bu L) (pre.map fun x=>x.1.val) y).getD 0:Nat):Int))/\(qL (bu L) (pre.map fun x=>x.1.val) y).getD 0<fM:=by
              rcases Hor.out with h|⟨gi,h1,h2,h3,h4,h5⟩
              ·exact .inl h
              ·exact .inr ⟨gi,h1,((Md.cell gi 0 aa).trans (Ma.out gi 0 ⟨h3,aa⟩)).trans h4,h5⟩
             refine⟨trivial,?_⟩;refine(CallsIn.inRound l (callsIn_wide.2 (akg W.heap.size _ _ tv _ LP.out.drew (Nat.or_lt_two_pow VZ.out (Ib y aa)) Wb))).mono ?_;rintro e w5 ⟨rfl,Wc,Wd⟩;have HG3:=ab Wc;have HT3:=ab (Md.trans Wd);clear Wc Wd Md Wb
             gi_wp2
             refine NoPanic.normal ?_
             gi_wp2
             go_roundw
             case rel=>exact⟨j+1,aa,by go_num,by rw[Hfs.out];exact HG3.out,HT3.out⟩
             case measure=>simp[intOf];omega
            ·have dN:j=(bu L x.1.val).length:=aa;have VS:=hT.size;have Me:=hG.cell 0;rw[dN,ig] at Me;have HG0:=ab Me;have hst:=Iy.out.step (W':=wr) x.1.val Ix (fun b hb=>(wq pD hb).2) hn hsz aa (fun b v h1 h2 h3=>((hT.cell b 0 aa).trans (Ma.out b 0 ⟨h2,aa⟩)).trans h3) (by simpa using HG0.out);rw[<-UT] at hst
             have rZ:LI k ga L w W6 ((pre++[x]).map fun x=>x.1.val) wr:=by
              rw[dw];exact⟨_,hT.im ga _ aa VP.out,hst,VQ.out.trans (fun b o hb=>hT.cell b o (by have:=hb.1;omega)),aa,Hbe.out.trans (aky.out.trans (hT.below _ aa))⟩
             have Mf:=ab rZ;have HT:=ab hT;clear Me hst rZ dN hG hT
             gi_wp2
             exact⟨akx.out.trans HT.out.others,(Ma.out.ox fun b hb=>⟨by have:=hb.1;omega,hb.2⟩).trans (fun b o hb=>HT.out.cell b o (by have:=hb.1;omega)),Mf.out⟩
          case done=>
           rintro D ys W hD rfl ⟨arr,hb,ed,tG,hsz,Iw⟩ hK;have cV:W.cell? ⟨gv,0,none⟩=some (.pointer (some ⟨gp,0,none⟩)):=(tG gv 0 ⟨aa,aa⟩).trans LW.out;have We:W.cell? ⟨gp,0,none⟩=some (I k):=(tG gp 0 ⟨aa,aa⟩).trans aku.out;have BX:W.cell? ⟨gp,1,none⟩=some (.slice (some ⟨ga,0,none⟩) k k):=(tG gp 1 ⟨aa,aa⟩).trans LX.out
           have Wf:=ajZ (bu L) k hn f (fun a _ b hb=>(wq pD hb).2) Hf.out (fv fr).reverse (List.pairwise_reverse.2 (pA.out.nodup.imp Ne.symm)) (fun a ha=>pA.out.lt a (List.mem_reverse.1 ha))
            (akc pA.out (pA.out.full fun a _ b hb=>(wq pD hb).1) (fun a _ b hb=>(wq pD hb).2))
           have qN:=pA.out.full fun a _ b hb=>(wq pD hb).1
           have zH:(pB fr 0).map (fun x=>x.1.val)=(fv fr).reverse:=by
            have:=kp (List.map Fin.val) (ajV fr);rw[List.map_map] at this;rw[fv,<-List.map_reverse,<-this];rfl
           rw[zH] at ed;have Et:=belowK_b (w:=w) av W D _ (.deferred none) aa hK rfl rfl;have zI:=ake hn (hb.putObj (.deferred none) hK rfl) (LH We _ hK rfl) (LH BX _ hK rfl) (ed.kept (W':=W.putObj D (.deferred none)) ae (fun b v _ _ hc=>LH hc _ hK rfl)) (fun i hi=>Wf i (List.mem_reverse.2 (qN i hi)));have akz:=ab zI;have HW2:=ab (Iw.trans Et);clear Wf qN zH ed zI Et We BX hb tG;go_wp2_with fail;refine⟨ae,.inl ⟨_,_,rfl,run_takeDeferred hK,?_⟩⟩;exact⟨_,results_tmp2 rfl _ _ _,_,rfl,akz.out,HW2.out⟩
          case stop=>
           rintro D c pre W hD _ hf _;exact hf.elim
end
end Go.Proofs.YtlnghiefahcnpaaGreat
