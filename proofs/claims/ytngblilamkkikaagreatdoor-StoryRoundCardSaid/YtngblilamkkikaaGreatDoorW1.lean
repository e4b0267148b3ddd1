import Derived.Test.YtngblilamkkikaaGreatDoorW0
import Derived.Lib.LaidTab
import Derived.Lib.ItoaNum
import Derived.Laws.MakeOwn
set_option maxHeartbeats 40000000
set_option maxRecDepth 100000
set_option linter.all false
namespace Go.Proofs.YtngblilamkkikaaGreatDoor
section
open Go.RowKit
variable {w w':World}
structure Gl (w:World):Prop where
 mx:∃m,w.cell? ⟨0,0,none⟩=some (.int .i64 m)
 kJ:Lib.TabIs Tryz.prog w "internal/strconv.uint64pow10" .u64 Lib.pow10Tab
 Ve:∃te pe,w.cell? ⟨4,0,none⟩=some (.iface te pe)
 Vf:∃te pe,w.cell? ⟨5,0,none⟩=some (.iface te pe)
 low:8<=w.heap.size
theorem anv:Tryz.prog.globalNamed "internal/strconv.uint64pow10" =some 1:=ah
theorem Gl.Vg(h:Gl w)(hb:Below 8 w w'):Gl w':=by
 refine⟨?_,?_,?_,?_,bh h.low hb.size⟩
 ·obtain⟨m,hm⟩:=h.mx;exact⟨m,(hb.cell (p:=⟨0,0,none⟩) aq).trans hm⟩
 ·have:=h.kJ;unfold Lib.TabIs World.var? at*;rw[anv] at*;simp only[Lu] at*;rw[hb.block 1 aq];exact this
 ·obtain⟨a,b,hm⟩:=h.Ve;exact⟨a,b,(hb.cell (p:=⟨4,0,none⟩) aq).trans hm⟩
 ·obtain⟨a,b,hm⟩:=h.Vf;exact⟨a,b,(hb.cell (p:=⟨5,0,none⟩) aq).trans hm⟩
theorem Gl.below(h:Gl w)(hb:ay w w'):Gl w':=h.Vg (hb.mono h.low)
theorem Gl.grown{p:Nat}(h:Gl w)(hg:w.grownBy w' (some p))(hp:8<=p):Gl w':=
 h.Vg ⟨hg.os,hg.tape,hg.output,hg.size,fun k hk=>hg.block k (by have:=h.low;omega) (by intro e;injection e with e;omega)⟩
theorem Gl.drew(h:Gl w):Gl w.drew:=h.below (Below.refl _ _).drew
theorem Gl.alloc(h:Gl w)(o:Obj):Gl (w.alloc o):=h.below ((Below.refl _ _).alloc aA o)
end
namespace Ab
open Go Go.RowKit
variable {A:Nat->Prop} {v:Value} {w w':World}
def gN:Nat:=8
def Fa (w:World):Prop:=Gl w
theorem Fa.kept(h:Fa w)(hb:Below gN w w'):Fa w':=Gl.Vg h hb
theorem Fa.low(h:Fa w):gN<=w.heap.size:=Gl.low h
inductive AC where
 |v (x:Value)
 |sl (es:List (List AC))
 |own (s g:Nat)
 |cB (s g:Nat)
 |part (s g i:Nat)
 |fc (f:FuncId) (bP:List (List AC))
 |cls (f:FuncId) (bP:List (Nat×Nat))
variable {x:AC}
inductive AW where
 |c (x:AC)
 |agg (cs:List AC)
inductive AV where
 |w (x:AW)
 |cg (vs:List AW)
 |pb (s g off:Nat)
 |pr (s g i off:Nat)
 |pi (cs:List AC) (off:Nat)
 |u
structure Gh where
 b:Nat
 fp:List Nat
 hs:List Value
def gh (b:Nat):Gh:=⟨b,[],[]⟩
structure anw where
 rep:World->(Nat->Prop)->Value->Gh->Prop
 one:∀{w A v g},rep w A v g->v.oneCell'=true
 parts:∀{w A v g},rep w A v g->∀u∈g.hs,u.oneCell'=true
 lt:∀{w A v g},rep w A v g->∀b∈g.fp,b<w.heap.size
 mono:∀{w w':World} {A A':Nat->Prop} {v:Value} {g:Gh},rep w A v g->w.heap.size<=w'.heap.size->(∀b,b<w.heap.size->A' b->A b)->(∀b,b<w.heap.size->b∈g.fp\/¬A b->w'.heap[b]? =w.heap[b]?)->rep w' A' v g
inductive Slot where
 |dead (g:Nat)
 |box (g:Nat) (cs:List AC)
 |row (e k g:Nat) (es:List (List AC))
 |obj (g:Nat) (K:anw)
def Slot.gen:Slot->Nat
 | .dead g=>g
 | .box g _=>g
 | .row _ _ g _=>g
 | .obj g _=>g
structure St where
 V:List (Nat×AV)
 L:List (Nat×AV)
 S:List (Nat×Slot)
def aH {α:Type}:List (Nat×α)->Nat->Option α
 |[],_=>none
 |(i,x)::l,j=>if i=j then some x else aH l j
def pw {α:Type}:List (Nat×α)->Nat->α->List (Nat×α)
 |[],_,_=>[]
 |(i,x)::l,j,y=>if i=j then(i,y)::pw l j y else(i,x)::pw l j y
def St.get (st:St)(i:Nat):Option AV:=match aH st.V i with
 |some v=>some v
 |none=>aH st.L i
def St.slot (st:St)(s:Nat):Slot:=(aH st.S s).getD (.dead 0)
def St.put (st:St)(d:Nat)(v:AV):St:=if(aH st.V d).isSome then { st with V:=pw st.V d v } else { st with L:=(d,v)::st.L }
def St.bR (st:St)(s:Nat)(x:Slot):St:={ st with S:=pw st.S s x }
theorem Vh{α:Type}(l:List (Nat×α))(j:Nat)(y:α)(i:Nat):aH (pw l j y) i=if i=j then(aH l i).map fun _=>y else aH l i:=by
 induction l with
 |nil=>simp[pw,aH]
 |cons p l ih=>
  obtain⟨a,x⟩:=p;by_cases h1:a=j
  ·subst h1;simp only[pw,mr,aH];by_cases h2:a=i
   ·subst h2;simp
   ·simp only[h2,nY,ih]
  ·simp only[pw,af h1,aH];by_cases h2:a=i
   ·subst h2;simp[h1]
   ·simp only[h2,nY,ih]
theorem St.anx{st:St}{d:Nat}{v:AV}{i:Nat}{x:AV}(h:(st.put d v).get i=some x):(i=d/\x=v)\/(i≠d/\st.get i=some x):=by
 unfold St.put at h;split at h
 ·rename_i hd;simp only[St.get,Vh] at h;by_cases hi:i=d
  ·subst hi;obtain⟨y,hy⟩:=PA.1 hd;simp[hy] at h;exact .inl ⟨rfl,h.symm⟩
  ·simp only[hi,nY] at h;exact .inr ⟨hi,h⟩
 ·rename_i hd
  have hn:aH st.V d=none:=by cases hv:aH st.V d with
   |none=>rfl
   |some y=>rw[hv] at hd;simp at hd
  simp only[St.get,aH] at h;by_cases hi:d=i
  ·subst hi;simp[hn] at h;exact .inl ⟨rfl,h.symm⟩
  ·simp only[hi,nY] at h;exact .inr ⟨fun e=>hi e.symm,h⟩
theorem St.lV(st:St)(s:Nat)(x:Slot)(i:Nat):(st.bR s x).slot i=if i=s/\(aH st.S i).isSome=true then x else st.slot i:=by
 unfold St.slot St.bR;simp only[Vh];by_cases hi:i=s
 ·subst hi;cases h:aH st.S i<;>simp
 ·simp[hi]
def Cx:Value->Bool
 | .int _ _=>true
 | .bool _=>true
 | .string _=>true
 | .slice none 0 0=>true
 | .func _ a b=>a.isEmpty && b.isEmpty
 |_=>false
theorem anz{x:Value}(h:Cx x=true):x.oneCell'=true:=by cases x<;>first|rfl|cases h
inductive IR (w:World)(A:Nat->Prop):AC->Value->Prop where
 |v (x:Value) (h:Cx x=true):IR w A (.v x) x
 |sl (k:Nat) (es:List (List AC)) (a:Option Addr) (c:Nat) (u:Nat->Nat->Value) (hn:es.length<=c) (hm:es.length<=9223372036854775807) (hk:∀(i:Nat) (row:List AC),es[i]? =some row->row.length=k)
   (hc:∀(i:Nat) (row:List AC) (j:Nat) (x:AC),es[i]? =some row->row[j]? =some x->IR w A x (u i j))
   (hl:∀(i:Nat) (row:List AC) (j:Nat),es[i]? =some row->j<row.length->∃b o,a=some ⟨b,o,none⟩/\¬A b/\w.cell? ⟨b,o+i*k+j,none⟩=some (u i j)):IR w A (.sl es) (.slice a es.length c)
 |fc (f:FuncId) (bP:List (List AC)) (at_:Nat->Nat×Nat) (u:Nat->Nat->Value)
   (hc:∀(i:Nat) (row:List AC) (j:Nat) (x:AC),bP[i]? =some row->row[j]? =some x->IR w A x (u i j))
   (hl:∀(i:Nat) (row:List AC),bP[i]? =some row->(at_ i).1<w.heap.size/\¬A (at_ i).1/\∀j,j<row.length->w.cell? ⟨(at_ i).1,(at_ i).2+j,none⟩=some (u i j)):
   IR w A (.fc f bP) (.func (.func f) #[] ((List.range bP.length).map fun i=> .pointer (some ⟨(at_ i).1,(at_ i).2,none⟩)).toArray)
theorem IR.one(h:IR w A x v):v.oneCell'=true:=by
 cases h with
 |v x h=>exact anz h
 |sl=>rfl
 |fc=>rfl
theorem IR.mono{A':Nat->Prop}(h:IR w A x v)(hz:w.heap.size<=w'.heap.size)(hA:∀b,b<w.heap.size->A' b->A b)(hw:∀b,b<w.heap.size->¬A b->w'.heap[b]? =w.heap[b]?):IR w' A' x v:=by
 induction h with
 |v x h=>exact .v x h
 |sl k es a c u hn hm hk hc hl ih=>
  refine .sl k es a c u hn hm hk (fun i row j x h1 h2=>ih i row j x h1 h2) (fun i row j h1 h2=> ?_);obtain⟨b,o,ha,hb,hcell⟩:=hl i row j h1 h2;have hlt:=eh _ _ hcell;exact⟨b,o,ha,fun h=>hb (hA b hlt h),by rw[Iu (hw b hlt hb)];exact hcell⟩
 |fc f bP at_ u hc hl ih=>
  refine .fc f bP at_ u (fun i row j x h1 h2=>ih i row j x h1 h2) (fun i row h1=> ?_);obtain⟨hlt,hb,hcell⟩:=hl i row h1;exact⟨iB hlt hz,fun h=>hb (hA _ hlt h),fun j hj=>by rw[Iu (hw _ hlt hb)];exact hcell j hj⟩
def CR (w:World)(A:Nat->Prop)(S:Nat->Slot)(G:Nat->Gh)(H:Nat->Value):AC->Value->Prop
 | .own s g,u=>u.oneCell'=true/\g<=(S s).gen/\∀e k es,S s=.row e k g es->u=H s
 | .cB s g,u=>u.oneCell'=true/\g<=(S s).gen/\∀K,S s=.obj g K->u=H s
 | .part s g i,u=>u.oneCell'=true/\g<=(S s).gen/\∀K,S s=.obj g K->(G s).hs[i]? =some u
 | .cls f bP,u=>∃ps:List Value,u=.func (.func f) #[] ps.toArray/\ps.length=bP.length/\∀(i:Nat) (q:Nat×Nat) (p:Value),bP[i]? =some q->ps[i]? =some p->q.2<=(S q.1).gen/\∀cs,S q.1=.box q.2 cs->p=.pointer (some ⟨(G q.1).b,0,none⟩)
 | .v x,u=>IR w A (.v x) u
 | .sl es,u=>IR w A (.sl es) u
 | .fc f bP,u=>IR w A (.fc f bP) u
def cp (w:World)(A:Nat->Prop)(S:Nat->Slot)(G:Nat->Gh)(H:Nat->Value)(cs:List AC)(arr:List Value):Prop:=arr.length=cs.length/\∀(j:Nat) (x:AC) (u:Value),cs[j]? =some x->arr[j]? =some u->CR w A S G H x u
def WR (w:World)(A:Nat->Prop)(S:Nat->Slot)(G:Nat->Gh)(H:Nat->Value):AW->Value->Prop
 | .c x,v=>CR w A S G H x v
 | .agg cs,v=>∃arr:List Value,v=.agg arr.toArray/\cp w A S G H cs arr
def VR (w:World)(A:Nat->Prop)(S:Nat->Slot)(G:Nat->Gh)(H:Nat->Value):AV->Value->Prop
 | .w x,v=>WR w A S G H x v
 | .cg vs,v=>∃arr:List Value,v=.tuple arr.toArray/\arr.length=vs.length/\∀(j:Nat) (x:AW) (u:Value),vs[j]? =some x->arr[j]? =some u->WR w A S G H x u
 | .pb s g off,v=>g<=(S s).gen/\∀cs,S s=.box g cs->v=.pointer (some ⟨(G s).b,off,none⟩)
 | .pr s g i off,v=>g<=(S s).gen/\∀e k es,S s=.row e k g es->∃b n c,H s=.slice (some ⟨b,0,none⟩) n c/\v=.pointer (some ⟨b,i*k+off,none⟩)
 | .pi cs off,v=>∃b o,v=.pointer (some ⟨b,o+off,none⟩)/\b<w.heap.size/\¬A b/\∃us:List Value,us.length=cs.length/\∀(j:Nat) (x:AC) (u:Value),cs[j]? =some x->us[j]? =some u->IR w A x u/\w.cell? ⟨b,o+j,none⟩=some u
 | .u,_=>True
theorem CR.one{S:Nat->Slot}{G:Nat->Gh}{H:Nat->Value}(h:CR w A S G H x v):v.oneCell'=true:=by
 cases x with
 |own s g=>exact h.1
 |cB s g=>exact h.1
 |part s g i=>exact h.1
 |cls f bP=>obtain⟨ps,rfl,_⟩:=h;rfl
 |v x=>exact IR.one h
 |sl es=>exact IR.one h
 |fc f bP=>exact IR.one h
structure Mv (w w':World)(A A':Nat->Prop)(S S':Nat->Slot)(G G':Nat->Gh)(H H':Nat->Value):Prop where
 size:w.heap.size<=w'.heap.size
 off:∀b,b<w.heap.size->A' b->A b
 kept:∀b,b<w.heap.size->¬A b->w'.heap[b]? =w.heap[b]?
 gen:∀s,(S s).gen<=(S' s).gen
 row:∀s e k g es,S' s=.row e k g es->g<=(S s).gen->(∃es,S s=.row e k g es)/\H' s=H s
 box:∀s g cs,S' s=.box g cs->g<=(S s).gen->(∃cs,S s=.box g cs)/\G' s=G s
 obj:∀s g K,S' s=.obj g K->g<=(S s).gen->(∃K,S s=.obj g K)/\G' s=G s/\H' s=H s
section
variable {w w':World} {A A':Nat->Prop} {S S':Nat->Slot} {G G':Nat->Gh} {H H':Nat->Value} (m:Mv w w' A A' S S' G G' H H')
variable {v:Value} {x:AC}
include m
theorem IR.mv(h:IR w A x v):IR w' A' x v:=h.mono m.size m.off m.kept
theorem CR.mv(h:CR w A S G H x v):CR w' A' S' G' H' x v:=by
 cases x with
 |own s g=>
  obtain⟨h1,h2,h3⟩:=h;refine⟨h1,bh h2 (m.gen s),fun e k es hs=> ?_⟩;obtain⟨⟨LM,e1⟩,e2⟩:=m.row s e k g es hs h2;rw[e2];exact h3 e k LM e1
 |cB s g=>
  obtain⟨h1,h2,h3⟩:=h;refine⟨h1,bh h2 (m.gen s),fun K hs=> ?_⟩;obtain⟨⟨K0,e1⟩,_,e2⟩:=m.obj s g K hs h2;rw[e2];exact h3 K0 e1
 |part s g i=>
  obtain⟨h1,h2,h3⟩:=h;refine⟨h1,bh h2 (m.gen s),fun K hs=> ?_⟩;obtain⟨⟨K0,e1⟩,e2,_⟩:=m.obj s g K hs h2;rw[e2];exact h3 K0 e1
 |cls f bP=>
  obtain⟨ps,h1,h2,h3⟩:=h;refine⟨ps,h1,h2,fun i q p e1 e2=> ?_⟩;obtain⟨h4,h5⟩:=h3 i q p e1 e2;refine⟨bh h4 (m.gen q.1),fun cs hs=> ?_⟩;obtain⟨⟨c0,g1⟩,g2⟩:=m.box q.1 q.2 cs hs h4;rw[g2];exact h5 c0 g1
 |v x=>exact IR.mv m h
 |sl es=>exact IR.mv m h
 |fc f bP=>exact IR.mv m h
theorem cp.mv{cs:List AC}{arr:List Value}(h:cp w A S G H cs arr):cp w' A' S' G' H' cs arr:=⟨h.1,fun j x u h1 h2=>(h.2 j x u h1 h2).mv m⟩
theorem WR.mv{x:AW}(h:WR w A S G H x v):WR w' A' S' G' H' x v:=by
 cases x with
 |c x=>exact CR.mv m h
 |agg cs=>
  obtain⟨arr,e,h⟩:=h;exact⟨arr,e,cp.mv m h⟩
theorem VR.mv{x:AV}(h:VR w A S G H x v):VR w' A' S' G' H' x v:=by
 cases x with
 |w x=>exact WR.mv m h
 |cg vs=>
  obtain⟨arr,e,hl,h⟩:=h;exact⟨arr,e,hl,fun j x u h1 h2=>(h j x u h1 h2).mv m⟩
 |pb s g off=>
  obtain⟨h1,h2⟩:=h;refine⟨bh h1 (m.gen s),fun cs hs=> ?_⟩;obtain⟨⟨c0,e1⟩,e2⟩:=m.box s g cs hs h1;rw[e2];exact h2 c0 e1
 |pr s g i off=>
  obtain⟨h1,h2⟩:=h;refine⟨bh h1 (m.gen s),fun e k es hs=> ?_⟩;obtain⟨⟨c0,e1⟩,e2⟩:=m.row s e k g es hs h1;rw[e2];exact h2 e k c0 e1
 |pi cs off=>
  obtain⟨b,o,e,hlt,hb,us,hl,h⟩:=h;refine⟨b,o,e,iB hlt m.size,fun hh=>hb (m.off b hlt hh),us,hl,fun j x u h1 h2=> ?_⟩;obtain⟨e1,e2⟩:=h j x u h1 h2;exact⟨IR.mv m e1,by rw[Iu (m.kept b hlt hb)];exact e2⟩
 |u=>trivial
end
structure Fr (F:Nat->Prop)(w0 w:World):Prop where
 os:w.os=w0.os
 tape:w.tape=w0.tape
 out:w.output=w0.output
 size:w0.heap.size<=w.heap.size
 block:∀b,F b->w.heap[b]? =w0.heap[b]?
def bl (S:Nat->Slot)(G:Nat->Gh)(H:Nat->Value)(s b:Nat):Prop:=(∃g cs,S s=.box g cs/\b=(G s).b)\/(∃e k g es,S s=.row e k g es/\(H s).ownBlock=some b)\/(∃g K,S s=.obj g K/\b∈(G s).fp)
def aZ (M:Nat->Prop)(S:Nat->Slot)(G:Nat->Gh)(H:Nat->Value)(b:Nat):Prop:=M b\/∃s,bl S G H s b
def px (w:World)(A:Nat->Prop)(k:Nat)(es:List (List AC))(xs:List Value):Prop:=
 (∀(i:Nat) (row:List AC),es[i]? =some row->row.length=k)/\∀(i:Nat) (row:List AC) (j:Nat) (x:AC) (u:Value),es[i]? =some row->row[j]? =some x->xs[i*k+j]? =some u->IR w A x u
structure jX where
 w:World
 S:Nat->Slot
 G:Nat->Gh
 H:Nat->Value
structure PU (w0:jX)(S:Nat->Slot)(G:Nat->Gh)(H:Nat->Value):Prop where
 gen:∀s,(w0.S s).gen<=(S s).gen
 row:∀s e k g es,S s=.row e k g es->g<=(w0.S s).gen->(∃es,w0.S s=.row e k g es)/\H s=w0.H s
 box:∀s g cs,S s=.box g cs->g<=(w0.S s).gen->(∃cs,w0.S s=.box g cs)/\G s=w0.G s
 obj:∀s g K,S s=.obj g K->g<=(w0.S s).gen->(∃K,w0.S s=.obj g K)/\G s=w0.G s/\H s=w0.H s
structure wI (w:World)(F:Nat->Prop):Prop where
 gl:Fa w
 lo:∀b,b<gN->F b
theorem wI.mono {w:World}{F F':Nat->Prop}(h:wI w F)(hF:∀b,F b->F' b):wI w F':=⟨h.gl,fun b hb=>hF b (h.lo b hb)⟩
theorem wI.fr {w w':World}{F:Nat->Prop}(h:wI w F)(hf:Fr F w w'):wI w' F:=⟨h.gl.kept ⟨hf.os,hf.tape,hf.out,hf.size,fun b hb=>hf.block b (h.lo b hb)⟩,h.lo⟩
theorem acE {w:World}(h:Fa w):wI w (fun b=>b<w.heap.size):=⟨h,fun _ hb=>iB hb h.low⟩
structure Rel (N:Nat)(F M:Nat->Prop)(w0:jX)(st:St)(G:Nat->Gh)(H:Nat->Value)(a:Act)(w:World):Prop where
 sz:a.tmps.size=N
 df:a.defers=[]
 fr:Fr F w0.w w
 hs:PU w0 st.slot G H
 lo:(∀b,F b\/M b->b<w0.w.heap.size)/\wI w0.w F
 tm:∀i x,st.get i=some x->VR w (aZ M st.slot G H) st.slot G H x (a.tmps.getD i undef)
 bx:∀s g cs,st.slot s=.box g cs->¬F (G s).b/\¬M (G s).b/\∃arr:List Value,ax w (G s).b arr.toArray/\cp w (aZ M st.slot G H) st.slot G H cs arr
 rw:∀s e k g es,st.slot s=.row e k g es->(∀b,(H s).ownBlock=some b->¬F b/\¬M b)/\∃xs,w.ownsRow 0 e k (H s) es.length xs/\px w (aZ M st.slot G H) k es xs
 ob:∀s g K,st.slot s=.obj g K->(∀b∈(G s).fp,¬F b/\¬M b)/\K.rep w (aZ M st.slot G H) (H s) (G s)
 dj:∀s s' b,bl st.slot G H s b->bl st.slot G H s' b->s=s'
theorem Act.anB {a:Act}{d:Nat}{v:Value}(hd:d<a.tmps.size)(i:Nat):(a.put (some d) v).tmps.getD i undef=if i=d then v else a.tmps.getD i undef:=by
 simp only[Act.put,Lj];by_cases h:i=d
 ·subst h;simp[sT hd]
 ·simp[h,qp (Ne.symm h)]
section
variable {N:Nat} {F M:Nat->Prop} {w0:jX} {w:World} {st:St} {G:Nat->Gh} {H:Nat->Value} {a:Act}
variable {G':Nat->Gh} {H':Nat->Value} {U:Option (List Nat)} {w':World}
theorem Rel.put(h:Rel N F M w0 st G H a w){d:Nat}(hd:d<N){x:AV}{v:Value}(hv:VR w (aZ M st.slot G H) st.slot G H x v):Rel N F M w0 (st.put d x) G H (a.put (some d) v) w:=by
 have hS:(st.put d x).S=st.S:=by unfold St.put;split<;>rfl
 have hs:(st.put d x).slot=st.slot:=by funext i;unfold St.slot;rw[hS]
 refine⟨by simpa [Act.put] using h.sz,h.df,h.fr,by rw[hs];exact h.hs,h.lo,?_,by rw[hs];exact h.bx,by rw[hs];exact h.rw,by rw[hs];exact h.ob,by rw[hs];exact h.dj⟩;intro i y hy;rw[hs,Act.anB (by rw[h.sz];exact hd)]
 rcases St.anx hy with⟨h1,h2⟩|⟨h1,h2⟩
 ·rw[aj h1,h2];exact hv
 ·rw[af h1];exact h.tm i y h2
theorem Rel.py(h:Rel N F M w0 st G H a w){s b:Nat}(hl:bl st.slot G H s b):b<w.heap.size/\¬F b/\¬M b:=by
 rcases hl with⟨g,cs,h1,rfl⟩|⟨e,k,g,es,h1,h2⟩|⟨g,K,h1,h2⟩
 ·obtain⟨e1,e2,arr,e3,_⟩:=h.bx s g cs h1;exact⟨e3.lt,e1,e2⟩
 ·obtain⟨e1,xs,e3,_⟩:=h.rw s e k g es h1;exact⟨(e3.lt b h2).2,e1 b h2⟩
 ·obtain⟨e1,e2⟩:=h.ob s g K h1;exact⟨K.lt e2 b h2,e1 b h2⟩
theorem Rel.glo(h:Rel N F M w0 st G H a w){F':Nat->Prop}(hF:∀b,F b->b<w.heap.size->F' b):wI w F':=
 (h.lo.2.fr h.fr).mono fun b hb=>hF b hb (iB (h.lo.1 b (.inl hb)) h.fr.size)
theorem Rel.PV(h:Rel N F M w0 st G H a w)(s:Nat)(x:Slot)(hs:(aH st.S s).isSome=true)(hG:∀i,i≠s->G' i=G i)(hH:∀i,i≠s->H' i=H i)
  (ho:w'.os=w.os) (ht:w'.tape=w.tape) (LN:w'.output=w.output) (hz:w.heap.size<=w'.heap.size) (hb:∀b,b<w.heap.size->¬bl st.slot G H s b->w'.heap[b]? =w.heap[b]?)
  (th:∀b,bl (st.bR s x).slot G' H' s b->bl st.slot G H s b\/w.heap.size<=b) (oq:(st.slot s).gen<=x.gen)
  (aW:∀e k g es,x=.row e k g es->g<=(st.slot s).gen->(∃es,st.slot s=.row e k g es)/\H' s=H s) (fL:∀g cs,x=.box g cs->g<=(st.slot s).gen->(∃cs,st.slot s=.box g cs)/\G' s=G s)
  (tp:∀g K,x=.obj g K->g<=(st.slot s).gen->(∃K,st.slot s=.obj g K)/\G' s=G s/\H' s=H s)
  (nr:Mv w w' (aZ M st.slot G H) (aZ M (st.bR s x).slot G' H') st.slot (st.bR s x).slot G G' H H'->∀g cs,x=.box g cs->∃arr:List Value,ax w' (G' s).b arr.toArray/\cp w' (aZ M (st.bR s x).slot G' H') (st.bR s x).slot G' H' cs arr)
  (yx:Mv w w' (aZ M st.slot G H) (aZ M (st.bR s x).slot G' H') st.slot (st.bR s x).slot G G' H H'->∀e k g es,x=.row e k g es->∃xs,w'.ownsRow 0 e k (H' s) es.length xs/\px w' (aZ M (st.bR s x).slot G' H') k es xs)
  (pz:Mv w w' (aZ M st.slot G H) (aZ M (st.bR s x).slot G' H') st.slot (st.bR s x).slot G G' H H'->∀g K,x=.obj g K->K.rep w' (aZ M (st.bR s x).slot G' H') (H' s) (G' s)):
  Rel N F M w0 (st.bR s x) G' H' a w':=by
 have e1:(st.bR s x).slot s=x:=by rw[St.lV,aj ⟨rfl,hs⟩]
 have e2:∀i,i≠s->(st.bR s x).slot i=st.slot i:=fun i hi=>by rw[St.lV,af (fun hh=>hi hh.1)]
 have mE:∀i b,i≠s->(bl (st.bR s x).slot G' H' i b↔bl st.slot G H i b):=fun i b hi=>by unfold bl;rw[e2 i hi,hG i hi,hH i hi]
 have m:Mv w w' (aZ M st.slot G H) (aZ M (st.bR s x).slot G' H') st.slot (st.bR s x).slot G G' H H':=by
  refine⟨hz,fun b hlt Au=> ?_,fun b hlt Au=>hb b hlt (fun hl=>Au (.inr ⟨s,hl⟩)),fun i=> ?_,fun i e k g es h1 h2=> ?_,fun i g cs h1 h2=> ?_,fun i g K h1 h2=> ?_⟩
  ·rcases Au with hm|⟨i,hl⟩
   ·exact .inl hm
   ·by_cases hi:i=s
    ·subst hi
     rcases th b hl with h1|h1
     ·exact .inr ⟨i,h1⟩
     ·omega
    ·exact .inr ⟨i,(mE i b hi).1 hl⟩
  ·by_cases hi:i=s
   ·subst hi;rw[e1];exact oq
   ·rw[e2 i hi];exact cI _
  ·by_cases hi:i=s
   ·subst hi;rw[e1] at h1;exact aW e k g es h1 h2
   ·rw[e2 i hi] at h1;exact⟨⟨es,h1⟩,hH i hi⟩
  ·by_cases hi:i=s
   ·subst hi;rw[e1] at h1;exact fL g cs h1 h2
   ·rw[e2 i hi] at h1;exact⟨⟨cs,h1⟩,hG i hi⟩
  ·by_cases hi:i=s
   ·subst hi;rw[e1] at h1;exact tp g K h1 h2
   ·rw[e2 i hi] at h1;exact⟨⟨K,h1⟩,hG i hi,hH i hi⟩
 have pA:∀i,(st.bR s x).get i=st.get i:=fun _=>rfl
 have hF:∀b,bl (st.bR s x).slot G' H' s b->¬F b/\¬M b:=fun b hl=>by
  rcases th b hl with h1|h1
  ·exact(h.py h1).2
  ·have:=h.fr.size;exact⟨fun hf=>by have:=h.lo.1 b (.inl hf);omega,fun hf=>by have:=h.lo.1 b (.inr hf);omega⟩
 refine⟨h.sz,h.df,⟨ho.trans h.fr.os,ht.trans h.fr.tape,LN.trans h.fr.out,bh h.fr.size hz,fun b hf=> ?_⟩,⟨fun i=>bh (h.hs.gen i) (m.gen i),fun i e k g es h1 h2=> ?_,fun i g cs h1 h2=> ?_,fun i g K h1 h2=> ?_⟩,h.lo,fun i y hy=>VR.mv m (h.tm i y (by rw[<-pA];exact hy)),fun i g cs hi=> ?_,fun i e k g es hi=> ?_,fun i g K hi=> ?_,fun i j b h1 h2=> ?_⟩
 ·have hlt:=h.lo.1 b (.inl hf);rw[hb b (iB hlt h.fr.size) (fun hl=>(h.py hl).2.1 hf)];exact h.fr.block b hf
 ·obtain⟨⟨LM,e5⟩,e6⟩:=m.row i e k g es h1 (bh h2 (h.hs.gen i));rw[e6];exact h.hs.row i e k g LM e5 h2
 ·obtain⟨⟨c0,e5⟩,e6⟩:=m.box i g cs h1 (bh h2 (h.hs.gen i));rw[e6];exact h.hs.box i g c0 e5 h2
 ·obtain⟨⟨c0,e5⟩,e6,e7⟩:=m.obj i g K h1 (bh h2 (h.hs.gen i));rw[e6,e7];exact h.hs.obj i g c0 e5 h2
 ·by_cases dK:i=s
  ·subst dK;rw[e1] at hi;have:=hF (G' i).b (.inl ⟨g,cs,by rw[e1];exact hi,rfl⟩);exact⟨this.1,this.2,nr m g cs hi⟩
  ·rw[e2 i dK] at hi;obtain⟨f1,f2,arr,f3,f4⟩:=h.bx i g cs hi;rw[hG i dK];refine⟨f1,f2,arr,?_,cp.mv m f4⟩;obtain⟨t,ht⟩:=f3;refine⟨t,?_⟩;rw[hb (G i).b (ax.lt ⟨t,ht⟩) (fun hl=>dK (h.dj i s (G i).b (.inl ⟨g,cs,hi,rfl⟩) hl))];exact ht
 ·by_cases dK:i=s
  ·subst dK;rw[e1] at hi;exact⟨fun b yy=>hF b (.inr (.inl ⟨e,k,g,es,by rw[e1];exact hi,yy⟩)),yx m e k g es hi⟩
  ·rw[e2 i dK] at hi;obtain⟨f1,xs,f3,f4,f5⟩:=h.rw i e k g es hi;rw[hH i dK];refine⟨f1,xs,?_,f4,fun i' row j y u g1 g2 g3=>IR.mv m (f5 i' row j y u g1 g2 g3)⟩;obtain⟨q1,q2⟩:=f3;refine⟨q1,?_⟩
   rcases q2 with q2|⟨gg,cap,cur,q3,q4,q5,q6⟩
   ·exact .inl q2
   ·refine .inr ⟨gg,cap,cur,q3,q4,?_,q6⟩;have hl:bl st.slot G H i gg:=.inr (.inl ⟨e,k,g,es,hi,by rw[q3];rfl⟩);rw[hb gg (h.py hl).1 (fun jl=>dK (h.dj i s gg hl jl))];exact q5
 ·by_cases dK:i=s
  ·subst dK;rw[e1] at hi;exact⟨fun b yy=>hF b (.inr (.inr ⟨g,K,by rw[e1];exact hi,yy⟩)),pz m g K hi⟩
  ·rw[e2 i dK] at hi;obtain⟨f1,f2⟩:=h.ob i g K hi;rw[hH i dK,hG i dK];refine⟨f1,K.mono f2 m.size m.off (fun b hlt br=> ?_)⟩
   rcases br with br|br
   ·exact hb b hlt (fun jl=>dK (h.dj i s b (.inr (.inr ⟨g,K,hi,br⟩)) jl))
   ·exact m.kept b hlt br
 ·by_cases dK:i=s
  ·by_cases Cy:j=s
   ·rw[dK,Cy]
   ·rw[dK] at h1;have h2':=(mE j b Cy).1 h2
    rcases th b h1 with h3|h3
    ·exact absurd (h.dj s j b h3 h2') (fun e=>Cy e.symm)
    ·have:=(h.py h2').1;omega
  ·have wA:=(mE i b dK).1 h1;by_cases Cy:j=s
   ·rw[Cy] at h2
    rcases th b h2 with h3|h3
    ·exact absurd (h.dj i s b wA h3) dK
    ·have:=(h.py wA).1;omega
   ·exact h.dj i j b wA ((mE j b Cy).1 h2)
theorem Rel.grow(h:Rel N F M w0 st G H a w)(ho:w'.os=w.os)(ht:w'.tape=w.tape)(LN:w'.output=w.output)(hz:w.heap.size<=w'.heap.size)(hb:∀b,b<w.heap.size->w'.heap[b]? =w.heap[b]?):Rel N F M w0 st G H a w':=by
 have m:Mv w w' (aZ M st.slot G H) (aZ M st.slot G H) st.slot st.slot G G H H:=
  ⟨hz,fun _ _ h=>h,fun b hlt _=>hb b hlt,fun _=>cI _,fun s e k g es h1 _=>⟨⟨es,h1⟩,rfl⟩,fun s g cs h1 _=>⟨⟨cs,h1⟩,rfl⟩,fun s g K h1 _=>⟨⟨K,h1⟩,rfl,rfl⟩⟩
 refine⟨h.sz,h.df,⟨ho.trans h.fr.os,ht.trans h.fr.tape,LN.trans h.fr.out,bh h.fr.size hz,fun b hf=> ?_⟩,h.hs,h.lo,fun i y hy=>VR.mv m (h.tm i y hy),fun i g cs hi=> ?_,fun i e k g es hi=> ?_,fun i g K hi=> ?_,h.dj⟩
 ·rw[hb b (iB (h.lo.1 b (.inl hf)) h.fr.size)];exact h.fr.block b hf
 ·obtain⟨f1,f2,arr,f3,f4⟩:=h.bx i g cs hi;refine⟨f1,f2,arr,?_,cp.mv m f4⟩;obtain⟨t,ht⟩:=f3;exact⟨t,by rw[hb _ (ax.lt ⟨t,ht⟩)];exact ht⟩
 ·obtain⟨f1,xs,f3,f4,f5⟩:=h.rw i e k g es hi;refine⟨f1,xs,?_,f4,fun i' row j y u g1 g2 g3=>IR.mv m (f5 i' row j y u g1 g2 g3)⟩;obtain⟨q1,q2⟩:=f3;refine⟨q1,?_⟩
  rcases q2 with q2|⟨gg,cap,cur,q3,q4,q5,q6⟩
  ·exact .inl q2
  ·have hl:bl st.slot G H i gg:=.inr (.inl ⟨e,k,g,es,hi,by rw[q3];rfl⟩);exact .inr ⟨gg,cap,cur,q3,q4,by rw[hb gg (h.py hl).1];exact q5,q6⟩
 ·obtain⟨f1,f2⟩:=h.ob i g K hi;exact⟨f1,K.mono f2 hz (fun _ _ h=>h) (fun b hlt _=>hb b hlt)⟩
def cJ (U:List Nat)(S:Nat->Slot)(G:Nat->Gh)(H:Nat->Value)(w w':World):Prop:=∀b,b<w.heap.size->(∀s∈U,¬bl S G H s b)->w'.heap[b]? =w.heap[b]?
def wJ (U:Option (List Nat))(s:Nat):Prop:=match U with
 |none=>True
 |some l=>s∈l
def Cz (U:Option (List Nat))(S:Nat->Slot)(G:Nat->Gh)(H:Nat->Value)(w:World)(S':Nat->Slot)(G':Nat->Gh)(H':Nat->Value)(w':World):Prop:=
 w.heap.size<=w'.heap.size/\∀l,U=some l->cJ l S G H w w'/\∀s∈l,∀b,b<w.heap.size->bl S' G' H' s b->∃s0∈l,bl S G H s0 b
theorem LO{S:Nat->Slot}(hz:w.heap.size<=w'.heap.size)(hb:∀b,b<w.heap.size->w'.heap[b]? =w.heap[b]?):Cz U S G H w S G H w':=⟨hz,fun _ _=>⟨fun b hlt _=>hb b hlt,fun s hs _ _ h=>⟨s,hs,h⟩⟩⟩
theorem PW(s:Nat)(x:Slot)(hG:∀i,i≠s->G' i=G i)(hH:∀i,i≠s->H' i=H i)(hz:w.heap.size<=w'.heap.size)(hb:∀b,b<w.heap.size->¬bl st.slot G H s b->w'.heap[b]? =w.heap[b]?)
  (th:∀b,bl (st.bR s x).slot G' H' s b->bl st.slot G H s b\/w.heap.size<=b) (hU:wJ U s\/∀b,b<w.heap.size->w'.heap[b]? =w.heap[b]?):Cz U st.slot G H w (st.bR s x).slot G' H' w':=by
 refine⟨hz,fun l hl=> ?_⟩;subst hl;refine⟨fun b hlt hn=> ?_,fun i hi b hlt mE=> ?_⟩
 ·rcases hU with hU|hU
  ·exact hb b hlt (hn s hU)
  ·exact hU b hlt
 ·by_cases dK:i=s
  ·subst dK
   rcases th b mE with h1|h1
   ·exact⟨i,hi,h1⟩
   ·omega
  ·refine⟨i,hi,?_⟩;unfold bl at mE⊢;rw[St.lV,af (fun hh=>dK hh.1),hG i dK,hH i dK] at mE;exact mE
end
inductive aP where
 |t (i:Nat)
 |k (x:AW)
inductive ROp where
 |mv (x:aP)
 |bin (op:BinOp) (x y:aP)
 |un (op:UnOp) (x:aP)
 |pick (c x y:aP)
 |len (x:aP)
 |mm (mx:Bool) (x y:aP)
 |ld1 (p:aP)
 |CA (n:Nat) (p:aP)
 |tr (p:aP) (off:Nat)
 |idx (k:Nat) (x i:aP)
 |CB (n k:Nat) (p i:aP)
 |pB (k:Nat) (x:aP) (lo hi:Option aP)
 |ext (x:aP) (i:Nat)
 |CC (x i:aP)
 |CD (zero:List Value) (parts:List (Nat×Nat×aP))
def St.arg (st:St):aP->Option AV
 | .t i=>st.get i
 | .k x=>some (.w x)
def Fb:Option AV->Option Value
 |some (.w (.c (.v x)))=>some x
 |_=>none
def St.sc (st:St)(x:aP):Option Value:=Fb (st.arg x)
def bt (op:BinOp):Value->Value->Option Value
 | .int k a,.int k' b=>if k=k' then match op with
   | .add=>if k.wrap (a+b)=a+b then some (.int k (a+b)) else none
   | .sub=>if k.wrap (a-b)=a-b then some (.int k (a-b)) else none
   | .mul=>if k.wrap (a*b)=a*b then some (.int k (a*b)) else none
   | .quo=>if b≠0/\k.wrap (a.tdiv b)=a.tdiv b then some (.int k (a.tdiv b)) else none
   | .rem=>if b≠0 then some (.int k (a.tmod b)) else none
   | .eql=>some (.bool (decide (a=b)))
   | .neq=>some (.bool (decide (a≠b)))
   | .lss=>some (.bool (decide (a<b)))
   | .leq=>some (.bool (decide (a<=b)))
   | .gtr=>some (.bool (decide (b<a)))
   | .geq=>some (.bool (decide (b<=a)))
   |_=>none
  else none
 | .string a,.string b=>match op with
   | .eql=>some (.bool (a.toList==b.toList))
   | .neq=>some (.bool (!(a.toList==b.toList)))
   |_=>none
 |_,_=>none
def CE (op:UnOp):Value->Option Value
 | .int k a=>match op with
   | .neg=>if k.wrap (0-a)= -a then some (.int k (-a)) else none
   |_=>none
 | .bool b=>match op with
   | .not=>some (.bool !b)
   |_=>none
 |_=>none
def Fc (mx:Bool):Value->Value->Option Value
 | .int k a,.int k' b=>if k=k' then some (.int k (if mx then max a b else min a b)) else none
 |_,_=>none
def St.rows (st:St)(U:List Nat):Option AV->Option (List (List AC))
 |some (.w (.c (.sl es)))=>some es
 |some (.w (.c (.own s g)))=>match st.slot s with
  | .row _ _ g' es=>if g=g'/\s∉U then some es else none
  |_=>none
 |_=>none
def St.cells (st:St)(U:List Nat)(n:Nat):Option AV->Option (List AC)
 |some (.pb s g off)=>match st.slot s with
  | .box g' cs=>if g=g'/\s∉U/\off+n<=cs.length then some ((cs.drop off).take n) else none
  |_=>none
 |some (.pr s g i off)=>match st.slot s with
  | .row _ _ g' es=>if g=g'/\s∉U then match es[i]? with
    |some row=>if off+n<=row.length then some ((row.drop off).take n) else none
    |none=>none
   else none
  |_=>none
 |some (.pi cs off)=>if off+n<=cs.length then some ((cs.drop off).take n) else none
 |_=>none
section
variable {P:Program} {N:Nat} {F M:Nat->Prop} {w0:jX} {w:World} {st:St} {G:Nat->Gh} {H:Nat->Value} {a:Act}
variable {o:Oper} {t:TypeId} {x:Operand} {y:aP}
def dv (x:Operand)(y:aP):Prop:=match y with
 | .t i=>x=.tmp i
 | .k (.c (.v v))=>x=.const v/\Cx v=true
 | .k (.c (.sl []))=>x=.const (.slice none 0 0)
 |_=>False
theorem Rel.arg(h:Rel N F M w0 st G H a w)(lr:dv x y){v:AV}(hv:st.arg y=some v):VR w (aZ M st.slot G H) st.slot G H v (a.eval x):=by
 cases y with
 |t i=>
  have hx:x=.tmp i:=lr;subst hx;exact h.tm i v hv
 |k q=>
  simp only[St.arg,aC] at hv;subst hv
  cases q with
  |c c=>
   cases c with
   |v u=>
    obtain⟨h1,h2⟩:=lr;subst h1;exact IR.v u h2
   |sl es=>
    cases es with
    |nil=>
     have hx:x=.const (.slice none 0 0):=lr;subst hx;exact IR.sl 0 [] none 0 (fun _ _=>undef) aA ai (by intro i row h;simp at h) (by intro i row j x h;simp at h) (by intro i row j h;simp at h)
    |cons e es=>exact lr.elim
   |own s g=>exact lr.elim
   |cB s g=>exact lr.elim
   |part s g i=>exact lr.elim
   |fc f bP=>exact lr.elim
   |cls f bP=>exact lr.elim
  |agg cs=>exact lr.elim
theorem Rel.sc(h:Rel N F M w0 st G H a w)(lr:dv x y){v:Value}(hv:st.sc y=some v):a.eval x=v/\Cx v=true:=by
 unfold St.sc Fb at hv;split at hv
 ·rename_i u hu;simp only[aC] at hv;subst hv;have:=h.arg lr hu
  cases this with
  |v _ h=>exact⟨rfl,h⟩
 ·cases hv
def jG (P:Program)(mem:Bool)(o:Oper)(ev:St->List Nat->Option AV):Prop:=
 ∀(N:Nat) (F M:Nat->Prop) (w0:jX) (w:World) (st:St) (G:Nat->Gh) (H:Nat->Value) (a:Act) (U:List Nat) (x:AV),Rel N F M w0 st G H a w->ev st U=some x->
  ∃v,VR w (aZ M st.slot G H) st.slot G H x v/\∀w',(mem=true->cJ U st.slot G H w w')->(execOp a.eval o).run P w'=.ok (.value v) w'
theorem anC(ho:o.op=.move x\/o.op=.assign x)(lr:dv x y):jG P false o (fun st _=>st.arg y):=by
 intro N F M w0 w st G H a U r h hr;refine⟨a.eval x,h.arg lr hr,fun w' _=> ?_⟩;unfold execOp
 rcases ho with ho|ho<;>simp[ho]
theorem anD{op:BinOp}{t':TypeId}{x':Operand}{y':aP}(ho:o.op=.binOp op t x x' t')(hx:dv x y)(qL:dv x' y'):
  jG P false o (fun st _=>match st.sc y,st.sc y' with |some u,some v=>(bt op u v).map fun r=> .w (.c (.v r))|_,_=>none):=by
 intro N F M w0 w st G H a U r h hr;dsimp only at hr;split at hr
 case h_2=>cases hr
 rename_i u v hu hv;obtain⟨e1,s1⟩:=h.sc hx hu;obtain⟨e2,s2⟩:=h.sc qL hv;rw[bK] at hr;obtain⟨q,hq,rfl⟩:=hr
 have LP:Cx q=true:=by
  unfold bt at hq
  repeat' split at hq
  all_goals first|(simp only[aC] at hq;subst hq;rfl)|cases hq
 refine⟨q,IR.v q LP,fun w' _=> ?_⟩;unfold execOp;simp only[ho,e1,e2];unfold bt at hq;split at hq
 ·split at hq
  ·rename_i k a b k' c hk;subst hk;cases op<;>dsimp only at hq<;>(try split at hq)
   all_goals first|(simp only[aC] at hq;subst hq)|cases hq
   all_goals
    first
     |(simp[eqGuard,binOp,Op.intArith,Op.intCmp, *];done)
     |(rename_i hw;simp[eqGuard,binOp,Op.intArith,Op.intDiv,hw];done)
     |(rename_i hw;simp[eqGuard,binOp,Op.intDiv,hw.1,hw.2];done)
     |(unfold eqGuard binOp Op.intCmp;simp;done)
     |(unfold eqGuard binOp Op.intCmp;simp;rfl)
  ·cases hq
 ·cases op<;>dsimp only at hq
  all_goals first|(simp only[aC] at hq;subst hq)|cases hq
  all_goals simp[eqGuard,binOp,Op.stringOp]
 ·cases hq
theorem anE{op:UnOp}(ho:o.op=.unOp op t x)(hx:dv x y):jG P false o (fun st _=>match st.sc y with |some u=>(CE op u).map fun r=> .w (.c (.v r))|_=>none):=by
 intro N F M w0 w st G H a U r h hr;dsimp only at hr;split at hr
 case h_2=>cases hr
 rename_i u hu;obtain⟨e1,s1⟩:=h.sc hx hu;rw[bK] at hr;obtain⟨q,hq,rfl⟩:=hr
 have LP:Cx q=true:=by
  unfold CE at hq
  repeat' split at hq
  all_goals first|(simp only[aC] at hq;subst hq;rfl)|cases hq
 refine⟨q,IR.v q LP,fun w' _=> ?_⟩;unfold execOp;simp only[ho,e1];unfold CE at hq
 repeat' split at hq
 all_goals first|(simp only[aC] at hq;subst hq)|cases hq
 ·rename_i hw;simp[Op.unary,Op.intArith,hw];simpa using hw
 ·simp[Op.unary]
theorem anF{x1 x2 x3:Operand}{y1 y2 y3:aP}(ho:o.op=.pick x1 x2 x3)(h1:dv x1 y1)(h2:dv x2 y2)(h3:dv x3 y3):
  jG P false o (fun st _=>match st.sc y1 with |some (.bool true)=>st.arg y2|some (.bool false)=>st.arg y3|_=>none):=by
 intro N F M w0 w st G H a U r h hr;dsimp only at hr;split at hr
 ·rename_i hu;obtain⟨e1,s1⟩:=h.sc h1 hu;exact⟨_,h.arg h2 hr,fun w' _=>by unfold execOp;simp[ho,e1,asBool]⟩
 ·rename_i hu;obtain⟨e1,s1⟩:=h.sc h1 hu;exact⟨_,h.arg h3 hr,fun w' _=>by unfold execOp;simp[ho,e1,asBool]⟩
 ·cases hr
theorem IR.Fe{A:Nat->Prop}{S:Nat->Slot}{G:Nat->Gh}{x:AC}{u:Value}(h:IR w A x u):CR w A S G H x u:=by cases h with
 |v _ hs=>exact IR.v _ hs
 |sl k es ad c us hn hm hk hc hl=>exact IR.sl k es ad c us hn hm hk hc hl
 |fc f bP at_ us hc hl=>exact IR.fc f bP at_ us hc hl
theorem Rel.rows(h:Rel N F M w0 st G H a w)(lr:dv x y){U:List Nat}{es:List (List AC)}(hr:st.rows U (st.arg y)=some es):∃ad c,a.eval x=.slice ad es.length c/\es.length<=c/\es.length<=9223372036854775807:=by
 unfold St.rows at hr;split at hr
 ·rename_i es' hv;simp only[aC] at hr;subst hr;have:=h.arg lr hv;generalize a.eval x=q at this;have h3:IR w (aZ M st.slot G H) (.sl es') q:=this
  cases h3 with
  |sl _ _ ad c u hn hm _ _ _=>exact⟨ad,c,rfl,hn,hm⟩
 ·rename_i s g hv;split at hr
  ·rename_i e k' g' es' hs;split at hr
   ·rename_i hg;simp only[aC] at hr;subst hr;obtain⟨rfl,_⟩:=hg;have h3:CR w (aZ M st.slot G H) st.slot G H (.own s g) (a.eval x):=h.arg lr hv;obtain⟨_,_,hH⟩:=h3;rw[hH e k' es' hs];obtain⟨_,xs,ho,_⟩:=h.rw s e k' g es' hs
    rcases ho.2 with⟨e1,e2⟩|⟨gg,cap,cur,e1,_,_,e3,e4,_⟩
    ·rw[e1,e2];exact⟨none,0,rfl,ab,ab⟩
    ·rw[e1];exact⟨_,cap,rfl,e3,by simp only[maxLen] at e4;omega⟩
   ·cases hr
  ·cases hr
 ·cases hr
end
section
variable {P:Program} {N:Nat} {F M:Nat->Prop} {w0:jX} {w:World} {st:St} {G:Nat->Gh} {H:Nat->Value} {a:Act}
variable {U:List Nat} {b:Nat} {d:TypeDesc} {o:Oper} {p:AV} {t:TypeId} {x:Operand} {y:aP}
theorem Ff{α:Type}(l:List α)(off n j:Nat):((l.drop off).take n)[j]? =if j<n then l[off+j]? else none:=by
 rw[uI];split
 ·rw[nD]
 ·rfl
theorem Rel.cells(h:Rel N F M w0 st G H a w){n:Nat}{v:Value}{cs:List AC}(hv:VR w (aZ M st.slot G H) st.slot G H p v)(hc:st.cells U n (some p)=some cs):
  ∃b o us,v=.pointer (some ⟨b,o,none⟩)/\b<w.heap.size/\(∀s∈U,¬bl st.slot G H s b)/\w.rangeAt b o us/\cp w (aZ M st.slot G H) st.slot G H cs us/\us.length=n:=by
 cases p with
 |w x=>simp[St.cells] at hc
 |cg vs=>simp[St.cells] at hc
 |u=>simp[St.cells] at hc
 |pb s g off=>
  simp only[St.cells] at hc;split at hc
  case h_2=>cases hc
  rename_i g' cs' hs;split at hc
  case isFalse=>cases hc
  rename_i hg;obtain⟨rfl,hU,hlen⟩:=hg;simp only[aC] at hc;subst hc;obtain⟨_,hp⟩:=hv;obtain⟨_,_,arr,hb,hl,hr⟩:=h.bx s g cs' hs;refine⟨(G s).b,off,(arr.drop off).take n,hp cs' hs,hb.lt,fun s' dm jl=> ?_,fun j u hj=> ?_,⟨by simp;omega,fun j x u h1 h2=> ?_⟩,by simp;omega⟩
  ·have:=h.dj s s' _ (.inl ⟨g,cs',hs,rfl⟩) jl;subst this;exact hU dm
  ·rw[Ff] at hj;split at hj
   ·rw[hb.cell];simpa using hj
   ·cases hj
  ·rw[Ff] at h1 h2;split at h1
   ·rename_i hj;rw[aj hj] at h2;exact hr _ x u h1 h2
   ·cases h1
 |pr s g i off=>
  simp only[St.cells] at hc;split at hc
  case h_2=>cases hc
  rename_i e k g' es hs;split at hc
  case isFalse=>cases hc
  rename_i hg;obtain⟨rfl,hU⟩:=hg;split at hc
  case h_2=>cases hc
  rename_i row aW;split at hc
  case isFalse=>cases hc
  rename_i hlen;simp only[aC] at hc;subst hc;obtain⟨_,hp⟩:=hv;obtain⟨b,n',c',hH,rfl⟩:=hp e k es hs;obtain⟨_,xs,ho,hk,hx⟩:=h.rw s e k g es hs
  have aV:(H s).ownBlock=some b:=by rw[hH];rfl
  have hi:=(bG.1 aW).1;have tu:=ho.1;have lW:=hk i row aW;have hle:(i+1)*k<=es.length*k:=sW k hi;rw[wy,Nat.one_mul] at hle;refine⟨b,i*k+off,(xs.drop (i*k+off)).take n,rfl,(ho.lt b aV).2,fun s' dm jl=> ?_,fun j u hj=> ?_,⟨by simp;omega,fun j x u h1 h2=> ?_⟩,by simp;omega⟩
  ·have:=h.dj s s' _ (.inr (.inl ⟨e,k,g,es,hs,aV⟩)) jl;subst this;exact hU dm
  ·rw[Ff] at hj;split at hj
   ·have:=ho.cells aV _ _ hj;rwa[Addr.add_mid,eM] at this
   ·cases hj
  ·rw[Ff] at h1 h2;split at h1
   ·rename_i hj;rw[aj hj,Nat.add_assoc] at h2;exact(hx i row _ x u aW h1 h2).Fe
   ·cases h1
 |pi cs' off=>
  simp only[St.cells] at hc;split at hc
  case isFalse=>cases hc
  rename_i hlen;simp only[aC] at hc;subst hc;obtain⟨b,o,rfl,hlt,hA,us,hl,hx⟩:=hv;refine⟨b,o+off,(us.drop off).take n,rfl,hlt,fun s' _ jl=>hA (.inr ⟨s',jl⟩),fun j u hj=> ?_,⟨by simp;omega,fun j x u h1 h2=> ?_⟩,by simp;omega⟩
  ·rw[Ff] at hj;split at hj
   ·rename_i yl;have fb:=(bG.1 hj).1;have:=hx (off+j) (cs'[off+j]' ab) u ai hj;rw[Nat.add_assoc];exact this.2
   ·cases hj
  ·rw[Ff] at h1 h2;split at h1
   ·rename_i hj;rw[aj hj] at h2;exact(hx _ x u h1 h2).1.Fe
   ·cases h1
theorem acF{S:Nat->Slot}{w w':World}{o:Nat}{us:List Value}(hw:cJ U S G H w w')(hlt:b<w.heap.size)(hU:∀s∈U,¬bl S G H s b)(hr:w.rangeAt b o us):w'.rangeAt b o us:=fun j v hv=>by
 rw[Iu (hw b hlt hU)];exact hr j v hv
theorem anG(ho:o.op=.load t x)(hu:P.underlying t=some d)(hd:d.isRow=false)(hx:dv x y):
  jG P true o (fun st U=>match st.cells U 1 (st.arg y) with |some (c::_)=>some (.w (.c c))|_=>none):=by
 intro N F M w0 w st G H a U r h hr;dsimp only at hr;split at hr
 case h_2=>cases hr
 rename_i c cs hc;simp only[aC] at hr;subst hr
 cases hp:st.arg y with
 |none=>rw[hp] at hc;simp[St.cells] at hc
 |some p=>
  rw[hp] at hc;obtain⟨b,off,us,e1,hlt,hU,hr,hcs,hl⟩:=h.cells (h.arg hx hp) hc
  obtain⟨u,rfl⟩:∃u,us=[u]:=by
   match us,hl with
   |[u],_=>exact⟨u,rfl⟩
  refine⟨u,hcs.2 0 c u rfl rfl,fun w' hw=> ?_⟩;have hcell:=acF (hw rfl) hlt hU hr 0 u rfl;rw[uP] at hcell;unfold execOp
  have wK:(isAgg t).run P w'=.ok false w':=by
   unfold isAgg;rw[nX,lL hu]
   cases d<;>first|rfl|cases hd
  simp[ho,e1,Instr.loadAt,Instr.sureAddr,loadVar,wK,hcell]
theorem anH{n:Nat}(ho:o.op=.load t x)(hu:P.underlying t=some d)(hd:d.isRow=true)(hn:(P.info? t).map (·.size)=some n)(hx:dv x y):
  jG P true o (fun st U=>match st.cells U n (st.arg y) with |some cs=>some (.w (.agg cs))|_=>none):=by
 intro N F M w0 w st G H a U r h hr;dsimp only at hr;split at hr
 case h_2=>cases hr
 rename_i cs hc;simp only[aC] at hr;subst hr
 cases hp:st.arg y with
 |none=>rw[hp] at hc;simp[St.cells] at hc
 |some p=>
  rw[hp] at hc;obtain⟨b,off,us,e1,hlt,hU,hr,hcs,hl⟩:=h.cells (h.arg hx hp) hc;refine⟨.agg us.toArray,⟨us,rfl,hcs⟩,fun w' hw=> ?_⟩;unfold execOp;simp[ho,e1,run_loadAt_mid w' b off t us d (acF (hw rfl) hlt hU hr) hu hd (by rw[hl];exact hn)]
def AV.shift (k:Nat):AV->AV
 | .pb s g off=> .pb s g (off+k)
 | .pr s g i off=> .pr s g i (off+k)
 | .pi cs off=> .pi cs (off+k)
 |x=>x
theorem VR.shift{A:Nat->Prop}{S:Nat->Slot}{o k:Nat}(hp:∃c,st.cells [] 0 (some p)=some c)(hS:S=st.slot)(hv:VR w A S G H p (.pointer (some ⟨b,o,none⟩))):VR w A S G H (p.shift k) (.pointer (some ⟨b,o+k,none⟩)):=by
 subst hS;obtain⟨c,hp⟩:=hp
 cases p with
 |w x=>simp[St.cells] at hp
 |cg vs=>simp[St.cells] at hp
 |u=>simp[St.cells] at hp
 |pb s g off=>
  refine⟨hv.1,fun cs hs=> ?_⟩;have:=hv.2 cs hs;simp only[Value.pointer.injEq,aC,Addr.mk.injEq] at this;obtain⟨rfl,rfl,_⟩:=this;rfl
 |pr s g i off=>
  refine⟨hv.1,fun e k' es hs=> ?_⟩;obtain⟨b',n,c,h1,h2⟩:=hv.2 e k' es hs;simp only[Value.pointer.injEq,aC,Addr.mk.injEq] at h2;obtain⟨rfl,rfl,_⟩:=h2;exact⟨b,n,c,h1,by rw[Nat.add_assoc]⟩
 |pi cs off=>
  obtain⟨b',o',h2,h3⟩:=hv;simp only[Value.pointer.injEq,aC,Addr.mk.injEq] at h2;obtain⟨rfl,rfl,_⟩:=h2;exact⟨b,o',by rw[Nat.add_assoc],h3⟩
theorem anI{f:Nat}{fs:Array Field}{fd:Field}{z:Nat}(ho:o.op=.fieldAddr t x f)(hu:P.underlying t=some (.struct fs))(hf:fs[f]? =some fd)(hz:(P.info? fd.type).map (·.size)=some z)(dY:z≠0)(hx:dv x y):
  jG P false o (fun st _=>match st.cells [] 0 (st.arg y),st.arg y with |some _,some p=>some (p.shift fd.offset)|_,_=>none):=by
 intro N F M w0 w st G H a U r h hr;dsimp only at hr;split at hr
 case h_2=>cases hr
 rename_i cs p hc hp;simp only[aC] at hr;subst hr;rw[hp] at hc;obtain⟨b,off,us,e1,hlt,hU,hr,hcs,hl⟩:=h.cells (h.arg hx hp) hc;have hv:=h.arg hx hp;rw[e1] at hv;refine⟨_,VR.shift ⟨cs,hc⟩ rfl hv,fun w' hw=> ?_⟩
 have hsz:(sizeOf fd.type).run P w'=.ok z w':=by
  cases hi:P.info? fd.type with
  |none=>simp[hi] at hz
  |some i=>simp[hi] at hz;simp[sizeOf,typeInfo,hi,hz]
 unfold execOp;simp[ho,e1,Instr.fieldAt,lL hu,hf,Instr.sureAddr,fieldPlace,hsz,dY,Addr.add_mid]
end
def CF (k:Nat):Option (List (List AC))->Option AV->Option Value->Option AV
 |some es,some (.w (.c (.sl _))),some (.int _ n)=>if 0<=n/\n<es.length/\(es.getD n.toNat []).length=k then some (.pi (es.getD n.toNat []) 0) else none
 |some es,some (.w (.c (.own s g))),some (.int _ n)=>if 0<=n/\n<es.length/\(es.getD n.toNat []).length=k then some (.pr s g n.toNat 0) else none
 |_,_,_=>none
def PX (n k:Nat):Option (List AC)->Option AV->Option Value->Option AV
 |some _,some p,some (.int _ i)=>if 0<=i/\i<n then some (p.shift (i.toNat*k)) else none
 |_,_,_=>none
def LQ:Option Value->Option Nat
 |some (.int _ n)=>if 0<=n then some n.toNat else none
 |_=>none
section
variable {P:Program} {N:Nat} {F M:Nat->Prop} {w0:jX} {w:World} {st:St} {G:Nat->Gh} {H:Nat->Value} {a:Act}
variable {e t:TypeId} {k:Nat} {o:Oper} {q y:aP} {x z:Operand}
theorem Fg{z:Nat}(hz:(P.info? t).map (·.size)=some z)(w':World):(sizeOf t).run P w'=.ok z w':=by
 cases hi:P.info? t with
 |none=>simp[hi] at hz
 |some i=>simp[hi] at hz;simp[sizeOf,typeInfo,hi,hz]
theorem acG{mx:Bool}{x1 x2:Operand}{y1 y2:aP}{ts:Array TypeId}(ho:o.op=.call { callee:=.builtin (if mx then .max else .min),args:=#[x1,x2],argTypes:=ts })(h1:dv x1 y1)(h2:dv x2 y2):
  jG P false o (fun st _=>match st.sc y1,st.sc y2 with |some u,some v=>(Fc mx u v).map fun r=> .w (.c (.v r))|_,_=>none):=by
 intro N F M w0 w st G H a U r h hr;dsimp only at hr;split at hr
 case h_2=>cases hr
 rename_i u v hu hv;obtain⟨e1,s1⟩:=h.sc h1 hu;obtain⟨e2,s2⟩:=h.sc h2 hv;rw[bK] at hr;obtain⟨q,hq,rfl⟩:=hr;unfold Fc at hq;split at hq
 case h_2=>cases hq
 rename_i k x k' y;split at hq
 case isFalse=>cases hq
 rename_i hk;subst hk;simp only[aC] at hq;subst hq;refine⟨_,IR.v _ rfl,fun w' _=> ?_⟩;unfold execOp;cases mx
 ·have:min x y=if y<x then y else x:=ab;simp[ho,resolve,e1,e2,invoke,Go.builtin,Builtin.min_,Builtin.min2,this]
 ·have:max x y=if x<y then y else x:=ab;simp[ho,resolve,e1,e2,invoke,Go.builtin,Builtin.max_,Builtin.max2,this]
theorem anJ(ho:o.op=.indexAddr t x z)(hu:P.underlying t=some (.slice e))(hk:(P.info? e).map (·.size)=some k)(bj:0<k)(hx:dv x y)(hz:dv z q):
  jG P false o (fun st _=>CF k (st.rows [] (st.arg y)) (st.arg y) (st.sc q)):=by
 intro N F M w0 w st G H a U r h hr;dsimp only at hr
 have run:∀(w':World) (ad:Addr) (n c:Nat) (kk:IntKind) (i:Int),0<=i->i<n->a.eval x=.slice (some ad) n c->a.eval z=.int kk i->(execOp a.eval o).run P w'=.ok (.value (.pointer (some (ad.add (i.toNat*k))))) w':=by
  intro w' ad n c kk i h0 h1 e1 e2;unfold execOp;simp[ho,e1,e2,Instr.indexAt,asIntOf,lL hu,Fg hk,h0,h1]
 unfold CF at hr;split at hr
 ·rename_i es es' kk n vg hv hn;split at hr
  case isFalse=>cases hr
  rename_i hb;obtain⟨h0,h1,h2⟩:=hb;simp only[aC] at hr;subst hr;obtain⟨e2,_⟩:=h.sc hz hn;have h3:IR w (aZ M st.slot G H) (.sl es') (a.eval x):=h.arg hx hv;rw[hv] at vg;simp only[St.rows,aC] at vg;subst vg;generalize hq:a.eval x=qv at h3
  cases h3 with
  |sl k' _ ad c u np hm fA hc hl=>
   have IP:n.toNat<es'.length:=ab
   have aW:es'[n.toNat]? =some (es'.getD n.toNat []):=by rw[ff,cy IP];rfl
   generalize es'.getD n.toNat []=row at aW h2;have fM:=fA _ _ aW;rw[h2] at fM;subst fM;obtain⟨b,off,rfl,hA,hcell⟩:=hl n.toNat row 0 aW ab;have hlt:=eh _ _ hcell;refine⟨_,⟨b,off+n.toNat*k,rfl,hlt,hA,(List.range row.length).map (fun j=>u n.toNat j),ai,fun j x' u' g1 g2=> ?_⟩,fun w' _=> ?_⟩
   ·have hj:=(bG.1 g1).1;simp[hj] at g2;subst g2;refine⟨hc _ _ j x' aW g1,?_⟩;obtain⟨b',o',IJ,_,anK⟩:=hl n.toNat row j aW hj;simp only[aC,Addr.mk.injEq] at IJ;obtain⟨rfl,rfl,_⟩:=IJ;exact anK
   ·rw[run w' _ _ _ _ _ h0 h1 hq e2,Addr.add_mid,uP]
 ·rename_i es s g kk n vg hv hn;split at hr
  case isFalse=>cases hr
  rename_i hb;obtain⟨h0,h1,h2⟩:=hb;simp only[aC] at hr;subst hr;obtain⟨e2,_⟩:=h.sc hz hn;have h3:CR w (aZ M st.slot G H) st.slot G H (.own s g) (a.eval x):=h.arg hx hv;obtain⟨_,hg,hH⟩:=h3;rw[hv] at vg;simp only[St.rows] at vg;split at vg
  case h_2=>cases vg
  rename_i e' k' g' es' hs;split at vg
  case isFalse=>cases vg
  rename_i PY;obtain⟨rfl,_⟩:=PY;simp only[aC] at vg;subst vg;have CG:=hH e' k' es' hs;obtain⟨_,xs,how,fO,_⟩:=h.rw s e' k' g es' hs;obtain⟨b,cap,e3,_,_⟩:=how.form ab;have IP:n.toNat<es'.length:=ab
  have aW:es'[n.toNat]? =some (es'.getD n.toNat []):=by rw[ff,cy IP];rfl
  have fM:=fO _ _ aW;rw[h2] at fM;subst fM;refine⟨_,⟨hg,fun e2 k2 eu ic=> ?_⟩,fun w' _=>run w' _ _ _ _ _ h0 h1 (by rw[CG];exact e3) e2⟩;rw[hs] at ic;cases ic;exact⟨b,es'.length,cap,e3,by rw[Addr.add_mid,eM];rfl⟩
 ·cases hr
theorem anL{n:Nat}(ho:o.op=.indexAddr t x z)(hu:P.underlying t=some (.array n e))(hk:(P.info? e).map (·.size)=some k)(hx:dv x y)(hz:dv z q):
  jG P false o (fun st _=>PX n k (st.cells [] 0 (st.arg y)) (st.arg y) (st.sc q)):=by
 intro N F M w0 w st G H a U r h hr;dsimp only at hr;unfold PX at hr;split at hr
 case h_2=>cases hr
 rename_i cs p kk i hc hp hi;split at hr
 case isFalse=>cases hr
 rename_i hb;simp only[aC] at hr;subst hr;rw[hp] at hc;obtain⟨e2,_⟩:=h.sc hz hi;obtain⟨b,off,us,e1,hlt,hU,hr,hcs,hl⟩:=h.cells (h.arg hx hp) hc;have hv:=h.arg hx hp;rw[e1] at hv;refine⟨_,VR.shift ⟨cs,hc⟩ rfl hv,fun w' hw=> ?_⟩;unfold execOp;simp[ho,e1,e2,Instr.indexAt,asIntOf,lL hu,Instr.sureAddr,Fg hk,hb.1,hb.2,Addr.add_mid]
theorem anM{i:Nat}(ho:o.op=.extract x i)(hx:dv x y):jG P false o (fun st _=>match st.arg y with |some (.cg vs)=>(vs[i]?).map .w|_=>none):=by
 intro N F M w0 w st G H a U r h hr;dsimp only at hr;split at hr
 case h_2=>cases hr
 rename_i vs hv;rw[bK] at hr;obtain⟨q,hq,rfl⟩:=hr;obtain⟨arr,e1,hl,hw⟩:=h.arg hx hv;have hi:=(bG.1 hq).1
 obtain⟨u,hu⟩:∃u,arr[i]? =some u:=⟨arr[i]' ab,ai⟩
 refine⟨u,hw i q u hq hu,fun w' _=> ?_⟩;unfold execOp;simp[ho,e1,Instr.extract,hu]
theorem anN(ho:o.op=.index t x z)(hu:P.underlying t=some .string)(hx:dv x y)(hz:dv z q):
  jG P false o (fun st _=>match st.sc y,st.sc q with |some (.string s),some (.int _ n)=>if h:0<=n/\n.toNat<s.size then some (.w (.c (.v (.int .u8 (s.get n.toNat h.2).toNat)))) else none|_,_=>none):=by
 intro N F M w0 w st G H a U r h hr;dsimp only at hr;split at hr
 case h_2=>cases hr
 rename_i s kk n hs hn;split at hr
 case isFalse=>cases hr
 rename_i hb;simp only[aC] at hr;subst hr;obtain⟨e1,_⟩:=h.sc hx hs;obtain⟨e2,_⟩:=h.sc hz hn;refine⟨_,IR.v _ rfl,fun w' _=> ?_⟩;unfold execOp;have h2:n<s.size:=ab;simp[ho,e1,e2,Instr.index,asIntOf,lL hu,hb.1,h2];rfl
theorem Vi(w:World)(n c l h:Nat)(lo hi:Option Value)(nI:(lo=none/\l=0)\/∃k,lo=some (.int k l))(iE:(hi=none/\h=n)\/∃k,hi=some (.int k h))(h1:l<=h)(h2:h<=n)(h3:n<=c):
  (Instr.sliceBounds true n c lo hi none).run P w=.ok (l,h,c) w:=by
 have e1:∀(k:IntKind) (code:BoundsCode),(Instr.sliceBound (.int k h) c code).run P w=.ok h w:=fun k code=>by rw[run_sliceBound w k h c code ab ab];simp
 have e2:∀(k:IntKind) (code:BoundsCode),(Instr.sliceBound (.int k l) h code).run P w=.ok l w:=fun k code=>by rw[run_sliceBound w k l h code ab ab];simp
 rcases nI with⟨rfl,rfl⟩|⟨k,rfl⟩<;>rcases iE with⟨rfl,rfl⟩|⟨k',rfl⟩<;>simp[Instr.sliceBounds,e1,e2]
end
section
variable {P:Program} {N:Nat} {F M:Nat->Prop} {w0:jX} {w:World} {st:St} {G:Nat->Gh} {H:Nat->Value} {a:Act}
theorem anO {A:Nat->Prop}{es:List (List AC)}{ad:Option Addr}{n c l h k:Nat}(h1:l<=h)(h2:h<=es.length)(hk:∀(i:Nat) (row:List AC),es[i]? =some row->row.length=k)(hr:IR w A (.sl es) (.slice ad n c)):
  IR w A (.sl ((es.take h).drop l)) (.slice (if c=l then ad else ad.map (·.add (l*k))) (h-l) (c-l)):=by
 cases hr with
 |sl k' _ _ _ u hn hm fA hc hl=>
  have hlen:((es.take h).drop l).length=h-l:=bC
  have pA:∀i row,((es.take h).drop l)[i]? =some row->es[l+i]? =some row/\i<h-l:=by
   intro i row hi;have:=(bG.1 hi).1;rw[nD,uI] at hi;split at hi
   ·exact⟨hi,ab⟩
   ·cases hi
  rw[<-hlen];refine IR.sl k _ _ _ (fun i j=>u (l+i) j) ab ab (fun i row hi=>hk _ _ (pA i row hi).1) (fun i row j x hi hj=>hc _ row j x (pA i row hi).1 hj) (fun i row j hi hj=> ?_);obtain⟨hi',hlt⟩:=pA i row hi;have fM:=hk _ _ hi';have nJ:=fA _ _ hi';have Vj:k'=k:=ab;subst Vj;obtain⟨b,o,rfl,hA,hcell⟩:=hl _ row j hi' hj;refine⟨b,o+l*k',?_,hA,?_⟩
  ·rw[af ab];simp[Addr.add_mid]
  ·rw[wy] at hcell;rw[show o+l*k'+i*k'+j=o+(l*k'+i*k')+j by omega];exact hcell
def CH (st:St):Option aP->Option Nat
 |none=>some 0
 |some y=>LQ (st.sc y)
def vh (st:St)(n:Nat):Option aP->Option Nat
 |none=>some n
 |some y=>LQ (st.sc y)
def IQ:Option Operand->Option aP->Prop
 |none,none=>True
 |some x,some y=>dv x y
 |_,_=>False
theorem Rel.bound (h:Rel N F M w0 st G H a w){x:Operand}{y:aP}(hx:dv x y){n:Nat}(hb:LQ (st.sc y)=some n):∃k,a.eval x=.int k n:=by
 unfold LQ at hb;split at hb
 ·rename_i k i hi;split at hb
  ·rename_i h0;simp only[aC] at hb;obtain⟨e,_⟩:=h.sc hx hi;exact⟨k,by rw[e];congr 1;omega⟩
  ·cases hb
 ·cases hb
theorem anP {o:Oper}{t e:TypeId}{x:Operand}{y:aP}{lo hi:Option Operand}{pC hi':Option aP}{k:Nat}(ho:o.op=.slice t x lo hi none)(hu:P.underlying t=some (.slice e))(hk:(P.info? e).map (·.size)=some k)(hx:dv x y)(nI:IQ lo pC)(iE:IQ hi hi'):
  jG P false o (fun st _=>match st.arg y with
   |some (.w (.c (.sl es)))=>match CH st pC,vh st es.length hi' with
    |some l,some h=>if l<=h/\h<=es.length/\∀row∈es,row.length=k then some (.w (.c (.sl ((es.take h).drop l)))) else none
    |_,_=>none
   |_=>none):=by
 intro N F M w0 w st G H a U r h hr;dsimp only at hr;split at hr
 case h_2=>cases hr
 rename_i es hv;split at hr
 case h_2=>cases hr
 rename_i l hh cq wL;split at hr
 case isFalse=>cases hr
 rename_i hb;obtain⟨h1,h2,h3⟩:=hb;simp only[aC] at hr;subst hr;have PZ:IR w (aZ M st.slot G H) (.sl es) (a.eval x):=h.arg hx hv
 have fA:∀(i:Nat) (row:List AC),es[i]? =some row->row.length=k:=fun i row hi=>h3 row (dD hi)
 obtain⟨ad,c,e1,lu,_⟩:=h.rows (U:=[]) hx (es:=es) (by rw[hv];rfl);rw[e1] at PZ;refine⟨_,anO h1 h2 fA PZ,fun w' _=> ?_⟩
 have Vk:((lo.map a.eval)=none/\l=0)\/∃k,lo.map a.eval=some (.int k l):=by
  cases lo with
  |none=>cases pC with
   |none=>simp[CH] at cq;exact .inl ⟨rfl,cq.symm⟩
   |some=>exact nI.elim
  |some p=>cases pC with
   |none=>exact nI.elim
   |some q=>
    obtain⟨k,e⟩:=h.bound nI cq;exact .inr ⟨k,by simp[e]⟩
 have IU:((hi.map a.eval)=none/\hh=es.length)\/∃k,hi.map a.eval=some (.int k hh):=by
  cases hi with
  |none=>cases hi' with
   |none=>simp[vh] at wL;exact .inl ⟨rfl,wL.symm⟩
   |some=>exact iE.elim
  |some p=>cases hi' with
   |none=>exact iE.elim
   |some q=>
    obtain⟨k,e⟩:=h.bound iE wL;exact .inr ⟨k,by simp[e]⟩
 unfold execOp;simp[ho,e1,Instr.sliceAt,Instr.slice,lL hu,Vi w' es.length c l hh _ _ Vk IU h1 h2 lu,Fg hk]
def AW.cells:AW->List AC
 | .c x=>[x]
 | .agg cs=>cs
def mF:List AC->List (Nat×Nat×List AC)->Option (List AC)
 |z,[]=>some z
 |z,(off,size,cs)::r=>if cs.length=size/\off+size<=z.length then mF (z.take off++cs++z.drop (off+size)) r else none
theorem acH (off:Nat):∀(l:List Value) (i:Nat) (cs:Array Value),(l.zipIdx i).foldl (fun(cs:Array Value) (p:Value×Nat)=>cs.setIfInBounds (off+p.2) p.1) cs=Cw cs (off+i) l
 |[],i,cs=>rfl
 |v::l,i,cs=>by
  rw[List.zipIdx_cons,yi,Cw,acH off l (i+1)];rfl
end
section
variable {P:Program} {N:Nat} {F M:Nat->Prop} {w0:jX} {w:World} {st:St} {G:Nat->Gh} {H:Nat->Value} {a:Act}
variable {A:Nat->Prop} {c:List AC} {pl:Nat->Option (Nat×Nat)} {t:TypeId} {u z:List Value} {v:Value} {x:AC}
theorem acI(l:List Value)(cs:Array Value)(o:Nat)(h:o+l.length<=cs.size):(Cw cs o l).toList=cs.toList.take o++l++cs.toList.drop (o+l.length):=by
 apply wm;intro j;rw[Array.getElem?_toList,anu l cs o h];have hz:cs.toList.length=cs.size:=ai;by_cases h1:j<o
 ·rw[af ab,List.append_assoc,lJ (by rw[dS];omega),uI,aj h1];simp
 ·by_cases h2:j<o+l.length
  ·rw[aj ab,lJ (by rw[List.length_append,dS];omega),jz (by rw[dS];omega),dS,EM ab]
  ·rw[af ab,jz (by rw[List.length_append,dS];omega),nD,List.length_append,dS,EM ab,
    show o+l.length+(j-(o+l.length))=j by omega]
   simp
theorem cp.app{S:Nat->Slot}{c1 c2:List AC}{u1 u2:List Value}(h1:cp w A S G H c1 u1)(h2:cp w A S G H c2 u2):cp w A S G H (c1++c2) (u1++u2):=by
 refine⟨by rw[List.length_append,List.length_append,h1.1,h2.1],fun j x u e1 e2=> ?_⟩;by_cases hj:j<c1.length
 ·rw[lJ hj] at e1;rw[lJ (by rw[h1.1];exact hj)] at e2;exact h1.2 j x u e1 e2
 ·rw[jz ab] at e1;rw[jz (by rw[h1.1];omega),h1.1] at e2;exact h2.2 _ x u e1 e2
theorem cp.take{S:Nat->Slot}(h:cp w A S G H c u)(n:Nat):cp w A S G H (c.take n) (u.take n):=by
 refine⟨by rw[dS,dS,h.1],fun j x v e1 e2=> ?_⟩;rw[uI] at e1 e2;split at e1
 ·rename_i hj;rw[aj hj] at e2;exact h.2 j x v e1 e2
 ·cases e1
theorem cp.drop{S:Nat->Slot}(h:cp w A S G H c u)(n:Nat):cp w A S G H (c.drop n) (u.drop n):=by
 refine⟨by rw[nf,nf,h.1],fun j x v e1 e2=> ?_⟩;rw[nD] at e1 e2;exact h.2 _ x v e1 e2
theorem WR.cells{S:Nat->Slot}{x:AW}(h:WR w A S G H x v):cp w A S G H x.cells v.cells.toList:=by
 cases x with
 |c x=>
  have ho:=CR.one h
  have hv:v.cells=#[v]:=by cases v<;>first|rfl|cases ho
  rw[hv];refine⟨rfl,fun j y u e1 e2=> ?_⟩
  cases j with
  |zero=>
   have IV:x=y:=ei e1;have Vl:v=u:=ei e2;rw[<-IV,<-Vl];exact h
  |succ j=>simp[AW.cells] at e1
 |agg cs=>
  obtain⟨arr,rfl,h⟩:=h;exact h
theorem Vm (place:Nat->Option (Nat×Nat)){A:Nat->Prop}{S:Nat->Slot}:∀(parts:List (Nat×Value)) (pa:List (Nat×Nat×List AC)) (cells:Array Value) (z r:List AC),cp w A S G H z cells.toList->parts.length=pa.length->
  (∀(i:Nat) (p:Nat×Value) (q:Nat×Nat×List AC),parts[i]? =some p->pa[i]? =some q->place p.1=some (q.1,q.2.1)/\cp w A S G H q.2.2 p.2.cells.toList)->mF z pa=some r->∃out,Instr.fill place cells parts=some out/\cp w A S G H r out.toList
 |[],[],cells,z,r,hz,_,_,hf=>by
  simp only[mF,aC] at hf;subst hf;exact⟨cells,rfl,hz⟩
 |(i,v)::parts,(off,size,cs)::pa,cells,z,r,hz,hl,hp,hf=>by
  obtain⟨h1,h2⟩:=hp 0 _ _ rfl rfl;dsimp only at h1 h2;unfold mF at hf;split at hf
  case isFalse=>cases hf
  rename_i hc
  have e1:v.cells.size=size:=by have:=h2.1;simp at this;omega
  have e2:z.length=cells.size:=by have:=hz.1;simp at this;omega
  have jm:(v.cells.zipIdx.foldl (fun cs (c,j)=>cs.setIfInBounds (off+j) c) cells).toList=cells.toList.take off++v.cells.toList++cells.toList.drop (off+size):=by
   have:=acH off v.cells.toList 0 cells;rw[<-Array.foldl_toList,Array.toList_zipIdx,this,uP,acI _ _ _ bC];simp[e1]
  have hn:cp w A S G H (z.take off++cs++z.drop (off+size)) (v.cells.zipIdx.foldl (fun cs (c,j)=>cs.setIfInBounds (off+j) c) cells).toList:=by
   rw[jm];exact((hz.take off).app h2).app (hz.drop _)
  obtain⟨out,e3,e4⟩:=Vm place parts pa _ _ r hn (by simpa using hl) (fun j p q g1 g2=>hp (j+1) p q g1 g2) hf;refine⟨out,?_,e4⟩;simp only[Instr.fill,h1,e1,ne_eq,not_true_eq_false,false_or];rw[af bC];exact e3
 |[],_::_,_,_,_,_,hl,_,_=>by simp at hl
 |_::_,[],_,_,_,_,hl,_,_=>by simp at hl
def Vn:Value->Option AC
 | .slice none 0 0=>some (.sl [])
 |v=>if Cx v then some (.v v) else none
theorem anQ{S:Nat->Slot}(h:Vn v=some x):CR w A S G H x v:=by
 unfold Vn at h;split at h
 ·simp only[aC] at h;subst h;exact IR.sl 0 [] none 0 (fun _ _=>undef) aA ai (by intro i row h;simp at h) (by intro i row j x h;simp at h) (by intro i row j h;simp at h)
 ·split at h
  ·rename_i hs;simp only[aC] at h;subst h;exact IR.v _ hs
  ·cases h
def Vo:Value->Option AC
 | .slice none 0 0=>some (.v (.slice none 0 0))
 |_=>none
theorem anR{S:Nat->Slot}(h:Vo v=some x):CR w A S G H x v:=by
 unfold Vo at h;split at h
 ·simp only[aC] at h;subst h;exact IR.v _ rfl
 ·cases h
def Av (ns:List Nat):Nat->List Value->Option (List AC)
 |_,[]=>some []
 |i,v::l=>match(if ns.contains i then Vo v else Vn v),Av ns (i+1) l with
  |some x,some r=>some (x::r)
  |_,_=>none
abbrev CI (l:List Value):Option (List AC):=Av [] 0 l
theorem Qa {A:Nat->Prop}{S:Nat->Slot}{ns:List Nat}:∀{l:List Value} {i:Nat} {r:List AC},Av ns i l=some r->cp w A S G H r l
 |[],i,r,h=>by
  simp only[Av,aC] at h;subst h;exact⟨rfl,fun j x u e=>by simp at e⟩
 |v::l,i,r,h=>by
  unfold Av at h;split at h
  case h_2=>cases h
  rename_i x r' h1 h2;simp only[aC] at h;subst h
  have hx:CR w A S G H x v:=by
   split at h1
   ·exact anR h1
   ·exact anQ h1
  exact cp.app (c1:=[x]) (u1:=[v]) ⟨rfl,fun j y u e1 e2=>by
   cases j with
   |zero=>simp at e1 e2;subst e1;subst e2;exact hx
   |succ j=>simp at e1⟩ (Qa h2)
theorem Vp{S:Nat->Slot}{l:List Value}{r:List AC}(h:CI l=some r):cp w A S G H r l:=Qa h
def placesOf (P:Program)(t:TypeId):Option (Nat->Option (Nat×Nat)):=match P.underlying t with
 |some (.array _ e)=>(P.info? e).map fun ie=>fun i=>some (i*ie.size,ie.size)
 |some (.struct fields)=>(fields.toList.mapM (fun f=>(P.info? f.type).map fun i=>(f.offset,i.size))).map fun l=>fun i=>l.toArray[i]?
 |_=>none
def zeroOf (P:Program)(t:TypeId):Option (List Value):=(P.info? t).bind fun i=>i.zero.map fun z=>z.cells.toList
theorem anS{parts:List (Nat×Value)}{out:Array Value}(h1:placesOf P t=some pl)(h2:zeroOf P t=some z)(h3:Instr.fill pl z.toArray parts=some out):P.built t parts=some out:=by
 unfold placesOf at h1;unfold zeroOf at h2;unfold Program.built
 cases hi:P.info? t with
 |none=>simp[hi] at h2
 |some it=>
  simp only[hi,Lu,bK] at h2;obtain⟨zv,hz,rfl⟩:=h2;split at h1
  ·rename_i n e hu;rw[bK] at h1;obtain⟨ie,Fh,rfl⟩:=h1;simp only[hu,hz,Fh];simpa using h3
  ·rename_i fields hu;rw[bK] at h1;obtain⟨l,hl,rfl⟩:=h1;simp only[hu,hz,hl];simpa using h3
  ·cases h1
def pD (st:St):List (Nat×Nat×aP)->Option (List (Nat×Nat×List AC))
 |[]=>some []
 |(off,size,y)::r=>match st.arg y,pD st r with
  |some (.w x),some q=>some ((off,size,x.cells)::q)
  |_,_=>none
def Fi (pl:Nat->Option (Nat×Nat)):List (Nat×Operand)->List (Nat×Nat×aP)->Prop
 |[],[]=>True
 |(i,x)::r,(off,size,y)::q=>pl i=some (off,size)/\dv x y/\Fi pl r q
 |_,_=>False
theorem Rel.parts(h:Rel N F M w0 st G H a w)(pl:Nat->Option (Nat×Nat)):∀{ps:List (Nat×Operand)} {qs:List (Nat×Nat×aP)} {r:List (Nat×Nat×List AC)},Fi pl ps qs->pD st qs=some r->
  ps.length=r.length/\∀(i:Nat) (p:Nat×Value) (q:Nat×Nat×List AC),(ps.map fun(i,x)=>(i,a.eval x))[i]? =some p->r[i]? =some q->pl p.1=some (q.1,q.2.1)/\cp w (aZ M st.slot G H) st.slot G H q.2.2 p.2.cells.toList
 |[],[],r,_,hr=>by
  simp only[pD,aC] at hr;subst hr;exact⟨rfl,fun i p q e=>by simp at e⟩
 |(i,x)::ps,(off,size,y)::qs,r,hp,hr=>by
  obtain⟨h1,h2,h3⟩:=hp;unfold pD at hr;split at hr
  case h_2=>cases hr
  rename_i xw q hv hq;simp only[aC] at hr;subst hr;obtain⟨e1,e2⟩:=Rel.parts h pl h3 hq;refine⟨by simp[e1],fun j p q' g1 g2=> ?_⟩
  cases j with
  |zero=>
   simp at g1 g2;subst g1;subst g2;exact⟨h1,WR.cells (h.arg h2 hv)⟩
  |succ j=>exact e2 j p q' (by simpa using g1) (by simpa using g2)
 |[],_::_,_,hp,_=>hp.elim
 |_::_,[],_,hp,_=>hp.elim
theorem anT{o:Oper}{ps:Array (Nat×Operand)}{qs:List (Nat×Nat×aP)}{za:List AC}{ns:List Nat}(ho:o.op=.build t ps)(h1:placesOf P t=some pl)(h2:zeroOf P t=some z)(h3:Av ns 0 z=some za)(hp:Fi pl ps.toList qs):
  jG P false o (fun st _=>match pD st qs with |some r=>(mF za r).map fun cs=> .w (.agg cs)|none=>none):=by
 intro N F M w0 w st G H a U r h hr;dsimp only at hr;split at hr
 case h_2=>cases hr
 rename_i r' CJ;rw[bK] at hr;obtain⟨cs,hf,rfl⟩:=hr;obtain⟨e1,e2⟩:=h.parts pl hp CJ;obtain⟨out,e3,e4⟩:=Vm (w:=w) (H:=H) (A:=aZ M st.slot G H) (S:=st.slot) pl _ r' z.toArray za cs (by simpa using Qa h3) (by simpa using e1) e2 hf;have hb:=anS h1 h2 e3;refine⟨.agg out,⟨out.toList,ai,e4⟩,fun w' _=> ?_⟩;unfold execOp;simp only[ho,nX];rw[run_build w' t (ps.map fun(i,x)=>(i,a.eval x)) out (by simpa using hb)];rfl
end
abbrev Fj:=St->(AV->St->Prop)->Prop
def nK (P:Program)(U:Option (List Nat))(o:Oper)(vm:Fj):Prop:=
 ∀(N:Nat) (F M:Nat->Prop) (w0:jX) (w:World) (st:St) (G:Nat->Gh) (H:Nat->Value) (a:Act) (X:AV->St->Prop),Rel N F M w0 st G H a w->vm st X->
  ∀(K:Act->World->Prop) (Q:Exit->Act->World->Prop),(∀x st' G' H' v w',X x st'->Rel N F M w0 st' G' H' a w'->Cz U st.slot G H w st'.slot G' H' w'->VR w' (aZ M st'.slot G' H') st'.slot G' H' x v->K (a.put o.dst v) w')->Oper.wp P o a w K Q
section
variable {P:Program} {N:Nat} {F M:Nat->Prop} {w0:jX} {w:World} {st:St} {G:Nat->Gh} {H:Nat->Value} {a:Act}
variable {A:Nat->Prop} {U:Option (List Nat)} {o:Oper}
theorem acJ{mem:Bool}{ev:St->List Nat->Option AV}(h:jG P mem o ev):nK P U o (fun st X=>∃x,ev st []=some x/\X x st):=by
 intro N F M w0 w st G H a X hR hs K Q hK;obtain⟨x,hx,hX⟩:=hs;obtain⟨v,hv,hrun⟩:=h N F M w0 w st G H a [] x hR hx;unfold Oper.wp;rw[hrun w (fun _ b _ _=>rfl)];exact hK x st G H v w hX hR (LO aA fun _ _=>rfl) hv
theorem anU(w:World)(b o:Nat)(ty:TypeId)(v:Value)(ht:w.there b o v.cells.size)(hi:(P.info? ty).map (·.size)=some v.cells.size)(h1:v.cells.toList.all Value.oneCell'=true):
  (storeVar ty ⟨b,o,none⟩ v).run P w=.ok () (w.setCells b o v.cells.toList):=by
 have:=run_storeCells_cells (P:=P) b o v.cells.toList 0 w (fun j hj=>by simpa using(ht j (by simpa using hj)).1) (fun j hj=>by simpa using(ht j (by simpa using hj)).2)
  (fun u hv=>fg.1 h1 u hv)
 simp only[uP] at this;simp[storeVar,Fg hi,this]
def inl:AC->Bool
 | .v _=>true
 | .sl _=>true
 | .fc _ _=>true
 |_=>false
def St.store (st:St)(xs:List AC):Option AV->Option St
 |some (.pb s g off)=>match aH st.S s with
  |some (.box g' cs)=>if g=g'/\off+xs.length<=cs.length then some (st.bR s (.box g (cs.take off++xs++cs.drop (off+xs.length)))) else none
  |_=>none
 |some (.pr s g i off)=>match aH st.S s with
  |some (.row e k g' es)=>if g=g'/\xs.all inl=true then match es[i]? with
    |some row=>if off+xs.length<=row.length then some (st.bR s (.row e k g (es.set i (row.take off++xs++row.drop (off+xs.length))))) else none
    |none=>none
   else none
  |_=>none
 |_=>none
theorem Qb{s:Nat}{x:Slot}(h:aH st.S s=some x):st.slot s=x/\(aH st.S s).isSome=true:=by unfold St.slot;rw[h];exact⟨rfl,rfl⟩
theorem cp.all{S:Nat->Slot}{cs:List AC}{us:List Value}(h:cp w A S G H cs us):us.all Value.oneCell'=true:=by
 rw[fg];intro u hu;obtain⟨j,hj⟩:=yb hu;have hl:=(bG.1 hj).1;exact CR.one (h.2 j (cs[j]'(by rw[<-h.1];exact hl)) u ai hj)
theorem CR.ir{S:Nat->Slot}{x:AC}{u:Value}(h:CR w A S G H x u)(hi:inl x=true):IR w A x u:=by
 cases x with
 |own s g=>cases hi
 |cB s g=>cases hi
 |part s g i=>cases hi
 |cls f bP=>cases hi
 |v x=>exact h
 |sl es=>exact h
 |fc f bP=>exact h
def Qc (xs:List Value)(o:Nat):List Value->List Value
 |[]=>xs
 |v::r=>Qc (xs.set o v) (o+1) r
theorem anV(l:List Value):∀(xs:List Value) (o:Nat),o+l.length<=xs.length->∀j,(Qc xs o l)[j]? =if o<=j/\j<o+l.length then l[j-o]? else xs[j]? :=by
 induction l with
 |nil=>intro xs o _ j;rw[af (by simp only[List.length_nil];omega)];rfl
 |cons v l ih=>
  intro xs o ho j;simp only[List.length_cons] at ho⊢;rw[Qc,ih _ _ (by rw[List.length_set];omega)];by_cases h1:o+1<=j/\j<o+1+l.length
  ·rw[aj h1,aj ab,show j-o=(j-(o+1))+1 by omega,Iq]
  ·rw[af h1];by_cases h2:j=o
   ·subst h2;rw[aj ab,Nat.sub_self,Ir,zW ab]
   ·rw[af ab,sX (Ne.symm h2)]
theorem acK {e k g n cap:Nat}:∀(l:List Value) {w:World} {xs:List Value} (o:Nat),w.ownsRow 0 e k (.slice (some ⟨g,0,none⟩) n cap) n xs->
  (w.setCells g o l).ownsRow 0 e k (.slice (some ⟨g,0,none⟩) n cap) n (Qc xs o l)/\w.grownBy (w.setCells g o l) (some g)
 |[],w,xs,o,h=>⟨h,⟨rfl,rfl,rfl,cI _,fun _ _ _=>rfl⟩⟩
 |v::l,w,xs,o,h=>by
  obtain⟨h1,h2⟩:=h.stored o v;obtain⟨h3,h4⟩:=acK l (o+1) h1;exact⟨h3,h2.trans h4⟩
def LR:Option AV->Option Nat
 |some (.pb s _ _)=>some s
 |some (.pr s _ _ _)=>some s
 |_=>none
theorem acL{t:TypeId}{x z:Operand}{y q:aP}{n:Nat}(ho:o.op=.store t x z)(hn:(P.info? t).map (·.size)=some n)(hx:dv x y)(hz:dv z q):
  nK P U o (fun st X=>∃xw st',st.arg q=some (.w xw)/\xw.cells.length=n/\st.store xw.cells (st.arg y)=some st'/\(∀s,LR (st.arg y)=some s->wJ U s)/\X .u st'):=by
 intro N F M w0 w st G H a X hR hs K Q hK;obtain⟨xw,st',e1,e2,e3,dF,hX⟩:=hs;have hw:=WR.cells (hR.arg hz e1);generalize aF:a.eval z=v at hw
 have hsz:v.cells.size=n:=by have:=hw.1;simp at this;omega
 have fin:∀b off,a.eval x=.pointer (some ⟨b,off,none⟩)->w.there b off v.cells.size->(∃G' H',Rel N F M w0 st' G' H' a (w.setCells b off v.cells.toList)/\Cz U st.slot G H w st'.slot G' H' (w.setCells b off v.cells.toList))->Oper.wp P o a w K Q:=by
  intro b off ep Vq ⟨G',H',bI,hst⟩;unfold Oper.wp execOp;simp only[ho,aF,ep,Instr.storeAt,Instr.sureAddr,nX,rP,qw,anU w b off t v Vq (by rw[hsz];exact hn) (cp.all hw)];exact hK .u st' G' H' _ _ hX bI hst trivial
 cases hp:st.arg y with
 |none=>rw[hp] at e3;simp[St.store] at e3
 |some p=>
  rw[hp] at e3 dF;have hv:=hR.arg hx hp
  cases p with
  |w x=>simp[St.store] at e3
  |cg vs=>simp[St.store] at e3
  |u=>simp[St.store] at e3
  |pi cs off=>simp[St.store] at e3
  |pb s g off=>
   simp only[St.store] at e3;split at e3
   case h_2=>cases e3
   rename_i g' cs hs;split at e3
   case isFalse=>cases e3
   rename_i hc;obtain⟨rfl,hlen⟩:=hc;simp only[aC] at e3;subst e3;obtain⟨eP,ic⟩:=Qb hs;obtain⟨_,Aw⟩:=hv;obtain⟨_,_,arr,hb,hcs⟩:=hR.bx s g cs eP;have tw:arr.length=cs.length:=hcs.1;refine fin (G s).b off (Aw cs eP) (ant hb bC) ⟨G,H,?_⟩;obtain⟨f1,f2,f3⟩:=acC v.cells.toList off hb
   have LS:∀b,b<w.heap.size->¬bl st.slot G H s b->(w.setCells (G s).b off v.cells.toList).heap[b]? =w.heap[b]? :=(fun b hlt hl=>f2.block b hlt (fun e=>hl (by simp at e;subst e;exact .inl ⟨g,cs,eP,rfl⟩)))
   have LU:∀b,bl (st.bR s (.box g (cs.take off++xw.cells++cs.drop (off+xw.cells.length)))).slot G H s b->bl st.slot G H s b\/w.heap.size<=b:=fun b hl=>by
    rcases hl with⟨g2,ot,h1,h2⟩|⟨e,k,g2,es,h1,h2⟩|⟨g2,K2,h1,h2⟩
    ·exact .inl (.inl ⟨g,cs,eP,h2⟩)
    ·rw[St.lV,aj ⟨rfl,ic⟩] at h1;cases h1
    ·rw[St.lV,aj ⟨rfl,ic⟩] at h1;cases h1
   refine⟨?_,PW s _ (fun _ _=>rfl) (fun _ _=>rfl) f2.size LS LU (.inl (dF s rfl))⟩
   refine hR.PV s _ ic (fun _ _=>rfl) (fun _ _=>rfl) f2.os f2.tape f2.output f2.size LS LU (by rw[eP];exact cI _)
    (fun e k g es h=>by cases h) (fun g2 ot h _=>by cases h;exact⟨⟨cs,eP⟩,rfl⟩) (fun g2 K2 h=>by cases h) (fun m g2 ot h=> ?_) (fun m e k g es h=>by cases h) (fun m g2 K2 h=>by cases h)
   ·cases h;refine⟨_,f1,?_⟩
    have jm:(Cw arr.toArray off v.cells.toList).toList=arr.take off++v.cells.toList++arr.drop (off+xw.cells.length):=by
     rw[acI _ _ _ bC];simp[hsz,e2]
    have:=((cp.mv m (hcs.take off)).app (cp.mv m hw)).app (cp.mv m (hcs.drop (off+xw.cells.length)));rw[<-jm] at this;simpa using this
  |pr s g i off=>
   simp only[St.store] at e3;split at e3
   case h_2=>cases e3
   rename_i e k g' es hs;split at e3
   case isFalse=>cases e3
   rename_i hc;obtain⟨rfl,anW⟩:=hc;split at e3
   case h_2=>cases e3
   rename_i row aW;split at e3
   case isFalse=>cases e3
   rename_i hlen;simp only[aC] at e3;subst e3;obtain⟨eP,ic⟩:=Qb hs;obtain⟨_,Aw⟩:=hv;obtain⟨b,n1,c1,hH,ep⟩:=Aw e k es eP;obtain⟨hnF,xs,how,fO,IW⟩:=hR.rw s e k g es eP
   have aV:(H s).ownBlock=some b:=by rw[hH];rfl
   have hi:=(bG.1 aW).1;have lW:=fO i row aW;have tu:=how.1;have hle:(i+1)*k<=es.length*k:=sW k hi;rw[wy,Nat.one_mul] at hle;obtain⟨b',cap,e4,_,_⟩:=how.form ab
   have br:b'=b:=by rw[e4] at aV;simpa [Value.ownBlock] using aV
   subst br;have Qd:=how;rw[e4] at Qd
   have Vq:w.there b' (i*k+off) v.cells.size:=fun j hj=>by
    refine⟨?_,Qd.frozenAt _⟩;rw[Qd.cellAt _ ab];simp;omega
   refine fin b' (i*k+off) ep Vq ⟨G,H,?_⟩;obtain⟨f1,f2⟩:=acK v.cells.toList (i*k+off) Qd;rw[<-e4] at f1;have tA:v.cells.toList.length=xw.cells.length:=bC
   have LS:∀b,b<w.heap.size->¬bl st.slot G H s b->(w.setCells b' (i*k+off) v.cells.toList).heap[b]? =w.heap[b]? :=(fun b hlt hl=>f2.block b hlt (fun e'=>hl (by simp at e';subst e';exact .inr (.inl ⟨e,k,g,es,eP,aV⟩))))
   have LU:∀b,bl (st.bR s (.row e k g (es.set i (row.take off++xw.cells++row.drop (off+xw.cells.length))))).slot G H s b->bl st.slot G H s b\/w.heap.size<=b:=fun b hl=>by
    rcases hl with⟨g2,ot,h1,h2⟩|⟨e2,k2,g2,eu,h1,h2⟩|⟨g2,K2,h1,h2⟩
    ·rw[St.lV,aj ⟨rfl,ic⟩] at h1;cases h1
    ·exact .inl (.inr (.inl ⟨e,k,g,es,eP,h2⟩))
    ·rw[St.lV,aj ⟨rfl,ic⟩] at h1;cases h1
   refine⟨?_,PW s _ (fun _ _=>rfl) (fun _ _=>rfl) f2.size LS LU (.inl (dF s rfl))⟩
   refine hR.PV s _ ic (fun _ _=>rfl) (fun _ _=>rfl) f2.os f2.tape f2.output f2.size LS LU (by rw[eP];exact cI _)
    (fun e2 k2 g2 eu h _=>by cases h;exact⟨⟨es,eP⟩,rfl⟩) (fun g2 ot h=>by cases h) (fun g2 K2 h=>by cases h) (fun m g2 ot h=>by cases h) (fun m e2 k2 g2 eu h=> ?_) (fun m g2 K2 h=>by cases h)
   ·cases h;have anX:(row.take off++xw.cells++row.drop (off+xw.cells.length)).length=k:=bC;refine⟨_,by rw[List.length_set];exact f1,fun i' row' hi'=> ?_,fun i' row' j x' u hi' hj hu=> ?_⟩
    ·rw[List.getElem?_set] at hi';split at hi'
     ·simp only[aC] at hi';rw[<-hi'];exact anX
     ·exact fO i' row' hi'
    ·rw[anV _ _ _ ab] at hu;rw[List.getElem?_set] at hi';split at hi'
     ·rename_i Ax;subst Ax;simp only[aC] at hi';subst hi';by_cases h1:j<off
      ·rw[af ab] at hu;rw[List.append_assoc,lJ bC,uI,aj h1] at hj;exact IR.mv m (IW i row j x' u aW hj hu)
      ·by_cases h2:j<off+xw.cells.length
       ·rw[aj ab,show i*k+j-(i*k+off)=j-off by omega] at hu;rw[lJ bC,jz bC,dS,EM ab] at hj;have dF:inl x'=true:=fg.1 anW x' (dD hj);exact IR.mv m ((hw.2 _ x' u hj hu).ir dF)
       ·rw[af ab] at hu;rw[jz bC,nD] at hj;simp only[List.length_append,dS] at hj;rw[EM ab,show off+xw.cells.length+(j-(off+xw.cells.length))=j by omega] at hj;exact IR.mv m (IW i row j x' u aW hj hu)
     ·rename_i Ax
      have iC:j<k:=by
       have:=(bG.1 hj).1;rw[fO i' row' hi'] at this;exact this
      have LN:¬(i*k+off<=i'*k+j/\i'*k+j<i*k+off+v.cells.toList.length):=by
       rcases Ag i i' with hlt|qM
       ·have:=sW k hlt;rw[Nat.succ_mul] at this;omega
       ·have hlt:i'<i:=ab;have:=sW k hlt;rw[Nat.succ_mul] at this;omega
      rw[af LN] at hu;exact IR.mv m (IW i' row' j x' u hi' hj hu)
end
section
variable {P:Program} {N:Nat} {F M:Nat->Prop} {w0:jX} {w:World} {st:St} {G:Nat->Gh} {H:Nat->Value} {a:Act}
variable {A:Nat->Prop} {U:Option (List Nat)} {b i k:Nat} {cs za:List AC} {o:Oper} {t:TypeId} {us z:List Value}
theorem alloc_old(w:World)(o:Obj)(h:b<w.heap.size):(w.alloc o).heap[b]? =w.heap[b]? :=Below.heap_alloc w o b h
theorem Rel.acM(h:Rel N F M w0 st G H a w)(s:Nat)(hs:(aH st.S s).isSome=true){arr:List Value}(t:TypeId)(hc:cp w (aZ M st.slot G H) st.slot G H cs arr):
  Rel N F M w0 (st.bR s (.box ((st.slot s).gen+1) cs)) (fun i=>if i=s then gh w.heap.size else G i) H a (w.alloc (.cells arr.toArray t))/\
   ∀U,Cz U st.slot G H w (st.bR s (.box ((st.slot s).gen+1) cs)).slot (fun i=>if i=s then gh w.heap.size else G i) H (w.alloc (.cells arr.toArray t)):=by
 have jH:∀b,bl (st.bR s (.box ((st.slot s).gen+1) cs)).slot (fun i=>if i=s then gh w.heap.size else G i) H s b->bl st.slot G H s b\/w.heap.size<=b:=fun b hl=>by
  rcases hl with⟨g,c,h1,h2⟩|⟨e,k,g,es,h1,h2⟩|⟨g,K,h1,h2⟩
  ·simp only[mr,gh] at h2;exact .inr ab
  ·rw[St.lV,aj ⟨rfl,hs⟩] at h1;cases h1
  ·rw[St.lV,aj ⟨rfl,hs⟩] at h1;cases h1
 refine⟨?_,fun U=>PW s _ (fun i hi=>by simp[hi]) (fun _ _=>rfl) ai (fun b hlt _=>alloc_old w _ hlt) jH (.inr fun b hlt=>alloc_old w _ hlt)⟩;refine h.PV s _ hs (fun i hi=>by simp[hi]) (fun _ _=>rfl) rfl rfl rfl ai (fun b hlt _=>alloc_old w _ hlt) jH (by simp[Slot.gen]) (fun e k g es h=>by cases h) (fun g c h hg=>by cases h;omega) (fun g K h=>by cases h) (fun m g c h=> ?_) (fun m e k g es h=>by cases h) (fun m g K h=>by cases h)
 ·cases h;simp only[mr,gh];exact⟨arr,ax.new w _ _,cp.mv m hc⟩
theorem anY{z:Operand}{q:aP}{s:Nat}(ho:o.op=.box t z)(hz:dv z q):
  nK P U o (fun st X=>∃xw,st.arg q=some (.w xw)/\(aH st.S s).isSome=true/\X (.pb s ((st.slot s).gen+1) 0) (st.bR s (.box ((st.slot s).gen+1) xw.cells))):=by
 intro N F M w0 w st G H a X hR hs K Q hK;obtain⟨xw,e1,e2,hX⟩:=hs;have hw:=WR.cells (hR.arg hz e1);obtain⟨bI,hst⟩:=hR.acM s e2 t hw;have hx:=hK _ _ _ _ (.pointer (some ⟨w.heap.size,0,none⟩)) _ hX bI (hst U) ⟨by rw[St.lV,aj ⟨rfl,e2⟩];exact cI _,fun cs hc=>by simp[gh]⟩;unfold Oper.wp execOp;simp only[ho,Instr.box,newVar,newRow,nX,run_newObj,qw,rP];exact hx
theorem anZ{s:Nat}{ns:List Nat}(ho:o.op=.alloc t)(h2:zeroOf P t=some z)(h3:Av ns 0 z=some za):
  nK P U o (fun st X=>(aH st.S s).isSome=true/\X (.pb s ((st.slot s).gen+1) 0) (st.bR s (.box ((st.slot s).gen+1) za))):=by
 intro N F M w0 w st G H a X hR hs K Q hK;obtain⟨e2,hX⟩:=hs;obtain⟨bI,hst⟩:=hR.acM s e2 t (Qa h3);have hx:=hK _ _ _ _ (.pointer (some ⟨w.heap.size,0,none⟩)) _ hX bI (hst U) ⟨by rw[St.lV,aj ⟨rfl,e2⟩];exact cI _,fun cs hc=>by simp[gh]⟩;unfold zeroOf at h2
 cases hi:P.info? t with
 |none=>simp[hi] at h2
 |some it=>
  simp only[hi,Lu,bK] at h2;obtain⟨zv,hz,rfl⟩:=h2;unfold Oper.wp execOp;simp only[Array.toArray_toList] at hx;simp[ho,Instr.alloc,zeroValue,typeInfo,hi,hz,newVar,newRow];exact hx
def rowsOf (k n:Nat)(cs:List AC):List (List AC):=(List.range n).map fun i=>(cs.drop (i*k)).take k
theorem acN{n:Nat}{row:List AC}(h:(rowsOf k n cs)[i]? =some row):i<n/\row=(cs.drop (i*k)).take k:=by
 unfold rowsOf at h;rw[eZ,bK] at h;obtain⟨j,hj,rfl⟩:=h;have hlt:=(bG.1 hj).1;simp at hlt;rw[EL hlt] at hj;simp only[aC] at hj;subst hj;exact⟨hlt,rfl⟩
theorem Vr{n j:Nat}(hi:i<n)(hj:j<k):i*k+j<n*k:=by
 have:=sW k hi;rw[Nat.succ_mul] at this;omega
theorem Qe{S:Nat->Slot}{n:Nat}(hl:cs.length=n*k)(hc:cp w A S G H cs us)(hi:cs.all inl=true):px w A k (rowsOf k n cs) us:=by
 refine⟨fun i row h=> ?_,fun i row j x u h1 h2 h3=> ?_⟩
 ·obtain⟨hlt,rfl⟩:=acN h;have:=sW k hlt;rw[Nat.succ_mul] at this;simp;omega
 ·obtain⟨hlt,rfl⟩:=acN h1;rw[Ff] at h2;split at h2
  case isFalse=>cases h2
  exact(hc.2 _ x u h2 h3).ir (fg.1 hi x (dD h2))
theorem LV{n c:Nat}{es:List (List AC)}(hn:es.length=n)(hr:px w A k es us)(hl:us.length=n*k)(hA:¬A b)(hc:n<=c)(hm:n<=9223372036854775807)(hcell:∀j u,us[j]? =some u->w.cell? ⟨b,j,none⟩=some u):
  IR w A (.sl es) (.slice (some ⟨b,0,none⟩) n c):=by
 subst hn;refine IR.sl k es _ c (fun i j=>us.getD (i*k+j) undef) hc hm hr.1 (fun i row j x h1 h2=> ?_) (fun i row j h1 h2=> ?_)
 ·have hi:=(bG.1 h1).1;have hj:=(bG.1 h2).1;rw[hr.1 i row h1] at hj;have hb:=Vr hi hj
  have hu:us[i*k+j]? =some (us.getD (i*k+j) undef):=by rw[ff,cy ab];rfl
  exact hr.2 i row j x _ h1 h2 hu
 ·have hi:=(bG.1 h1).1;rw[hr.1 i row h1] at h2;have hb:=Vr hi h2
  have hu:us[i*k+j]? =some (us.getD (i*k+j) undef):=by rw[ff,cy ab];rfl
  exact⟨b,0,rfl,hA,by rw[eM];exact hcell _ _ hu⟩
def cQ (k n:Nat)(za:List AC):List AC:=(List.range (n*k)).map fun j=>za.getD (j%k) (.v (.int .i64 0))
theorem Vs{S:Nat->Slot}{n:Nat}{z:Array Value}(h:cp w A S G H za z.toList)(hk:z.size=k)(bj:0<k):cp w A S G H (cQ k n za) ((Array.range (n*k)).map (z[·%z.size]!)).toList:=by
 have mG:za.length=k:=by have:=h.1;simp at this;omega
 refine⟨by simp[cQ],fun j x u e1 e2=> ?_⟩;unfold cQ at e1;rw[eZ,bK] at e1;obtain⟨j',vp,rfl⟩:=e1;have hlt:=(bG.1 vp).1;simp at hlt;rw[EL hlt] at vp;simp only[aC] at vp;subst vp;have hm:=oZ j bj
 have Vl:u=z[j%k]' ab:=by
  subst hk;simp[hlt] at e2;rw[<-e2];exact getElem!_pos z (j%z.size) ab
 refine h.2 (j%k) _ u ?_ ?_
 ·rw[ff,cy ab];rfl
 ·rw[Vl];simp
theorem Vt:∀(z:List AC) (l:List (Nat×Nat×List AC)) (r:List AC),mF z l=some r->r.length=z.length
 |z,[],r,h=>by simp only[mF,aC] at h;rw[h]
 |z,(off,size,cs)::l,r,h=>by
  unfold mF at h;split at h
  ·rename_i hc;rw[Vt _ l r h];simp;omega
  ·cases h
theorem acO{e:TypeId}{n:Nat}{qs:List (Nat×Nat×aP)}{pr:List (Nat×Nat×List AC)}{ps:Array (Nat×Operand)}(hR:Rel N F M w0 st G H a w)(hu:P.underlying t=some (.slice e))(hk:(P.info? e).map (·.size)=some k)(bj:0<k)(mG:z.length=k)(hn:n*k<=16777216)
  (h2:zeroOf P e=some z) (h3:CI z=some za) (hp:Fi (fun i=>some (i*k,k)) ps.toList qs) (e1:pD st qs=some pr) (e2:mF (cQ k n za) pr=some cs):
  ∃out:List Value,cp w (aZ M st.slot G H) st.slot G H cs out/\(Instr.buildSlice t n (ps.map fun(i,x)=>(i,a.eval x))).run P w=.ok (.slice (some ⟨w.heap.size,0,none⟩) n n) (w.alloc (.cells out.toArray e)):=by
 obtain⟨f1,f2⟩:=hR.parts _ hp e1;have hz:=Vp (w:=w) (G:=G) (H:=H) (A:=aZ M st.slot G H) (S:=st.slot) h3;unfold zeroOf at h2
 cases hi:P.info? e with
 |none=>simp[hi] at h2
 |some it=>
  simp only[hi,Lu,bK] at h2;obtain⟨zv,Vu,rfl⟩:=h2
  have hsz:it.size=k:=by simpa [hi] using hk
  have LW:zv.cells.size=k:=by simpa using mG
  obtain⟨out,f3,f4⟩:=Vm (w:=w) (G:=G) (H:=H) (A:=aZ M st.slot G H) (S:=st.slot) (fun i=>some (i*k,k)) (ps.toList.map fun(i,x)=>(i,a.eval x)) pr ((Array.range (n*k)).map (zv.cells[·%zv.cells.size]!)) (cQ k n za) cs (Vs hz LW bj) (by simpa using f1) f2 e2;refine⟨out.toList,f4,?_⟩;unfold Instr.buildSlice
  have hsr:∀w',(sizeOf e).run P w'=.ok k w':=fun w'=>Fg hk w'
  by_cases h0:n*k=0
  ·have Vv:n=0:=by
    rcases Nat.mul_eq_zero.1 h0 with h|h
    ·exact h
    ·omega
   subst Vv
   have h00:∀f:Nat->Value,(Array.range 0).map f=#[]:=fun f=>Array.eq_empty_of_size_eq_zero ai
   have Vw:Instr.fill (fun i=>some (i*k,k)) #[] (ps.toList.map fun(i,x)=>(i,a.eval x))=some out:=by
    rw[Nat.zero_mul,h00] at f3;exact f3
   simp[lL hu,hsr,newRow,h00,Vw]
  ·have hlt:¬16777216<n*k:=ab;simp[lL hu,hsr,zeroValue,typeInfo,hi,Vu,h0,hlt,newRow,run_newObj];have Vw:Instr.fill (fun i=>some (i*k,k)) ((Array.range (n*k)).map fun x=>zv.cells[x%zv.cells.size]!) (ps.toList.map fun(i,x)=>(i,a.eval x))=some out:=f3;simp[Vw]
end
section
variable {P:Program} {N:Nat} {F M:Nat->Prop} {w0:jX} {w:World} {st:St} {G:Nat->Gh} {H:Nat->Value} {a:Act}
variable {U:Option (List Nat)} {e k:Nat} {es:List (List AC)} {o:Oper} {ps:Array (Nat×Operand)} {qs:List (Nat×Nat×aP)} {t:TypeId} {xs z:List Value} {za:List AC}
theorem Rel.alloc(h:Rel N F M w0 st G H a w)(o:Obj):Rel N F M w0 st G H a (w.alloc o):=h.grow rfl rfl rfl ai (fun b hb=>alloc_old w o hb)
theorem Rel.acP(h:Rel N F M w0 st G H a w):¬aZ M st.slot G H w.heap.size:=fun hh=>by
 rcases hh with hm|⟨s,hl⟩
 ·have:=h.lo.1 _ (.inr hm);have:=h.fr.size;omega
 ·have:=(h.py hl).1;omega
theorem acQ(o:Obj):Mv w (w.alloc o) (aZ M st.slot G H) (aZ M st.slot G H) st.slot st.slot G G H H:=
 ⟨ai,fun _ _ h=>h,fun b hlt _=>alloc_old w o hlt,fun _=>cI _,fun s e k g es h1 _=>⟨⟨es,h1⟩,rfl⟩,fun s g cs h1 _=>⟨⟨cs,h1⟩,rfl⟩,fun s g K h1 _=>⟨⟨K,h1⟩,rfl,rfl⟩⟩
theorem Rel.newRow(h:Rel N F M w0 st G H a w)(s:Nat)(hs:(aH st.S s).isSome=true){n:Nat}{v:Value}{w':World}(hn:es.length=n)(ho:w'.ownsRow 0 e k v n xs)(hg:w.grownBy w' v.ownBlock\/∃r,w.grownBy w' r/\∀b,r=some b->bl st.slot G H s b)
  (hb:∀b,v.ownBlock=some b->bl st.slot G H s b\/w.heap.size<=b) (hr:∀w2 A2,(∀x u,IR w (aZ M st.slot G H) x u->IR w2 A2 x u)->px w2 A2 k es xs):
  Rel N F M w0 (st.bR s (.row e k ((st.slot s).gen+1) es)) G (fun i=>if i=s then v else H i) a w'/\
   ∀U,(wJ U s\/∀b,b<w.heap.size->w'.heap[b]? =w.heap[b]?)->Cz U st.slot G H w (st.bR s (.row e k ((st.slot s).gen+1) es)).slot G (fun i=>if i=s then v else H i) w':=by
 have kF:w'.os=w.os/\w'.tape=w.tape/\w'.output=w.output/\w.heap.size<=w'.heap.size/\∀b,b<w.heap.size->¬bl st.slot G H s b->w'.heap[b]? =w.heap[b]? :=by
  rcases hg with hg|⟨r,hg,hr⟩
  ·refine⟨hg.os,hg.tape,hg.output,hg.size,fun b hlt hl=>hg.block b hlt (fun e=> ?_)⟩
   rcases hb b e.symm with h1|h1
   ·exact hl h1
   ·omega
  ·exact⟨hg.os,hg.tape,hg.output,hg.size,fun b hlt hl=>hg.block b hlt (fun e=>hl (hr b e.symm))⟩
 obtain⟨h1,h2,h3,h4,h5⟩:=kF;subst hn
 have jH:∀b,bl (st.bR s (.row e k ((st.slot s).gen+1) es)).slot G (fun i=>if i=s then v else H i) s b->bl st.slot G H s b\/w.heap.size<=b:=fun b hl=>by
  rcases hl with⟨g,c,q1,q2⟩|⟨e2,k2,g2,eu,q1,q2⟩|⟨g2,K2,q1,q2⟩
  ·rw[St.lV,aj ⟨rfl,hs⟩] at q1;cases q1
  ·simp only[mr] at q2;exact hb b q2
  ·rw[St.lV,aj ⟨rfl,hs⟩] at q1;cases q1
 refine⟨?_,fun U hU=>PW s _ (fun _ _=>rfl) (fun i hi=>by simp[hi]) h4 h5 jH hU⟩;refine h.PV s _ hs (fun _ _=>rfl) (fun i hi=>by simp[hi]) h1 h2 h3 h4 h5 jH (by simp[Slot.gen]) (fun e k g es h hg=>by cases h;omega) (fun g c h=>by cases h) (fun g K h=>by cases h) (fun m g c h=>by cases h) (fun m e2 k2 g2 eu h=> ?_) (fun m g K h=>by cases h)
 ·cases h;simp only[mr];exact⟨xs,ho,hr _ _ (fun x u hx=>IR.mv m hx)⟩
theorem px.map{A A2:Nat->Prop}{w2:World}(h:px w A k es xs)(hm:∀x u,IR w A x u->IR w2 A2 x u):px w2 A2 k es xs:=⟨h.1,fun i row j x u h1 h2 h3=>hm x u (h.2 i row j x u h1 h2 h3)⟩
theorem aoa{e:TypeId}{n:Nat}(ho:o.op=.buildSlice t n ps)(hu:P.underlying t=some (.slice e))(hk:(P.info? e).map (·.size)=some k)(bj:0<k)(mG:z.length=k)(hn:n*k<=16777216)
  (h2:zeroOf P e=some z) (h3:CI z=some za) (hp:Fi (fun i=>some (i*k,k)) ps.toList qs):
  nK P U o (fun st X=>∃pr cs,pD st qs=some pr/\mF (cQ k n za) pr=some cs/\cs.all inl=true/\X (.w (.c (.sl (rowsOf k n cs)))) st):=by
 intro N F M w0 w st G H a X hR hs K Q hK;obtain⟨pr,cs,e1,e2,e3,hX⟩:=hs;obtain⟨out,f1,f2⟩:=acO hR hu hk bj mG hn h2 h3 hp e1 e2
 have hl:cs.length=n*k:=by rw[Vt _ _ _ e2];simp[cQ]
 have IP:n<=n*k:=Nat.le_mul_of_pos_right n bj;have m:=acQ (w:=w) (M:=M) (st:=st) (G:=G) (H:=H) (.cells out.toArray e);have aW:=(Qe hl f1 e3).map (fun x u hx=>IR.mv m hx)
 have hx:=hK _ _ _ _ (.slice (some ⟨w.heap.size,0,none⟩) n n) _ hX (hR.alloc (.cells out.toArray e)) (LO ai fun b hlt=>alloc_old w _ hlt)
  (LV (by simp[rowsOf]) aW (by rw[f1.1,hl]) hR.acP aA ab (fun j u hu=>by rw[(ax.new w out.toArray e).cell];simpa using hu))
 unfold Oper.wp execOp;simp only[ho,nX,f2,qw,rP];exact hx
theorem aob{e:TypeId}{n s:Nat}(ho:o.op=.buildSlice t n ps)(hu:P.underlying t=some (.slice e))(hk:(P.info? e).map (·.size)=some k)(bj:0<k)(mG:z.length=k)(hn:n*k<=16777216)
  (h2:zeroOf P e=some z) (h3:CI z=some za) (hp:Fi (fun i=>some (i*k,k)) ps.toList qs):
  nK P U o (fun st X=>∃pr cs,pD st qs=some pr/\mF (cQ k n za) pr=some cs/\cs.all inl=true/\(aH st.S s).isSome=true/\X (.w (.c (.own s ((st.slot s).gen+1)))) (st.bR s (.row e k ((st.slot s).gen+1) (rowsOf k n cs)))):=by
 intro N F M w0 w st G H a X hR hs K Q hK;obtain⟨pr,cs,e1,e2,e3,bN,hX⟩:=hs;obtain⟨out,f1,f2⟩:=acO hR hu hk bj mG hn h2 h3 hp e1 e2
 have hl:cs.length=n*k:=by rw[Vt _ _ _ e2];simp[cQ]
 have IP:n<=n*k:=Nat.le_mul_of_pos_right n bj
 have how:(w.alloc (.cells out.toArray e)).ownsRow 0 e k (.slice (some ⟨w.heap.size,0,none⟩) n n) n out:=by
  have:=World.ownsRow_lit (base:=w.heap.size) (e:=e) (size:=k) w out.toArray n aA (by simp only[maxLen];omega) (by simp;rw[f1.1,hl]);exact(by simpa using this:(w.alloc (.cells out.toArray e)).ownsRow w.heap.size e k _ n out).mono (Ai _)
 obtain⟨bI,hst⟩:=hR.newRow (w':=w.alloc (.cells out.toArray e)) s bN (e:=e) (k:=k) (es:=rowsOf k n cs) (by simp[rowsOf]) how (.inl (acD w _ _)) (fun b hb=> .inr (by simp[Value.ownBlock] at hb;omega)) (fun w2 A2 hm=>(Qe hl f1 e3).map hm);have hx:=hK _ _ _ _ (.slice (some ⟨w.heap.size,0,none⟩) n n) _ hX bI (hst U (.inr fun b hlt=>alloc_old w _ hlt)) ⟨rfl,by rw[St.lV,aj ⟨rfl,bN⟩];exact cI _,fun _ _ _ _=>ai⟩;unfold Oper.wp execOp;simp only[ho,nX,f2,qw,rP];exact hx
theorem aoc{s:Nat}(ho:o.op=.assign (.const (.slice none 0 0))\/o.op=.move (.const (.slice none 0 0))):nK P U o (fun st X=>(aH st.S s).isSome=true/\X (.w (.c (.own s ((st.slot s).gen+1)))) (st.bR s (.row e k ((st.slot s).gen+1) []))):=by
 intro N F M w0 w st G H a X hR hs K Q hK;obtain⟨bN,hX⟩:=hs;obtain⟨bI,hst⟩:=hR.newRow (w':=w) s bN (e:=e) (k:=k) (es:=[]) rfl (jU w 0 e k) (.inl ⟨rfl,rfl,rfl,cI _,fun _ _ _=>rfl⟩) (fun b hb=>by simp[Value.ownBlock] at hb) (fun w2 A2 hm=>⟨fun i row h=>by simp at h,fun i row j x u h=>by simp at h⟩);have hx:=hK _ _ _ _ (.slice none 0 0) _ hX bI (hst U (.inr fun _ _=>rfl)) ⟨rfl,by rw[St.lV,aj ⟨rfl,bN⟩];exact cI _,fun _ _ _ _=>ai⟩;unfold Oper.wp execOp
 rcases ho with ho|ho<;>(simp only[ho,rP];exact hx)
end
section
variable {P:Program} {N:Nat} {F M:Nat->Prop} {w0:jX} {w:World} {st:St} {G:Nat->Gh} {H:Nat->Value} {a:Act}
theorem Rel.flat (h:Rel N F M w0 st G H a w){x:Operand}{y:aP}(lr:dv x y){U:List Nat}{es:List (List AC)}{k:Nat}(bj:0<k)(hr:st.rows U (st.arg y)=some es)(hk:∀row∈es,row.length=k):
  ∃ad c,∃us:List Value,a.eval x=.slice ad es.length c/\us.length=es.length*k/\px w (aZ M st.slot G H) k es us/\(∀j u,us[j]? =some u->∃b o,ad=some ⟨b,o,none⟩/\w.cell? ⟨b,o+j,none⟩=some u)/\(∀u∈us,u.oneCell'=true):=by
 have fA:∀(i:Nat) (row:List AC),es[i]? =some row->row.length=k:=fun i row hi=>hk row (dD hi)
 unfold St.rows at hr;split at hr
 ·rename_i es' hv;simp only[aC] at hr;subst hr;have h3:IR w (aZ M st.slot G H) (.sl es') (a.eval x):=h.arg lr hv;generalize a.eval x=q at h3
  cases h3 with
  |sl k' _ ad c u hn hm nJ hc hl=>
   have hdm:∀p,p<es'.length*k->p/k<es'.length/\p%k<k/\p/k*k+p%k=p:=fun p hp=>⟨(Nat.div_lt_iff_lt_mul bj).2 hp,oZ _ bj,by rw[EP];exact Nat.div_add_mod p k⟩
   have yz:∀i j,j<k->(i*k+j)/k=i/\(i*k+j)%k=j:=fun i j hj=>by
    constructor
    ·rw[EP,Nat.mul_add_div bj,Nat.div_eq_of_lt hj,uP]
    ·rw[EP,Nat.mul_add_mod,Nat.mod_eq_of_lt hj]
   have pA:∀p v,((List.range (es'.length*k)).map fun p=>u (p/k) (p%k))[p]? =some v->p<es'.length*k/\v=u (p/k) (p%k):=by
    intro p v hp;rw[eZ,bK] at hp;obtain⟨q,hq,rfl⟩:=hp;have hlt:=(bG.1 hq).1;simp at hlt;rw[EL hlt] at hq;simp only[aC] at hq;subst hq;exact⟨hlt,rfl⟩
   refine⟨ad,c,(List.range (es'.length*k)).map fun p=>u (p/k) (p%k),rfl,ai,⟨fA,fun i row j x' v h1 h2 h3=> ?_⟩,fun p v hp=> ?_,fun v hv=> ?_⟩
   ·have hj:=(bG.1 h2).1;rw[fA i row h1] at hj;obtain⟨_,rfl⟩:=pA _ _ h3;rw[(yz i j hj).1,(yz i j hj).2];exact hc i row j x' h1 h2
   ·obtain⟨hlt,rfl⟩:=pA _ _ hp;obtain⟨g1,g2,g3⟩:=hdm p hlt;have aW:es'[p/k]? =some es'[p/k]:=cy g1;have fO:=fA _ _ aW;obtain⟨b,o,e1,_,e2⟩:=hl _ _ (p%k) aW ab;have rS:=nJ _ _ aW;rw[show k'=k by omega] at e2;exact⟨b,o,e1,by rw[<-e2,Nat.add_assoc,g3]⟩
   ·obtain⟨p,hp⟩:=yb hv;obtain⟨hlt,rfl⟩:=pA _ _ hp;obtain⟨g1,g2,g3⟩:=hdm p hlt;have aW:es'[p/k]? =some es'[p/k]:=cy g1;have fO:=fA _ _ aW;exact(hc _ _ (p%k) ((es'[p/k])[p%k]' ab) aW ai).one
 ·rename_i s g hv;split at hr
  case h_2=>cases hr
  rename_i e k' g' es' hs;split at hr
  case isFalse=>cases hr
  rename_i hg;obtain⟨rfl,_⟩:=hg;simp only[aC] at hr;subst hr;have h3:CR w (aZ M st.slot G H) st.slot G H (.own s g) (a.eval x):=h.arg lr hv;obtain⟨_,_,hH⟩:=h3;obtain⟨_,xs,how,fO,IW⟩:=h.rw s e k' g es' hs;rw[hH e k' es' hs];by_cases h0:es'=[]
  ·subst h0;have CK:xs=[]:=ya (by have:=how.1;simpa using this);subst CK
   rcases how.2 with⟨e1,_⟩|⟨gg,cap,cur,e1,_⟩
   ·exact⟨none,0,[],e1,ai,⟨fA,fun i row j x' v h1=>by simp at h1⟩,fun j u hj=>by simp at hj,fun u hu=>by simp at hu⟩
   ·exact⟨_,cap,[],e1,ai,⟨fA,fun i row j x' v h1=>by simp at h1⟩,fun j u hj=>by simp at hj,fun u hu=>by simp at hu⟩
  ·have Cn:0<es'.length:=Cf.2 h0;have aW:es'[0]? =some es'[0]:=cy Cn
   have Vj:k'=k:=by rw[<-fO _ _ aW];exact fA _ _ aW
   subst Vj;obtain⟨b,cap,e1,_,_⟩:=how.form Cn;have hcell:=how.cells (g:=b) (by rw[e1];rfl);refine⟨_,cap,xs,e1,how.1,⟨fO,IW⟩,fun j u hj=>⟨b,0,rfl,?_⟩,fun u hu=> ?_⟩
   ·have:=hcell j u hj;rwa[Addr.add_mid] at this
   ·obtain⟨p,hp⟩:=yb hu;have hlt:=(bG.1 hp).1;rw[how.1] at hlt;have g1:p/k'<es'.length:=(Nat.div_lt_iff_lt_mul bj).2 hlt;have g2:=oZ p bj
    have g3:p/k'*k'+p%k'=p:=by rw[EP];exact Nat.div_add_mod p k'
    have aW:es'[p/k']? =some es'[p/k']:=cy g1;have aCC:=fO _ _ aW;exact(IW _ _ (p%k') ((es'[p/k'])[p%k']' ab) u aW ai (by rw[g3];exact hp)).one
 ·cases hr
theorem px.app {A:Nat->Prop}{k:Nat}{es ys:List (List AC)}{xs us:List Value}(h1:px w A k es xs)(h2:px w A k ys us)(hx:xs.length=es.length*k):px w A k (es++ys) (xs++us):=by
 refine⟨fun i row h=> ?_,fun i row j x u e1 e2 e3=> ?_⟩
 ·rcases fJ.1 (dD h) with hm|hm
  ·obtain⟨j,hj⟩:=yb hm;exact h1.1 j row hj
  ·obtain⟨j,hj⟩:=yb hm;exact h2.1 j row hj
 ·by_cases hi:i<es.length
  ·rw[lJ hi] at e1;have hj:=(bG.1 e2).1;rw[h1.1 i row e1] at hj;rw[lJ (by rw[hx];exact Vr hi hj)] at e3;exact h1.2 i row j x u e1 e2 e3
  ·rw[jz ab] at e1;have hle:es.length*k<=i*k:=sW k ab;rw[jz ab,hx] at e3;refine h2.2 _ row j x u e1 e2 ?_;rw[Nat.sub_mul,show i*k-es.length*k+j=i*k+j-es.length*k by omega];exact e3
theorem aod {U:Option (List Nat)}{o:Oper}{t e:TypeId}{k bytes:Nat}{zv:Value}{x z:Operand}{y q:aP}(ho:o.op=.call { callee:=.builtin .append,args:=#[x,z],argTypes:=#[t,t] })(hu:P.underlying t=some (.slice e))(lj:(P.info? e).map (fun i=>(i.zero,i.size,i.bytes))=some (some zv,k,bytes))(nh:zv.cells.size=k)(bj:0<k)(jB:bytes<=1000)(hx:dv x y)(hz:dv z q):
  nK P U o (fun st X=>∃s g es ys,st.arg y=some (.w (.c (.own s g)))/\aH st.S s=some (.row e k g es)/\st.rows [s] (st.arg q)=some ys/\(∀row∈ys,row.length=k)/\es.length+ys.length<=100000000/\wJ U s/\X (.w (.c (.own s (g+1)))) (st.bR s (.row e k (g+1) (es++ys)))):=by
 intro N F M w0 w st G H a X hR hs K Q hK;obtain⟨s,g,es,ys,e1,e2,e3,e4,e5,dF,hX⟩:=hs;obtain⟨eP,ic⟩:=Qb e2;have h3:CR w (aZ M st.slot G H) st.slot G H (.own s g) (a.eval x):=hR.arg hx e1;obtain⟨_,_,hH⟩:=h3;have CG:=hH e k es eP;obtain⟨_,xs,how,kK⟩:=hR.rw s e k g es eP;obtain⟨ad,c,us,f1,f2,f3,f4,f5⟩:=hR.flat hz bj e3 e4;obtain⟨it,hi,dY,dE,eB⟩:=uQ lj
 have oq:(st.slot s).gen=g:=by rw[eP];rfl
 have key:∀v' w',w'.ownsRow 0 e k v' (es.length+ys.length) (xs++us)->w.grownBy w' (H s).ownBlock->(v'.ownBlock=(H s).ownBlock\/v'.ownBlock=some w.heap.size)->K (a.put o.dst v') w':=by
  intro v' w' g1 g2 g3
  have hl:∀b,(H s).ownBlock=some b->bl st.slot G H s b:=fun b hb=> .inr (.inl ⟨e,k,g,es,eP,hb⟩)
  have⟨bI,hst⟩:=hR.newRow (w':=w') s ic (e:=e) (k:=k) (es:=es++ys) (n:=es.length+ys.length) ai g1 (.inr ⟨_,g2,hl⟩) (fun b hb=>by
   rcases g3 with g3|g3
   ·rw[g3] at hb;exact .inl (hl b hb)
   ·rw[g3] at hb;right;simp at hb;omega) (fun w2 A2 hm=>(px.app kK f3 how.1).map hm)
  rw[oq] at bI hst;exact hK _ _ _ _ v' _ hX bI (hst U (.inl dF)) ⟨by rcases g1.2 with⟨rfl,_⟩|⟨gg,cap,cur,rfl,_⟩<;>rfl,by rw[St.lV,aj ⟨rfl,ic⟩];exact cI _,fun _ _ _ _=>ai⟩
 unfold Oper.wp execOp;simp only[ho,resolve,invoke,builtin,nX,rP,qw,List.map_toArray,cY,lN,CG,f1]
 cases ad with
 |none=>
  have hy0:ys=[]:=by
   cases ys with
   |nil=>rfl
   |cons row r=>
    have hl:0<us.length:=by rw[f2];exact Nat.mul_pos ai bj
    obtain⟨b,o,hb,_⟩:=f4 0 us[0] (by simp[hl]);cases hb
  subst hy0;have hu0:us=[]:=ya (by rw[f2];simp);subst hu0
  have hrun:(Builtin.append_ #[t,t] o.type #[H s,.slice none 0 c]).run P w=.ok (H s) w:=by
   rcases how.2 with⟨h1,_⟩|⟨gg,cap,cur,h1,_,_,np,_⟩
   ·rw[h1];simp[Builtin.append_,lL hu,sizeOf,typeInfo,hi,Builtin.lenOf,Builtin.firstCells]
   ·rw[h1];simp[Builtin.append_,lL hu,sizeOf,typeInfo,hi,Builtin.lenOf,Builtin.firstCells,np,storeCells]
  simp only[List.length_nil,hrun,qw];exact key (H s) w (by simpa using how) ⟨rfl,rfl,rfl,cI _,fun _ _ _=>rfl⟩ (.inl rfl)
 |some ad=>
  obtain⟨v',w',g1,g2,g3,_,g5⟩:=run_append_own_at (P:=P) w 0 t o.type e it zv k bytes hu hi dY dE eB nh bj (H s) es.length xs how ad ys.length c us f2 (fun j u hj=>by
   obtain⟨b,o',hb,hc⟩:=f4 j u hj;simp only[aC] at hb;subst hb;rw[Addr.add_mid]
   exact hc) f5 (by unfold maxLen;omega) (bh (oY e5 jB) ab) (Ai _)
  simp only[g1,qw];exact key v' w' g2 g3 g5
end
section
variable {P:Program} {N:Nat} {F M:Nat->Prop} {w0:jX} {w:World} {st:St} {G:Nat->Gh} {H:Nat->Value} {a:Act}
variable {A:Nat->Prop} {G G':Nat->Gh} {H H':Nat->Value} {S':Nat->Slot} {U:Option (List Nat)} {o:Oper} {v:Value}
theorem aoe{e k n h g cap:Nat}{xs:List Value}(ho:w.ownsRow 0 e k (.slice (some ⟨g,0,none⟩) n cap) n xs)(hh:h<=n):w.ownsRow 0 e k (.slice (some ⟨g,0,none⟩) h cap) h (xs.take (h*k)):=by
 have hle:h*k<=n*k:=sW k hh
 rcases ho.2 with⟨h',_⟩|⟨g',cap',cur,h',hb,hg,hn,hc,hs,aof⟩
 ·cases h'
 ·simp only[Value.slice.injEq,aC,Addr.mk.injEq,and_true,true_and] at h';obtain⟨rfl,rfl⟩:=h';refine⟨by have:=ho.1;simp;omega,.inr ⟨g,cap,cur,rfl,hb,hg,bh hh hn,hc,hs,?_⟩⟩;rw[<-aof,List.take_take,EM hle]
theorem aog{t e':TypeId}{x:Operand}{y:aP}{hi:Option Operand}{hi':Option aP}{k':Nat}(ho:o.op=.slice t x none hi none)(hu:P.underlying t=some (.slice e'))(hk:(P.info? e').map (·.size)=some k')(hx:dv x y)(iE:IQ hi hi'):
  nK P U o (fun st X=>∃s g e k es h,st.arg y=some (.w (.c (.own s g)))/\aH st.S s=some (.row e k g es)/\vh st es.length hi'=some h/\h<=es.length/\X (.w (.c (.own s (g+1)))) (st.bR s (.row e k (g+1) (es.take h)))):=by
 intro N F M w0 w st G H a X hR hs K Q hK;obtain⟨s,g,e,k,es,h,e1,e2,wL,h2,hX⟩:=hs;obtain⟨eP,ic⟩:=Qb e2;have h3:CR w (aZ M st.slot G H) st.slot G H (.own s g) (a.eval x):=hR.arg hx e1;obtain⟨_,_,hH⟩:=h3;have CG:=hH e k es eP;obtain⟨_,xs,how,kK⟩:=hR.rw s e k g es eP
 have oq:(st.slot s).gen=g:=by rw[eP];rfl
 have aoh:∀(w2:World) (A2:Nat->Prop),(∀x u,IR w (aZ M st.slot G H) x u->IR w2 A2 x u)->px w2 A2 k (es.take h) (xs.take (h*k)):=fun w2 A2 hm=>by
  refine⟨fun i row h1=> ?_,fun i row j x' u h1 h4 h5=> ?_⟩
  ·rw[uI] at h1;split at h1
   ·exact kK.1 i row h1
   ·cases h1
  ·rw[uI] at h1 h5;split at h1
   case isFalse=>cases h1
   split at h5
   ·exact hm _ _ (kK.2 i row j x' u h1 h4 h5)
   ·cases h5
 have IU:((hi.map a.eval)=none/\h=es.length)\/∃k,hi.map a.eval=some (.int k h):=by
  cases hi with
  |none=>cases hi' with
   |none=>simp[vh] at wL;exact .inl ⟨rfl,wL.symm⟩
   |some=>exact iE.elim
  |some p=>cases hi' with
   |none=>exact iE.elim
   |some q=>
    obtain⟨k,e⟩:=hR.bound iE wL;exact .inr ⟨k,by simp[e]⟩
 have key:∀(v':Value),v'.ownBlock=(H s).ownBlock->v'.oneCell'=true->w.ownsRow 0 e k v' h (xs.take (h*k))->K (a.put o.dst v') w:=by
  intro v' g1 g0 g2
  have hl:∀b,(H s).ownBlock=some b->bl st.slot G H s b:=fun b hb=> .inr (.inl ⟨e,k,g,es,eP,hb⟩)
  have⟨bI,hst⟩:=hR.newRow (w':=w) s ic (e:=e) (k:=k) (es:=es.take h) (n:=h) bC g2 (.inl ⟨rfl,rfl,rfl,cI _,fun _ _ _=>rfl⟩) (fun b hb=> .inl (hl b (by rw[<-g1];exact hb))) aoh;rw[oq] at bI hst;exact hK _ _ _ _ v' _ hX bI (hst U (.inr fun _ _=>rfl)) ⟨g0,by rw[St.lV,aj ⟨rfl,ic⟩];exact cI _,fun _ _ _ _=>ai⟩
 unfold Oper.wp execOp
 rcases how.2 with⟨h5,h6⟩|⟨gg,cap,cur,h5,_,_,np,_⟩
 ·have h0:h=0:=ab;subst h0;have hb:=Vi (P:=P) w es.length 0 0 0 none (hi.map a.eval) (.inl ⟨rfl,rfl⟩) IU aA (Ai _) ab;rw[h6] at hb;simp[ho,CG,h5,Instr.sliceAt,Instr.slice,lL hu,hb,Fg hk];exact key _ (by rw[h5]) rfl ⟨ai,.inl ⟨rfl,rfl⟩⟩
 ·have hb:=Vi (P:=P) w es.length cap 0 h none (hi.map a.eval) (.inl ⟨rfl,rfl⟩) IU (Ai _) h2 np;rw[h5] at how;have kC:(⟨gg,0,none⟩:Addr).add 0=⟨gg,0,none⟩:=Addr.add_mid gg 0 0;simp[ho,CG,h5,Instr.sliceAt,Instr.slice,lL hu,hb,Fg hk,kC];exact key _ (by rw[h5];rfl) rfl (aoe how h2)
def AW.inl (x:AW):Bool:=x.cells.all Ab.inl
def WI (w:World)(A:Nat->Prop)(x:AW)(v:Value):Prop:=x.inl=true/\WR w A (fun _=> .dead 0) (fun _=>gh 0) (fun _=>undef) x v
def VI (w:World)(A:Nat->Prop):AV->Value->Prop
 | .w x,v=>WI w A x v
 | .cg vs,v=>∃arr:List Value,v=.tuple arr.toArray/\arr.length=vs.length/\∀(j:Nat) (x:AW) (u:Value),vs[j]? =some x->arr[j]? =some u->WI w A x u
 |_,_=>False
def bu (P:Program)(f:FuncId)(args:List AW)(Q:AV->Prop):Prop:=
 ∀(M:Nat->Prop) (w:World) (vs:List Value),(∀b,M b->b<w.heap.size)/\wI w (fun b=>b<w.heap.size)->vs.length=args.length->(∀(i:Nat) (x:AW) (v:Value),args[i]? =some x->vs[i]? =some v->WI w M x v)->
  Calls P f vs.toArray w fun e w'=>∃v r,e=.returned v/\Q r/\VI w' M r v/\Fr (fun b=>b<w.heap.size) w w'
theorem CR.any{S:Nat->Slot}{x:AC}{u:Value}(h:CR w A S G H x u)(hi:Ab.inl x=true):CR w A S' G' H' x u:=(h.ir hi).Fe
theorem cp.any{S:Nat->Slot}{cs:List AC}{us:List Value}(h:cp w A S G H cs us)(hi:cs.all Ab.inl=true):cp w A S' G' H' cs us:=
 ⟨h.1,fun j x u h1 h2=>(h.2 j x u h1 h2).any (fg.1 hi x (dD h1))⟩
theorem WR.any{S:Nat->Slot}{x:AW}(h:WR w A S G H x v)(hi:x.inl=true):WR w A S' G' H' x v:=by
 cases x with
 |c x=>exact CR.any h (by simpa [AW.inl,AW.cells] using hi)
 |agg cs=>
  obtain⟨arr,e,h⟩:=h;exact⟨arr,e,h.any (by simpa [AW.inl,AW.cells] using hi)⟩
theorem VI.vr{S:Nat->Slot}{x:AV}(h:VI w A x v):VR w A S G H x v:=by
 cases x with
 |w x=>exact WR.any h.2 h.1
 |cg vs=>
  obtain⟨arr,e,hl,h⟩:=h;exact⟨arr,e,hl,fun j x u h1 h2=>WR.any (h j x u h1 h2).2 (h j x u h1 h2).1⟩
 |pb s g off=>exact h.elim
 |pr s g i off=>exact h.elim
 |pi cs off=>exact h.elim
 |u=>exact h.elim
def nL (st:St):List aP->Option (List AW)
 |[]=>some []
 |y::r=>match st.arg y,nL st r with
  |some (.w x),some q=>if x.inl then some (x::q) else none
  |_,_=>none
def IX:List Operand->List aP->Prop
 |[],[]=>True
 |x::r,y::q=>dv x y/\IX r q
 |_,_=>False
theorem Rel.args(h:Rel N F M w0 st G H a w):∀{xs:List Operand} {ys:List aP} {r:List AW},IX xs ys->nL st ys=some r->
  xs.length=r.length/\∀(i:Nat) (p:AW) (v:Value),r[i]? =some p->(xs.map a.eval)[i]? =some v->WI w (aZ M st.slot G H) p v
 |[],[],r,_,hr=>by
  simp only[nL,aC] at hr;subst hr;exact⟨rfl,fun i p q e=>by simp at e⟩
 |x::xs,y::ys,r,hp,hr=>by
  obtain⟨h1,h2⟩:=hp;unfold nL at hr;split at hr
  case h_2=>cases hr
  rename_i xw q hv hq;split at hr
  case isFalse=>cases hr
  rename_i hi;simp only[aC] at hr;subst hr;obtain⟨e1,e2⟩:=Rel.args h h2 hq;refine⟨by simp[e1],fun j p v g1 g2=> ?_⟩
  cases j with
  |zero=>
   simp at g1 g2;subst g1;subst g2;exact⟨hi,WR.any (h.arg h1 hv) hi⟩
  |succ j=>exact e2 j p v (by simpa using g1) (by simpa using g2)
 |[],_::_,_,hp,_=>hp.elim
 |_::_,[],_,hp,_=>hp.elim
theorem acR{f:FuncId}{fn:Func}{xs:Array Operand}{ys:List aP}{ts:Array TypeId}(ho:o.op=.call { callee:=.value (.func f),args:=xs,argTypes:=ts })(hf:P.funcs[f]? =some fn)(hn:(fn.name== "runtime.NumGoroutine")=false)(hb:fn.body.isNone=false)(hx:IX xs.toList ys):
  nK P U o (fun st X=>∃ws R,nL st ys=some ws/\bu P f ws R/\∀r,R r->X r st):=by
 intro N F M w0 w st G H a X hR hs K Q hK;obtain⟨ws,R,e1,hC,hX⟩:=hs;obtain⟨f1,f2⟩:=hR.args hx e1
 have hM:∀b,aZ M st.slot G H b->b<w.heap.size:=fun b hb=>by
  rcases hb with hm|⟨s,hl⟩
  ·exact iB (hR.lo.1 b (.inr hm)) hR.fr.size
  ·exact(hR.py hl).1
 have Vx:=hC (aZ M st.slot G H) w (xs.toList.map a.eval) ⟨hM,hR.glo fun _ _ h=>h⟩ (by simpa using f1) f2;unfold Oper.wp execOp;simp only[ho,resolve,Act.eval,Deferred.ofValue,invoke,callFunc,hf,hn,hb,nX,rP,qw,program,Sem.run]
 have pE:(#[]++xs.map a.eval++#[]:Array Value)=(xs.toList.map a.eval).toArray:=by
  apply Array.ext';simp
 simp only[ye,nY,Sem.run]
 show Oper.upon P o a K Q (.ok (.enter f (#[]++xs.map a.eval++#[])) w)
 rw[pE,Oper.upon_enter]
 refine Vx.mono fun e w' he=> ?_
 obtain⟨v,r,rfl,hr,hv,dQ⟩:=he;have bI:=hR.grow dQ.os dQ.tape dQ.out dQ.size dQ.block;exact hK r st G H v w' (hX r hr) bI (LO dQ.size dQ.block) hv.vr
end
structure LX (M:Nat->Prop)(S:Nat->Slot)(G:Nat->Gh)(H:Nat->Value)(w:World):Prop where
 bx:∀s g cs,S s=.box g cs->¬M (G s).b/\∃arr:List Value,ax w (G s).b arr.toArray/\cp w (aZ M S G H) S G H cs arr
 rw:∀s e k g es,S s=.row e k g es->(∀b,(H s).ownBlock=some b->¬M b)/\∃xs,w.ownsRow 0 e k (H s) es.length xs/\px w (aZ M S G H) k es xs
 ob:∀s g K,S s=.obj g K->(∀b∈(G s).fp,¬M b)/\K.rep w (aZ M S G H) (H s) (G s)
 dj:∀s s' b,bl S G H s b->bl S G H s' b->s=s'
def gL (T:List (Nat×Slot))(s:Nat):Slot:=(aH T s).getD (.dead 0)
def gM (P:Program)(f:FuncId)(args:List AV)(T:List (Nat×Slot))(Q:AV->(Nat->Slot)->Prop):Prop:=
 ∀(M:Nat->Prop) (w:World) (G:Nat->Gh) (H:Nat->Value) (vs:List Value),LX M (gL T) G H w->(∀b,M b->b<w.heap.size)/\wI w (fun b=>b<w.heap.size/\∀s,¬bl (gL T) G H s b)->vs.length=args.length->
  (∀(i:Nat) (x:AV) (v:Value),args[i]? =some x->vs[i]? =some v->VR w (aZ M (gL T) G H) (gL T) G H x v)->
  Calls P f vs.toArray w fun e w'=>∃v r S' G' H',e=.returned v/\Q r S'/\VR w' (aZ M S' G' H') S' G' H' r v/\LX M S' G' H' w'/\PU ⟨w,gL T,G,H⟩ S' G' H'/\
   Fr (fun b=>b<w.heap.size/\∀s,¬bl (gL T) G H s b) w w'/\(∀s b,bl S' G' H' s b->(∃s0,bl (gL T) G H s0 b)\/w.heap.size<=b)/\∀s,aH T s=none->S' s=.dead 0
def kL (D:List Nat):AC->Bool
 | .own s _=>D.contains s
 | .cB s _=>D.contains s
 | .part s _ _=>D.contains s
 | .cls _ bP=>bP.all fun q=>D.contains q.1
 |_=>true
def yA (D:List Nat)(x:AW):Bool:=x.cells.all (kL D)
def gO (D:List Nat):AV->Bool
 | .w x=>yA D x
 | .cg vs=>vs.all (yA D)
 | .pb s _ _=>D.contains s
 | .pr s _ _ _=>D.contains s
 |_=>true
def eQ (D:List Nat):Slot->Bool
 | .box _ cs=>cs.all (kL D)
 |_=>true
section
variable {P:Program} {N:Nat} {F M:Nat->Prop} {w0:jX} {w:World} {st:St} {G:Nat->Gh} {H:Nat->Value} {a:Act}
variable {A:Nat->Prop} {D:List Nat} {G G':Nat->Gh} {H H':Nat->Value} {S':Nat->Slot} {v:Value}
structure Fk (D:List Nat)(S S':Nat->Slot)(G G':Nat->Gh)(H H':Nat->Value):Prop where
 s:∀s∈D,S' s=S s
 g:∀s∈D,G' s=G s
 h:∀s∈D,H' s=H s
theorem CR.same{S:Nat->Slot}(m:Fk D S S' G G' H H'){x:AC}{u:Value}(hc:kL D x=true)(h:CR w A S G H x u):CR w A S' G' H' x u:=by
 cases x with
 |own s g=>
  have hs:s∈D:=by simpa [kL] using hc
  obtain⟨h1,h2,h3⟩:=h;exact⟨h1,by rw[m.s s hs];exact h2,fun e k es he=>by rw[m.s s hs] at he;rw[m.h s hs];exact h3 e k es he⟩
 |cB s g=>
  have hs:s∈D:=by simpa [kL] using hc
  obtain⟨h1,h2,h3⟩:=h;exact⟨h1,by rw[m.s s hs];exact h2,fun K he=>by rw[m.s s hs] at he;rw[m.h s hs];exact h3 K he⟩
 |part s g i=>
  have hs:s∈D:=by simpa [kL] using hc
  obtain⟨h1,h2,h3⟩:=h;exact⟨h1,by rw[m.s s hs];exact h2,fun K he=>by rw[m.s s hs] at he;rw[m.g s hs];exact h3 K he⟩
 |cls f bP=>
  obtain⟨ps,h1,h2,h3⟩:=h;refine⟨ps,h1,h2,fun i q p e1 e2=> ?_⟩
  have hs:q.1∈D:=by
   have h4:bP.all (fun q=>D.contains q.1)=true:=hc;have:=fg.1 h4 q (dD e1);simpa using this
  obtain⟨h4,h5⟩:=h3 i q p e1 e2;exact⟨by rw[m.s _ hs];exact h4,fun cs he=>by rw[m.s _ hs] at he;rw[m.g _ hs];exact h5 cs he⟩
 |v x=>exact h
 |sl es=>exact h
 |fc f bP=>exact h
theorem cp.same{S:Nat->Slot}(m:Fk D S S' G G' H H'){cs:List AC}{us:List Value}(hc:cs.all (kL D)=true)(h:cp w A S G H cs us):cp w A S' G' H' cs us:=
 ⟨h.1,fun j x u h1 h2=>(h.2 j x u h1 h2).same m (fg.1 hc x (dD h1))⟩
theorem WR.same{S:Nat->Slot}(m:Fk D S S' G G' H H'){x:AW}(hc:yA D x=true)(h:WR w A S G H x v):WR w A S' G' H' x v:=by
 cases x with
 |c x=>exact CR.same m (by simpa [yA,AW.cells] using hc) h
 |agg cs=>
  obtain⟨arr,e,h⟩:=h;exact⟨arr,e,h.same m hc⟩
theorem VR.same{S:Nat->Slot}(m:Fk D S S' G G' H H'){x:AV}(hc:gO D x=true)(h:VR w A S G H x v):VR w A S' G' H' x v:=by
 cases x with
 |w x=>exact WR.same m hc h
 |cg vs=>
  obtain⟨arr,e,hl,h⟩:=h;exact⟨arr,e,hl,fun j x u h1 h2=>(h j x u h1 h2).same m (fg.1 hc x (dD h1))⟩
 |pb s g off=>
  have hs:s∈D:=by simpa [gO] using hc
  exact⟨by rw[m.s s hs];exact h.1,fun cs he=>by rw[m.s s hs] at he;rw[m.g s hs];exact h.2 cs he⟩
 |pr s g i off=>
  have hs:s∈D:=by simpa [gO] using hc
  exact⟨by rw[m.s s hs];exact h.1,fun e k es he=>by rw[m.s s hs] at he;rw[m.h s hs];exact h.2 e k es he⟩
 |pi cs off=>exact h
 |u=>trivial
def lX (st:St):List aP->Option (List AV)
 |[]=>some []
 |y::r=>match st.arg y,lX st r with
  |some x,some q=>some (x::q)
  |_,_=>none
theorem Rel.lX (h:Rel N F M w0 st G H a w):∀{xs:List Operand} {ys:List aP} {r:List AV},IX xs ys->lX st ys=some r->
  xs.length=r.length/\∀(i:Nat) (p:AV) (v:Value),r[i]? =some p->(xs.map a.eval)[i]? =some v->VR w (aZ M st.slot G H) st.slot G H p v
 |[],[],r,_,hr=>by
  simp only[Ab.lX,aC] at hr;subst hr;exact⟨rfl,fun i p q e=>by simp at e⟩
 |x::xs,y::ys,r,hp,hr=>by
  obtain⟨h1,h2⟩:=hp;unfold Ab.lX at hr;split at hr
  case h_2=>cases hr
  rename_i xv q hv hq;simp only[aC] at hr;subst hr;obtain⟨e1,e2⟩:=Rel.lX h h2 hq;refine⟨by simp[e1],fun j p v g1 g2=> ?_⟩
  cases j with
  |zero=>
   simp at g1 g2;subst g1;subst g2;exact h.arg h1 hv
  |succ j=>exact e2 j p v (by simpa using g1) (by simpa using g2)
 |[],_::_,_,hp,_=>hp.elim
 |_::_,[],_,hp,_=>hp.elim
def fP (st:St)(D:List Nat):List (Nat×Slot):=D.map fun s=>(s,st.slot s)
theorem Qf (st:St):∀(D:List Nat) (s:Nat),aH (fP st D) s=if s∈D then some (st.slot s) else none
 |[],s=>by simp[fP,aH]
 |d::D,s=>by
  have ih:=Qf st D s;unfold fP at ih⊢;simp only[cY,aH,ih];by_cases h:d=s
  ·subst h;simp
  ·have h':¬s=d:=fun e=>h e.symm
   simp[h,h']
def lY (D:List Nat)(S':Nat->Slot)(st:St):St:={ st with S:=st.S.map fun p=>if D.contains p.1 then(p.1,S' p.1) else p }
theorem acS (D:List Nat)(S':Nat->Slot):∀(l:List (Nat×Slot)) (s:Nat),aH (l.map fun p=>if D.contains p.1 then(p.1,S' p.1) else p) s=if s∈D then(aH l s).map fun _=>S' s else aH l s
 |[],s=>by simp[aH]
 |(i,x)::l,s=>by
  have ih:=acS D S' l s;simp only[cY];by_cases hi:i∈D
  ·have:D.contains i=true:=by simpa using hi
   simp only[this,mr,aH,ih];by_cases h:i=s
   ·subst h;simp[hi]
   ·simp[h]
  ·have:D.contains i=false:=by simpa using hi
   simp only[this,ye,nY,aH,ih];by_cases h:i=s
   ·subst h;simp[hi]
   ·simp[h]
theorem Vy(hD:∀s∈D,(aH st.S s).isSome=true)(s:Nat):(lY D S' st).slot s=if s∈D then S' s else st.slot s:=by
 unfold St.slot lY;dsimp only;rw[acS];by_cases h:s∈D
 ·obtain⟨x,hx⟩:=PA.1 (hD s h);simp[h,hx]
 ·simp[h]
def acT (P:Program)(U:Option (List Nat))(f:FuncId)(ys:List aP)(D:List Nat):Fj:=fun st X=>∃ws Q,lX st ys=some ws/\ws.all (gO D)=true/\(∀s∈D,(aH st.S s).isSome=true/\eQ D (st.slot s)=true)/\(∀s∈D,wJ U s)/\
 gM P f ws (fP st D) Q/\∀r S',Q r S'->(gO D r=true/\∀s∈D,eQ D (S' s)=true)/\X r (lY D S' st)
end
section
variable {P:Program} {N:Nat} {F M:Nat->Prop} {w0:jX} {w:World} {st:St} {G:Nat->Gh} {H:Nat->Value} {a:Act}
theorem Rel.bp (hR:Rel N F M w0 st G H a w){D:List Nat}{w':World}{S':Nat->Slot}{G':Nat->Gh}{H':Nat->Value}(hD:∀s∈D,(aH st.S s).isSome=true)
  (bN:LX (fun b=>M b\/∃s,s∉D/\bl st.slot G H s b) S' G' H' w') (hh:PU ⟨w,gL (fP st D),G,H⟩ S' G' H') (dQ:Fr (fun b=>b<w.heap.size/\∀s,¬bl (gL (fP st D)) G H s b) w w')
  (th:∀s b,bl S' G' H' s b->(∃s0,bl (gL (fP st D)) G H s0 b)\/w.heap.size<=b) (Vz:∀s,aH (fP st D) s=none->S' s=.dead 0) (nM:∀s∈D,eQ D (S' s)=true):
  Rel N F M w0 (lY D S' st) (fun s=>if s∈D then G' s else G s) (fun s=>if s∈D then H' s else H s) a w'/\aZ M (lY D S' st).slot (fun s=>if s∈D then G' s else G s) (fun s=>if s∈D then H' s else H s)=aZ (fun b=>M b\/∃s,s∉D/\bl st.slot G H s b) S' G' H'/\
   (∀s∈D,∀b,b<w.heap.size->bl (lY D S' st).slot (fun s=>if s∈D then G' s else G s) (fun s=>if s∈D then H' s else H s) s b->∃s0∈D,bl st.slot G H s0 b):=by
 have tS:∀s,gL (fP st D) s=if s∈D then st.slot s else .dead 0:=fun s=>by
  unfold gL;rw[Qf];by_cases h:s∈D<;>simp[h]
 have tL:∀s b,bl (gL (fP st D)) G H s b↔s∈D/\bl st.slot G H s b:=fun s b=>by
  unfold bl;rw[tS];by_cases h:s∈D
  ·simp[h]
  ·simp[h]
 have uS:∀s,(lY D S' st).slot s=if s∈D then S' s else st.slot s:=Vy hD
 have sD:∀s b,bl S' G' H' s b->s∈D:=fun s b hl=>by
  by_cases h:s∈D
  ·exact h
  ·have:=Vz s (by rw[Qf];simp[h])
   rcases hl with⟨g,cs,h1,_⟩|⟨e,k,g,es,h1,_⟩|⟨g,K,h1,_⟩<;>(rw[this] at h1;cases h1)
 have uL:∀s b,bl (lY D S' st).slot (fun s=>if s∈D then G' s else G s) (fun s=>if s∈D then H' s else H s) s b↔(s∈D/\bl S' G' H' s b)\/(s∉D/\bl st.slot G H s b):=fun s b=>by
  unfold bl;rw[uS];by_cases h:s∈D<;>simp[h]
 have hA:aZ M (lY D S' st).slot (fun s=>if s∈D then G' s else G s) (fun s=>if s∈D then H' s else H s)=aZ (fun b=>M b\/∃s,s∉D/\bl st.slot G H s b) S' G' H':=by
  funext b;apply propext;constructor
  ·rintro(hm|⟨s,hl⟩)
   ·exact .inl (.inl hm)
   ·rcases(uL s b).1 hl with⟨_,h2⟩|⟨h1,h2⟩
    ·exact .inr ⟨s,h2⟩
    ·exact .inl (.inr ⟨s,h1,h2⟩)
  ·rintro((hm|⟨s,h1,h2⟩)|⟨s,hl⟩)
   ·exact .inl hm
   ·exact .inr ⟨s,(uL s b).2 (.inr ⟨h1,h2⟩)⟩
   ·exact .inr ⟨s,(uL s b).2 (.inl ⟨sD s b hl,hl⟩)⟩
 have hold:∀s∈D,∀b,b<w.heap.size->bl S' G' H' s b->∃s0∈D,bl st.slot G H s0 b:=fun s _ b hlt hl=>by
  rcases th s b hl with⟨s0,h0⟩|h0
  ·obtain⟨h1,h2⟩:=(tL s0 b).1 h0;exact⟨s0,h1,h2⟩
  ·omega
 have LY:∀b,b<w.heap.size->(∀s∈D,¬bl st.slot G H s b)->w'.heap[b]? =w.heap[b]? :=fun b hlt hn=>dQ.block b ⟨hlt,fun s hl=>by obtain⟨h1,h2⟩:=(tL s b).1 hl;exact hn s h1 h2⟩
 have m:Mv w w' (aZ M st.slot G H) (aZ M (lY D S' st).slot (fun s=>if s∈D then G' s else G s) (fun s=>if s∈D then H' s else H s)) st.slot (lY D S' st).slot G (fun s=>if s∈D then G' s else G s) H (fun s=>if s∈D then H' s else H s):=by
  refine⟨dQ.size,fun b hlt hb=> ?_,fun b hlt hb=>LY b hlt (fun s _ hl=>hb (.inr ⟨s,hl⟩)),fun s=> ?_,fun s e k g es h1 h2=> ?_,fun s g cs h1 h2=> ?_,fun s g K h1 h2=> ?_⟩
  ·rcases hb with hm|⟨s,hl⟩
   ·exact .inl hm
   ·rcases(uL s b).1 hl with⟨h1,h2⟩|⟨_,h2⟩
    ·obtain⟨s0,_,h3⟩:=hold s h1 b hlt h2;exact .inr ⟨s0,h3⟩
    ·exact .inr ⟨s,h2⟩
  ·rw[uS];by_cases h:s∈D
   ·have:=hh.gen s;dsimp only at this;rw[tS,aj h] at this;rw[aj h];exact this
   ·rw[af h];exact cI _
  ·rw[uS] at h1;by_cases h:s∈D
   ·rw[aj h] at h1;have:=hh.row s e k g es h1;dsimp only at this;rw[tS,aj h] at this;rw[aj h];exact this h2
   ·rw[af h] at h1;rw[af h];exact⟨⟨es,h1⟩,rfl⟩
  ·rw[uS] at h1;by_cases h:s∈D
   ·rw[aj h] at h1;have:=hh.box s g cs h1;dsimp only at this;rw[tS,aj h] at this;rw[aj h];exact this h2
   ·rw[af h] at h1;rw[af h];exact⟨⟨cs,h1⟩,rfl⟩
  ·rw[uS] at h1;by_cases h:s∈D
   ·rw[aj h] at h1;have:=hh.obj s g K h1;dsimp only at this;rw[tS,aj h] at this;rw[aj h,aj h];exact this h2
   ·rw[af h] at h1;rw[af h,af h];exact⟨⟨K,h1⟩,rfl,rfl⟩
 have sm:Fk D S' (lY D S' st).slot G' (fun s=>if s∈D then G' s else G s) H' (fun s=>if s∈D then H' s else H s):=⟨fun s hs=>by rw[uS,aj hs],fun s hs=>by simp[hs],fun s hs=>by simp[hs]⟩
 have hF:∀s b,bl S' G' H' s b->¬F b:=fun s b hl hf=>by
  rcases th s b hl with⟨s0,h0⟩|h0
  ·exact(hR.py ((tL s0 b).1 h0).2).2.1 hf
  ·have:=hR.lo.1 b (.inl hf);have:=hR.fr.size;omega
 refine⟨⟨hR.sz,hR.df,⟨dQ.os.trans hR.fr.os,dQ.tape.trans hR.fr.tape,dQ.out.trans hR.fr.out,bh hR.fr.size dQ.size,fun b hf=> ?_⟩,⟨fun i=>bh (hR.hs.gen i) (m.gen i),fun i e k g es h1 h2=> ?_,fun i g cs h1 h2=> ?_,fun i g K h1 h2=> ?_⟩,hR.lo,fun i y hy=>VR.mv m (hR.tm i y hy),fun s g cs hs=> ?_,fun s e k g es hs=> ?_,fun s g K hs=> ?_,fun s s' b h1 h2=> ?_⟩,hA,fun s hs b hlt hl=> ?_⟩
 ·rw[LY b (iB (hR.lo.1 b (.inl hf)) hR.fr.size) (fun s _ hl=>(hR.py hl).2.1 hf)];exact hR.fr.block b hf
 ·obtain⟨⟨LM,e5⟩,e6⟩:=m.row i e k g es h1 (bh h2 (hR.hs.gen i));rw[e6];exact hR.hs.row i e k g LM e5 h2
 ·obtain⟨⟨c0,e5⟩,e6⟩:=m.box i g cs h1 (bh h2 (hR.hs.gen i));rw[e6];exact hR.hs.box i g c0 e5 h2
 ·obtain⟨⟨c0,e5⟩,e6,e7⟩:=m.obj i g K h1 (bh h2 (hR.hs.gen i));rw[e6,e7];exact hR.hs.obj i g c0 e5 h2
 ·rw[uS] at hs;by_cases h:s∈D
  ·rw[aj h] at hs;obtain⟨f1,arr,f2,f3⟩:=bN.bx s g cs hs;have hc:=nM s h;rw[hs] at hc;rw[aj h,hA];exact⟨hF s _ (.inl ⟨g,cs,hs,rfl⟩),fun hm=>f1 (.inl hm),arr,f2,f3.same sm hc⟩
  ·rw[af h] at hs;obtain⟨f1,f2,arr,f3,f4⟩:=hR.bx s g cs hs;rw[af h];refine⟨f1,f2,arr,?_,cp.mv m f4⟩;obtain⟨t,ht⟩:=f3;exact⟨t,by rw[LY _ (ax.lt ⟨t,ht⟩) (fun s0 h0 hl=>h (by rw[hR.dj s s0 _ (.inl ⟨g,cs,hs,rfl⟩) hl];exact h0))];exact ht⟩
 ·rw[uS] at hs;by_cases h:s∈D
  ·rw[aj h] at hs;obtain⟨f1,xs,f2,f3⟩:=bN.rw s e k g es hs;rw[aj h,hA];exact⟨fun b hb=>⟨hF s b (.inr (.inl ⟨e,k,g,es,hs,hb⟩)),fun hm=>f1 b hb (.inl hm)⟩,xs,f2,f3⟩
  ·rw[af h] at hs;obtain⟨f1,xs,f2,f3⟩:=hR.rw s e k g es hs;rw[af h];refine⟨f1,xs,?_,f3.map fun x u hx=>IR.mv m hx⟩;obtain⟨q1,q2⟩:=f2;refine⟨q1,?_⟩
   rcases q2 with q2|⟨gg,cap,cur,q3,q4,q5,q6⟩
   ·exact .inl q2
   ·have hl:bl st.slot G H s gg:=.inr (.inl ⟨e,k,g,es,hs,by rw[q3];rfl⟩);exact .inr ⟨gg,cap,cur,q3,q4,by rw[LY gg (hR.py hl).1 (fun s0 h0 jl=>h (by rw[hR.dj s s0 _ hl jl];exact h0))];exact q5,q6⟩
 ·rw[uS] at hs;by_cases h:s∈D
  ·rw[aj h] at hs;obtain⟨f1,f2⟩:=bN.ob s g K hs;rw[aj h,aj h,hA];exact⟨fun b hb=>⟨hF s b (.inr (.inr ⟨g,K,hs,hb⟩)),fun hm=>f1 b hb (.inl hm)⟩,f2⟩
  ·rw[af h] at hs;obtain⟨f1,f2⟩:=hR.ob s g K hs;rw[af h,af h];refine⟨f1,K.mono f2 m.size m.off (fun b hlt hb=> ?_)⟩
   rcases hb with hb|hb
   ·exact LY b hlt (fun s0 h0 jl=>h (by rw[hR.dj s s0 b (.inr (.inr ⟨g,K,hs,hb⟩)) jl];exact h0))
   ·exact m.kept b hlt hb
 ·rcases(uL s b).1 h1 with⟨d1,l1⟩|⟨d1,l1⟩<;>rcases(uL s' b).1 h2 with⟨d2,l2⟩|⟨d2,l2⟩
  ·exact bN.dj s s' b l1 l2
  ·obtain⟨s0,h0,l0⟩:=hold s d1 b (hR.py l2).1 l1;exact absurd (by rw[hR.dj s' s0 b l2 l0];exact h0) d2
  ·obtain⟨s0,h0,l0⟩:=hold s' d2 b (hR.py l1).1 l2;exact absurd (by rw[hR.dj s s0 b l1 l0];exact h0) d1
  ·exact hR.dj s s' b l1 l2
 ·rcases(uL s b).1 hl with⟨_,l1⟩|⟨d1,_⟩
  ·exact hold s hs b hlt l1
  ·exact absurd hs d1
theorem aoi {U:Option (List Nat)}{o:Oper}{f:FuncId}{fn:Func}{xs:Array Operand}{ys:List aP}{ts:Array TypeId}{D:List Nat}(ho:o.op=.call { callee:=.value (.func f),args:=xs,argTypes:=ts })(hf:P.funcs[f]? =some fn)(hn:(fn.name== "runtime.NumGoroutine")=false)(hb:fn.body.isNone=false)(hx:IX xs.toList ys):
  nK P U o (acT P U f ys D):=by
 intro N F M w0 w st G H a X hR hs K Q hK;obtain⟨ws,R,e1,e2,hD,hU,hC,hX⟩:=hs;obtain⟨f1,f2⟩:=hR.lX hx e1
 have tS:∀s,gL (fP st D) s=if s∈D then st.slot s else .dead 0:=fun s=>by
  unfold gL;rw[Qf];by_cases h:s∈D<;>simp[h]
 have tL:∀s b,bl (gL (fP st D)) G H s b↔s∈D/\bl st.slot G H s b:=fun s b=>by
  unfold bl;rw[tS];by_cases h:s∈D
  ·simp[h]
  ·simp[h]
 have sm:Fk D st.slot (gL (fP st D)) G G H H:=⟨fun s hs=>by rw[tS,aj hs],fun _ _=>rfl,fun _ _=>rfl⟩
 have hA:aZ (fun b=>M b\/∃s,s∉D/\bl st.slot G H s b) (gL (fP st D)) G H=aZ M st.slot G H:=by
  funext b;apply propext;constructor
  ·rintro((hm|⟨s,_,h2⟩)|⟨s,hl⟩)
   ·exact .inl hm
   ·exact .inr ⟨s,h2⟩
   ·exact .inr ⟨s,((tL s b).1 hl).2⟩
  ·rintro(hm|⟨s,hl⟩)
   ·exact .inl (.inl hm)
   ·by_cases h:s∈D
    ·exact .inr ⟨s,(tL s b).2 ⟨h,hl⟩⟩
    ·exact .inl (.inr ⟨s,h,hl⟩)
 have hM:∀b,(M b\/∃s,s∉D/\bl st.slot G H s b)->b<w.heap.size:=fun b hb=>by
  rcases hb with hm|⟨s,_,hl⟩
  ·exact iB (hR.lo.1 b (.inr hm)) hR.fr.size
  ·exact(hR.py hl).1
 have bN:LX (fun b=>M b\/∃s,s∉D/\bl st.slot G H s b) (gL (fP st D)) G H w:=by
  refine⟨fun s g cs hs=> ?_,fun s e k g es hs=> ?_,fun s g K hs=> ?_,fun s s' b h1 h2=>hR.dj s s' b ((tL s b).1 h1).2 ((tL s' b).1 h2).2⟩
  ·have dm:=hs;rw[tS] at dm;split at dm
   ·rename_i h;obtain⟨_,g2,arr,g3,g4⟩:=hR.bx s g cs dm;have hc:=(hD s h).2;rw[dm] at hc;rw[hA];exact⟨fun hm=>hm.elim g2 (fun⟨s0,h0,hl⟩=>h0 (by rw[hR.dj s0 s _ hl (.inl ⟨g,cs,dm,rfl⟩)];exact h)),arr,g3,g4.same sm hc⟩
   ·cases dm
  ·have dm:=hs;rw[tS] at dm;split at dm
   ·rename_i h;obtain⟨g1,xs,g3,g4⟩:=hR.rw s e k g es dm;rw[hA];exact⟨fun b hb hm=>hm.elim (g1 b hb).2 (fun⟨s0,h0,hl⟩=>h0 (by rw[hR.dj s0 s _ hl (.inr (.inl ⟨e,k,g,es,dm,hb⟩))];exact h)),xs,g3,g4⟩
   ·cases dm
  ·have dm:=hs;rw[tS] at dm;split at dm
   ·rename_i h;obtain⟨g1,g2⟩:=hR.ob s g K dm;rw[hA];exact⟨fun b hb hm=>hm.elim (g1 b hb).2 (fun⟨s0,h0,hl⟩=>h0 (by rw[hR.dj s0 s _ hl (.inr (.inr ⟨g,K,dm,hb⟩))];exact h)),g2⟩
   ·cases dm
 have Vx:=hC (fun b=>M b\/∃s,s∉D/\bl st.slot G H s b) w G H (xs.toList.map a.eval) bN ⟨hM,hR.glo fun b hf hb=>⟨hb,fun s hl=>(hR.py ((tL s b).1 hl).2).2.1 hf⟩⟩ (by simpa using f1) (fun i x v h1 h2=>by
  rw[hA]
  exact(f2 i x v h1 h2).same sm (fg.1 e2 x (dD h1)))
 unfold Oper.wp execOp;simp only[ho,resolve,Act.eval,Deferred.ofValue,invoke,callFunc,hf,hn,hb,nX,rP,qw,program,Sem.run]
 have pE:(#[]++xs.map a.eval++#[]:Array Value)=(xs.toList.map a.eval).toArray:=by
  apply Array.ext';simp
 simp only[ye,nY,Sem.run]
 show Oper.upon P o a K Q (.ok (.enter f (#[]++xs.map a.eval++#[])) w)
 rw[pE,Oper.upon_enter]
 refine Vx.mono fun e w' he=> ?_
 obtain⟨v,r,S',G',H',rfl,hr,hv,aoj,hh,dQ,th,Vz⟩:=he;obtain⟨⟨tB,hcs⟩,VA⟩:=hX r S' hr;obtain⟨bI,hA',hL'⟩:=hR.bp (fun s hs=>(hD s hs).1) aoj hh dQ th Vz hcs
 have sm':Fk D S' (lY D S' st).slot G' (fun s=>if s∈D then G' s else G s) H' (fun s=>if s∈D then H' s else H s):=⟨fun s hs=>by rw[Vy (fun s hs=>(hD s hs).1),aj hs],fun s hs=>by simp[hs],fun s hs=>by simp[hs]⟩
 refine hK r _ _ _ v w' VA bI ⟨dQ.size,fun l hl=> ?_⟩ (by rw[hA'];exact hv.same sm' tB);subst hl;refine⟨fun b hlt hn=>dQ.block b ⟨hlt,fun s hl=> ?_⟩,fun s hs b hlt hl=> ?_⟩
 ·obtain⟨h1,h2⟩:=(tL s b).1 hl;exact hn s (hU s h1) h2
 ·by_cases h:s∈D
  ·obtain⟨s0,h0,l0⟩:=hL' s h b hlt hl;exact⟨s0,hU s0 h0,l0⟩
  ·refine⟨s,hs,?_⟩;unfold bl at hl⊢;rw[Vy (fun s hs=>(hD s hs).1),af h] at hl;simpa [h] using hl
end
structure AO where
 dst:Option Nat
 guard:Option (Nat×Bool)
 vm:Option (List Nat)->Fj
 ev:Option (Bool×(St->List Nat->Option AV))
def St.lv (st:St)(ao:AO)(x:AV):St:=match ao.dst with
 |some d=>st.put d x
 |none=>st
def kM (x:Option AV)(want:Bool):Option Bool:=match x with
 |some (.w (.c (.v (.bool b))))=>some (b==want)
 |some (.cg [])=>some false
 |_=>none
def qN (U:Option (List Nat))(ao:AO)(K:St->Prop)(st:St):Prop:=match ao.guard with
 |none=>ao.vm U st fun x st'=>K (st'.lv ao x)
 |some (t,want)=>match kM (st.arg (.t t)) want with
  |some true=>ao.vm U st fun x st'=>K (st'.lv ao x)
  |some false=>K (st.lv ao (.cg []))
  |none=>False
def bm (U:Option (List Nat)):List AO->(St->Prop)->St->Prop
 |[],K,st=>K st
 |ao::r,K,st=>qN U ao (bm U r K) st
structure IY (P:Program)(N:Nat)(ops:Array Oper)(o:Oper)(ao:AO):Prop where
 vm:∀U,nK P U o (ao.vm U)
 dst:o.dst=ao.dst
 lt:∀d,ao.dst=some d->d<N
 guard:match o.guard,ao.guard with
  |none,none=>True
  |some (j,want),some (t,Qg)=>want=Qg/\(ops[j]?).bind (·.dst)=some t
  |_,_=>False
 ev:∀m e,ao.ev=some (m,e)->jG P m o e
section
variable {P:Program} {N:Nat} {F M:Nat->Prop} {w0:jX} {w:World} {st:St} {G:Nat->Gh} {H:Nat->Value} {a:Act}
variable {K:Act->World->Prop} {Q:Exit->Act->World->Prop} {cR:List AO} {id:Nat} {o:Oper} {ops:Array Oper} {os:List Oper}
theorem Rel.lv(h:Rel N F M w0 st G H a w){ao:AO}(hk:IY P N ops o ao){x:AV}{v:Value}(hv:VR w (aZ M st.slot G H) st.slot G H x v):Rel N F M w0 (st.lv ao x) G H (a.put o.dst v) w:=by
 rw[hk.dst];unfold St.lv
 cases hd:ao.dst with
 |none=>exact h
 |some d=>exact h.put (hk.lt d hd) hv
theorem IZ(st:St)(ao:AO)(x:AV):(st.lv ao x).slot=st.slot:=by
 unfold St.lv;split
 ·have hS:∀d,(st.put d x).S=st.S:=fun d=>by unfold St.put;split<;>rfl
  funext i;unfold St.slot;rw[hS]
 ·rfl
theorem acU{ao:AO}(hk:IY P N ops o ao)(hR:Rel N F M w0 st G H a w):
  (ao.guard=none->Region.wanted o (yielded ops a.tmps)=true)/\∀t want b,ao.guard=some (t,want)->kM (st.arg (.t t)) want=some b->Region.wanted o (yielded ops a.tmps)=b:=by
 have hg:=hk.guard;unfold Region.wanted;refine⟨fun h0=> ?_,fun t want b h0 hb=> ?_⟩
 ·rw[h0] at hg
  cases Qh:o.guard with
  |none=>rfl
  |some p=>rw[Qh] at hg;exact hg.elim
 ·rw[h0] at hg
  cases Qh:o.guard with
  |none=>rw[Qh] at hg;exact hg.elim
  |some p=>
   obtain⟨j,Qg⟩:=p;rw[Qh] at hg;obtain⟨rfl,hj⟩:=hg
   show(yielded ops a.tmps j==some Qg)=b
   unfold kM at hb;split at hb
   ·rename_i c hc
    have LP:st.sc (.t t)=some (.bool c):=by unfold St.sc;rw[hc];rfl
    obtain⟨e1,_⟩:=hR.sc (x:=.tmp t) (y:=.t t) rfl LP
    have ht:a.tmps[t]? =some (.bool c):=by
     simp only[Act.eval,Lj] at e1
     cases h:a.tmps[t]? with
     |none=>rw[h] at e1;simp[undef] at e1
     |some u=>rw[h] at e1;simp at e1;rw[e1]
    have hy:yielded ops a.tmps j=some c:=by
     unfold yielded;rw[hj];simp[ht]
    rw[hy];simp only[aC] at hb;subst hb;cases c<;>cases Qg<;>rfl
   ·rename_i hc;simp only[aC] at hb;subst hb;obtain⟨arr,e1,e2,_⟩:=hR.arg (x:=.tmp t) (y:=.t t) rfl hc;have pE:arr=[]:=ya e2;subst pE
    have hy:yielded ops a.tmps j=none:=by
     unfold yielded;rw[hj];simp only[Act.eval,Lj] at e1
     cases h:a.tmps[t]? with
     |none=>simp[h]
     |some u=>rw[h] at e1;simp at e1;simp[h,e1]
    rw[hy];rfl
   ·cases hb
theorem Fl{U:Option (List Nat)}{ao:AO}(hk:IY P N ops o ao)(hR:Rel N F M w0 st G H a w){X:St->Prop}(hs:qN U ao X st)
  (hK:∀st' G' H' a' w',X st'->Rel N F M w0 st' G' H' a' w'->Cz U st.slot G H w st'.slot G' H' w'->K a' w'):if Region.wanted o (yielded ops a.tmps)=true then Oper.wp P o a w K Q else K (a.put o.dst undef) w:=by
 obtain⟨ou,iF⟩:=acU hk hR
 have go:ao.vm U st (fun x st'=>X (st'.lv ao x))->Oper.wp P o a w K Q:=fun aok=>
  hk.vm U N F M w0 w st G H a _ hR aok K Q fun x st' G' H' v w' hX bI hst hv=>hK _ G' H' _ w' hX (bI.lv hk hv) (by rw[IZ];exact hst)
 have stay:X (st.lv ao (.cg []))->K (a.put o.dst undef) w:=fun hX=>hK _ G H _ w hX (hR.lv hk (x:=.cg []) ⟨[],rfl,rfl,fun j x u h=>by simp at h⟩) (by rw[IZ];exact LO aA fun _ _=>rfl)
 unfold qN at hs;split at hs
 ·rename_i hg;rw[aj (ou hg)];exact go hs
 ·rename_i t want hg;split at hs
  ·rename_i hb;rw[iF t want _ hg hb,aj rfl];exact go hs
  ·rename_i hb;rw[iF t want _ hg hb,af ai];exact stay hs
  ·exact hs.elim
inductive qO (P:Program)(N:Nat)(ops:Array Oper):List Oper->List AO->Prop where
 |nil:qO P N ops [] []
 |cons {o:Oper} {ao:AO} {os:List Oper} {cR:List AO} (h:IY P N ops o ao) (r:qO P N ops os cR):qO P N ops (o::os) (ao::cR)
theorem acV(hk:qO P N ops os cR):∀{st:St} {G:Nat->Gh} {H:Nat->Value} {a:Act} {w:World} {K:St->Prop},Rel N F M w0 st G H a w->bm none cR K st->
  (∀st' G' H' a' w',K st'->Rel N F M w0 st' G' H' a' w'->Q .normal a' w')->wpList P ops Q os a w:=by
 induction hk with
 |nil=>intro st G H a w K hR hs hQ;exact hQ st G H a w hs hR
 |cons h r ih=>
  intro st G H a w K hR hs hQ;have:=Fl (Q:=Q) h hR hs (K:=wpList P ops Q _) (fun st' G' H' a' w' hX bI _=>ih bI hX hQ);unfold wpList;split
  ·rename_i hw;rw[aj hw] at this;exact .inl this
  ·rename_i hw;rw[af hw] at this;exact this
theorem aol(hk:qO P N ops ops.toList cR){K:St->Prop}(hR:Rel N F M w0 st G H a w)(hs:bm none cR K st)
  (hQ:∀st' G' H' a' w',K st'->Rel N F M w0 st' G' H' a' w'->Q .normal a' w'):(Code.region id ops false).wp P Q a w:=wp_region_list (acV hk hR hs hQ)
def aU (U:List Nat)(cR tl:List AO)(K:St->Prop):OT->Bool->St->Prop
 | .nil,_,st=>bm none tl K st
 | .take i t,bp,st=>match cR[i]? with
  |none=>False
  |some ao=>match ao.ev with
   |none=>False
   |some (mem,ev)=>(mem=true->bp=false)/\match ao.guard with
    |none=>∃x,ev st U=some x/\aU U cR tl K t bp (st.lv ao x)
    |some (g,want)=>match kM (st.arg (.t g)) want with
     |some true=>∃x,ev st U=some x/\aU U cR tl K t bp (st.lv ao x)
     |some false=>aU U cR tl K t bp (st.lv ao (.cg []))
     |none=>False
 | .move i t,_,st=>match cR[i]? with
  |none=>False
  |some ao=>qN (some U) ao (aU U cR tl K t true) st
 | .fork i j ti tj,_,st=>(match cR[i]? with
  |none=>False
  |some ao=>qN (some U) ao (aU U cR tl K ti true) st)/\match cR[j]? with
  |none=>False
  |some ao=>qN (some U) ao (aU U cR tl K tj true) st
 | .uX i j k ti tj tk,_,st=>(match cR[i]? with
  |none=>False
  |some ao=>qN (some U) ao (aU U cR tl K ti true) st)/\(match cR[j]? with
  |none=>False
  |some ao=>qN (some U) ao (aU U cR tl K tj true) st)/\match cR[k]? with
  |none=>False
  |some ao=>qN (some U) ao (aU U cR tl K tk true) st
theorem qO.get(hk:qO P N ops os cR):∀{i:Nat} {ao:AO},cR[i]? =some ao->∃o,os[i]? =some o/\IY P N ops o ao:=by
 induction hk with
 |nil=>intro i ao h;simp at h
 |cons h r ih=>
  intro i ao hi
  cases i with
  |zero=>simp at hi;subst hi;exact⟨_,rfl,h⟩
  |succ i=>exact ih (by simpa using hi)
theorem qO.drop(hk:qO P N ops os cR):∀n,qO P N ops (os.drop n) (cR.drop n):=by
 induction hk with
 |nil=>intro n;simp;exact .nil
 |cons h r ih=>
  intro n
  cases n with
  |zero=>exact .cons h r
  |succ n=>exact ih n
theorem Ja{U:List Nat}{S0 S S':Nat->Slot}{G0 G':Nat->Gh}{H0 H':Nat->Value}{wr w':World}(hz:wr.heap.size<=w.heap.size)(hA:cJ U S0 G0 H0 wr w)(hL:∀s∈U,∀b,b<wr.heap.size->bl S G H s b->∃s0∈U,bl S0 G0 H0 s0 b)
  (hst:Cz (some U) S G H w S' G' H' w'):wr.heap.size<=w'.heap.size/\cJ U S0 G0 H0 wr w'/\∀s∈U,∀b,b<wr.heap.size->bl S' G' H' s b->∃s0∈U,bl S0 G0 H0 s0 b:=by
 obtain⟨h1,h2⟩:=hst.2 U rfl
 refine⟨bh hz hst.1,fun b hlt hn=> ?_,fun s hs b hlt hl=>by
  obtain⟨s1,eP,cq⟩:=h2 s hs b (iB hlt hz) hl
  exact hL s1 eP b hlt cq⟩
 rw[h1 b (iB hlt hz) (fun s hs hl=>by
  obtain⟨s1,eP,cq⟩:=hL s hs b hlt hl
  exact hn s1 eP cq)]
 exact hA b hlt hn
theorem Jb{S:World->Prop}(h:if Region.wanted o (yielded ops a.tmps)=true then Oper.wp P o a w (fun a' w'=>S w'/\K a' w') Q else S w/\K (a.put o.dst undef) w):
  if Region.wanted o (yielded ops a.tmps)=true then Oper.wp P o a w (fun a' w'=>S w'/\K a' w') Q else S w/\K (a.put o.dst undef) w:=h
theorem Ay {l:List Oper}{Q:Exit->Act->World->Prop}{cR:List AO}{n:Nat}(hk:qO P N l.toArray l cR){U:List Nat}{K:St->Prop}{S0:Nat->Slot}{G0:Nat->Gh}{H0:Nat->Value}{wr:World}
  (hQ:∀st' G' H' a' w',K st'->Rel N F M w0 st' G' H' a' w'->Q .normal a' w'):∀(t:OT) (bp:Bool) {st:St} {G:Nat->Gh} {H:Nat->Value} {a:Act} {w:World},Rel N F M w0 st G H a w->aU U cR (cR.drop n) K t bp st->
   wr.heap.size<=w.heap.size->cJ U S0 G0 H0 wr w->(∀s∈U,∀b,b<wr.heap.size->bl st.slot G H s b->∃s0∈U,bl S0 G0 H0 s0 b)->(bp=false->w=wr/\st.slot=S0/\G=G0/\H=H0)->
   jg P l.toArray Q (fun w'=>wr.heap.size<=w'.heap.size/\cJ U S0 G0 H0 wr w') (wpList P l.toArray Q (l.drop n)) l t a w
 | .nil,bp,st,G,H,a,w,hR,hs,hz,hA,hL,h0=>acV (hk.drop n) hR hs hQ
 | .take i t,bp,st,G,H,a,w,hR,hs,hz,hA,hL,h0=>by
  unfold aU at hs;split at hs
  ·exact hs.elim
  rename_i ao tC;split at hs
  ·exact hs.elim
  rename_i mem ev aF;obtain⟨yB,hs⟩:=hs;obtain⟨o,ho,ct⟩:=hk.get tC;obtain⟨ou,iF⟩:=acU ct hR;have yC:=ct.ev mem ev aF
  have yes:Region.wanted o (yielded l.toArray a.tmps)=true->(∃x,ev st U=some x/\aU U cR (cR.drop n) K t bp (st.lv ao x))->
    jg P l.toArray Q (fun w'=>wr.heap.size<=w'.heap.size/\cJ U S0 G0 H0 wr w') (wpList P l.toArray Q (l.drop n)) l (.take i t) a w:=by
   rintro hw ⟨x,hx,hs⟩;obtain⟨v,hv,hrun⟩:=yC N F M w0 w st G H a U x hR hx;refine⟨o,v,ho,.inl ⟨hw,fun w' hw'=>hrun w' fun hm=> ?_⟩,Ay hk hQ t bp (hR.lv ct hv) hs hz hA (by rw[IZ];exact hL) (fun hm=>by rw[IZ];exact h0 hm)⟩;obtain⟨rfl,e1,rfl,rfl⟩:=h0 (yB hm);rw[e1];exact hw'.2
  have no:Region.wanted o (yielded l.toArray a.tmps)=false->aU U cR (cR.drop n) K t bp (st.lv ao (.cg []))->
    jg P l.toArray Q (fun w'=>wr.heap.size<=w'.heap.size/\cJ U S0 G0 H0 wr w') (wpList P l.toArray Q (l.drop n)) l (.take i t) a w:=by
   intro hw hs;exact⟨o,undef,ho,.inr ⟨hw,rfl⟩,Ay hk hQ t bp (hR.lv ct (x:=.cg []) ⟨[],rfl,rfl,fun j x u h=>by simp at h⟩) hs hz hA (by rw[IZ];exact hL) (fun hm=>by rw[IZ];exact h0 hm)⟩
  split at hs
  ·rename_i hg;exact yes (ou hg) hs
  ·rename_i g want hg;split at hs
   ·rename_i hb;exact yes (iF g want _ hg hb) hs
   ·rename_i hb;exact no (iF g want _ hg hb) hs
   ·exact hs.elim
 | .move i t,bp,st,G,H,a,w,hR,hs,hz,hA,hL,h0=>by
  unfold aU at hs;split at hs
  ·exact hs.elim
  rename_i ao tC;obtain⟨o,ho,ct⟩:=hk.get tC
  exact⟨o,ho,Fl (Q:=Q) ct hR hs (K:=fun a' w'=>(wr.heap.size<=w'.heap.size/\cJ U S0 G0 H0 wr w')/\jg P l.toArray Q (fun w'=>wr.heap.size<=w'.heap.size/\cJ U S0 G0 H0 wr w') (wpList P l.toArray Q (l.drop n)) l t a' w') (fun st' G' H' a' w' hX bI hst=>by
   obtain⟨g1,g2,g3⟩:=Ja hz hA hL hst
   exact⟨⟨g1,g2⟩,Ay hk hQ t true bI hX g1 g2 g3 (fun h=>by cases h)⟩)|>Jb⟩
 | .fork i j ti tj,bp,st,G,H,a,w,hR,hs,hz,hA,hL,h0=>by
  unfold aU at hs;obtain⟨h1,h2⟩:=hs;refine⟨?_,?_⟩
  ·split at h1
   ·exact h1.elim
   rename_i ao tC;obtain⟨o,ho,ct⟩:=hk.get tC
   exact⟨o,ho,Fl (Q:=Q) ct hR h1 (K:=fun a' w'=>(wr.heap.size<=w'.heap.size/\cJ U S0 G0 H0 wr w')/\jg P l.toArray Q (fun w'=>wr.heap.size<=w'.heap.size/\cJ U S0 G0 H0 wr w') (wpList P l.toArray Q (l.drop n)) l ti a' w') (fun st' G' H' a' w' hX bI hst=>by
    obtain⟨g1,g2,g3⟩:=Ja hz hA hL hst
    exact⟨⟨g1,g2⟩,Ay hk hQ ti true bI hX g1 g2 g3 (fun h=>by cases h)⟩)|>Jb⟩
  ·split at h2
   ·exact h2.elim
   rename_i ao tC;obtain⟨o,ho,ct⟩:=hk.get tC
   exact⟨o,ho,Fl (Q:=Q) ct hR h2 (K:=fun a' w'=>(wr.heap.size<=w'.heap.size/\cJ U S0 G0 H0 wr w')/\jg P l.toArray Q (fun w'=>wr.heap.size<=w'.heap.size/\cJ U S0 G0 H0 wr w') (wpList P l.toArray Q (l.drop n)) l tj a' w') (fun st' G' H' a' w' hX bI hst=>by
    obtain⟨g1,g2,g3⟩:=Ja hz hA hL hst
    exact⟨⟨g1,g2⟩,Ay hk hQ tj true bI hX g1 g2 g3 (fun h=>by cases h)⟩)|>Jb⟩
 | .uX i j k ti tj tk,bp,st,G,H,a,w,hR,hs,hz,hA,hL,h0=>by
  unfold aU at hs;obtain⟨h1,h2,h3⟩:=hs;refine⟨?_,?_,?_⟩
  ·split at h1
   ·exact h1.elim
   rename_i ao tC;obtain⟨o,ho,ct⟩:=hk.get tC
   exact⟨o,ho,Fl (Q:=Q) ct hR h1 (K:=fun a' w'=>(wr.heap.size<=w'.heap.size/\cJ U S0 G0 H0 wr w')/\jg P l.toArray Q (fun w'=>wr.heap.size<=w'.heap.size/\cJ U S0 G0 H0 wr w') (wpList P l.toArray Q (l.drop n)) l ti a' w') (fun st' G' H' a' w' hX bI hst=>by
    obtain⟨g1,g2,g3⟩:=Ja hz hA hL hst
    exact⟨⟨g1,g2⟩,Ay hk hQ ti true bI hX g1 g2 g3 (fun h=>by cases h)⟩)|>Jb⟩
  ·split at h2
   ·exact h2.elim
   rename_i ao tC;obtain⟨o,ho,ct⟩:=hk.get tC
   exact⟨o,ho,Fl (Q:=Q) ct hR h2 (K:=fun a' w'=>(wr.heap.size<=w'.heap.size/\cJ U S0 G0 H0 wr w')/\jg P l.toArray Q (fun w'=>wr.heap.size<=w'.heap.size/\cJ U S0 G0 H0 wr w') (wpList P l.toArray Q (l.drop n)) l tj a' w') (fun st' G' H' a' w' hX bI hst=>by
    obtain⟨g1,g2,g3⟩:=Ja hz hA hL hst
    exact⟨⟨g1,g2⟩,Ay hk hQ tj true bI hX g1 g2 g3 (fun h=>by cases h)⟩)|>Jb⟩
  ·split at h3
   ·exact h3.elim
   rename_i ao tC;obtain⟨o,ho,ct⟩:=hk.get tC
   exact⟨o,ho,Fl (Q:=Q) ct hR h3 (K:=fun a' w'=>(wr.heap.size<=w'.heap.size/\cJ U S0 G0 H0 wr w')/\jg P l.toArray Q (fun w'=>wr.heap.size<=w'.heap.size/\cJ U S0 G0 H0 wr w') (wpList P l.toArray Q (l.drop n)) l tk a' w') (fun st' G' H' a' w' hX bI hst=>by
    obtain⟨g1,g2,g3⟩:=Ja hz hA hL hst
    exact⟨⟨g1,g2⟩,Ay hk hQ tk true bI hX g1 g2 g3 (fun h=>by cases h)⟩)|>Jb⟩
theorem aom{l:List Oper}(n:Nat)(t:OT)(U:List Nat)(hk:qO P N l.toArray l cR)(hm:P.follows .mixedOrders=true)(hB:(Region.noSelect l.toArray && qz .any l.toArray n && nZ .any l.toArray n t n (Array.replicate l.toArray.size false))=true)
  {K:St->Prop} (hR:Rel N F M w0 st G H a w) (hs:aU U cR (cR.drop n) K t false st) (hQ:∀st' G' H' a' w',K st'->Rel N F M w0 st' G' H' a' w'->Q .normal a' w'):(Code.region id l.toArray true).wp P Q a w:=by
 have bI:Rel N F M w0 st G H a w.drew:=hR.grow rfl rfl rfl aA (fun _ _=>rfl);refine PJ n t (fun w'=>w.drew.heap.size<=w'.heap.size/\cJ U st.slot G H w.drew w') hm rfl hB ⟨cI _,fun _ _ _=>rfl⟩ ?_;exact Ay (Q:=NoPanic Q) hk (fun st' G' H' a' w' hK hR=>NoPanic.normal (hQ st' G' H' a' w' hK hR)) t false bI hs aA (fun _ _ _=>rfl) (fun s hs _ _ h=>⟨s,hs,h⟩) (fun _=>⟨rfl,rfl,rfl,rfl⟩)
end
def lx (s g:Nat)(es:List (List AC)):AC->AC
 | .own s' g'=>if s'=s/\g'=g then .sl es else .own s' g'
 |x=>x
def Qi (s g:Nat)(es:List (List AC)):AW->AW
 | .c x=> .c (lx s g es x)
 | .agg cs=> .agg (cs.map (lx s g es))
def wM (s g:Nat)(es:List (List AC)):AV->AV
 | .w x=> .w (Qi s g es x)
 | .cg vs=> .cg (vs.map (Qi s g es))
 |x=>x
def ow (s g:Nat)(es:List (List AC)):Slot->Slot
 | .box g' cs=> .box g' (cs.map (lx s g es))
 |x=>x
def mapA {α:Type}(f:Nat->α->α)(l:List (Nat×α)):List (Nat×α):=l.map fun p=>(p.1,f p.1 p.2)
theorem LZ {α:Type}(f:Nat->α->α):∀(l:List (Nat×α)) (i:Nat),aH (mapA f l) i=(aH l i).map (f i)
 |[],i=>rfl
 |(j,x)::l,i=>by
  have ih:=LZ f l i;unfold mapA at ih⊢;simp only[cY,aH,ih];by_cases h:j=i
  ·subst h;simp
  ·simp[h]
def St.freeze (st:St)(s:Nat):St:=match st.slot s with
 | .row _ k g es=>if 0<k then⟨mapA (fun _=>wM s g es) st.V,mapA (fun _=>wM s g es) st.L,mapA (fun i x=>if i=s then .dead g else ow s g es x) st.S⟩ else st
 |_=>st
section
variable {P:Program} {N:Nat} {F M:Nat->Prop} {w0:jX} {w:World} {st:St} {G:Nat->Gh} {H:Nat->Value} {a:Act}
theorem Rel.freeze (h:Rel N F M w0 st G H a w)(s:Nat):Rel N F M w0 (st.freeze s) G H a w:=by
 unfold St.freeze;split
 case h_2=>exact h
 rename_i e k g es hs;split
 case isFalse=>exact h
 rename_i bj
 have bN:∀i,(St.mk (mapA (fun _=>wM s g es) st.V) (mapA (fun _=>wM s g es) st.L) (mapA (fun i x=>if i=s then .dead g else ow s g es x) st.S)).slot i=if i=s then .dead g else ow s g es (st.slot i):=by
  intro i;unfold St.slot;dsimp only;rw[LZ]
  cases hi:aH st.S i with
  |some x=>rfl
  |none=>
   by_cases dK:i=s
   ·subst dK;unfold St.slot at hs;rw[hi] at hs;cases hs
   ·simp[dK,ow]
 generalize hst:(St.mk (mapA (fun _=>wM s g es) st.V) (mapA (fun _=>wM s g es) st.L) (mapA (fun i x=>if i=s then .dead g else ow s g es x) st.S))=st' at bN⊢
 have oq:∀i,(st'.slot i).gen=(st.slot i).gen:=fun i=>by
  rw[bN];by_cases dK:i=s
  ·subst dK;rw[aj rfl,hs];rfl
  ·rw[af dK];cases st.slot i<;>rfl
 have aW:∀i e2 k2 g2 eu,st'.slot i=.row e2 k2 g2 eu↔i≠s/\st.slot i=.row e2 k2 g2 eu:=fun i e2 k2 g2 eu=>by
  rw[bN];by_cases dK:i=s
  ·simp[dK]
  ·rw[af dK];cases st.slot i<;>simp[ow,dK]
 have fL:∀i g2 ot,st'.slot i=.box g2 ot↔∃cs,st.slot i=.box g2 cs/\ot=cs.map (lx s g es):=fun i g2 ot=>by
  rw[bN];by_cases dK:i=s
  ·subst dK;rw[aj rfl,hs];simp
  ·rw[af dK]
   cases hq:st.slot i with
   |dead g=>simp[ow]
   |row e k g es=>simp[ow]
   |obj g K=>simp[ow]
   |box g3 cs3=>
    simp only[ow,Slot.box.injEq];constructor
    ·rintro⟨rfl,rfl⟩;exact⟨cs3,⟨rfl,rfl⟩,rfl⟩
    ·rintro⟨cs,⟨rfl,rfl⟩,rfl⟩;exact⟨rfl,rfl⟩
 have tp:∀i g2 K2,st'.slot i=.obj g2 K2↔i≠s/\st.slot i=.obj g2 K2:=fun i g2 K2=>by
  rw[bN];by_cases dK:i=s
  ·simp[dK]
  ·rw[af dK];cases st.slot i<;>simp[ow,dK]
 have mE:∀i b,bl st'.slot G H i b->i≠s/\bl st.slot G H i b:=fun i b hl=>by
  rcases hl with⟨g2,ot,h1,h2⟩|⟨e2,k2,g2,eu,h1,h2⟩|⟨g2,K2,h1,h2⟩
  ·obtain⟨cs,h3,_⟩:=(fL i g2 ot).1 h1;refine⟨fun e=> ?_,.inl ⟨g2,cs,h3,h2⟩⟩;subst e;rw[hs] at h3;cases h3
  ·obtain⟨h3,h4⟩:=(aW i e2 k2 g2 eu).1 h1;exact⟨h3,.inr (.inl ⟨e2,k2,g2,eu,h4,h2⟩)⟩
  ·obtain⟨h3,h4⟩:=(tp i g2 K2).1 h1;exact⟨h3,.inr (.inr ⟨g2,K2,h4,h2⟩)⟩
 have Au:∀b,aZ M st'.slot G H b->aZ M st.slot G H b:=fun b hb=>by
  rcases hb with hm|⟨i,hl⟩
  ·exact .inl hm
  ·exact .inr ⟨i,(mE i b hl).2⟩
 have pF:∀{z:AC} {v:Value},IR w (aZ M st.slot G H) z v->IR w (aZ M st'.slot G H) z v:=fun hz=>hz.mono aA (fun b _ hb=>Au b hb) (fun _ _ _=>rfl)
 have aon:IR w (aZ M st'.slot G H) (.sl es) (H s):=by
  obtain⟨hn,xs,how,kK⟩:=h.rw s e k g es hs;have hl:=how.1
  rcases how.2 with⟨e1,e2⟩|⟨gg,cap,cur,e1,_,PY,np,Az,_,_⟩
  ·have h0:es=[]:=ya e2;subst h0;rw[e1];exact IR.sl 0 [] none 0 (fun _ _=>undef) aA ai (by intro i row h;simp at h) (by intro i row j x h;simp at h) (by intro i row j h;simp at h)
  ·rw[e1];have hcell:=how.cells (g:=gg) (by rw[e1];rfl)
   have aV:(H s).ownBlock=some gg:=by rw[e1];rfl
   have VB:¬aZ M st'.slot G H gg:=fun hh=>by
    rcases hh with hm|⟨i,jl⟩
    ·exact(hn gg aV).2 hm
    ·obtain⟨d1,l1⟩:=mE i gg jl;exact d1 (h.dj i s gg l1 (.inr (.inl ⟨e,k,g,es,hs,aV⟩)))
   exact LV rfl (kK.map fun x u hx=>pF hx) hl VB np (by simp only[maxLen] at Az;omega) (fun j u hj=>by
    have:=hcell j u hj
    rwa[Addr.add_mid,eM] at this)
 have hC:∀{x:AC} {u:Value},CR w (aZ M st.slot G H) st.slot G H x u->CR w (aZ M st'.slot G H) st'.slot G H (lx s g es x) u:=by
  intro x u hx
  cases x with
  |v x=>exact pF hx
  |sl es=>exact pF hx
  |fc f bP=>exact pF hx
  |cB s' g'=>
   obtain⟨h1,h2,h3⟩:=hx;exact⟨h1,by rw[oq];exact h2,fun K he=>h3 K ((tp s' g' K).1 he).2⟩
  |part s' g' i'=>
   obtain⟨h1,h2,h3⟩:=hx;exact⟨h1,by rw[oq];exact h2,fun K he=>h3 K ((tp s' g' K).1 he).2⟩
  |cls f bP=>
   obtain⟨ps,h1,h2,h3⟩:=hx;refine⟨ps,h1,h2,fun i q p e1 e2=> ?_⟩;obtain⟨h4,h5⟩:=h3 i q p e1 e2;exact⟨by rw[oq];exact h4,fun cs he=>by obtain⟨cs',g1,_⟩:=(fL q.1 q.2 cs).1 he;exact h5 cs' g1⟩
  |own s' g'=>
   obtain⟨h1,h2,h3⟩:=hx;unfold lx;dsimp only;split
   ·rename_i hh;obtain⟨rfl,rfl⟩:=hh;rw[h3 e k es hs];exact aon
   ·exact⟨h1,by rw[oq];exact h2,fun e2 k2 eu he=>h3 e2 k2 eu ((aW s' e2 k2 g' eu).1 he).2⟩
 have hCs:∀{cs:List AC} {us:List Value},cp w (aZ M st.slot G H) st.slot G H cs us->cp w (aZ M st'.slot G H) st'.slot G H (cs.map (lx s g es)) us:=fun hc=>
  ⟨by rw[dy];exact hc.1,fun j x u e1 e2=>by
   rw[eZ,bK] at e1;obtain⟨y,hy,rfl⟩:=e1
   exact hC (hc.2 j y u hy e2)⟩
 have hW:∀{x:AW} {v:Value},WR w (aZ M st.slot G H) st.slot G H x v->WR w (aZ M st'.slot G H) st'.slot G H (Qi s g es x) v:=by
  intro x v hx
  cases x with
  |c x=>exact hC hx
  |agg cs=>
   obtain⟨arr,e,hc⟩:=hx;exact⟨arr,e,hCs hc⟩
 have hV:∀{x:AV} {v:Value},VR w (aZ M st.slot G H) st.slot G H x v->VR w (aZ M st'.slot G H) st'.slot G H (wM s g es x) v:=by
  intro x v hx
  cases x with
  |w x=>exact hW hx
  |cg vs=>
   obtain⟨arr,e,hl,hc⟩:=hx
   exact⟨arr,e,by rw[dy];exact hl,fun j x u e1 e2=>by
    rw[eZ,bK] at e1;obtain⟨y,hy,rfl⟩:=e1
    exact hW (hc j y u hy e2)⟩
  |pb s' g' off=>exact⟨by rw[oq];exact hx.1,fun cs he=>by obtain⟨cs',h1,_⟩:=(fL s' g' cs).1 he;exact hx.2 cs' h1⟩
  |pr s' g' i off=>exact⟨by rw[oq];exact hx.1,fun e2 k2 eu he=>hx.2 e2 k2 eu ((aW s' e2 k2 g' eu).1 he).2⟩
  |pi cs off=>
   obtain⟨b,o,e1,hlt,hA,us,hl,hc⟩:=hx;exact⟨b,o,e1,hlt,fun hb=>hA (Au b hb),us,hl,fun j x u h1 h2=>⟨pF (hc j x u h1 h2).1,(hc j x u h1 h2).2⟩⟩
  |u=>trivial
 refine⟨h.sz,h.df,h.fr,⟨fun i=>by rw[oq];exact h.hs.gen i,fun i e2 k2 g2 eu h1 h2=>h.hs.row i e2 k2 g2 eu ((aW i e2 k2 g2 eu).1 h1).2 h2,fun i g2 ot h1 h2=> ?_,fun i g2 K2 h1 h2=>h.hs.obj i g2 K2 ((tp i g2 K2).1 h1).2 h2⟩,h.lo,fun i x hx=> ?_,fun i g2 ot hi=> ?_,fun i e2 k2 g2 eu hi=> ?_,fun i g2 K2 hi=> ?_,fun i j b h1 h2=>h.dj i j b (mE i b h1).2 (mE j b h2).2⟩
 ·obtain⟨cs,h3,_⟩:=(fL i g2 ot).1 h1;exact h.hs.box i g2 cs h3 h2
 ·have:∃y,st.get i=some y/\x=wM s g es y:=by
   subst hst;unfold St.get at hx⊢;dsimp only at hx;rw[LZ,LZ] at hx
   cases h1:aH st.V i with
   |some y=>rw[h1] at hx;simp at hx;exact⟨y,rfl,hx.symm⟩
   |none=>
    rw[h1] at hx;dsimp only[Option.map_none] at hx;rw[bK] at hx;obtain⟨y,hy,rfl⟩:=hx;exact⟨y,hy,rfl⟩
  obtain⟨y,hy,rfl⟩:=this;exact hV (h.tm i y hy)
 ·obtain⟨cs,h3,rfl⟩:=(fL i g2 ot).1 hi;obtain⟨f1,f2,arr,f3,f4⟩:=h.bx i g2 cs h3;exact⟨f1,f2,arr,f3,hCs f4⟩
 ·obtain⟨_,h3⟩:=(aW i e2 k2 g2 eu).1 hi;obtain⟨f1,xs,f2,f3⟩:=h.rw i e2 k2 g2 eu h3;exact⟨f1,xs,f2,f3.map fun x u hx=>pF hx⟩
 ·obtain⟨_,h3⟩:=(tp i g2 K2).1 hi;obtain⟨f1,f2⟩:=h.ob i g2 K2 h3;exact⟨f1,K2.mono f2 aA (fun b _ hb=>Au b hb) (fun _ _ _=>rfl)⟩
theorem Rel.aoo {s i b:Nat}(hl:bl (st.freeze s).slot G H i b):bl st.slot G H i b:=by
 unfold St.freeze at hl;split at hl
 case h_2=>exact hl
 rename_i e k g es hs;split at hl
 case isFalse=>exact hl
 have bN:∀i,(St.mk (mapA (fun _=>wM s g es) st.V) (mapA (fun _=>wM s g es) st.L) (mapA (fun i x=>if i=s then .dead g else ow s g es x) st.S)).slot i=if i=s then .dead g else ow s g es (st.slot i):=by
  intro i;unfold St.slot;dsimp only;rw[LZ]
  cases hi:aH st.S i with
  |some x=>rfl
  |none=>
   by_cases dK:i=s
   ·subst dK;unfold St.slot at hs;rw[hi] at hs;cases hs
   ·simp[dK,ow]
 have key:∀x,ow s g es x=x\/∃g' cs cs',x=.box g' cs/\ow s g es x=.box g' cs':=fun x=>by
  cases x with
  |dead g=>exact .inl rfl
  |row e k g es=>exact .inl rfl
  |obj g K=>exact .inl rfl
  |box g' cs=>exact .inr ⟨g',cs,_,rfl,rfl⟩
 rcases hl with⟨g2,ot,h1,h2⟩|⟨e2,k2,g2,eu,h1,h2⟩|⟨g2,K2,h1,h2⟩
 ·rw[bN] at h1;split at h1
  ·cases h1
  ·rcases key (st.slot i) with hk|⟨g',cs,cs',hk,nJ⟩
   ·rw[hk] at h1;exact .inl ⟨g2,ot,h1,h2⟩
   ·rw[nJ] at h1;cases h1;exact .inl ⟨_,cs,hk,h2⟩
 ·rw[bN] at h1;split at h1
  ·cases h1
  ·rcases key (st.slot i) with hk|⟨g',cs,cs',hk,nJ⟩
   ·rw[hk] at h1;exact .inr (.inl ⟨e2,k2,g2,eu,h1,h2⟩)
   ·rw[nJ] at h1;cases h1
 ·rw[bN] at h1;split at h1
  ·cases h1
  ·rcases key (st.slot i) with hk|⟨g',cs,cs',hk,nJ⟩
   ·rw[hk] at h1;exact .inr (.inr ⟨g2,K2,h1,h2⟩)
   ·rw[nJ] at h1;cases h1
end
def ox:List Nat->St->St
 |[],st=>st
 |s::r,st=>ox r (st.freeze s)
section
variable {P:Program} {N:Nat} {F M:Nat->Prop} {w0:jX} {w:World} {G:Nat->Gh} {H:Nat->Value} {a:Act}
theorem Rel.ox:∀(D:List Nat) {st:St},Rel N F M w0 st G H a w->Rel N F M w0 (Ab.ox D st) G H a w
 |[],_,h=>h
 |s::r,_,h=>Rel.ox r (h.freeze s)
theorem VC:∀(D:List Nat) {st:St} {i b:Nat},bl (Ab.ox D st).slot G H i b->bl st.slot G H i b
 |[],_,_,_,h=>h
 |s::r,_,_,_,h=>Rel.aoo (VC r h)
theorem aop {U:Option (List Nat)}{o:Oper}{vm:Fj}(D:List Nat)(h:nK P U o vm):nK P U o (fun st X=>vm (Ab.ox D st) X):=by
 intro N F M w0 w st G H a X hR hs K Q hK;refine h N F M w0 w (Ab.ox D st) G H a X (hR.ox D) hs K Q (fun x st' G' H' v w' hX bI hst hv=>hK x st' G' H' v w' hX bI ⟨hst.1,fun l hl=>⟨fun b hlt hn=>(hst.2 l hl).1 b hlt fun s hs hh=>hn s hs (VC D hh),fun s hs b hlt mE=> ?_⟩⟩ hv);obtain⟨s0,h0,l0⟩:=(hst.2 l hl).2 s hs b hlt mE;exact⟨s0,h0,VC D l0⟩
end
def St.ly (st:St)(b off s e k:Nat):St:=match st.slot b,aH st.S s with
 | .box g cs,some _=>match cs[off]? with
  |some (.v (.slice none 0 0))=>if b=s then st else(st.bR s (.row e k ((st.slot s).gen+1) [])).bR b (.box g (cs.set off (.own s ((st.slot s).gen+1))))
  |_=>st
 |_,_=>st
section
variable {P:Program} {N:Nat} {F M:Nat->Prop} {w0:jX} {w:World} {st:St} {G:Nat->Gh} {H:Nat->Value} {a:Act}
theorem Rel.ly (h:Rel N F M w0 st G H a w)(b off s e k:Nat):∃H',Rel N F M w0 (st.ly b off s e k) G H' a w:=by
 unfold St.ly;split
 case h_2=>exact⟨H,h⟩
 rename_i g cs y hb hs;split
 case h_2=>exact⟨H,h⟩
 rename_i acW;split
 ·exact⟨H,h⟩
 rename_i hbs
 have bN:(aH st.S s).isSome=true:=by rw[hs];rfl
 have fB:(aH st.S b).isSome=true:=by
  unfold St.slot at hb
  cases hq:aH st.S b with
  |some y=>rfl
  |none=>rw[hq] at hb;cases hb
 obtain⟨h1,-⟩:=h.newRow (w':=w) s bN (e:=e) (k:=k) (es:=[]) rfl (jU w 0 e k) (.inl ⟨rfl,rfl,rfl,cI _,fun _ _ _=>rfl⟩) (fun b hb=>by simp[Value.ownBlock] at hb) (fun w2 A2 hm=>⟨fun i row h=>by simp at h,fun i row j x u h=>by simp at h⟩);refine⟨fun i=>if i=s then(.slice none 0 0:Value) else H i,?_⟩;generalize hH:(fun i=>if i=s then(.slice none 0 0:Value) else H i)=H' at h1⊢
 have CG:H' s=.slice none 0 0:=by subst hH;simp
 generalize hst:st.bR s (.row e k ((st.slot s).gen+1) [])=st1 at h1⊢
 have cC:st1.slot b=.box g cs:=by subst hst;rw[St.lV,af (by simp[hbs])];exact hb
 have eP:st1.slot s=.row e k ((st.slot s).gen+1) []:=by subst hst;rw[St.lV,aj ⟨rfl,bN⟩]
 have VD:(aH st1.S b).isSome=true:=by
  subst hst;unfold St.bR;dsimp only;rw[Vh,af hbs];exact fB
 obtain⟨f1,f2,arr,f3,f4⟩:=h1.bx b g cs cC;have Au:=(bG.1 acW).1;have hlen:arr.length=cs.length:=f4.1
 have pE:arr[off]? =some (.slice none 0 0):=by
  obtain⟨q,hq⟩:∃q,arr[off]? =some q:=⟨arr[off]' ab,cy ab⟩
  have:=f4.2 off _ _ acW hq;rw[hq];cases this;rfl
 have jn:∀i,(st1.bR b (.box g (cs.set off (.own s ((st.slot s).gen+1))))).slot i=if i=b then .box g (cs.set off (.own s ((st.slot s).gen+1))) else st1.slot i:=fun i=>by
  rw[St.lV];by_cases hi:i=b
  ·subst hi;rw[aj ⟨rfl,VD⟩,aj rfl]
  ·rw[af (by simp[hi]),af hi]
 generalize Jc:st1.bR b (.box g (cs.set off (.own s ((st.slot s).gen+1))))=st2 at jn⊢
 have oq:∀i,(st2.slot i).gen=(st1.slot i).gen:=fun i=>by
  rw[jn];by_cases hi:i=b
  ·subst hi;rw[aj rfl,cC];rfl
  ·rw[af hi]
 have aW:∀i e2 k2 g2 eu,st2.slot i=.row e2 k2 g2 eu↔st1.slot i=.row e2 k2 g2 eu:=fun i e2 k2 g2 eu=>by
  rw[jn];by_cases hi:i=b
  ·subst hi;rw[aj rfl,cC];simp
  ·rw[af hi]
 have tp:∀i g2 K2,st2.slot i=.obj g2 K2↔st1.slot i=.obj g2 K2:=fun i g2 K2=>by
  rw[jn];by_cases hi:i=b
  ·subst hi;rw[aj rfl,cC];simp
  ·rw[af hi]
 have Qj:∀i g2,(∃c2,st2.slot i=.box g2 c2)↔∃c2,st1.slot i=.box g2 c2:=fun i g2=>by
  rw[jn];by_cases hi:i=b
  ·subst hi;rw[aj rfl,cC];simp
  ·rw[af hi]
 have mE:∀i q,bl st2.slot G H' i q↔bl st1.slot G H' i q:=fun i q=>by
  unfold bl;constructor
  ·rintro(⟨g2,c2,q1,q2⟩|⟨e2,k2,g2,eu,q1,q2⟩|⟨g2,K2,q1,q2⟩)
   ·obtain⟨c3,q3⟩:=(Qj i g2).1 ⟨c2,q1⟩;exact .inl ⟨g2,c3,q3,q2⟩
   ·exact .inr (.inl ⟨e2,k2,g2,eu,(aW ..).1 q1,q2⟩)
   ·exact .inr (.inr ⟨g2,K2,(tp ..).1 q1,q2⟩)
  ·rintro(⟨g2,c2,q1,q2⟩|⟨e2,k2,g2,eu,q1,q2⟩|⟨g2,K2,q1,q2⟩)
   ·obtain⟨c3,q3⟩:=(Qj i g2).2 ⟨c2,q1⟩;exact .inl ⟨g2,c3,q3,q2⟩
   ·exact .inr (.inl ⟨e2,k2,g2,eu,(aW ..).2 q1,q2⟩)
   ·exact .inr (.inr ⟨g2,K2,(tp ..).2 q1,q2⟩)
 have aoq:aZ M st2.slot G H'=aZ M st1.slot G H':=by
  funext q;unfold aZ;simp only[mE]
 have m:Mv w w (aZ M st1.slot G H') (aZ M st2.slot G H') st1.slot st2.slot G G H' H':=
  ⟨cI _,fun q _ hq=>by rw[aoq] at hq;exact hq,fun _ _ _=>rfl,fun i=>by rw[oq];exact cI _,fun i e2 k2 g2 eu q _=>⟨⟨eu,(aW ..).1 q⟩,rfl⟩,fun i g2 c2 q _=>⟨(Qj i g2).1 ⟨c2,q⟩,rfl⟩,fun i g2 K2 q _=>⟨⟨K2,(tp ..).1 q⟩,rfl,rfl⟩⟩
 refine⟨h1.sz,h1.df,h1.fr,⟨fun i=>by rw[oq];exact h1.hs.gen i,fun i e2 k2 g2 eu q1 q2=>h1.hs.row i e2 k2 g2 eu ((aW ..).1 q1) q2,fun i g2 c2 q1 q2=>by
   obtain⟨c3,q3⟩:=(Qj i g2).1 ⟨c2,q1⟩
   exact h1.hs.box i g2 c3 q3 q2,fun i g2 K2 q1 q2=>h1.hs.obj i g2 K2 ((tp ..).1 q1) q2⟩,h1.lo,fun i x hx=> ?_,fun i g2 c2 q=> ?_,fun i e2 k2 g2 eu q=> ?_,fun i g2 K2 q=> ?_,fun i j q q1 q2=>h1.dj i j q ((mE i q).1 q1) ((mE j q).1 q2)⟩
 ·refine VR.mv m (h1.tm i x ?_);subst Jc;exact hx
 ·rw[jn] at q;by_cases hi:i=b
  ·subst hi;rw[aj rfl] at q;cases q;refine⟨f1,f2,arr,f3,by rw[List.length_set];exact f4.1,fun j x u e1 e2=> ?_⟩;rw[List.getElem?_set] at e1;split at e1
   ·rename_i hj;subst hj
    try rw[aj Au] at e1
    cases e1;rw[pE] at e2;cases e2;exact⟨rfl,by rw[oq,eP];exact cI _,fun _ _ _ _=>CG.symm⟩
   ·exact CR.mv m (f4.2 j x u e1 e2)
  ·rw[af hi] at q;obtain⟨p1,p2,aor,p3,p4⟩:=h1.bx i g2 c2 q;exact⟨p1,p2,aor,p3,cp.mv m p4⟩
 ·obtain⟨p1,xs,p2,p3⟩:=h1.rw i e2 k2 g2 eu ((aW ..).1 q);exact⟨p1,xs,p2,p3.map fun x u hx=>IR.mv m hx⟩
 ·obtain⟨p1,p2⟩:=h1.ob i g2 K2 ((tp ..).1 q);exact⟨p1,K2.mono p2 m.size m.off (fun _ _ _=>rfl)⟩
theorem aot {U:Option (List Nat)}{o:Oper}{t e:TypeId}{k:Nat}{it:TypeInfo}{zv:Value}{za:List AC}{x:Operand}{q:aP}(ho:o.op=.makeSlice t x x)(hu:P.underlying t=some (.slice e))(hi:P.info? e=some it)(hz:it.zero=some zv)(hs:it.size=k)(bj:0<k)(mG:zv.cells.size=k)(jB:it.bytes<=1000)
  (h3:CI zv.cells.toList=some za) (hx:dv x q):
  nK P U o (fun st X=>∃n:Nat,st.sc q=some (.int .i64 n)/\n<=1000000/\(cQ k n za).all inl=true/\X (.w (.c (.sl (rowsOf k n (cQ k n za))))) st):=by
 intro N F M w0 w st G H a X hR hsm K Q hK;obtain⟨n,e1,e2,e3,hX⟩:=hsm;obtain⟨aF,-⟩:=hR.sc hx e1
 have hrun:=run_make (P:=P) w t e it zv hu hi hz .i64 .i64 (n:Int) (n:Int) ab ab (by
  have:it.bytes*n<=1000*1000000:=oY jB e2;have:((it.bytes*n:Nat):Int)<=281474976710656:=ab
  rwa[Int.natCast_mul] at this) ab
 simp only[iZ,hs] at hrun;have hcs:cp w (aZ M st.slot G H) st.slot G H (cQ k n za) (madeCells zv.cells (n*k)).toList:=Vs (Vp h3) mG bj
 have hl:(cQ k n za).length=n*k:=by simp[cQ]
 have IP:n<=n*k:=Nat.le_mul_of_pos_right n bj;have m:=acQ (w:=w) (M:=M) (st:=st) (G:=G) (H:=H) (.cells (madeCells zv.cells (n*k)) e);have aW:=(Qe hl hcs e3).map (fun x u hx=>IR.mv m hx)
 have hx:=hK _ _ _ _ (.slice (some ⟨w.heap.size,0,none⟩) n n) _ hX (hR.alloc (.cells (madeCells zv.cells (n*k)) e)) (LO ai fun b hlt=>alloc_old w _ hlt)
  (LV (by simp[rowsOf]) aW (by simp[madeCells]) hR.acP aA ab (fun j u hu=>by rw[(ax.new w (madeCells zv.cells (n*k)) e).cell];simpa using hu))
 unfold Oper.wp execOp;simp only[ho,nX,aF,hrun,qw,rP];exact hx
end
inductive fW where
 |normal
 |exit (id:Nat)
 |ret
def fW.ex:fW->Exit
 | .normal=> .normal
 | .exit id=> .exit id
 | .ret=> .ret
inductive oy where
 |skip
 |ret
 |exit (id:Nat)
 |seq (x y:oy)
 |cond (t:aP) (x y:oy)
 |block (id:Nat) (c:oy)
 |loop (c:oy)
 |region (cR:List AO)
 |rY (cR:List AO) (n:Nat) (t:OT) (U:List Nat)
 |lz (s:Nat) (c:oy)
 |oz (b off s e k:Nat) (c:oy)
def lZ (K:St->Prop)(Q:fW->St->Prop):fW->St->Prop
 | .normal,st=>K st
 |e,st=>Q e st
def lA (id:Nat)(Q:fW->St->Prop):fW->St->Prop
 | .exit oA,st=>if oA=id then Q .normal st else Q (.exit oA) st
 |e,st=>Q e st
def Fm (body:(fW->St->Prop)->St->Prop)(Q:fW->St->Prop):Nat->St->Prop
 |0,_=>False
 |n+1,st=>body (lZ (Fm body Q n) Q) st
def aL:oy->(fW->St->Prop)->St->Prop
 | .skip,Q,st=>Q .normal st
 | .ret,Q,st=>Q .ret st
 | .exit id,Q,st=>Q (.exit id) st
 | .seq x y,Q,st=>aL x (lZ (aL y Q) Q) st
 | .cond t x y,Q,st=>match st.sc t with
  |some (.bool true)=>aL x Q st
  |some (.bool false)=>aL y Q st
  |_=>False
 | .block id c,Q,st=>aL c (lA id Q) st
 | .loop c,Q,st=>∃n,Fm (aL c) Q n st
 | .region cR,Q,st=>bm none cR (Q .normal) { st with L:=[] }
 | .rY cR n t U,Q,st=>aU U cR (cR.drop n) (Q .normal) t false { st with L:=[] }
 | .lz s c,Q,st=>aL c Q (st.freeze s)
 | .oz b off s e k c,Q,st=>aL c Q (st.ly b off s e k)
inductive iG (P:Program)(N:Nat):Code->oy->Prop where
 |skip:iG P N .skip .skip
 |ret:iG P N .ret .ret
 |exit (id:Nat):iG P N (.exit id) (.exit id)
 |seq {x y:Code} {x' y':oy} (hx:iG P N x x') (hy:iG P N y y'):iG P N (.seq x y) (.seq x' y')
 |cond {t:Operand} {t':aP} {x y:Code} {x' y':oy} (ht:dv t t') (hx:iG P N x x') (hy:iG P N y y'):iG P N (.cond t x y) (.cond t' x' y')
 |block (id:Nat) {c:Code} {c':oy} (h:iG P N c c'):iG P N (.block id c) (.block id c')
 |loop {c:Code} {c':oy} (h:iG P N c c'):iG P N (.loop c) (.loop c')
 |region (id:Nat) {ops:Array Oper} {cR:List AO} (h:qO P N ops ops.toList cR):iG P N (.region id ops false) (.region cR)
 |rY (id:Nat) {l:List Oper} {cR:List AO} (n:Nat) (t:OT) (U:List Nat) (h:qO P N l.toArray l cR) (hm:P.follows .mixedOrders=true) (hB:(Region.noSelect l.toArray && qz .any l.toArray n && nZ .any l.toArray n t n (Array.replicate l.toArray.size false))=true):iG P N (.region id l.toArray true) (.rY cR n t U)
 |lz (s:Nat) {c:Code} {c':oy} (h:iG P N c c'):iG P N c (.lz s c')
 |oz (b off s e k:Nat) {c:Code} {c':oy} (h:iG P N c c'):iG P N c (.oz b off s e k c')
section
variable {P:Program} {N:Nat} {F M:Nat->Prop} {w0:jX} {w:World} {st:St} {G:Nat->Gh} {H:Nat->Value} {a:Act}
theorem aou {Q:Exit->Act->World->Prop}{c:Code}(I:Nat->Act->World->Prop)(h0:∀a w,¬I 0 a w)(round:∀n a w,I (n+1) a w->c.wp P (Exit.then (I n) Q) a w){n:Nat}{a:Act}{w:World}(h:I n a w):(Code.loop c).wp P Q a w:=by
 intro b k cs
 have key:∀n a w,I n a w->∃e a' w',Q e a' w'/\Arrives P (lone (b.at a (.code c:: .inLoop c::k)) cs w) b k cs e a' w':=by
  intro n
  induction n with
  |zero=>intro a w h;exact(h0 a w h).elim
  |succ n ih=>
   intro a w hI;obtain⟨e,a₁,w₁,hq,pE⟩:=round n a w hI b (.inLoop c::k) cs
   cases e with
   |normal=>
    obtain⟨e₂,a₂,w₂,aov,aow⟩:=ih a₁ w₁ hq;exact⟨e₂,a₂,w₂,aov,.of_steps (Steps.trans pE (.one step_inLoop)) aow⟩
   |exit id=>exact⟨_,a₁,w₁,hq,.pass (x:=.inLoop c) rfl (fun _ _=> .inl ai) pE⟩
   |goto l=>exact⟨_,a₁,w₁,hq,.pass (x:=.inLoop c) rfl (fun _ _=> .inl ai) pE⟩
   |ret=>exact⟨_,a₁,w₁,hq,.pass (x:=.inLoop c) rfl (fun _ _=> .inl ai) pE⟩
   |panic ch=>exact⟨_,a₁,w₁,hq,.pass (x:=.inLoop c) rfl (fun _ _=> .inl ai) pE⟩
   |outgrown=>exact⟨_,a₁,w₁,hq,.pass (x:=.inLoop c) rfl (fun _ _=> .inl ai) pE⟩
 obtain⟨e,a',w',hq,pE⟩:=key n a w h;exact⟨e,a',w',hq,.of_steps (.one step_loop) pE⟩
theorem Rel.acX (h:Rel N F M w0 st G H a w):Rel N F M w0 { st with L:=[] } G H a w:=
 ⟨h.sz,h.df,h.fr,h.hs,h.lo,fun i x hx=>h.tm i x (by
  unfold St.get at hx⊢;dsimp only at hx;split at hx
  ·exact hx
  ·simp[aH] at hx),h.bx,h.rw,h.ob,h.dj⟩
theorem acY {c:Code}{ac:oy}(hk:iG P N c ac):∀{st:St} {G:Nat->Gh} {H:Nat->Value} {a:Act} {w:World} {Q:fW->St->Prop} {Q':Exit->Act->World->Prop},Rel N F M w0 st G H a w->aL ac Q st->
  (∀e st' G' H' a' w',Q e st'->Rel N F M w0 st' G' H' a' w'->Q' e.ex a' w')->c.wp P Q' a w:=by
 induction hk with
 |skip=>intro st G H a w Q Q' hR hs hQ;exact wp_skip (hQ .normal st G H a w hs hR)
 |ret=>intro st G H a w Q Q' hR hs hQ;exact wp_ret (hQ .ret st G H a w hs hR)
 |exit id=>intro st G H a w Q Q' hR hs hQ;exact wp_exit (hQ (.exit id) st G H a w hs hR)
 |seq hx hy wN wP=>
  intro st G H a w Q Q' hR hs hQ;refine wp_seq (wN hR hs fun e st' G' H' a' w' hq bI=> ?_)
  cases e with
  |normal=>exact wP bI hq hQ
  |exit id=>exact hQ _ _ _ _ _ _ hq bI
  |ret=>exact hQ _ _ _ _ _ _ hq bI
 |cond ht hx hy wN wP=>
  intro st G H a w Q Q' hR hs hQ;unfold aL at hs;split at hs
  ·rename_i hb;exact wp_cond_true (hR.sc ht hb).1 (wN hR hs hQ)
  ·rename_i hb;exact wp_cond_false (hR.sc ht hb).1 (wP hR hs hQ)
  ·exact hs.elim
 |block id h ih=>
  intro st G H a w Q Q' hR hs hQ;refine wp_block (ih hR hs fun e st' G' H' a' w' hq bI=> ?_)
  cases e with
  |normal=>exact hQ .normal _ _ _ _ _ hq bI
  |exit oA=>
   show Exit.inBlock id Q' (.exit oA) a' w'
   unfold lA at hq;unfold Exit.inBlock;dsimp only at hq⊢;split at hq
   ·rename_i he;rw[aj he];exact hQ .normal _ _ _ _ _ hq bI
   ·rename_i he;rw[af he];exact hQ (.exit oA) _ _ _ _ _ hq bI
  |ret=>exact hQ .ret _ _ _ _ _ hq bI
 |loop h ih=>
  intro st G H a w Q Q' hR hs hQ;obtain⟨n,hn⟩:=hs;refine aou (fun n a w=>∃st G H,Rel N F M w0 st G H a w/\Fm (aL _) Q n st) (fun a w ⟨_,_,_,_,h⟩=>h) (fun n a w ⟨st,G,H,hR,hl⟩=> ?_) ⟨st,G,H,hR,hn⟩
  refine ih hR hl fun e st' G' H' a' w' hq bI=> ?_
  cases e with
  |normal=>exact⟨st',G',H',bI,hq⟩
  |exit id=>exact hQ _ _ _ _ _ _ hq bI
  |ret=>exact hQ _ _ _ _ _ _ hq bI
 |region id h=>intro st G H a w Q Q' hR hs hQ;exact aol h hR.acX hs (fun st' G' H' a' w' hq bI=>hQ .normal _ _ _ _ _ hq bI)
 |lz s h ih=>intro st G H a w Q Q' hR hs hQ;exact ih (hR.freeze s) hs hQ
 |oz b off s e k h ih=>intro st G H a w Q Q' hR hs hQ;obtain⟨H',bI⟩:=hR.ly b off s e k;exact ih bI hs hQ
 |rY id n t U h hm hB=>intro st G H a w Q Q' hR hs hQ;exact aom n t U h hm hB hR.acX hs (fun st' G' H' a' w' hq bI=>hQ .normal _ _ _ _ _ hq bI)
end
section
variable {P:Program} {N:Nat} {F M:Nat->Prop} {w0:jX} {w:World} {st:St} {G:Nat->Gh} {H:Nat->Value} {a:Act}
def St.fz (st:St):AC->Option AC
 | .own s g=>match st.slot s with
  | .row _ k g' es=>if g=g'/\0<k then some (.sl es) else none
  |_=>none
 | .v x=>some (.v x)
 | .sl es=>some (.sl es)
 | .fc f bP=>some (.fc f bP)
 |_=>none
def St.jo (st:St):List AC->Option (List AC)
 |[]=>some []
 |x::l=>match st.fz x,st.jo l with
  |some y,some r=>some (y::r)
  |_,_=>none
def St.pG (st:St):AW->Option AW
 | .c x=>(st.fz x).map .c
 | .agg cs=>(st.jo cs).map .agg
theorem Rel.fz (h:Rel N F M w0 st G H a w){x y:AC}{u:Value}(hx:CR w (aZ M st.slot G H) st.slot G H x u)(hf:st.fz x=some y):IR w M y u:=by
 have hA:∀b,b<w.heap.size->M b->aZ M st.slot G H b:=fun b _ hm=> .inl hm
 cases x with
 |v x=>
  simp only[St.fz,aC] at hf;subst hf;exact IR.mono hx aA hA (fun _ _ _=>rfl)
 |sl es=>
  simp only[St.fz,aC] at hf;subst hf;exact IR.mono hx aA hA (fun _ _ _=>rfl)
 |fc f bP=>
  simp only[St.fz,aC] at hf;subst hf;exact IR.mono hx aA hA (fun _ _ _=>rfl)
 |cB s g=>cases hf
 |part s g i=>cases hf
 |cls f bP=>cases hf
 |own s g=>
  simp only[St.fz] at hf;split at hf
  case h_2=>cases hf
  rename_i e k g' es hs;split at hf
  case isFalse=>cases hf
  rename_i hg;obtain⟨rfl,bj⟩:=hg;simp only[aC] at hf;subst hf;obtain⟨_,_,hH⟩:=hx;have hu:=hH e k es hs;subst hu;obtain⟨hn,xs,how,kK⟩:=h.rw s e k g es hs;have hl:=how.1
  rcases how.2 with⟨e1,e2⟩|⟨gg,cap,cur,e1,_,PY,np,Az,_,_⟩
  ·have h0:es=[]:=ya e2;subst h0;rw[e1];exact IR.sl 0 [] none 0 (fun _ _=>undef) aA ai (by intro i row h;simp at h) (by intro i row j x h;simp at h) (by intro i row j h;simp at h)
  ·rw[e1];have hcell:=how.cells (g:=gg) (by rw[e1];rfl)
   exact LV rfl (kK.map fun x u hx=>hx.mono aA hA (fun _ _ _=>rfl)) hl (hn gg (by rw[e1];rfl)).2 np (by simp only[maxLen] at Az;omega) (fun j u hj=>by
    have:=hcell j u hj
    rwa[Addr.add_mid,eM] at this)
theorem acZ {x y:AC}(h:st.fz x=some y):inl y=true:=by
 cases x with
 |v x=>simp only[St.fz,aC] at h;subst h;rfl
 |sl es=>simp only[St.fz,aC] at h;subst h;rfl
 |fc f bP=>simp only[St.fz,aC] at h;subst h;rfl
 |cB s g=>cases h
 |part s g i=>cases h
 |cls f bP=>cases h
 |own s g=>
  simp only[St.fz] at h;split at h
  ·split at h
   ·simp only[aC] at h;subst h;rfl
   ·cases h
  ·cases h
theorem Rel.jo (h:Rel N F M w0 st G H a w):∀{cs r:List AC} {us:List Value},cp w (aZ M st.slot G H) st.slot G H cs us->st.jo cs=some r->r.all inl=true/\cp w M (fun _=> .dead 0) (fun _=>gh 0) (fun _=>undef) r us
 |[],r,us,hc,hr=>by
  simp only[St.jo,aC] at hr;subst hr;exact⟨rfl,hc.1,fun j x u e=>by simp at e⟩
 |x::cs,r,us,hc,hr=>by
  unfold St.jo at hr;split at hr
  case h_2=>cases hr
  rename_i y q h1 h2;simp only[aC] at hr;subst hr
  cases us with
  |nil=>have:=hc.1;simp at this
  |cons u us=>
   have hc':cp w (aZ M st.slot G H) st.slot G H cs us:=⟨by have:=hc.1;simpa using this,fun j x u e1 e2=>hc.2 (j+1) x u (by simpa using e1) (by simpa using e2)⟩
   obtain⟨g1,g2⟩:=Rel.jo h hc' h2;refine⟨by simp[acZ h1,g1],by have:=g2.1;simp[this],fun j z v e1 e2=> ?_⟩
   cases j with
   |zero=>
    simp at e1 e2;subst e1;subst e2;exact(h.fz (hc.2 0 x u rfl rfl) h1).Fe
   |succ j=>exact g2.2 j z v (by simpa using e1) (by simpa using e2)
theorem Rel.pG (h:Rel N F M w0 st G H a w){x y:AW}{v:Value}(hx:WR w (aZ M st.slot G H) st.slot G H x v)(hf:st.pG x=some y):WI w M y v:=by
 cases x with
 |c x=>
  simp only[St.pG,bK] at hf;obtain⟨z,hz,rfl⟩:=hf;exact⟨by simp[AW.inl,AW.cells,acZ hz],(h.fz hx hz).Fe⟩
 |agg cs=>
  simp only[St.pG,bK] at hf;obtain⟨z,hz,rfl⟩:=hf;obtain⟨arr,e,hc⟩:=hx;obtain⟨g1,g2⟩:=h.jo hc hz;exact⟨by simpa [AW.inl,AW.cells] using g1,arr,e,g2⟩
def CL (P:Program)(st:St):ResultVar->Option AW
 | .tmp t=>match st.get t with
  |some (.w x)=>st.pG x
  |_=>none
 | .cell p ty=>match(P.info? ty).map (·.size),P.underlying ty with
  |some n,some d=>if d.isRow then(st.cells [] n (st.get p)).bind fun cs=>st.pG (.agg cs) else(st.cells [] 1 (st.get p)).bind fun cs=>match cs with
   |[c]=>st.pG (.c c)
   |_=>none
  |_,_=>none
def wQ (P:Program)(st:St):List ResultVar->Option (List AW)
 |[]=>some []
 |r::l=>match CL P st r,wQ P st l with
  |some x,some q=>some (x::q)
  |_,_=>none
def dL (l:List AW):AV:=match l with
 |[x]=> .w x
 |l=> .cg l
def vq (tmps:Array Value):ResultVar->Sem Value
 | .tmp t=>pure (tmps.getD t undef)
 | .cell a t=>do loadVar t (<-asAddr (tmps.getD a undef))
theorem Rel.CL (h:Rel N F M w0 st G H a w){r:ResultVar}{x:AW}(hr:CL P st r=some x):∃v,(vq a.tmps r).run P w=.ok v w/\WI w M x v:=by
 cases r with
 |tmp t=>
  simp only[Ab.CL] at hr;split at hr
  case h_2=>cases hr
  rename_i y hy;exact⟨_,rfl,h.pG (h.tm t _ hy) hr⟩
 |cell p ty=>
  simp only[Ab.CL] at hr;split at hr
  case h_2=>cases hr
  rename_i n d hn hd;split at hr
  ·rename_i aW;rw[Option.bind_eq_some_iff] at hr;obtain⟨cs,hc,hf⟩:=hr
   cases hp:st.get p with
   |none=>rw[hp] at hc;simp[St.cells] at hc
   |some pv=>
    rw[hp] at hc;obtain⟨b,o,us,e1,hlt,_,wR,hcs,hl⟩:=h.cells (h.tm p pv hp) hc;refine⟨.agg us.toArray,?_,h.pG (x:=.agg cs) ⟨us,rfl,hcs⟩ hf⟩;simp only[vq,e1,asAddr,nX,rP,qw];exact run_loadVar_mid w b o ty us d wR hd aW (by rw[hl];exact hn)
  ·rename_i aW;rw[Option.bind_eq_some_iff] at hr;obtain⟨cs,hc,hf⟩:=hr;split at hf
   case h_2=>cases hf
   rename_i c
   cases hp:st.get p with
   |none=>rw[hp] at hc;simp[St.cells] at hc
   |some pv=>
    rw[hp] at hc;obtain⟨b,o,us,e1,hlt,_,wR,hcs,hl⟩:=h.cells (h.tm p pv hp) hc
    obtain⟨u,rfl⟩:∃u,us=[u]:=by
     match us,hl with
     |[u],_=>exact⟨u,rfl⟩
    refine⟨u,?_,h.pG (x:=.c c) (hcs.2 0 c u rfl rfl) hf⟩;have hcell:=wR 0 u rfl;rw[uP] at hcell
    have wK:(isAgg ty).run P w=.ok false w:=by
     unfold isAgg;rw[nX,lL hd]
     cases d<;>first|rfl|(exact absurd rfl aW)
    simp[vq,e1,asAddr,loadVar,wK,hcell]
theorem Rel.wQ (h:Rel N F M w0 st G H a w):∀{rs:List ResultVar} {xs:List AW},wQ P st rs=some xs->∃vs:List Value,(rs.mapM (vq a.tmps)).run P w=.ok vs w/\vs.length=xs.length/\∀(j:Nat) (x:AW) (v:Value),xs[j]? =some x->vs[j]? =some v->WI w M x v
 |[],xs,hr=>by
  simp only[Ab.wQ,aC] at hr;subst hr;exact⟨[],ai,rfl,fun j x v e=>by simp at e⟩
 |r::rs,xs,hr=>by
  unfold Ab.wQ at hr;split at hr
  case h_2=>cases hr
  rename_i x q h1 h2;simp only[aC] at hr;subst hr;obtain⟨v,e1,e2⟩:=h.CL h1;obtain⟨vs,e3,e4,e5⟩:=Rel.wQ h h2;refine⟨v::vs,by simp[EN,e1,e3],by simp[e4],fun j y u g1 g2=> ?_⟩
  cases j with
  |zero=>simp at g1 g2;subst g1;subst g2;exact e2
  |succ j=>exact e5 j y u (by simpa using g1) (by simpa using g2)
theorem ada {fn:Func}{tmps:Array Value}{vs:List Value}(h:(fn.results.toList.mapM (vq tmps)).run P w=.ok vs w):(results fn tmps).run P w=.ok (if h:vs.toArray.size=1 then vs.toArray[0] else .tuple vs.toArray) w:=by
 have:fn.results.mapM (vq tmps)=Functor.map List.toArray (fn.results.toList.mapM (vq tmps)):=by rw[Array.mapM_eq_mapM_toList]
 unfold results
 show Sem.run P ((fn.results.mapM (vq tmps))>>=fun vs=>pure (if h:vs.size=1 then vs[0] else .tuple vs)) w=_
 rw[this];simp[h]
theorem aox {f:FuncId}{fn:Func}{c:Code}{ac:oy}(hf:P.funcs[f]? =some fn)(hb:fn.body=some c)(hk:iG P fn.ntmps c ac)(args:List AW)(Fo:args.length<=fn.ntmps)(V:List (Nat×AV))(S:List (Nat×Slot)){Q:AV->Prop}
  (hV:∀i x,aH V i=some x->x=.u\/∃y,args[i]? =some y/\x=.w y) (hS:∀s,(aH S s).getD (.dead 0)=.dead 0)
  (h:aL ac (fun e st=>(match e with | .exit _=>False|_=>True)/\∃xs,wQ P st fn.results.toList=some xs/\Q (dL xs)) ⟨V,[],S⟩):bu P f args Q:=by
 intro M w vs hM hlen jI;refine calls_of_wp hf hb ?_
 have jn:(St.mk V [] S).slot=fun _=> .dead 0:=funext fun s=>hS s
 have hR:Rel fn.ntmps (fun b=>b<w.heap.size) M ⟨w,fun _=> .dead 0,fun _=>gh 0,fun _=>undef⟩ ⟨V,[],S⟩ (fun _=>gh 0) (fun _=>undef) { tmps:=vs.toArray++Array.replicate (fn.ntmps-vs.toArray.size) undef,defers:=[] } w:=by
  refine⟨by simp;omega,rfl,⟨rfl,rfl,rfl,cI _,fun _ _=>rfl⟩,⟨fun s=>(by rw[jn];exact cI _),fun s e k g es hs=>(by rw[jn] at hs;cases hs),fun s g cs hs=>(by rw[jn] at hs;cases hs),fun s g K hs=>(by rw[jn] at hs;cases hs)⟩,⟨fun b hb=>hb.elim id (hM.1 b),hM.2⟩,fun i x hx=> ?_,fun s g cs hs=>(by rw[jn] at hs;cases hs),fun s e k g es hs=>(by rw[jn] at hs;cases hs),fun s g K hs=>(by rw[jn] at hs;cases hs),fun s s' b hl=> ?_⟩
  ·have qL:aH V i=some x:=by
    unfold St.get at hx;dsimp only at hx;split at hx
    ·rename_i v hv;rw[hv];exact hx
    ·simp[aH] at hx
   rcases hV i x qL with rfl|⟨y,hy,rfl⟩
   ·trivial
   ·have hi:=(bG.1 hy).1;have hv:vs[i]? =some (vs[i]' ab):=cy ab;have hw:=jI i y _ hy hv
    have pA:(vs.toArray++Array.replicate (fn.ntmps-vs.toArray.size) undef).getD i undef=vs[i]' ab:=by
     simp[Lj,Array.getElem?_append,show i<vs.length by omega]
    rw[pA]
    have hA:aZ M (St.mk V [] S).slot (fun _=>gh 0) (fun _=>undef)=M:=by
     funext b;apply propext;refine⟨fun hh=> ?_,.inl⟩
     rcases hh with hm|⟨s,hl⟩
     ·exact hm
     ·rw[jn] at hl
      rcases hl with⟨g,cs,h1,_⟩|⟨e,k,g,es,h1,_⟩|⟨g,K,h1,_⟩<;>cases h1
    rw[hA];exact WR.any hw.2 hw.1
  ·rw[jn] at hl
   rcases hl with⟨g,cs,h1,_⟩|⟨e,k,g,es,h1,_⟩|⟨g,K,h1,_⟩<;>cases h1
 refine acY hk hR h fun e st' G' H' a' w' hq bI=> ?_
 obtain⟨he,xs,au,hQ⟩:=hq;obtain⟨us,e1,e2,e3⟩:=bI.wQ au;have hrun:=ada (fn:=fn) e1
 have fin:a'.defers=[]/\∃v,(results fn a'.tmps).run P w'=.ok v w'/\∃v' r,Ending.returned v=.returned v'/\Q r/\VI w' M r v'/\Fr (fun b=>b<w.heap.size) w w':=by
  refine⟨bI.df,_,hrun,_,dL xs,rfl,hQ,?_,bI.fr⟩
  match xs,us,e2,e3 with
  |[x],[u],_,e3=>exact e3 0 x u rfl rfl
  |[],[],_,e3=>exact⟨[],rfl,rfl,fun j x u e=>by simp at e⟩
  |x::y::r,u::v::q,e2,e3=>
   have hne:¬(u::v::q).toArray.size=1:=ai;rw[dif_neg hne];exact⟨u::v::q,rfl,e2,e3⟩
 cases e with
 |normal=>exact fin
 |exit id=>exact he.elim
 |ret=>exact fin
end
end Ab
end Go.Proofs.YtngblilamkkikaaGreatDoor
