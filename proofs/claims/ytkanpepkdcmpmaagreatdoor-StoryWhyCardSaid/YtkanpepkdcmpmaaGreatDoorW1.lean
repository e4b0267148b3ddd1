import Derived.Lib.LaidTab
import Derived.Lib.ItoaNum
import Derived.Test.YtkanpepkdcmpmaaGreatDoorW0
import Derived.Laws.MakeOwn
set_option maxHeartbeats 40000000
set_option maxRecDepth 100000
set_option linter.all false
namespace Go.Proofs.YtkanpepkdcmpmaaGreatDoor
section
open Go.RowKit
variable {w w':World}
structure Gl (w:World):Prop where
 mx:∃m,w.cell? ⟨0,0,none⟩=some (.int .i64 m)
 lP:Lib.TabIs Tryz.prog w "internal/strconv.uint64pow10" .u64 Lib.pow10Tab
 WT:∃te pe,w.cell? ⟨4,0,none⟩=some (.iface te pe)
 WU:∃te pe,w.cell? ⟨5,0,none⟩=some (.iface te pe)
 low:8<=w.heap.size
theorem apA:Tryz.prog.globalNamed "internal/strconv.uint64pow10" =some 1:=ah
theorem Gl.WV(h:Gl w)(hb:Below 8 w w'):Gl w':=by
 refine⟨?_,?_,?_,?_,bm h.low hb.size⟩
 ·obtain⟨m,hm⟩:=h.mx;exact⟨m,(hb.cell (p:=⟨0,0,none⟩) au).trans hm⟩
 ·have:=h.lP;unfold Lib.TabIs World.var? at*;rw[apA] at*;simp only[Nn] at*;rw[hb.block 1 au];exact this
 ·obtain⟨a,b,hm⟩:=h.WT;exact⟨a,b,(hb.cell (p:=⟨4,0,none⟩) au).trans hm⟩
 ·obtain⟨a,b,hm⟩:=h.WU;exact⟨a,b,(hb.cell (p:=⟨5,0,none⟩) au).trans hm⟩
theorem Gl.below(h:Gl w)(hb:aw w w'):Gl w':=h.WV (hb.mono h.low)
theorem Gl.grown{p:Nat}(h:Gl w)(hg:w.grownBy w' (some p))(hp:8<=p):Gl w':=
 h.WV ⟨hg.os,hg.tape,hg.output,hg.size,fun k hk=>hg.block k (by have:=h.low;omega) (by intro e;injection e with e;omega)⟩
theorem Gl.drew(h:Gl w):Gl w.drew:=h.below (Below.refl _ _).drew
theorem Gl.alloc(h:Gl w)(o:Obj):Gl (w.alloc o):=h.below ((Below.refl _ _).alloc ax o)
end
namespace Ab
open Go Go.RowKit
variable {A:Nat->Prop} {v:Value} {w w':World}
def gN:Nat:=8
def GM (w:World):Prop:=Gl w
theorem GM.kept(h:GM w)(hb:Below gN w w'):GM w':=Gl.WV h hb
theorem GM.low(h:GM w):gN<=w.heap.size:=Gl.low h
inductive AC where
 |v (x:Value)
 |sl (es:List (List AC))
 |own (s g:Nat)
 |cK (s g:Nat)
 |part (s g i:Nat)
 |fV (f:FuncId) (cn:List (List AC))
 |cls (f:FuncId) (cn:List (Nat×Nat))
variable {x:AC}
inductive AW where
 |c (x:AC)
 |agg (cs:List AC)
inductive AV where
 |w (x:AW)
 |bP (vs:List AW)
 |pb (s g off:Nat)
 |pr (s g i off:Nat)
 |pi (cs:List AC) (off:Nat)
 |u
structure Gh where
 b:Nat
 fp:List Nat
 hs:List Value
def gh (b:Nat):Gh:=⟨b,[],[]⟩
structure apB where
 rep:World->(Nat->Prop)->Value->Gh->Prop
 one:∀{w A v g},rep w A v g->v.oneCell'=true
 parts:∀{w A v g},rep w A v g->∀u∈g.hs,u.oneCell'=true
 lt:∀{w A v g},rep w A v g->∀b∈g.fp,b<w.heap.size
 mono:∀{w w':World} {A A':Nat->Prop} {v:Value} {g:Gh},rep w A v g->w.heap.size<=w'.heap.size->(∀b,b<w.heap.size->A' b->A b)->(∀b,b<w.heap.size->b∈g.fp\/¬A b->w'.heap[b]? =w.heap[b]?)->rep w' A' v g
inductive Slot where
 |dead (g:Nat)
 |box (g:Nat) (cs:List AC)
 |row (e k g:Nat) (es:List (List AC))
 |obj (g:Nat) (K:apB)
def Slot.gen:Slot->Nat
 | .dead g=>g
 | .box g _=>g
 | .row _ _ g _=>g
 | .obj g _=>g
structure St where
 V:List (Nat×AV)
 L:List (Nat×AV)
 S:List (Nat×Slot)
def aJ {α:Type}:List (Nat×α)->Nat->Option α
 |[],_=>none
 |(i,x)::l,j=>if i=j then some x else aJ l j
def qI {α:Type}:List (Nat×α)->Nat->α->List (Nat×α)
 |[],_,_=>[]
 |(i,x)::l,j,y=>if i=j then(i,y)::qI l j y else(i,x)::qI l j y
def St.get (st:St)(i:Nat):Option AV:=match aJ st.V i with
 |some v=>some v
 |none=>aJ st.L i
def St.slot (st:St)(s:Nat):Slot:=(aJ st.S s).getD (.dead 0)
def St.put (st:St)(d:Nat)(v:AV):St:=if(aJ st.V d).isSome then { st with V:=qI st.V d v } else { st with L:=(d,v)::st.L }
def St.cr (st:St)(s:Nat)(x:Slot):St:={ st with S:=qI st.S s x }
theorem WW{α:Type}(l:List (Nat×α))(j:Nat)(y:α)(i:Nat):aJ (qI l j y) i=if i=j then(aJ l i).map fun _=>y else aJ l i:=by
 induction l with
 |nil=>simp[qI,aJ]
 |cons p l ih=>
  obtain⟨a,x⟩:=p;by_cases h1:a=j
  ·subst h1;simp only[qI,nE,aJ];by_cases h2:a=i
   ·subst h2;simp
   ·simp only[h2,py,ih]
  ·simp only[qI,af h1,aJ];by_cases h2:a=i
   ·subst h2;simp[h1]
   ·simp only[h2,py,ih]
theorem St.apC{st:St}{d:Nat}{v:AV}{i:Nat}{x:AV}(h:(st.put d v).get i=some x):(i=d/\x=v)\/(i≠d/\st.get i=some x):=by
 unfold St.put at h;split at h
 ·rename_i hd;simp only[St.get,WW] at h;by_cases hi:i=d
  ·subst hi;obtain⟨y,hy⟩:=Rj.1 hd;simp[hy] at h;exact .inl ⟨rfl,h.symm⟩
  ·simp only[hi,py] at h;exact .inr ⟨hi,h⟩
 ·rename_i hd
  have hn:aJ st.V d=none:=by cases hv:aJ st.V d with
   |none=>rfl
   |some y=>rw[hv] at hd;simp at hd
  simp only[St.get,aJ] at h;by_cases hi:d=i
  ·subst hi;simp[hn] at h;exact .inl ⟨rfl,h.symm⟩
  ·simp only[hi,py] at h;exact .inr ⟨fun e=>hi e.symm,h⟩
theorem St.mX(st:St)(s:Nat)(x:Slot)(i:Nat):(st.cr s x).slot i=if i=s/\(aJ st.S i).isSome=true then x else st.slot i:=by
 unfold St.slot St.cr;simp only[WW];by_cases hi:i=s
 ·subst hi;cases h:aJ st.S i<;>simp
 ·simp[hi]
def yq:Value->Bool
 | .int _ _=>true
 | .bool _=>true
 | .string _=>true
 | .nilIface=>true
 | .iface _ _=>true
 | .slice none 0 0=>true
 | .func _ a b=>a.isEmpty && b.isEmpty
 |_=>false
theorem apD{x:Value}(h:yq x=true):x.oneCell'=true:=by cases x<;>first|rfl|cases h
inductive IR (w:World)(A:Nat->Prop):AC->Value->Prop where
 |v (x:Value) (h:yq x=true):IR w A (.v x) x
 |sl (k:Nat) (es:List (List AC)) (a:Option Addr) (c:Nat) (u:Nat->Nat->Value) (hn:es.length<=c) (hm:es.length<=9223372036854775807) (hk:∀(i:Nat) (row:List AC),es[i]? =some row->row.length=k)
   (hc:∀(i:Nat) (row:List AC) (j:Nat) (x:AC),es[i]? =some row->row[j]? =some x->IR w A x (u i j))
   (hl:∀(i:Nat) (row:List AC) (j:Nat),es[i]? =some row->j<row.length->∃b o,a=some ⟨b,o,none⟩/\¬A b/\w.cell? ⟨b,o+i*k+j,none⟩=some (u i j)):IR w A (.sl es) (.slice a es.length c)
 |fV (f:FuncId) (cn:List (List AC)) (at_:Nat->Nat×Nat) (u:Nat->Nat->Value)
   (hc:∀(i:Nat) (row:List AC) (j:Nat) (x:AC),cn[i]? =some row->row[j]? =some x->IR w A x (u i j))
   (hl:∀(i:Nat) (row:List AC),cn[i]? =some row->(at_ i).1<w.heap.size/\¬A (at_ i).1/\∀j,j<row.length->w.cell? ⟨(at_ i).1,(at_ i).2+j,none⟩=some (u i j)):
   IR w A (.fV f cn) (.func (.func f) #[] ((List.range cn.length).map fun i=> .pointer (some ⟨(at_ i).1,(at_ i).2,none⟩)).toArray)
theorem IR.one(h:IR w A x v):v.oneCell'=true:=by
 cases h with
 |v x h=>exact apD h
 |sl=>rfl
 |fV=>rfl
theorem IR.mono{A':Nat->Prop}(h:IR w A x v)(hz:w.heap.size<=w'.heap.size)(hA:∀b,b<w.heap.size->A' b->A b)(hw:∀b,b<w.heap.size->¬A b->w'.heap[b]? =w.heap[b]?):IR w' A' x v:=by
 induction h with
 |v x h=>exact .v x h
 |sl k es a c u hn hm hk hc hl ih=>
  refine .sl k es a c u hn hm hk (fun i row j x h1 h2=>ih i row j x h1 h2) (fun i row j h1 h2=> ?_);obtain⟨b,o,ha,hb,hcell⟩:=hl i row j h1 h2;have hlt:=ez _ _ hcell;exact⟨b,o,ha,fun h=>hb (hA b hlt h),by rw[Gp (hw b hlt hb)];exact hcell⟩
 |fV f cn at_ u hc hl ih=>
  refine .fV f cn at_ u (fun i row j x h1 h2=>ih i row j x h1 h2) (fun i row h1=> ?_);obtain⟨hlt,hb,hcell⟩:=hl i row h1;exact⟨ju hlt hz,fun h=>hb (hA _ hlt h),fun j hj=>by rw[Gp (hw _ hlt hb)];exact hcell j hj⟩
def CR (w:World)(A:Nat->Prop)(S:Nat->Slot)(G:Nat->Gh)(H:Nat->Value):AC->Value->Prop
 | .own s g,u=>u.oneCell'=true/\g<=(S s).gen/\∀e k es,S s=.row e k g es->u=H s
 | .cK s g,u=>u.oneCell'=true/\g<=(S s).gen/\∀K,S s=.obj g K->u=H s
 | .part s g i,u=>u.oneCell'=true/\g<=(S s).gen/\∀K,S s=.obj g K->(G s).hs[i]? =some u
 | .cls f cn,u=>∃ps:List Value,u=.func (.func f) #[] ps.toArray/\ps.length=cn.length/\∀(i:Nat) (q:Nat×Nat) (p:Value),cn[i]? =some q->ps[i]? =some p->q.2<=(S q.1).gen/\∀cs,S q.1=.box q.2 cs->p=.pointer (some ⟨(G q.1).b,0,none⟩)
 | .v x,u=>IR w A (.v x) u
 | .sl es,u=>IR w A (.sl es) u
 | .fV f cn,u=>IR w A (.fV f cn) u
def cH (w:World)(A:Nat->Prop)(S:Nat->Slot)(G:Nat->Gh)(H:Nat->Value)(cs:List AC)(arr:List Value):Prop:=arr.length=cs.length/\∀(j:Nat) (x:AC) (u:Value),cs[j]? =some x->arr[j]? =some u->CR w A S G H x u
def WR (w:World)(A:Nat->Prop)(S:Nat->Slot)(G:Nat->Gh)(H:Nat->Value):AW->Value->Prop
 | .c x,v=>CR w A S G H x v
 | .agg cs,v=>∃arr:List Value,v=.agg arr.toArray/\cH w A S G H cs arr
def VR (w:World)(A:Nat->Prop)(S:Nat->Slot)(G:Nat->Gh)(H:Nat->Value):AV->Value->Prop
 | .w x,v=>WR w A S G H x v
 | .bP vs,v=>∃arr:List Value,v=.tuple arr.toArray/\arr.length=vs.length/\∀(j:Nat) (x:AW) (u:Value),vs[j]? =some x->arr[j]? =some u->WR w A S G H x u
 | .pb s g off,v=>g<=(S s).gen/\∀cs,S s=.box g cs->v=.pointer (some ⟨(G s).b,off,none⟩)
 | .pr s g i off,v=>g<=(S s).gen/\∀e k es,S s=.row e k g es->∃b n c,H s=.slice (some ⟨b,0,none⟩) n c/\v=.pointer (some ⟨b,i*k+off,none⟩)
 | .pi cs off,v=>∃b o,v=.pointer (some ⟨b,o+off,none⟩)/\b<w.heap.size/\¬A b/\∃us:List Value,us.length=cs.length/\∀(j:Nat) (x:AC) (u:Value),cs[j]? =some x->us[j]? =some u->IR w A x u/\w.cell? ⟨b,o+j,none⟩=some u
 | .u,_=>True
theorem CR.one{S:Nat->Slot}{G:Nat->Gh}{H:Nat->Value}(h:CR w A S G H x v):v.oneCell'=true:=by
 cases x with
 |own s g=>exact h.1
 |cK s g=>exact h.1
 |part s g i=>exact h.1
 |cls f cn=>obtain⟨ps,rfl,_⟩:=h;rfl
 |v x=>exact IR.one h
 |sl es=>exact IR.one h
 |fV f cn=>exact IR.one h
structure Mv (w w':World)(A A':Nat->Prop)(S S':Nat->Slot)(G G':Nat->Gh)(H H':Nat->Value):Prop where
 size:w.heap.size<=w'.heap.size
 off:∀b,b<w.heap.size->A' b->A b
 kept:∀b,b<w.heap.size->¬A b->w'.heap[b]? =w.heap[b]?
 gen:∀s,(S s).gen<=(S' s).gen
 row:∀s e k g es,S' s=.row e k g es->g<=(S s).gen->(∃es,S s=.row e k g es)/\H' s=H s
 box:∀s g cs,S' s=.box g cs->g<=(S s).gen->(∃cs,S s=.box g cs)/\G' s=G s
 obj:∀s g K,S' s=.obj g K->g<=(S s).gen->(∃K,S s=.obj g K)/\G' s=G s/\H' s=H s
section
variable {w w':World} {A A':Nat->Prop} {S S':Nat->Slot} {G G':Nat->Gh} {H H':Nat->Value} (m:Mv w w' A A' S S' G G' H H')
variable {v:Value} {x:AC}
include m
theorem IR.mv(h:IR w A x v):IR w' A' x v:=h.mono m.size m.off m.kept
theorem CR.mv(h:CR w A S G H x v):CR w' A' S' G' H' x v:=by
 cases x with
 |own s g=>
  obtain⟨h1,h2,h3⟩:=h;refine⟨h1,bm h2 (m.gen s),fun e k es hs=> ?_⟩;obtain⟨⟨NH,e1⟩,e2⟩:=m.row s e k g es hs h2;rw[e2];exact h3 e k NH e1
 |cK s g=>
  obtain⟨h1,h2,h3⟩:=h;refine⟨h1,bm h2 (m.gen s),fun K hs=> ?_⟩;obtain⟨⟨K0,e1⟩,_,e2⟩:=m.obj s g K hs h2;rw[e2];exact h3 K0 e1
 |part s g i=>
  obtain⟨h1,h2,h3⟩:=h;refine⟨h1,bm h2 (m.gen s),fun K hs=> ?_⟩;obtain⟨⟨K0,e1⟩,e2,_⟩:=m.obj s g K hs h2;rw[e2];exact h3 K0 e1
 |cls f cn=>
  obtain⟨ps,h1,h2,h3⟩:=h;refine⟨ps,h1,h2,fun i q p e1 e2=> ?_⟩;obtain⟨h4,h5⟩:=h3 i q p e1 e2;refine⟨bm h4 (m.gen q.1),fun cs hs=> ?_⟩;obtain⟨⟨c0,g1⟩,g2⟩:=m.box q.1 q.2 cs hs h4;rw[g2];exact h5 c0 g1
 |v x=>exact IR.mv m h
 |sl es=>exact IR.mv m h
 |fV f cn=>exact IR.mv m h
theorem cH.mv{cs:List AC}{arr:List Value}(h:cH w A S G H cs arr):cH w' A' S' G' H' cs arr:=⟨h.1,fun j x u h1 h2=>(h.2 j x u h1 h2).mv m⟩
theorem WR.mv{x:AW}(h:WR w A S G H x v):WR w' A' S' G' H' x v:=by
 cases x with
 |c x=>exact CR.mv m h
 |agg cs=>
  obtain⟨arr,e,h⟩:=h;exact⟨arr,e,cH.mv m h⟩
theorem VR.mv{x:AV}(h:VR w A S G H x v):VR w' A' S' G' H' x v:=by
 cases x with
 |w x=>exact WR.mv m h
 |bP vs=>
  obtain⟨arr,e,hl,h⟩:=h;exact⟨arr,e,hl,fun j x u h1 h2=>(h j x u h1 h2).mv m⟩
 |pb s g off=>
  obtain⟨h1,h2⟩:=h;refine⟨bm h1 (m.gen s),fun cs hs=> ?_⟩;obtain⟨⟨c0,e1⟩,e2⟩:=m.box s g cs hs h1;rw[e2];exact h2 c0 e1
 |pr s g i off=>
  obtain⟨h1,h2⟩:=h;refine⟨bm h1 (m.gen s),fun e k es hs=> ?_⟩;obtain⟨⟨c0,e1⟩,e2⟩:=m.row s e k g es hs h1;rw[e2];exact h2 e k c0 e1
 |pi cs off=>
  obtain⟨b,o,e,hlt,hb,us,hl,h⟩:=h;refine⟨b,o,e,ju hlt m.size,fun hh=>hb (m.off b hlt hh),us,hl,fun j x u h1 h2=> ?_⟩;obtain⟨e1,e2⟩:=h j x u h1 h2;exact⟨IR.mv m e1,by rw[Gp (m.kept b hlt hb)];exact e2⟩
 |u=>trivial
end
structure Fr (F:Nat->Prop)(w0 w:World):Prop where
 os:w.os=w0.os
 tape:w.tape=w0.tape
 out:w.output=w0.output
 size:w0.heap.size<=w.heap.size
 block:∀b,F b->w.heap[b]? =w0.heap[b]?
def bq (S:Nat->Slot)(G:Nat->Gh)(H:Nat->Value)(s b:Nat):Prop:=(∃g cs,S s=.box g cs/\b=(G s).b)\/(∃e k g es,S s=.row e k g es/\(H s).ownBlock=some b)\/(∃g K,S s=.obj g K/\b∈(G s).fp)
def aV (M:Nat->Prop)(S:Nat->Slot)(G:Nat->Gh)(H:Nat->Value)(b:Nat):Prop:=M b\/∃s,bq S G H s b
def qJ (w:World)(A:Nat->Prop)(k:Nat)(es:List (List AC))(xs:List Value):Prop:=
 (∀(i:Nat) (row:List AC),es[i]? =some row->row.length=k)/\∀(i:Nat) (row:List AC) (j:Nat) (x:AC) (u:Value),es[i]? =some row->row[j]? =some x->xs[i*k+j]? =some u->IR w A x u
structure lj where
 w:World
 S:Nat->Slot
 G:Nat->Gh
 H:Nat->Value
structure RB (w0:lj)(S:Nat->Slot)(G:Nat->Gh)(H:Nat->Value):Prop where
 gen:∀s,(w0.S s).gen<=(S s).gen
 row:∀s e k g es,S s=.row e k g es->g<=(w0.S s).gen->(∃es,w0.S s=.row e k g es)/\H s=w0.H s
 box:∀s g cs,S s=.box g cs->g<=(w0.S s).gen->(∃cs,w0.S s=.box g cs)/\G s=w0.G s
 obj:∀s g K,S s=.obj g K->g<=(w0.S s).gen->(∃K,w0.S s=.obj g K)/\G s=w0.G s/\H s=w0.H s
structure yr (w:World)(F:Nat->Prop):Prop where
 gl:GM w
 lo:∀b,b<gN->F b
theorem yr.mono {w:World}{F F':Nat->Prop}(h:yr w F)(hF:∀b,F b->F' b):yr w F':=⟨h.gl,fun b hb=>hF b (h.lo b hb)⟩
theorem yr.fr {w w':World}{F:Nat->Prop}(h:yr w F)(hf:Fr F w w'):yr w' F:=⟨h.gl.kept ⟨hf.os,hf.tape,hf.out,hf.size,fun b hb=>hf.block b (h.lo b hb)⟩,h.lo⟩
theorem NI {w:World}(h:GM w):yr w (fun b=>b<w.heap.size):=⟨h,fun _ hb=>ju hb h.low⟩
structure Rel (N:Nat)(F M:Nat->Prop)(w0:lj)(st:St)(G:Nat->Gh)(H:Nat->Value)(a:Act)(w:World):Prop where
 sz:a.tmps.size=N
 df:a.defers=[]
 fr:Fr F w0.w w
 hs:RB w0 st.slot G H
 lo:(∀b,F b\/M b->b<w0.w.heap.size)/\yr w0.w F
 tm:∀i x,st.get i=some x->VR w (aV M st.slot G H) st.slot G H x (a.tmps.getD i undef)
 bx:∀s g cs,st.slot s=.box g cs->¬F (G s).b/\¬M (G s).b/\∃arr:List Value,ay w (G s).b arr.toArray/\cH w (aV M st.slot G H) st.slot G H cs arr
 rw:∀s e k g es,st.slot s=.row e k g es->(∀b,(H s).ownBlock=some b->¬F b/\¬M b)/\∃xs,w.ownsRow 0 e k (H s) es.length xs/\qJ w (aV M st.slot G H) k es xs
 ob:∀s g K,st.slot s=.obj g K->(∀b∈(G s).fp,¬F b/\¬M b)/\K.rep w (aV M st.slot G H) (H s) (G s)
 dj:∀s s' b,bq st.slot G H s b->bq st.slot G H s' b->s=s'
theorem Act.apE {a:Act}{d:Nat}{v:Value}(hd:d<a.tmps.size)(i:Nat):(a.put (some d) v).tmps.getD i undef=if i=d then v else a.tmps.getD i undef:=by
 simp only[Act.put,Ng];by_cases h:i=d
 ·subst h;simp[oI hd]
 ·simp[h,nz (Ne.symm h)]
section
variable {N:Nat} {F M:Nat->Prop} {w0:lj} {w:World} {st:St} {G:Nat->Gh} {H:Nat->Value} {a:Act}
variable {G':Nat->Gh} {H':Nat->Value} {U:Option (List Nat)} {w':World}
theorem Rel.put(h:Rel N F M w0 st G H a w){d:Nat}(hd:d<N){x:AV}{v:Value}(hv:VR w (aV M st.slot G H) st.slot G H x v):Rel N F M w0 (st.put d x) G H (a.put (some d) v) w:=by
 have hS:(st.put d x).S=st.S:=by unfold St.put;split<;>rfl
 have hs:(st.put d x).slot=st.slot:=by funext i;unfold St.slot;rw[hS]
 refine⟨by simpa [Act.put] using h.sz,h.df,h.fr,by rw[hs];exact h.hs,h.lo,?_,by rw[hs];exact h.bx,by rw[hs];exact h.rw,by rw[hs];exact h.ob,by rw[hs];exact h.dj⟩;intro i y hy;rw[hs,Act.apE (by rw[h.sz];exact hd)]
 rcases St.apC hy with⟨h1,h2⟩|⟨h1,h2⟩
 ·rw[aj h1,h2];exact hv
 ·rw[af h1];exact h.tm i y h2
theorem Rel.qK(h:Rel N F M w0 st G H a w){s b:Nat}(hl:bq st.slot G H s b):b<w.heap.size/\¬F b/\¬M b:=by
 rcases hl with⟨g,cs,h1,rfl⟩|⟨e,k,g,es,h1,h2⟩|⟨g,K,h1,h2⟩
 ·obtain⟨e1,e2,arr,e3,_⟩:=h.bx s g cs h1;exact⟨e3.lt,e1,e2⟩
 ·obtain⟨e1,xs,e3,_⟩:=h.rw s e k g es h1;exact⟨(e3.lt b h2).2,e1 b h2⟩
 ·obtain⟨e1,e2⟩:=h.ob s g K h1;exact⟨K.lt e2 b h2,e1 b h2⟩
theorem Rel.glo(h:Rel N F M w0 st G H a w){F':Nat->Prop}(hF:∀b,F b->b<w.heap.size->F' b):yr w F':=
 (h.lo.2.fr h.fr).mono fun b hb=>hF b hb (ju (h.lo.1 b (.inl hb)) h.fr.size)
theorem Rel.RD(h:Rel N F M w0 st G H a w)(s:Nat)(x:Slot)(hs:(aJ st.S s).isSome=true)(hG:∀i,i≠s->G' i=G i)(hH:∀i,i≠s->H' i=H i)
  (ho:w'.os=w.os) (ht:w'.tape=w.tape) (NJ:w'.output=w.output) (hz:w.heap.size<=w'.heap.size) (hb:∀b,b<w.heap.size->¬bq st.slot G H s b->w'.heap[b]? =w.heap[b]?)
  (uU:∀b,bq (st.cr s x).slot G' H' s b->bq st.slot G H s b\/w.heap.size<=b) (pF:(st.slot s).gen<=x.gen)
  (bg:∀e k g es,x=.row e k g es->g<=(st.slot s).gen->(∃es,st.slot s=.row e k g es)/\H' s=H s) (gT:∀g cs,x=.box g cs->g<=(st.slot s).gen->(∃cs,st.slot s=.box g cs)/\G' s=G s)
  (uW:∀g K,x=.obj g K->g<=(st.slot s).gen->(∃K,st.slot s=.obj g K)/\G' s=G s/\H' s=H s)
  (qL:Mv w w' (aV M st.slot G H) (aV M (st.cr s x).slot G' H') st.slot (st.cr s x).slot G G' H H'->∀g cs,x=.box g cs->∃arr:List Value,ay w' (G' s).b arr.toArray/\cH w' (aV M (st.cr s x).slot G' H') (st.cr s x).slot G' H' cs arr)
  (Ae:Mv w w' (aV M st.slot G H) (aV M (st.cr s x).slot G' H') st.slot (st.cr s x).slot G G' H H'->∀e k g es,x=.row e k g es->∃xs,w'.ownsRow 0 e k (H' s) es.length xs/\qJ w' (aV M (st.cr s x).slot G' H') k es xs)
  (qM:Mv w w' (aV M st.slot G H) (aV M (st.cr s x).slot G' H') st.slot (st.cr s x).slot G G' H H'->∀g K,x=.obj g K->K.rep w' (aV M (st.cr s x).slot G' H') (H' s) (G' s)):
  Rel N F M w0 (st.cr s x) G' H' a w':=by
 have e1:(st.cr s x).slot s=x:=by rw[St.mX,aj ⟨rfl,hs⟩]
 have e2:∀i,i≠s->(st.cr s x).slot i=st.slot i:=fun i hi=>by rw[St.mX,af (fun hh=>hi hh.1)]
 have nK:∀i b,i≠s->(bq (st.cr s x).slot G' H' i b↔bq st.slot G H i b):=fun i b hi=>by unfold bq;rw[e2 i hi,hG i hi,hH i hi]
 have m:Mv w w' (aV M st.slot G H) (aV M (st.cr s x).slot G' H') st.slot (st.cr s x).slot G G' H H':=by
  refine⟨hz,fun b hlt Cg=> ?_,fun b hlt Cg=>hb b hlt (fun hl=>Cg (.inr ⟨s,hl⟩)),fun i=> ?_,fun i e k g es h1 h2=> ?_,fun i g cs h1 h2=> ?_,fun i g K h1 h2=> ?_⟩
  ·rcases Cg with hm|⟨i,hl⟩
   ·exact .inl hm
   ·by_cases hi:i=s
    ·subst hi
     rcases uU b hl with h1|h1
     ·exact .inr ⟨i,h1⟩
     ·omega
    ·exact .inr ⟨i,(nK i b hi).1 hl⟩
  ·by_cases hi:i=s
   ·subst hi;rw[e1];exact pF
   ·rw[e2 i hi];exact cP _
  ·by_cases hi:i=s
   ·subst hi;rw[e1] at h1;exact bg e k g es h1 h2
   ·rw[e2 i hi] at h1;exact⟨⟨es,h1⟩,hH i hi⟩
  ·by_cases hi:i=s
   ·subst hi;rw[e1] at h1;exact gT g cs h1 h2
   ·rw[e2 i hi] at h1;exact⟨⟨cs,h1⟩,hG i hi⟩
  ·by_cases hi:i=s
   ·subst hi;rw[e1] at h1;exact uW g K h1 h2
   ·rw[e2 i hi] at h1;exact⟨⟨K,h1⟩,hG i hi,hH i hi⟩
 have qN:∀i,(st.cr s x).get i=st.get i:=fun _=>rfl
 have hF:∀b,bq (st.cr s x).slot G' H' s b->¬F b/\¬M b:=fun b hl=>by
  rcases uU b hl with h1|h1
  ·exact(h.qK h1).2
  ·have:=h.fr.size;exact⟨fun hf=>by have:=h.lo.1 b (.inl hf);omega,fun hf=>by have:=h.lo.1 b (.inr hf);omega⟩
 refine⟨h.sz,h.df,⟨ho.trans h.fr.os,ht.trans h.fr.tape,NJ.trans h.fr.out,bm h.fr.size hz,fun b hf=> ?_⟩,⟨fun i=>bm (h.hs.gen i) (m.gen i),fun i e k g es h1 h2=> ?_,fun i g cs h1 h2=> ?_,fun i g K h1 h2=> ?_⟩,h.lo,fun i y hy=>VR.mv m (h.tm i y (by rw[<-qN];exact hy)),fun i g cs hi=> ?_,fun i e k g es hi=> ?_,fun i g K hi=> ?_,fun i j b h1 h2=> ?_⟩
 ·have hlt:=h.lo.1 b (.inl hf);rw[hb b (ju hlt h.fr.size) (fun hl=>(h.qK hl).2.1 hf)];exact h.fr.block b hf
 ·obtain⟨⟨NH,e5⟩,e6⟩:=m.row i e k g es h1 (bm h2 (h.hs.gen i));rw[e6];exact h.hs.row i e k g NH e5 h2
 ·obtain⟨⟨c0,e5⟩,e6⟩:=m.box i g cs h1 (bm h2 (h.hs.gen i));rw[e6];exact h.hs.box i g c0 e5 h2
 ·obtain⟨⟨c0,e5⟩,e6,e7⟩:=m.obj i g K h1 (bm h2 (h.hs.gen i));rw[e6,e7];exact h.hs.obj i g c0 e5 h2
 ·by_cases eh:i=s
  ·subst eh;rw[e1] at hi;have:=hF (G' i).b (.inl ⟨g,cs,by rw[e1];exact hi,rfl⟩);exact⟨this.1,this.2,qL m g cs hi⟩
  ·rw[e2 i eh] at hi;obtain⟨f1,f2,arr,f3,f4⟩:=h.bx i g cs hi;rw[hG i eh];refine⟨f1,f2,arr,?_,cH.mv m f4⟩;obtain⟨t,ht⟩:=f3;refine⟨t,?_⟩;rw[hb (G i).b (ay.lt ⟨t,ht⟩) (fun hl=>eh (h.dj i s (G i).b (.inl ⟨g,cs,hi,rfl⟩) hl))];exact ht
 ·by_cases eh:i=s
  ·subst eh;rw[e1] at hi;exact⟨fun b sE=>hF b (.inr (.inl ⟨e,k,g,es,by rw[e1];exact hi,sE⟩)),Ae m e k g es hi⟩
  ·rw[e2 i eh] at hi;obtain⟨f1,xs,f3,f4,f5⟩:=h.rw i e k g es hi;rw[hH i eh];refine⟨f1,xs,?_,f4,fun i' row j y u g1 g2 g3=>IR.mv m (f5 i' row j y u g1 g2 g3)⟩;obtain⟨q1,q2⟩:=f3;refine⟨q1,?_⟩
   rcases q2 with q2|⟨gg,cap,cur,q3,q4,q5,q6⟩
   ·exact .inl q2
   ·refine .inr ⟨gg,cap,cur,q3,q4,?_,q6⟩;have hl:bq st.slot G H i gg:=.inr (.inl ⟨e,k,g,es,hi,by rw[q3];rfl⟩);rw[hb gg (h.qK hl).1 (fun iy=>eh (h.dj i s gg hl iy))];exact q5
 ·by_cases eh:i=s
  ·subst eh;rw[e1] at hi;exact⟨fun b sE=>hF b (.inr (.inr ⟨g,K,by rw[e1];exact hi,sE⟩)),qM m g K hi⟩
  ·rw[e2 i eh] at hi;obtain⟨f1,f2⟩:=h.ob i g K hi;rw[hH i eh,hG i eh];refine⟨f1,K.mono f2 m.size m.off (fun b hlt bt=> ?_)⟩
   rcases bt with bt|bt
   ·exact hb b hlt (fun iy=>eh (h.dj i s b (.inr (.inr ⟨g,K,hi,bt⟩)) iy))
   ·exact m.kept b hlt bt
 ·by_cases eh:i=s
  ·by_cases Ed:j=s
   ·rw[eh,Ed]
   ·rw[eh] at h1;have h2':=(nK j b Ed).1 h2
    rcases uU b h1 with h3|h3
    ·exact absurd (h.dj s j b h3 h2') (fun e=>Ed e.symm)
    ·have:=(h.qK h2').1;omega
  ·have oO:=(nK i b eh).1 h1;by_cases Ed:j=s
   ·rw[Ed] at h2
    rcases uU b h2 with h3|h3
    ·exact absurd (h.dj i s b oO h3) eh
    ·have:=(h.qK oO).1;omega
   ·exact h.dj i j b oO ((nK j b Ed).1 h2)
theorem Rel.grow(h:Rel N F M w0 st G H a w)(ho:w'.os=w.os)(ht:w'.tape=w.tape)(NJ:w'.output=w.output)(hz:w.heap.size<=w'.heap.size)(hb:∀b,b<w.heap.size->w'.heap[b]? =w.heap[b]?):Rel N F M w0 st G H a w':=by
 have m:Mv w w' (aV M st.slot G H) (aV M st.slot G H) st.slot st.slot G G H H:=
  ⟨hz,fun _ _ h=>h,fun b hlt _=>hb b hlt,fun _=>cP _,fun s e k g es h1 _=>⟨⟨es,h1⟩,rfl⟩,fun s g cs h1 _=>⟨⟨cs,h1⟩,rfl⟩,fun s g K h1 _=>⟨⟨K,h1⟩,rfl,rfl⟩⟩
 refine⟨h.sz,h.df,⟨ho.trans h.fr.os,ht.trans h.fr.tape,NJ.trans h.fr.out,bm h.fr.size hz,fun b hf=> ?_⟩,h.hs,h.lo,fun i y hy=>VR.mv m (h.tm i y hy),fun i g cs hi=> ?_,fun i e k g es hi=> ?_,fun i g K hi=> ?_,h.dj⟩
 ·rw[hb b (ju (h.lo.1 b (.inl hf)) h.fr.size)];exact h.fr.block b hf
 ·obtain⟨f1,f2,arr,f3,f4⟩:=h.bx i g cs hi;refine⟨f1,f2,arr,?_,cH.mv m f4⟩;obtain⟨t,ht⟩:=f3;exact⟨t,by rw[hb _ (ay.lt ⟨t,ht⟩)];exact ht⟩
 ·obtain⟨f1,xs,f3,f4,f5⟩:=h.rw i e k g es hi;refine⟨f1,xs,?_,f4,fun i' row j y u g1 g2 g3=>IR.mv m (f5 i' row j y u g1 g2 g3)⟩;obtain⟨q1,q2⟩:=f3;refine⟨q1,?_⟩
  rcases q2 with q2|⟨gg,cap,cur,q3,q4,q5,q6⟩
  ·exact .inl q2
  ·have hl:bq st.slot G H i gg:=.inr (.inl ⟨e,k,g,es,hi,by rw[q3];rfl⟩);exact .inr ⟨gg,cap,cur,q3,q4,by rw[hb gg (h.qK hl).1];exact q5,q6⟩
 ·obtain⟨f1,f2⟩:=h.ob i g K hi;exact⟨f1,K.mono f2 hz (fun _ _ h=>h) (fun b hlt _=>hb b hlt)⟩
def dc (U:List Nat)(S:Nat->Slot)(G:Nat->Gh)(H:Nat->Value)(w w':World):Prop:=∀b,b<w.heap.size->(∀s∈U,¬bq S G H s b)->w'.heap[b]? =w.heap[b]?
def yt (U:Option (List Nat))(s:Nat):Prop:=match U with
 |none=>True
 |some l=>s∈l
def Ee (U:Option (List Nat))(S:Nat->Slot)(G:Nat->Gh)(H:Nat->Value)(w:World)(S':Nat->Slot)(G':Nat->Gh)(H':Nat->Value)(w':World):Prop:=
 w.heap.size<=w'.heap.size/\∀l,U=some l->dc l S G H w w'/\∀s∈l,∀b,b<w.heap.size->bq S' G' H' s b->∃s0∈l,bq S G H s0 b
theorem NK{S:Nat->Slot}(hz:w.heap.size<=w'.heap.size)(hb:∀b,b<w.heap.size->w'.heap[b]? =w.heap[b]?):Ee U S G H w S G H w':=⟨hz,fun _ _=>⟨fun b hlt _=>hb b hlt,fun s hs _ _ h=>⟨s,hs,h⟩⟩⟩
theorem RE(s:Nat)(x:Slot)(hG:∀i,i≠s->G' i=G i)(hH:∀i,i≠s->H' i=H i)(hz:w.heap.size<=w'.heap.size)(hb:∀b,b<w.heap.size->¬bq st.slot G H s b->w'.heap[b]? =w.heap[b]?)
  (uU:∀b,bq (st.cr s x).slot G' H' s b->bq st.slot G H s b\/w.heap.size<=b) (hU:yt U s\/∀b,b<w.heap.size->w'.heap[b]? =w.heap[b]?):Ee U st.slot G H w (st.cr s x).slot G' H' w':=by
 refine⟨hz,fun l hl=> ?_⟩;subst hl;refine⟨fun b hlt hn=> ?_,fun i hi b hlt nK=> ?_⟩
 ·rcases hU with hU|hU
  ·exact hb b hlt (hn s hU)
  ·exact hU b hlt
 ·by_cases eh:i=s
  ·subst eh
   rcases uU b nK with h1|h1
   ·exact⟨i,hi,h1⟩
   ·omega
  ·refine⟨i,hi,?_⟩;unfold bq at nK⊢;rw[St.mX,af (fun hh=>eh hh.1),hG i eh,hH i eh] at nK;exact nK
end
inductive aQ where
 |t (i:Nat)
 |k (x:AW)
inductive ROp where
 |mv (x:aQ)
 |bin (op:BinOp) (x y:aQ)
 |un (op:UnOp) (x:aQ)
 |pick (c x y:aQ)
 |len (x:aQ)
 |mm (mx:Bool) (x y:aQ)
 |ld1 (p:aQ)
 |Ef (n:Nat) (p:aQ)
 |uX (p:aQ) (off:Nat)
 |idx (k:Nat) (x i:aQ)
 |Eg (n k:Nat) (p i:aQ)
 |qO (k:Nat) (x:aQ) (lo hi:Option aQ)
 |ext (x:aQ) (i:Nat)
 |Eh (x i:aQ)
 |Ei (zero:List Value) (parts:List (Nat×Nat×aQ))
def St.arg (st:St):aQ->Option AV
 | .t i=>st.get i
 | .k x=>some (.w x)
def GN:Option AV->Option Value
 |some (.w (.c (.v x)))=>some x
 |_=>none
def St.sc (st:St)(x:aQ):Option Value:=GN (st.arg x)
def aZ (op:BinOp):Value->Value->Option Value
 | .int k a,.int k' b=>if k=k' then match op with
   | .add=>if k.wrap (a+b)=a+b then some (.int k (a+b)) else none
   | .sub=>if k.wrap (a-b)=a-b then some (.int k (a-b)) else none
   | .mul=>if k.wrap (a*b)=a*b then some (.int k (a*b)) else none
   | .quo=>if b≠0/\k.wrap (a.tdiv b)=a.tdiv b then some (.int k (a.tdiv b)) else none
   | .rem=>if b≠0 then some (.int k (a.tmod b)) else none
   | .eql=>some (.bool (decide (a=b)))
   | .neq=>some (.bool (decide (a≠b)))
   | .lss=>some (.bool (decide (a<b)))
   | .leq=>some (.bool (decide (a<=b)))
   | .gtr=>some (.bool (decide (b<a)))
   | .geq=>some (.bool (decide (b<=a)))
   |_=>none
  else none
 | .string a,.string b=>match op with
   | .eql=>some (.bool (a.toList==b.toList))
   | .neq=>some (.bool (!(a.toList==b.toList)))
   | .add=>if((a.size+b.size:Nat):Int)>IntKind.i64.max then none else some (.string (a++b))
   |_=>none
 |_,_=>none
def Ej (op:UnOp):Value->Option Value
 | .int k a=>match op with
   | .neg=>if k.wrap (0-a)= -a then some (.int k (-a)) else none
   |_=>none
 | .bool b=>match op with
   | .not=>some (.bool !b)
   |_=>none
 |_=>none
def GO (mx:Bool):Value->Value->Option Value
 | .int k a,.int k' b=>if k=k' then some (.int k (if mx then max a b else min a b)) else none
 |_,_=>none
def St.rows (st:St)(U:List Nat):Option AV->Option (List (List AC))
 |some (.w (.c (.sl es)))=>some es
 |some (.w (.c (.own s g)))=>match st.slot s with
  | .row _ _ g' es=>if g=g'/\s∉U then some es else none
  |_=>none
 |_=>none
def St.cells (st:St)(U:List Nat)(n:Nat):Option AV->Option (List AC)
 |some (.pb s g off)=>match st.slot s with
  | .box g' cs=>if g=g'/\s∉U/\off+n<=cs.length then some ((cs.drop off).take n) else none
  |_=>none
 |some (.pr s g i off)=>match st.slot s with
  | .row _ _ g' es=>if g=g'/\s∉U then match es[i]? with
    |some row=>if off+n<=row.length then some ((row.drop off).take n) else none
    |none=>none
   else none
  |_=>none
 |some (.pi cs off)=>if off+n<=cs.length then some ((cs.drop off).take n) else none
 |_=>none
section
variable {P:Program} {N:Nat} {F M:Nat->Prop} {w0:lj} {w:World} {st:St} {G:Nat->Gh} {H:Nat->Value} {a:Act}
variable {o:Oper} {t:TypeId} {x:Operand} {y:aQ}
def dO (x:Operand)(y:aQ):Prop:=match y with
 | .t i=>x=.tmp i
 | .k (.c (.v v))=>x=.const v/\yq v=true
 | .k (.c (.sl []))=>x=.const (.slice none 0 0)
 |_=>False
theorem Rel.arg(h:Rel N F M w0 st G H a w)(mu:dO x y){v:AV}(hv:st.arg y=some v):VR w (aV M st.slot G H) st.slot G H v (a.eval x):=by
 cases y with
 |t i=>
  have hx:x=.tmp i:=mu;subst hx;exact h.tm i v hv
 |k q=>
  simp only[St.arg,aA] at hv;subst hv
  cases q with
  |c c=>
   cases c with
   |v u=>
    obtain⟨h1,h2⟩:=mu;subst h1;exact IR.v u h2
   |sl es=>
    cases es with
    |nil=>
     have hx:x=.const (.slice none 0 0):=mu;subst hx;exact IR.sl 0 [] none 0 (fun _ _=>undef) ax ai (by intro i row h;simp at h) (by intro i row j x h;simp at h) (by intro i row j h;simp at h)
    |cons e es=>exact mu.elim
   |own s g=>exact mu.elim
   |cK s g=>exact mu.elim
   |part s g i=>exact mu.elim
   |fV f cn=>exact mu.elim
   |cls f cn=>exact mu.elim
  |agg cs=>exact mu.elim
theorem Rel.sc(h:Rel N F M w0 st G H a w)(mu:dO x y){v:Value}(hv:st.sc y=some v):a.eval x=v/\yq v=true:=by
 unfold St.sc GN at hv;split at hv
 ·rename_i u hu;simp only[aA] at hv;subst hv;have:=h.arg mu hu
  cases this with
  |v _ h=>exact⟨rfl,h⟩
 ·cases hv
def jU (P:Program)(mem:Bool)(o:Oper)(ev:St->List Nat->Option AV):Prop:=
 ∀(N:Nat) (F M:Nat->Prop) (w0:lj) (w:World) (st:St) (G:Nat->Gh) (H:Nat->Value) (a:Act) (U:List Nat) (x:AV),Rel N F M w0 st G H a w->ev st U=some x->
  ∃v,VR w (aV M st.slot G H) st.slot G H x v/\∀w',(mem=true->dc U st.slot G H w w')->(execOp a.eval o).run P w'=.ok (.value v) w'
theorem aer(ho:o.op=.move x\/o.op=.assign x)(mu:dO x y):jU P false o (fun st _=>st.arg y):=by
 intro N F M w0 w st G H a U r h hr;refine⟨a.eval x,h.arg mu hr,fun w' _=> ?_⟩;unfold execOp
 rcases ho with ho|ho<;>simp[ho]
theorem apF{op:BinOp}{t':TypeId}{x':Operand}{y':aQ}(ho:o.op=.binOp op t x x' t')(hx:dO x y)(sF:dO x' y'):
  jU P false o (fun st _=>match st.sc y,st.sc y' with |some u,some v=>(aZ op u v).map fun r=> .w (.c (.v r))|_,_=>none):=by
 intro N F M w0 w st G H a U r h hr;dsimp only at hr;split at hr
 case h_2=>cases hr
 rename_i u v hu hv;obtain⟨e1,s1⟩:=h.sc hx hu;obtain⟨e2,s2⟩:=h.sc sF hv;rw[bU] at hr;obtain⟨q,hq,rfl⟩:=hr
 have NL:yq q=true:=by
  unfold aZ at hq
  repeat' split at hq
  all_goals first|(simp only[aA] at hq;subst hq;rfl)|cases hq
 refine⟨q,IR.v q NL,fun w' _=> ?_⟩;unfold execOp;simp only[ho,e1,e2];unfold aZ at hq;split at hq
 ·split at hq
  ·rename_i k a b k' c hk;subst hk;cases op<;>dsimp only at hq<;>(try split at hq)
   all_goals first|(simp only[aA] at hq;subst hq)|cases hq
   all_goals
    first
     |(simp[eqGuard,binOp,Op.intArith,Op.intCmp, *];done)
     |(rename_i hw;simp[eqGuard,binOp,Op.intArith,Op.intDiv,hw];done)
     |(rename_i hw;simp[eqGuard,binOp,Op.intDiv,hw.1,hw.2];done)
     |(unfold eqGuard binOp Op.intCmp;simp;done)
     |(unfold eqGuard binOp Op.intCmp;simp;rfl)
  ·cases hq
 ·cases op<;>dsimp only at hq
  all_goals first|(simp only[aA] at hq;subst hq;simp[eqGuard,binOp,Op.stringOp];done)|(cases hq;done)|(split at hq<;>first|(cases hq;done)|(rename_i hlt;simp only[aA] at hq;subst hq;simp[eqGuard,binOp,Op.stringOp,hlt];try (simpa using hlt);done))
 ·cases hq
theorem apG{op:UnOp}(ho:o.op=.unOp op t x)(hx:dO x y):jU P false o (fun st _=>match st.sc y with |some u=>(Ej op u).map fun r=> .w (.c (.v r))|_=>none):=by
 intro N F M w0 w st G H a U r h hr;dsimp only at hr;split at hr
 case h_2=>cases hr
 rename_i u hu;obtain⟨e1,s1⟩:=h.sc hx hu;rw[bU] at hr;obtain⟨q,hq,rfl⟩:=hr
 have NL:yq q=true:=by
  unfold Ej at hq
  repeat' split at hq
  all_goals first|(simp only[aA] at hq;subst hq;rfl)|cases hq
 refine⟨q,IR.v q NL,fun w' _=> ?_⟩;unfold execOp;simp only[ho,e1];unfold Ej at hq
 repeat' split at hq
 all_goals first|(simp only[aA] at hq;subst hq)|cases hq
 ·rename_i hw;simp[Op.unary,Op.intArith,hw];simpa using hw
 ·simp[Op.unary]
theorem apH{x1 x2 x3:Operand}{y1 y2 y3:aQ}(ho:o.op=.pick x1 x2 x3)(h1:dO x1 y1)(h2:dO x2 y2)(h3:dO x3 y3):
  jU P false o (fun st _=>match st.sc y1 with |some (.bool true)=>st.arg y2|some (.bool false)=>st.arg y3|_=>none):=by
 intro N F M w0 w st G H a U r h hr;dsimp only at hr;split at hr
 ·rename_i hu;obtain⟨e1,s1⟩:=h.sc h1 hu;exact⟨_,h.arg h2 hr,fun w' _=>by unfold execOp;simp[ho,e1,asBool]⟩
 ·rename_i hu;obtain⟨e1,s1⟩:=h.sc h1 hu;exact⟨_,h.arg h3 hr,fun w' _=>by unfold execOp;simp[ho,e1,asBool]⟩
 ·cases hr
theorem IR.uY{A:Nat->Prop}{S:Nat->Slot}{G:Nat->Gh}{x:AC}{u:Value}(h:IR w A x u):CR w A S G H x u:=by cases h with
 |v _ hs=>exact IR.v _ hs
 |sl k es ad c us hn hm hk hc hl=>exact IR.sl k es ad c us hn hm hk hc hl
 |fV f cn at_ us hc hl=>exact IR.fV f cn at_ us hc hl
theorem Rel.rows(h:Rel N F M w0 st G H a w)(mu:dO x y){U:List Nat}{es:List (List AC)}(hr:st.rows U (st.arg y)=some es):∃ad c,a.eval x=.slice ad es.length c/\es.length<=c/\es.length<=9223372036854775807:=by
 unfold St.rows at hr;split at hr
 ·rename_i es' hv;simp only[aA] at hr;subst hr;have:=h.arg mu hv;generalize a.eval x=q at this;have h3:IR w (aV M st.slot G H) (.sl es') q:=this
  cases h3 with
  |sl _ _ ad c u hn hm _ _ _=>exact⟨ad,c,rfl,hn,hm⟩
 ·rename_i s g hv;split at hr
  ·rename_i e k' g' es' hs;split at hr
   ·rename_i hg;simp only[aA] at hr;subst hr;obtain⟨rfl,_⟩:=hg;have h3:CR w (aV M st.slot G H) st.slot G H (.own s g) (a.eval x):=h.arg mu hv;obtain⟨_,_,hH⟩:=h3;rw[hH e k' es' hs];obtain⟨_,xs,ho,_⟩:=h.rw s e k' g es' hs
    rcases ho.2 with⟨e1,e2⟩|⟨gg,cap,cur,e1,_,_,e3,e4,_⟩
    ·rw[e1,e2];exact⟨none,0,rfl,ab,ab⟩
    ·rw[e1];exact⟨_,cap,rfl,e3,by simp only[maxLen] at e4;omega⟩
   ·cases hr
  ·cases hr
 ·cases hr
end
section
variable {P:Program} {N:Nat} {F M:Nat->Prop} {w0:lj} {w:World} {st:St} {G:Nat->Gh} {H:Nat->Value} {a:Act}
variable {U:List Nat} {b:Nat} {d:TypeDesc} {o:Oper} {p:AV} {t:TypeId} {x:Operand} {y:aQ}
theorem GQ{α:Type}(l:List α)(off n j:Nat):((l.drop off).take n)[j]? =if j<n then l[off+j]? else none:=by
 rw[wK];split
 ·rw[oJ]
 ·rfl
theorem Rel.cells(h:Rel N F M w0 st G H a w){n:Nat}{v:Value}{cs:List AC}(hv:VR w (aV M st.slot G H) st.slot G H p v)(hc:st.cells U n (some p)=some cs):
  ∃b o us,v=.pointer (some ⟨b,o,none⟩)/\b<w.heap.size/\(∀s∈U,¬bq st.slot G H s b)/\w.rangeAt b o us/\cH w (aV M st.slot G H) st.slot G H cs us/\us.length=n:=by
 cases p with
 |w x=>simp[St.cells] at hc
 |bP vs=>simp[St.cells] at hc
 |u=>simp[St.cells] at hc
 |pb s g off=>
  simp only[St.cells] at hc;split at hc
  case h_2=>cases hc
  rename_i g' cs' hs;split at hc
  case isFalse=>cases hc
  rename_i hg;obtain⟨rfl,hU,hlen⟩:=hg;simp only[aA] at hc;subst hc;obtain⟨_,hp⟩:=hv;obtain⟨_,_,arr,hb,hl,hr⟩:=h.bx s g cs' hs;refine⟨(G s).b,off,(arr.drop off).take n,hp cs' hs,hb.lt,fun s' dP iy=> ?_,fun j u hj=> ?_,⟨by simp;omega,fun j x u h1 h2=> ?_⟩,by simp;omega⟩
  ·have:=h.dj s s' _ (.inl ⟨g,cs',hs,rfl⟩) iy;subst this;exact hU dP
  ·rw[GQ] at hj;split at hj
   ·rw[hb.cell];simpa using hj
   ·cases hj
  ·rw[GQ] at h1 h2;split at h1
   ·rename_i hj;rw[aj hj] at h2;exact hr _ x u h1 h2
   ·cases h1
 |pr s g i off=>
  simp only[St.cells] at hc;split at hc
  case h_2=>cases hc
  rename_i e k g' es hs;split at hc
  case isFalse=>cases hc
  rename_i hg;obtain⟨rfl,hU⟩:=hg;split at hc
  case h_2=>cases hc
  rename_i row bg;split at hc
  case isFalse=>cases hc
  rename_i hlen;simp only[aA] at hc;subst hc;obtain⟨_,hp⟩:=hv;obtain⟨b,n',c',hH,rfl⟩:=hp e k es hs;obtain⟨_,xs,ho,hk,hx⟩:=h.rw s e k g es hs
  have aT:(H s).ownBlock=some b:=by rw[hH];rfl
  have hi:=(bN.1 bg).1;have qP:=ho.1;have ei:=hk i row bg;have hle:(i+1)*k<=es.length*k:=uH k hi;rw[zQ,Nat.one_mul] at hle;refine⟨b,i*k+off,(xs.drop (i*k+off)).take n,rfl,(ho.lt b aT).2,fun s' dP iy=> ?_,fun j u hj=> ?_,⟨by simp;omega,fun j x u h1 h2=> ?_⟩,by simp;omega⟩
  ·have:=h.dj s s' _ (.inr (.inl ⟨e,k,g,es,hs,aT⟩)) iy;subst this;exact hU dP
  ·rw[GQ] at hj;split at hj
   ·have:=ho.cells aT _ _ hj;rwa[Addr.add_mid,eP] at this
   ·cases hj
  ·rw[GQ] at h1 h2;split at h1
   ·rename_i hj;rw[aj hj,Nat.add_assoc] at h2;exact(hx i row _ x u bg h1 h2).uY
   ·cases h1
 |pi cs' off=>
  simp only[St.cells] at hc;split at hc
  case isFalse=>cases hc
  rename_i hlen;simp only[aA] at hc;subst hc;obtain⟨b,o,rfl,hlt,hA,us,hl,hx⟩:=hv;refine⟨b,o+off,(us.drop off).take n,rfl,hlt,fun s' _ iy=>hA (.inr ⟨s',iy⟩),fun j u hj=> ?_,⟨by simp;omega,fun j x u h1 h2=> ?_⟩,by simp;omega⟩
  ·rw[GQ] at hj;split at hj
   ·rename_i zT;have db:=(bN.1 hj).1;have:=hx (off+j) (cs'[off+j]' ab) u ai hj;rw[Nat.add_assoc];exact this.2
   ·cases hj
  ·rw[GQ] at h1 h2;split at h1
   ·rename_i hj;rw[aj hj] at h2;exact(hx _ x u h1 h2).1.uY
   ·cases h1
theorem aes{S:Nat->Slot}{w w':World}{o:Nat}{us:List Value}(hw:dc U S G H w w')(hlt:b<w.heap.size)(hU:∀s∈U,¬bq S G H s b)(hr:w.rangeAt b o us):w'.rangeAt b o us:=fun j v hv=>by
 rw[Gp (hw b hlt hU)];exact hr j v hv
theorem apI(ho:o.op=.load t x)(hu:P.underlying t=some d)(hd:d.isRow=false)(hx:dO x y):
  jU P true o (fun st U=>match st.cells U 1 (st.arg y) with |some (c::_)=>some (.w (.c c))|_=>none):=by
 intro N F M w0 w st G H a U r h hr;dsimp only at hr;split at hr
 case h_2=>cases hr
 rename_i c cs hc;simp only[aA] at hr;subst hr
 cases hp:st.arg y with
 |none=>rw[hp] at hc;simp[St.cells] at hc
 |some p=>
  rw[hp] at hc;obtain⟨b,off,us,e1,hlt,hU,hr,hcs,hl⟩:=h.cells (h.arg hx hp) hc
  obtain⟨u,rfl⟩:∃u,us=[u]:=by
   match us,hl with
   |[u],_=>exact⟨u,rfl⟩
  refine⟨u,hcs.2 0 c u rfl rfl,fun w' hw=> ?_⟩;have hcell:=aes (hw rfl) hlt hU hr 0 u rfl;rw[qA] at hcell;unfold execOp
  have yu:(isAgg t).run P w'=.ok false w':=by
   unfold isAgg;rw[px,lG hu]
   cases d<;>first|rfl|cases hd
  simp[ho,e1,Instr.loadAt,Instr.sureAddr,loadVar,yu,hcell]
theorem apJ{n:Nat}(ho:o.op=.load t x)(hu:P.underlying t=some d)(hd:d.isRow=true)(hn:(P.info? t).map (·.size)=some n)(hx:dO x y):
  jU P true o (fun st U=>match st.cells U n (st.arg y) with |some cs=>some (.w (.agg cs))|_=>none):=by
 intro N F M w0 w st G H a U r h hr;dsimp only at hr;split at hr
 case h_2=>cases hr
 rename_i cs hc;simp only[aA] at hr;subst hr
 cases hp:st.arg y with
 |none=>rw[hp] at hc;simp[St.cells] at hc
 |some p=>
  rw[hp] at hc;obtain⟨b,off,us,e1,hlt,hU,hr,hcs,hl⟩:=h.cells (h.arg hx hp) hc;refine⟨.agg us.toArray,⟨us,rfl,hcs⟩,fun w' hw=> ?_⟩;unfold execOp;simp[ho,e1,run_loadAt_mid w' b off t us d (aes (hw rfl) hlt hU hr) hu hd (by rw[hl];exact hn)]
def AV.shift (k:Nat):AV->AV
 | .pb s g off=> .pb s g (off+k)
 | .pr s g i off=> .pr s g i (off+k)
 | .pi cs off=> .pi cs (off+k)
 |x=>x
theorem VR.shift{A:Nat->Prop}{S:Nat->Slot}{o k:Nat}(hp:∃c,st.cells [] 0 (some p)=some c)(hS:S=st.slot)(hv:VR w A S G H p (.pointer (some ⟨b,o,none⟩))):VR w A S G H (p.shift k) (.pointer (some ⟨b,o+k,none⟩)):=by
 subst hS;obtain⟨c,hp⟩:=hp
 cases p with
 |w x=>simp[St.cells] at hp
 |bP vs=>simp[St.cells] at hp
 |u=>simp[St.cells] at hp
 |pb s g off=>
  refine⟨hv.1,fun cs hs=> ?_⟩;have:=hv.2 cs hs;simp only[Value.pointer.injEq,aA,Addr.mk.injEq] at this;obtain⟨rfl,rfl,_⟩:=this;rfl
 |pr s g i off=>
  refine⟨hv.1,fun e k' es hs=> ?_⟩;obtain⟨b',n,c,h1,h2⟩:=hv.2 e k' es hs;simp only[Value.pointer.injEq,aA,Addr.mk.injEq] at h2;obtain⟨rfl,rfl,_⟩:=h2;exact⟨b,n,c,h1,by rw[Nat.add_assoc]⟩
 |pi cs off=>
  obtain⟨b',o',h2,h3⟩:=hv;simp only[Value.pointer.injEq,aA,Addr.mk.injEq] at h2;obtain⟨rfl,rfl,_⟩:=h2;exact⟨b,o',by rw[Nat.add_assoc],h3⟩
theorem apK{f:Nat}{fs:Array Field}{fd:Field}{z:Nat}(ho:o.op=.fieldAddr t x f)(hu:P.underlying t=some (.struct fs))(hf:fs[f]? =some fd)(hz:(P.info? fd.type).map (·.size)=some z)(fk:z≠0)(hx:dO x y):
  jU P false o (fun st _=>match st.cells [] 0 (st.arg y),st.arg y with |some _,some p=>some (p.shift fd.offset)|_,_=>none):=by
 intro N F M w0 w st G H a U r h hr;dsimp only at hr;split at hr
 case h_2=>cases hr
 rename_i cs p hc hp;simp only[aA] at hr;subst hr;rw[hp] at hc;obtain⟨b,off,us,e1,hlt,hU,hr,hcs,hl⟩:=h.cells (h.arg hx hp) hc;have hv:=h.arg hx hp;rw[e1] at hv;refine⟨_,VR.shift ⟨cs,hc⟩ rfl hv,fun w' hw=> ?_⟩
 have hsz:(sizeOf fd.type).run P w'=.ok z w':=by
  cases hi:P.info? fd.type with
  |none=>simp[hi] at hz
  |some i=>simp[hi] at hz;simp[sizeOf,typeInfo,hi,hz]
 unfold execOp;simp[ho,e1,Instr.fieldAt,lG hu,hf,Instr.sureAddr,fieldPlace,hsz,fk,Addr.add_mid]
end
def Ek (k:Nat):Option (List (List AC))->Option AV->Option Value->Option AV
 |some es,some (.w (.c (.sl _))),some (.int _ n)=>if 0<=n/\n<es.length/\(es.getD n.toNat []).length=k then some (.pi (es.getD n.toNat []) 0) else none
 |some es,some (.w (.c (.own s g))),some (.int _ n)=>if 0<=n/\n<es.length/\(es.getD n.toNat []).length=k then some (.pr s g n.toNat 0) else none
 |_,_,_=>none
def RF (n k:Nat):Option (List AC)->Option AV->Option Value->Option AV
 |some _,some p,some (.int _ i)=>if 0<=i/\i<n then some (p.shift (i.toNat*k)) else none
 |_,_,_=>none
def NM:Option Value->Option Nat
 |some (.int _ n)=>if 0<=n then some n.toNat else none
 |_=>none
section
variable {P:Program} {N:Nat} {F M:Nat->Prop} {w0:lj} {w:World} {st:St} {G:Nat->Gh} {H:Nat->Value} {a:Act}
variable {e t:TypeId} {k:Nat} {o:Oper} {q y:aQ} {x z:Operand}
theorem GR{z:Nat}(hz:(P.info? t).map (·.size)=some z)(w':World):(sizeOf t).run P w'=.ok z w':=by
 cases hi:P.info? t with
 |none=>simp[hi] at hz
 |some i=>simp[hi] at hz;simp[sizeOf,typeInfo,hi,hz]
theorem aet{mx:Bool}{x1 x2:Operand}{y1 y2:aQ}{ts:Array TypeId}(ho:o.op=.call { callee:=.builtin (if mx then .max else .min),args:=#[x1,x2],argTypes:=ts })(h1:dO x1 y1)(h2:dO x2 y2):
  jU P false o (fun st _=>match st.sc y1,st.sc y2 with |some u,some v=>(GO mx u v).map fun r=> .w (.c (.v r))|_,_=>none):=by
 intro N F M w0 w st G H a U r h hr;dsimp only at hr;split at hr
 case h_2=>cases hr
 rename_i u v hu hv;obtain⟨e1,s1⟩:=h.sc h1 hu;obtain⟨e2,s2⟩:=h.sc h2 hv;rw[bU] at hr;obtain⟨q,hq,rfl⟩:=hr;unfold GO at hq;split at hq
 case h_2=>cases hq
 rename_i k x k' y;split at hq
 case isFalse=>cases hq
 rename_i hk;subst hk;simp only[aA] at hq;subst hq;refine⟨_,IR.v _ rfl,fun w' _=> ?_⟩;unfold execOp;cases mx
 ·have:min x y=if y<x then y else x:=ab;simp[ho,resolve,e1,e2,invoke,Go.builtin,Builtin.min_,Builtin.min2,this]
 ·have:max x y=if x<y then y else x:=ab;simp[ho,resolve,e1,e2,invoke,Go.builtin,Builtin.max_,Builtin.max2,this]
theorem apL(ho:o.op=.indexAddr t x z)(hu:P.underlying t=some (.slice e))(hk:(P.info? e).map (·.size)=some k)(aX:0<k)(hx:dO x y)(hz:dO z q):
  jU P false o (fun st _=>Ek k (st.rows [] (st.arg y)) (st.arg y) (st.sc q)):=by
 intro N F M w0 w st G H a U r h hr;dsimp only at hr
 have run:∀(w':World) (ad:Addr) (n c:Nat) (kk:IntKind) (i:Int),0<=i->i<n->a.eval x=.slice (some ad) n c->a.eval z=.int kk i->(execOp a.eval o).run P w'=.ok (.value (.pointer (some (ad.add (i.toNat*k))))) w':=by
  intro w' ad n c kk i h0 h1 e1 e2;unfold execOp;simp[ho,e1,e2,Instr.indexAt,asIntOf,lG hu,GR hk,h0,h1]
 unfold Ek at hr;split at hr
 ·rename_i es es' kk n wZ hv hn;split at hr
  case isFalse=>cases hr
  rename_i hb;obtain⟨h0,h1,h2⟩:=hb;simp only[aA] at hr;subst hr;obtain⟨e2,_⟩:=h.sc hz hn;have h3:IR w (aV M st.slot G H) (.sl es') (a.eval x):=h.arg hx hv;rw[hv] at wZ;simp only[St.rows,aA] at wZ;subst wZ;generalize hq:a.eval x=qv at h3
  cases h3 with
  |sl k' _ ad c u ou hm gK hc hl=>
   have Ch:n.toNat<es'.length:=ab
   have bg:es'[n.toNat]? =some (es'.getD n.toNat []):=by rw[fC,cz Ch];rfl
   generalize es'.getD n.toNat []=row at bg h2;have ej:=gK _ _ bg;rw[h2] at ej;subst ej;obtain⟨b,off,rfl,hA,hcell⟩:=hl n.toNat row 0 bg ab;have hlt:=ez _ _ hcell;refine⟨_,⟨b,off+n.toNat*k,rfl,hlt,hA,(List.range row.length).map (fun j=>u n.toNat j),ai,fun j x' u' g1 g2=> ?_⟩,fun w' _=> ?_⟩
   ·have hj:=(bN.1 g1).1;simp[hj] at g2;subst g2;refine⟨hc _ _ j x' bg g1,?_⟩;obtain⟨b',o',KA,_,apM⟩:=hl n.toNat row j bg hj;simp only[aA,Addr.mk.injEq] at KA;obtain⟨rfl,rfl,_⟩:=KA;exact apM
   ·rw[run w' _ _ _ _ _ h0 h1 hq e2,Addr.add_mid,qA]
 ·rename_i es s g kk n wZ hv hn;split at hr
  case isFalse=>cases hr
  rename_i hb;obtain⟨h0,h1,h2⟩:=hb;simp only[aA] at hr;subst hr;obtain⟨e2,_⟩:=h.sc hz hn;have h3:CR w (aV M st.slot G H) st.slot G H (.own s g) (a.eval x):=h.arg hx hv;obtain⟨_,hg,hH⟩:=h3;rw[hv] at wZ;simp only[St.rows] at wZ;split at wZ
  case h_2=>cases wZ
  rename_i e' k' g' es' hs;split at wZ
  case isFalse=>cases wZ
  rename_i RG;obtain⟨rfl,_⟩:=RG;simp only[aA] at wZ;subst wZ;have El:=hH e' k' es' hs;obtain⟨_,xs,how,eJ,_⟩:=h.rw s e' k' g es' hs;obtain⟨b,cap,e3,_,_⟩:=how.form ab;have Ch:n.toNat<es'.length:=ab
  have bg:es'[n.toNat]? =some (es'.getD n.toNat []):=by rw[fC,cz Ch];rfl
  have ej:=eJ _ _ bg;rw[h2] at ej;subst ej;refine⟨_,⟨hg,fun e2 k2 eY iz=> ?_⟩,fun w' _=>run w' _ _ _ _ _ h0 h1 (by rw[El];exact e3) e2⟩;rw[hs] at iz;cases iz;exact⟨b,es'.length,cap,e3,by rw[Addr.add_mid,eP];rfl⟩
 ·cases hr
theorem apN{n:Nat}(ho:o.op=.indexAddr t x z)(hu:P.underlying t=some (.array n e))(hk:(P.info? e).map (·.size)=some k)(hx:dO x y)(hz:dO z q):
  jU P false o (fun st _=>RF n k (st.cells [] 0 (st.arg y)) (st.arg y) (st.sc q)):=by
 intro N F M w0 w st G H a U r h hr;dsimp only at hr;unfold RF at hr;split at hr
 case h_2=>cases hr
 rename_i cs p kk i hc hp hi;split at hr
 case isFalse=>cases hr
 rename_i hb;simp only[aA] at hr;subst hr;rw[hp] at hc;obtain⟨e2,_⟩:=h.sc hz hi;obtain⟨b,off,us,e1,hlt,hU,hr,hcs,hl⟩:=h.cells (h.arg hx hp) hc;have hv:=h.arg hx hp;rw[e1] at hv;refine⟨_,VR.shift ⟨cs,hc⟩ rfl hv,fun w' hw=> ?_⟩;unfold execOp;simp[ho,e1,e2,Instr.indexAt,asIntOf,lG hu,Instr.sureAddr,GR hk,hb.1,hb.2,Addr.add_mid]
theorem apO{i:Nat}(ho:o.op=.extract x i)(hx:dO x y):jU P false o (fun st _=>match st.arg y with |some (.bP vs)=>(vs[i]?).map .w|_=>none):=by
 intro N F M w0 w st G H a U r h hr;dsimp only at hr;split at hr
 case h_2=>cases hr
 rename_i vs hv;rw[bU] at hr;obtain⟨q,hq,rfl⟩:=hr;obtain⟨arr,e1,hl,hw⟩:=h.arg hx hv;have hi:=(bN.1 hq).1
 obtain⟨u,hu⟩:∃u,arr[i]? =some u:=⟨arr[i]' ab,ai⟩
 refine⟨u,hw i q u hq hu,fun w' _=> ?_⟩;unfold execOp;simp[ho,e1,Instr.extract,hu]
theorem apP(ho:o.op=.index t x z)(hu:P.underlying t=some .string)(hx:dO x y)(hz:dO z q):
  jU P false o (fun st _=>match st.sc y,st.sc q with |some (.string s),some (.int _ n)=>if h:0<=n/\n.toNat<s.size then some (.w (.c (.v (.int .u8 (s.get n.toNat h.2).toNat)))) else none|_,_=>none):=by
 intro N F M w0 w st G H a U r h hr;dsimp only at hr;split at hr
 case h_2=>cases hr
 rename_i s kk n hs hn;split at hr
 case isFalse=>cases hr
 rename_i hb;simp only[aA] at hr;subst hr;obtain⟨e1,_⟩:=h.sc hx hs;obtain⟨e2,_⟩:=h.sc hz hn;refine⟨_,IR.v _ rfl,fun w' _=> ?_⟩;unfold execOp;have h2:n<s.size:=ab;simp[ho,e1,e2,Instr.index,asIntOf,lG hu,hb.1,h2];rfl
theorem WX(w:World)(n c l h:Nat)(lo hi:Option Value)(oR:(lo=none/\l=0)\/∃k,lo=some (.int k l))(jz:(hi=none/\h=n)\/∃k,hi=some (.int k h))(h1:l<=h)(h2:h<=n)(h3:n<=c):
  (Instr.sliceBounds true n c lo hi none).run P w=.ok (l,h,c) w:=by
 have e1:∀(k:IntKind) (code:BoundsCode),(Instr.sliceBound (.int k h) c code).run P w=.ok h w:=fun k code=>by rw[run_sliceBound w k h c code ab ab];simp
 have e2:∀(k:IntKind) (code:BoundsCode),(Instr.sliceBound (.int k l) h code).run P w=.ok l w:=fun k code=>by rw[run_sliceBound w k l h code ab ab];simp
 rcases oR with⟨rfl,rfl⟩|⟨k,rfl⟩<;>rcases jz with⟨rfl,rfl⟩|⟨k',rfl⟩<;>simp[Instr.sliceBounds,e1,e2]
end
section
variable {P:Program} {N:Nat} {F M:Nat->Prop} {w0:lj} {w:World} {st:St} {G:Nat->Gh} {H:Nat->Value} {a:Act}
theorem apQ {A:Nat->Prop}{es:List (List AC)}{ad:Option Addr}{n c l h k:Nat}(h1:l<=h)(h2:h<=es.length)(hk:∀(i:Nat) (row:List AC),es[i]? =some row->row.length=k)(hr:IR w A (.sl es) (.slice ad n c)):
  IR w A (.sl ((es.take h).drop l)) (.slice (if c=l then ad else ad.map (·.add (l*k))) (h-l) (c-l)):=by
 cases hr with
 |sl k' _ _ _ u hn hm gK hc hl=>
  have hlen:((es.take h).drop l).length=h-l:=bz
  have qN:∀i row,((es.take h).drop l)[i]? =some row->es[l+i]? =some row/\i<h-l:=by
   intro i row hi;have:=(bN.1 hi).1;rw[oJ,wK] at hi;split at hi
   ·exact⟨hi,ab⟩
   ·cases hi
  rw[<-hlen];refine IR.sl k _ _ _ (fun i j=>u (l+i) j) ab ab (fun i row hi=>hk _ _ (qN i row hi).1) (fun i row j x hi hj=>hc _ row j x (qN i row hi).1 hj) (fun i row j hi hj=> ?_);obtain⟨hi',hlt⟩:=qN i row hi;have ej:=hk _ _ hi';have ow:=gK _ _ hi';have WY:k'=k:=ab;subst WY;obtain⟨b,o,rfl,hA,hcell⟩:=hl _ row j hi' hj;refine⟨b,o+l*k',?_,hA,?_⟩
  ·rw[af ab];simp[Addr.add_mid]
  ·rw[zQ] at hcell;rw[show o+l*k'+i*k'+j=o+(l*k'+i*k')+j by omega];exact hcell
def Em (st:St):Option aQ->Option Nat
 |none=>some 0
 |some y=>NM (st.sc y)
def xa (st:St)(n:Nat):Option aQ->Option Nat
 |none=>some n
 |some y=>NM (st.sc y)
def KF:Option Operand->Option aQ->Prop
 |none,none=>True
 |some x,some y=>dO x y
 |_,_=>False
theorem Rel.bound (h:Rel N F M w0 st G H a w){x:Operand}{y:aQ}(hx:dO x y){n:Nat}(hb:NM (st.sc y)=some n):∃k,a.eval x=.int k n:=by
 unfold NM at hb;split at hb
 ·rename_i k i hi;split at hb
  ·rename_i h0;simp only[aA] at hb;obtain⟨e,_⟩:=h.sc hx hi;exact⟨k,by rw[e];congr 1;omega⟩
  ·cases hb
 ·cases hb
theorem apR {o:Oper}{t e:TypeId}{x:Operand}{y:aQ}{lo hi:Option Operand}{qQ hi':Option aQ}{k:Nat}(ho:o.op=.slice t x lo hi none)(hu:P.underlying t=some (.slice e))(hk:(P.info? e).map (·.size)=some k)(hx:dO x y)(oR:KF lo qQ)(jz:KF hi hi'):
  jU P false o (fun st _=>match st.arg y with
   |some (.w (.c (.sl es)))=>match Em st qQ,xa st es.length hi' with
    |some l,some h=>if l<=h/\h<=es.length/\∀row∈es,row.length=k then some (.w (.c (.sl ((es.take h).drop l)))) else none
    |_,_=>none
   |_=>none):=by
 intro N F M w0 w st G H a U r h hr;dsimp only at hr;split at hr
 case h_2=>cases hr
 rename_i es hv;split at hr
 case h_2=>cases hr
 rename_i l hh cD yv;split at hr
 case isFalse=>cases hr
 rename_i hb;obtain⟨h1,h2,h3⟩:=hb;simp only[aA] at hr;subst hr;have RH:IR w (aV M st.slot G H) (.sl es) (a.eval x):=h.arg hx hv
 have gK:∀(i:Nat) (row:List AC),es[i]? =some row->row.length=k:=fun i row hi=>h3 row (eI hi)
 obtain⟨ad,c,e1,jV,_⟩:=h.rows (U:=[]) hx (es:=es) (by rw[hv];rfl);rw[e1] at RH;refine⟨_,apQ h1 h2 gK RH,fun w' _=> ?_⟩
 have WZ:((lo.map a.eval)=none/\l=0)\/∃k,lo.map a.eval=some (.int k l):=by
  cases lo with
  |none=>cases qQ with
   |none=>simp[Em] at cD;exact .inl ⟨rfl,cD.symm⟩
   |some=>exact oR.elim
  |some p=>cases qQ with
   |none=>exact oR.elim
   |some q=>
    obtain⟨k,e⟩:=h.bound oR cD;exact .inr ⟨k,by simp[e]⟩
 have KG:((hi.map a.eval)=none/\hh=es.length)\/∃k,hi.map a.eval=some (.int k hh):=by
  cases hi with
  |none=>cases hi' with
   |none=>simp[xa] at yv;exact .inl ⟨rfl,yv.symm⟩
   |some=>exact jz.elim
  |some p=>cases hi' with
   |none=>exact jz.elim
   |some q=>
    obtain⟨k,e⟩:=h.bound jz yv;exact .inr ⟨k,by simp[e]⟩
 unfold execOp;simp[ho,e1,Instr.sliceAt,Instr.slice,lG hu,WX w' es.length c l hh _ _ WZ KG h1 h2 jV,GR hk]
def AW.cells:AW->List AC
 | .c x=>[x]
 | .agg cs=>cs
def nL:List AC->List (Nat×Nat×List AC)->Option (List AC)
 |z,[]=>some z
 |z,(off,size,cs)::r=>if cs.length=size/\off+size<=z.length then nL (z.take off++cs++z.drop (off+size)) r else none
theorem aeu (off:Nat):∀(l:List Value) (i:Nat) (cs:Array Value),(l.zipIdx i).foldl (fun(cs:Array Value) (p:Value×Nat)=>cs.setIfInBounds (off+p.2) p.1) cs=Ec cs (off+i) l
 |[],i,cs=>rfl
 |v::l,i,cs=>by
  rw[List.zipIdx_cons,zP,Ec,aeu off l (i+1)];rfl
end
section
variable {P:Program} {N:Nat} {F M:Nat->Prop} {w0:lj} {w:World} {st:St} {G:Nat->Gh} {H:Nat->Value} {a:Act}
variable {A:Nat->Prop} {c:List AC} {pl:Nat->Option (Nat×Nat)} {t:TypeId} {u z:List Value} {v:Value} {x:AC}
theorem aev(l:List Value)(cs:Array Value)(o:Nat)(h:o+l.length<=cs.size):(Ec cs o l).toList=cs.toList.take o++l++cs.toList.drop (o+l.length):=by
 apply yf;intro j;rw[Array.getElem?_toList,apz l cs o h];have hz:cs.toList.length=cs.size:=ai;by_cases h1:j<o
 ·rw[af ab,List.append_assoc,mj (by rw[dN];omega),wK,aj h1];simp
 ·by_cases h2:j<o+l.length
  ·rw[aj ab,mj (by rw[List.length_append,dN];omega),jc (by rw[dN];omega),dN,Gv ab]
  ·rw[af ab,jc (by rw[List.length_append,dN];omega),oJ,List.length_append,dN,Gv ab,
    show o+l.length+(j-(o+l.length))=j by omega]
   simp
theorem cH.app{S:Nat->Slot}{c1 c2:List AC}{u1 u2:List Value}(h1:cH w A S G H c1 u1)(h2:cH w A S G H c2 u2):cH w A S G H (c1++c2) (u1++u2):=by
 refine⟨by rw[List.length_append,List.length_append,h1.1,h2.1],fun j x u e1 e2=> ?_⟩;by_cases hj:j<c1.length
 ·rw[mj hj] at e1;rw[mj (by rw[h1.1];exact hj)] at e2;exact h1.2 j x u e1 e2
 ·rw[jc ab] at e1;rw[jc (by rw[h1.1];omega),h1.1] at e2;exact h2.2 _ x u e1 e2
theorem cH.take{S:Nat->Slot}(h:cH w A S G H c u)(n:Nat):cH w A S G H (c.take n) (u.take n):=by
 refine⟨by rw[dN,dN,h.1],fun j x v e1 e2=> ?_⟩;rw[wK] at e1 e2;split at e1
 ·rename_i hj;rw[aj hj] at e2;exact h.2 j x v e1 e2
 ·cases e1
theorem cH.drop{S:Nat->Slot}(h:cH w A S G H c u)(n:Nat):cH w A S G H (c.drop n) (u.drop n):=by
 refine⟨by rw[ml,ml,h.1],fun j x v e1 e2=> ?_⟩;rw[oJ] at e1 e2;exact h.2 _ x v e1 e2
theorem WR.cells{S:Nat->Slot}{x:AW}(h:WR w A S G H x v):cH w A S G H x.cells v.cells.toList:=by
 cases x with
 |c x=>
  have ho:=CR.one h
  have hv:v.cells=#[v]:=by cases v<;>first|rfl|cases ho
  rw[hv];refine⟨rfl,fun j y u e1 e2=> ?_⟩
  cases j with
  |zero=>
   have KH:x=y:=eA e1;have Xa:v=u:=eA e2;rw[<-KH,<-Xa];exact h
  |succ j=>simp[AW.cells] at e1
 |agg cs=>
  obtain⟨arr,rfl,h⟩:=h;exact h
theorem Xb (place:Nat->Option (Nat×Nat)){A:Nat->Prop}{S:Nat->Slot}:∀(parts:List (Nat×Value)) (pa:List (Nat×Nat×List AC)) (cells:Array Value) (z r:List AC),cH w A S G H z cells.toList->parts.length=pa.length->
  (∀(i:Nat) (p:Nat×Value) (q:Nat×Nat×List AC),parts[i]? =some p->pa[i]? =some q->place p.1=some (q.1,q.2.1)/\cH w A S G H q.2.2 p.2.cells.toList)->nL z pa=some r->∃out,Instr.fill place cells parts=some out/\cH w A S G H r out.toList
 |[],[],cells,z,r,hz,_,_,hf=>by
  simp only[nL,aA] at hf;subst hf;exact⟨cells,rfl,hz⟩
 |(i,v)::parts,(off,size,cs)::pa,cells,z,r,hz,hl,hp,hf=>by
  obtain⟨h1,h2⟩:=hp 0 _ _ rfl rfl;dsimp only at h1 h2;unfold nL at hf;split at hf
  case isFalse=>cases hf
  rename_i hc
  have e1:v.cells.size=size:=by have:=h2.1;simp at this;omega
  have e2:z.length=cells.size:=by have:=hz.1;simp at this;omega
  have jW:(v.cells.zipIdx.foldl (fun cs (c,j)=>cs.setIfInBounds (off+j) c) cells).toList=cells.toList.take off++v.cells.toList++cells.toList.drop (off+size):=by
   have:=aeu off v.cells.toList 0 cells;rw[<-Array.foldl_toList,Array.toList_zipIdx,this,qA,aev _ _ _ bz];simp[e1]
  have hn:cH w A S G H (z.take off++cs++z.drop (off+size)) (v.cells.zipIdx.foldl (fun cs (c,j)=>cs.setIfInBounds (off+j) c) cells).toList:=by
   rw[jW];exact((hz.take off).app h2).app (hz.drop _)
  obtain⟨out,e3,e4⟩:=Xb place parts pa _ _ r hn (by simpa using hl) (fun j p q g1 g2=>hp (j+1) p q g1 g2) hf;refine⟨out,?_,e4⟩;simp only[Instr.fill,h1,e1,ne_eq,not_true_eq_false,false_or];rw[af bz];exact e3
 |[],_::_,_,_,_,_,hl,_,_=>by simp at hl
 |_::_,[],_,_,_,_,hl,_,_=>by simp at hl
def Xc:Value->Option AC
 | .slice none 0 0=>some (.sl [])
 |v=>if yq v then some (.v v) else none
theorem apS{S:Nat->Slot}(h:Xc v=some x):CR w A S G H x v:=by
 unfold Xc at h;split at h
 ·simp only[aA] at h;subst h;exact IR.sl 0 [] none 0 (fun _ _=>undef) ax ai (by intro i row h;simp at h) (by intro i row j x h;simp at h) (by intro i row j h;simp at h)
 ·split at h
  ·rename_i hs;simp only[aA] at h;subst h;exact IR.v _ hs
  ·cases h
def Xd:Value->Option AC
 | .slice none 0 0=>some (.v (.slice none 0 0))
 |_=>none
theorem apT{S:Nat->Slot}(h:Xd v=some x):CR w A S G H x v:=by
 unfold Xd at h;split at h
 ·simp only[aA] at h;subst h;exact IR.v _ rfl
 ·cases h
def Ci (ns:List Nat):Nat->List Value->Option (List AC)
 |_,[]=>some []
 |i,v::l=>match(if ns.contains i then Xd v else Xc v),Ci ns (i+1) l with
  |some x,some r=>some (x::r)
  |_,_=>none
abbrev En (l:List Value):Option (List AC):=Ci [] 0 l
theorem RI {A:Nat->Prop}{S:Nat->Slot}{ns:List Nat}:∀{l:List Value} {i:Nat} {r:List AC},Ci ns i l=some r->cH w A S G H r l
 |[],i,r,h=>by
  simp only[Ci,aA] at h;subst h;exact⟨rfl,fun j x u e=>by simp at e⟩
 |v::l,i,r,h=>by
  unfold Ci at h;split at h
  case h_2=>cases h
  rename_i x r' h1 h2;simp only[aA] at h;subst h
  have hx:CR w A S G H x v:=by
   split at h1
   ·exact apT h1
   ·exact apS h1
  exact cH.app (c1:=[x]) (u1:=[v]) ⟨rfl,fun j y u e1 e2=>by
   cases j with
   |zero=>simp at e1 e2;subst e1;subst e2;exact hx
   |succ j=>simp at e1⟩ (RI h2)
theorem Xe{S:Nat->Slot}{l:List Value}{r:List AC}(h:En l=some r):cH w A S G H r l:=RI h
def placesOf (P:Program)(t:TypeId):Option (Nat->Option (Nat×Nat)):=match P.underlying t with
 |some (.array _ e)=>(P.info? e).map fun ie=>fun i=>some (i*ie.size,ie.size)
 |some (.struct fields)=>(fields.toList.mapM (fun f=>(P.info? f.type).map fun i=>(f.offset,i.size))).map fun l=>fun i=>l.toArray[i]?
 |_=>none
def zeroOf (P:Program)(t:TypeId):Option (List Value):=(P.info? t).bind fun i=>i.zero.map fun z=>z.cells.toList
theorem apU{parts:List (Nat×Value)}{out:Array Value}(h1:placesOf P t=some pl)(h2:zeroOf P t=some z)(h3:Instr.fill pl z.toArray parts=some out):P.built t parts=some out:=by
 unfold placesOf at h1;unfold zeroOf at h2;unfold Program.built
 cases hi:P.info? t with
 |none=>simp[hi] at h2
 |some it=>
  simp only[hi,Nn,bU] at h2;obtain⟨zv,hz,rfl⟩:=h2;split at h1
  ·rename_i n e hu;rw[bU] at h1;obtain⟨ie,GU,rfl⟩:=h1;simp only[hu,hz,GU];simpa using h3
  ·rename_i fields hu;rw[bU] at h1;obtain⟨l,hl,rfl⟩:=h1;simp only[hu,hz,hl];simpa using h3
  ·cases h1
def qR (st:St):List (Nat×Nat×aQ)->Option (List (Nat×Nat×List AC))
 |[]=>some []
 |(off,size,y)::r=>match st.arg y,qR st r with
  |some (.w x),some q=>some ((off,size,x.cells)::q)
  |_,_=>none
def GV (pl:Nat->Option (Nat×Nat)):List (Nat×Operand)->List (Nat×Nat×aQ)->Prop
 |[],[]=>True
 |(i,x)::r,(off,size,y)::q=>pl i=some (off,size)/\dO x y/\GV pl r q
 |_,_=>False
theorem Rel.parts(h:Rel N F M w0 st G H a w)(pl:Nat->Option (Nat×Nat)):∀{ps:List (Nat×Operand)} {qs:List (Nat×Nat×aQ)} {r:List (Nat×Nat×List AC)},GV pl ps qs->qR st qs=some r->
  ps.length=r.length/\∀(i:Nat) (p:Nat×Value) (q:Nat×Nat×List AC),(ps.map fun(i,x)=>(i,a.eval x))[i]? =some p->r[i]? =some q->pl p.1=some (q.1,q.2.1)/\cH w (aV M st.slot G H) st.slot G H q.2.2 p.2.cells.toList
 |[],[],r,_,hr=>by
  simp only[qR,aA] at hr;subst hr;exact⟨rfl,fun i p q e=>by simp at e⟩
 |(i,x)::ps,(off,size,y)::qs,r,hp,hr=>by
  obtain⟨h1,h2,h3⟩:=hp;unfold qR at hr;split at hr
  case h_2=>cases hr
  rename_i xw q hv hq;simp only[aA] at hr;subst hr;obtain⟨e1,e2⟩:=Rel.parts h pl h3 hq;refine⟨by simp[e1],fun j p q' g1 g2=> ?_⟩
  cases j with
  |zero=>
   simp at g1 g2;subst g1;subst g2;exact⟨h1,WR.cells (h.arg h2 hv)⟩
  |succ j=>exact e2 j p q' (by simpa using g1) (by simpa using g2)
 |[],_::_,_,hp,_=>hp.elim
 |_::_,[],_,hp,_=>hp.elim
theorem apV{o:Oper}{ps:Array (Nat×Operand)}{qs:List (Nat×Nat×aQ)}{za:List AC}{ns:List Nat}(ho:o.op=.build t ps)(h1:placesOf P t=some pl)(h2:zeroOf P t=some z)(h3:Ci ns 0 z=some za)(hp:GV pl ps.toList qs):
  jU P false o (fun st _=>match qR st qs with |some r=>(nL za r).map fun cs=> .w (.agg cs)|none=>none):=by
 intro N F M w0 w st G H a U r h hr;dsimp only at hr;split at hr
 case h_2=>cases hr
 rename_i r' Eo;rw[bU] at hr;obtain⟨cs,hf,rfl⟩:=hr;obtain⟨e1,e2⟩:=h.parts pl hp Eo;obtain⟨out,e3,e4⟩:=Xb (w:=w) (H:=H) (A:=aV M st.slot G H) (S:=st.slot) pl _ r' z.toArray za cs (by simpa using RI h3) (by simpa using e1) e2 hf;have hb:=apU h1 h2 e3;refine⟨.agg out,⟨out.toList,ai,e4⟩,fun w' _=> ?_⟩;unfold execOp;simp only[ho,px];rw[run_build w' t (ps.map fun(i,x)=>(i,a.eval x)) out (by simpa using hb)];rfl
end
abbrev GX:=St->(AV->St->Prop)->Prop
def oT (P:Program)(U:Option (List Nat))(o:Oper)(xc:GX):Prop:=
 ∀(N:Nat) (F M:Nat->Prop) (w0:lj) (w:World) (st:St) (G:Nat->Gh) (H:Nat->Value) (a:Act) (X:AV->St->Prop),Rel N F M w0 st G H a w->xc st X->
  ∀(K:Act->World->Prop) (Q:Exit->Act->World->Prop),(∀x st' G' H' v w',X x st'->Rel N F M w0 st' G' H' a w'->Ee U st.slot G H w st'.slot G' H' w'->VR w' (aV M st'.slot G' H') st'.slot G' H' x v->K (a.put o.dst v) w')->Oper.wp P o a w K Q
section
variable {P:Program} {N:Nat} {F M:Nat->Prop} {w0:lj} {w:World} {st:St} {G:Nat->Gh} {H:Nat->Value} {a:Act}
variable {A:Nat->Prop} {U:Option (List Nat)} {o:Oper}
theorem aew{mem:Bool}{ev:St->List Nat->Option AV}(h:jU P mem o ev):oT P U o (fun st X=>∃x,ev st []=some x/\X x st):=by
 intro N F M w0 w st G H a X hR hs K Q hK;obtain⟨x,hx,hX⟩:=hs;obtain⟨v,hv,hrun⟩:=h N F M w0 w st G H a [] x hR hx;unfold Oper.wp;rw[hrun w (fun _ b _ _=>rfl)];exact hK x st G H v w hX hR (NK ax fun _ _=>rfl) hv
theorem apW(w:World)(b o:Nat)(ty:TypeId)(v:Value)(ht:w.there b o v.cells.size)(hi:(P.info? ty).map (·.size)=some v.cells.size)(h1:v.cells.toList.all Value.oneCell'=true):
  (storeVar ty ⟨b,o,none⟩ v).run P w=.ok () (w.setCells b o v.cells.toList):=by
 have:=run_storeCells_cells (P:=P) b o v.cells.toList 0 w (fun j hj=>by simpa using(ht j (by simpa using hj)).1) (fun j hj=>by simpa using(ht j (by simpa using hj)).2)
  (fun u hv=>fE.1 h1 u hv)
 simp only[qA] at this;simp[storeVar,GR hi,this]
def inl:AC->Bool
 | .v _=>true
 | .sl _=>true
 | .fV _ _=>true
 |_=>false
def St.store (st:St)(xs:List AC):Option AV->Option St
 |some (.pb s g off)=>match aJ st.S s with
  |some (.box g' cs)=>if g=g'/\off+xs.length<=cs.length then some (st.cr s (.box g (cs.take off++xs++cs.drop (off+xs.length)))) else none
  |_=>none
 |some (.pr s g i off)=>match aJ st.S s with
  |some (.row e k g' es)=>if g=g'/\xs.all inl=true then match es[i]? with
    |some row=>if off+xs.length<=row.length then some (st.cr s (.row e k g (es.set i (row.take off++xs++row.drop (off+xs.length))))) else none
    |none=>none
   else none
  |_=>none
 |_=>none
theorem RJ{s:Nat}{x:Slot}(h:aJ st.S s=some x):st.slot s=x/\(aJ st.S s).isSome=true:=by unfold St.slot;rw[h];exact⟨rfl,rfl⟩
theorem cH.all{S:Nat->Slot}{cs:List AC}{us:List Value}(h:cH w A S G H cs us):us.all Value.oneCell'=true:=by
 rw[fE];intro u hu;obtain⟨j,hj⟩:=wJ hu;have hl:=(bN.1 hj).1;exact CR.one (h.2 j (cs[j]'(by rw[<-h.1];exact hl)) u ai hj)
theorem CR.ir{S:Nat->Slot}{x:AC}{u:Value}(h:CR w A S G H x u)(hi:inl x=true):IR w A x u:=by
 cases x with
 |own s g=>cases hi
 |cK s g=>cases hi
 |part s g i=>cases hi
 |cls f cn=>cases hi
 |v x=>exact h
 |sl es=>exact h
 |fV f cn=>exact h
def RL (xs:List Value)(o:Nat):List Value->List Value
 |[]=>xs
 |v::r=>RL (xs.set o v) (o+1) r
theorem apX(l:List Value):∀(xs:List Value) (o:Nat),o+l.length<=xs.length->∀j,(RL xs o l)[j]? =if o<=j/\j<o+l.length then l[j-o]? else xs[j]? :=by
 induction l with
 |nil=>intro xs o _ j;rw[af (by simp only[List.length_nil];omega)];rfl
 |cons v l ih=>
  intro xs o ho j;simp only[List.length_cons] at ho⊢;rw[RL,ih _ _ (by rw[List.length_set];omega)];by_cases h1:o+1<=j/\j<o+1+l.length
  ·rw[aj h1,aj ab,show j-o=(j-(o+1))+1 by omega,Gm]
  ·rw[af h1];by_cases h2:j=o
   ·subst h2;rw[aj ab,Nat.sub_self,ye,BL ab]
   ·rw[af ab,uI (Ne.symm h2)]
theorem aex {e k g n cap:Nat}:∀(l:List Value) {w:World} {xs:List Value} (o:Nat),w.ownsRow 0 e k (.slice (some ⟨g,0,none⟩) n cap) n xs->
  (w.setCells g o l).ownsRow 0 e k (.slice (some ⟨g,0,none⟩) n cap) n (RL xs o l)/\w.grownBy (w.setCells g o l) (some g)
 |[],w,xs,o,h=>⟨h,⟨rfl,rfl,rfl,cP _,fun _ _ _=>rfl⟩⟩
 |v::l,w,xs,o,h=>by
  obtain⟨h1,h2⟩:=h.stored o v;obtain⟨h3,h4⟩:=aex l (o+1) h1;exact⟨h3,h2.trans h4⟩
def NN:Option AV->Option Nat
 |some (.pb s _ _)=>some s
 |some (.pr s _ _ _)=>some s
 |_=>none
theorem aey{t:TypeId}{x z:Operand}{y q:aQ}{n:Nat}(ho:o.op=.store t x z)(hn:(P.info? t).map (·.size)=some n)(hx:dO x y)(hz:dO z q):
  oT P U o (fun st X=>∃xw st',st.arg q=some (.w xw)/\xw.cells.length=n/\st.store xw.cells (st.arg y)=some st'/\(∀s,NN (st.arg y)=some s->yt U s)/\X .u st'):=by
 intro N F M w0 w st G H a X hR hs K Q hK;obtain⟨xw,st',e1,e2,e3,dZ,hX⟩:=hs;have hw:=WR.cells (hR.arg hz e1);generalize aI:a.eval z=v at hw
 have hsz:v.cells.size=n:=by have:=hw.1;simp at this;omega
 have fin:∀b off,a.eval x=.pointer (some ⟨b,off,none⟩)->w.there b off v.cells.size->(∃G' H',Rel N F M w0 st' G' H' a (w.setCells b off v.cells.toList)/\Ee U st.slot G H w st'.slot G' H' (w.setCells b off v.cells.toList))->Oper.wp P o a w K Q:=by
  intro b off ep Xf ⟨G',H',bQ,hst⟩;unfold Oper.wp execOp;simp only[ho,aI,ep,Instr.storeAt,Instr.sureAddr,px,tD,rW,apW w b off t v Xf (by rw[hsz];exact hn) (cH.all hw)];exact hK .u st' G' H' _ _ hX bQ hst trivial
 cases hp:st.arg y with
 |none=>rw[hp] at e3;simp[St.store] at e3
 |some p=>
  rw[hp] at e3 dZ;have hv:=hR.arg hx hp
  cases p with
  |w x=>simp[St.store] at e3
  |bP vs=>simp[St.store] at e3
  |u=>simp[St.store] at e3
  |pi cs off=>simp[St.store] at e3
  |pb s g off=>
   simp only[St.store] at e3;split at e3
   case h_2=>cases e3
   rename_i g' cs hs;split at e3
   case isFalse=>cases e3
   rename_i hc;obtain⟨rfl,hlen⟩:=hc;simp only[aA] at e3;subst e3;obtain⟨eC,iz⟩:=RJ hs;obtain⟨_,Cj⟩:=hv;obtain⟨_,_,arr,hb,hcs⟩:=hR.bx s g cs eC;have xd:arr.length=cs.length:=hcs.1;refine fin (G s).b off (Cj cs eC) (apy hb bz) ⟨G,H,?_⟩;obtain⟨f1,f2,f3⟩:=aep v.cells.toList off hb
   have NP:∀b,b<w.heap.size->¬bq st.slot G H s b->(w.setCells (G s).b off v.cells.toList).heap[b]? =w.heap[b]? :=(fun b hlt hl=>f2.block b hlt (fun e=>hl (by simp at e;subst e;exact .inl ⟨g,cs,eC,rfl⟩)))
   have NQ:∀b,bq (st.cr s (.box g (cs.take off++xw.cells++cs.drop (off+xw.cells.length)))).slot G H s b->bq st.slot G H s b\/w.heap.size<=b:=fun b hl=>by
    rcases hl with⟨g2,pG,h1,h2⟩|⟨e,k,g2,es,h1,h2⟩|⟨g2,K2,h1,h2⟩
    ·exact .inl (.inl ⟨g,cs,eC,h2⟩)
    ·rw[St.mX,aj ⟨rfl,iz⟩] at h1;cases h1
    ·rw[St.mX,aj ⟨rfl,iz⟩] at h1;cases h1
   refine⟨?_,RE s _ (fun _ _=>rfl) (fun _ _=>rfl) f2.size NP NQ (.inl (dZ s rfl))⟩
   refine hR.RD s _ iz (fun _ _=>rfl) (fun _ _=>rfl) f2.os f2.tape f2.output f2.size NP NQ (by rw[eC];exact cP _)
    (fun e k g es h=>by cases h) (fun g2 pG h _=>by cases h;exact⟨⟨cs,eC⟩,rfl⟩) (fun g2 K2 h=>by cases h) (fun m g2 pG h=> ?_) (fun m e k g es h=>by cases h) (fun m g2 K2 h=>by cases h)
   ·cases h;refine⟨_,f1,?_⟩
    have jW:(Ec arr.toArray off v.cells.toList).toList=arr.take off++v.cells.toList++arr.drop (off+xw.cells.length):=by
     rw[aev _ _ _ bz];simp[hsz,e2]
    have:=((cH.mv m (hcs.take off)).app (cH.mv m hw)).app (cH.mv m (hcs.drop (off+xw.cells.length)));rw[<-jW] at this;simpa using this
  |pr s g i off=>
   simp only[St.store] at e3;split at e3
   case h_2=>cases e3
   rename_i e k g' es hs;split at e3
   case isFalse=>cases e3
   rename_i hc;obtain⟨rfl,apY⟩:=hc;split at e3
   case h_2=>cases e3
   rename_i row bg;split at e3
   case isFalse=>cases e3
   rename_i hlen;simp only[aA] at e3;subst e3;obtain⟨eC,iz⟩:=RJ hs;obtain⟨_,Cj⟩:=hv;obtain⟨b,n1,c1,hH,ep⟩:=Cj e k es eC;obtain⟨hnF,xs,how,eJ,KI⟩:=hR.rw s e k g es eC
   have aT:(H s).ownBlock=some b:=by rw[hH];rfl
   have hi:=(bN.1 bg).1;have ei:=eJ i row bg;have qP:=how.1;have hle:(i+1)*k<=es.length*k:=uH k hi;rw[zQ,Nat.one_mul] at hle;obtain⟨b',cap,e4,_,_⟩:=how.form ab
   have bt:b'=b:=by rw[e4] at aT;simpa [Value.ownBlock] using aT
   subst bt;have RM:=how;rw[e4] at RM
   have Xf:w.there b' (i*k+off) v.cells.size:=fun j hj=>by
    refine⟨?_,RM.frozenAt _⟩;rw[RM.cellAt _ ab];simp;omega
   refine fin b' (i*k+off) ep Xf ⟨G,H,?_⟩;obtain⟨f1,f2⟩:=aex v.cells.toList (i*k+off) RM;rw[<-e4] at f1;have uZ:v.cells.toList.length=xw.cells.length:=bz
   have NP:∀b,b<w.heap.size->¬bq st.slot G H s b->(w.setCells b' (i*k+off) v.cells.toList).heap[b]? =w.heap[b]? :=(fun b hlt hl=>f2.block b hlt (fun e'=>hl (by simp at e';subst e';exact .inr (.inl ⟨e,k,g,es,eC,aT⟩))))
   have NQ:∀b,bq (st.cr s (.row e k g (es.set i (row.take off++xw.cells++row.drop (off+xw.cells.length))))).slot G H s b->bq st.slot G H s b\/w.heap.size<=b:=fun b hl=>by
    rcases hl with⟨g2,pG,h1,h2⟩|⟨e2,k2,g2,eY,h1,h2⟩|⟨g2,K2,h1,h2⟩
    ·rw[St.mX,aj ⟨rfl,iz⟩] at h1;cases h1
    ·exact .inl (.inr (.inl ⟨e,k,g,es,eC,h2⟩))
    ·rw[St.mX,aj ⟨rfl,iz⟩] at h1;cases h1
   refine⟨?_,RE s _ (fun _ _=>rfl) (fun _ _=>rfl) f2.size NP NQ (.inl (dZ s rfl))⟩
   refine hR.RD s _ iz (fun _ _=>rfl) (fun _ _=>rfl) f2.os f2.tape f2.output f2.size NP NQ (by rw[eC];exact cP _)
    (fun e2 k2 g2 eY h _=>by cases h;exact⟨⟨es,eC⟩,rfl⟩) (fun g2 pG h=>by cases h) (fun g2 K2 h=>by cases h) (fun m g2 pG h=>by cases h) (fun m e2 k2 g2 eY h=> ?_) (fun m g2 K2 h=>by cases h)
   ·cases h;have apZ:(row.take off++xw.cells++row.drop (off+xw.cells.length)).length=k:=bz;refine⟨_,by rw[List.length_set];exact f1,fun i' row' hi'=> ?_,fun i' row' j x' u hi' hj hu=> ?_⟩
    ·rw[List.getElem?_set] at hi';split at hi'
     ·simp only[aA] at hi';rw[<-hi'];exact apZ
     ·exact eJ i' row' hi'
    ·rw[apX _ _ _ ab] at hu;rw[List.getElem?_set] at hi';split at hi'
     ·rename_i Af;subst Af;simp only[aA] at hi';subst hi';by_cases h1:j<off
      ·rw[af ab] at hu;rw[List.append_assoc,mj bz,wK,aj h1] at hj;exact IR.mv m (KI i row j x' u bg hj hu)
      ·by_cases h2:j<off+xw.cells.length
       ·rw[aj ab,show i*k+j-(i*k+off)=j-off by omega] at hu;rw[mj bz,jc bz,dN,Gv ab] at hj;have dZ:inl x'=true:=fE.1 apY x' (eI hj);exact IR.mv m ((hw.2 _ x' u hj hu).ir dZ)
       ·rw[af ab] at hu;rw[jc bz,oJ] at hj;simp only[List.length_append,dN] at hj;rw[Gv ab,show off+xw.cells.length+(j-(off+xw.cells.length))=j by omega] at hj;exact IR.mv m (KI i row j x' u bg hj hu)
     ·rename_i Af
      have iq:j<k:=by
       have:=(bN.1 hj).1;rw[eJ i' row' hi'] at this;exact this
      have NJ:¬(i*k+off<=i'*k+j/\i'*k+j<i*k+off+v.cells.toList.length):=by
       rcases BS i i' with hlt|tJ
       ·have:=uH k hlt;rw[Nat.succ_mul] at this;omega
       ·have hlt:i'<i:=ab;have:=uH k hlt;rw[Nat.succ_mul] at this;omega
      rw[af NJ] at hu;exact IR.mv m (KI i' row' j x' u hi' hj hu)
end
section
variable {P:Program} {N:Nat} {F M:Nat->Prop} {w0:lj} {w:World} {st:St} {G:Nat->Gh} {H:Nat->Value} {a:Act}
variable {A:Nat->Prop} {U:Option (List Nat)} {b i k:Nat} {cs za:List AC} {o:Oper} {t:TypeId} {us z:List Value}
theorem alloc_old(w:World)(o:Obj)(h:b<w.heap.size):(w.alloc o).heap[b]? =w.heap[b]? :=Kk w o b h
theorem Rel.aez(h:Rel N F M w0 st G H a w)(s:Nat)(hs:(aJ st.S s).isSome=true){arr:List Value}(t:TypeId)(hc:cH w (aV M st.slot G H) st.slot G H cs arr):
  Rel N F M w0 (st.cr s (.box ((st.slot s).gen+1) cs)) (fun i=>if i=s then gh w.heap.size else G i) H a (w.alloc (.cells arr.toArray t))/\
   ∀U,Ee U st.slot G H w (st.cr s (.box ((st.slot s).gen+1) cs)).slot (fun i=>if i=s then gh w.heap.size else G i) H (w.alloc (.cells arr.toArray t)):=by
 have kI:∀b,bq (st.cr s (.box ((st.slot s).gen+1) cs)).slot (fun i=>if i=s then gh w.heap.size else G i) H s b->bq st.slot G H s b\/w.heap.size<=b:=fun b hl=>by
  rcases hl with⟨g,c,h1,h2⟩|⟨e,k,g,es,h1,h2⟩|⟨g,K,h1,h2⟩
  ·simp only[nE,gh] at h2;exact .inr ab
  ·rw[St.mX,aj ⟨rfl,hs⟩] at h1;cases h1
  ·rw[St.mX,aj ⟨rfl,hs⟩] at h1;cases h1
 refine⟨?_,fun U=>RE s _ (fun i hi=>by simp[hi]) (fun _ _=>rfl) ai (fun b hlt _=>alloc_old w _ hlt) kI (.inr fun b hlt=>alloc_old w _ hlt)⟩;refine h.RD s _ hs (fun i hi=>by simp[hi]) (fun _ _=>rfl) rfl rfl rfl ai (fun b hlt _=>alloc_old w _ hlt) kI (by simp[Slot.gen]) (fun e k g es h=>by cases h) (fun g c h hg=>by cases h;omega) (fun g K h=>by cases h) (fun m g c h=> ?_) (fun m e k g es h=>by cases h) (fun m g K h=>by cases h)
 ·cases h;simp only[nE,gh];exact⟨arr,ay.new w _ _,cH.mv m hc⟩
theorem aqa{z:Operand}{q:aQ}{s:Nat}(ho:o.op=.box t z)(hz:dO z q):
  oT P U o (fun st X=>∃xw,st.arg q=some (.w xw)/\(aJ st.S s).isSome=true/\X (.pb s ((st.slot s).gen+1) 0) (st.cr s (.box ((st.slot s).gen+1) xw.cells))):=by
 intro N F M w0 w st G H a X hR hs K Q hK;obtain⟨xw,e1,e2,hX⟩:=hs;have hw:=WR.cells (hR.arg hz e1);obtain⟨bQ,hst⟩:=hR.aez s e2 t hw;have hx:=hK _ _ _ _ (.pointer (some ⟨w.heap.size,0,none⟩)) _ hX bQ (hst U) ⟨by rw[St.mX,aj ⟨rfl,e2⟩];exact cP _,fun cs hc=>by simp[gh]⟩;unfold Oper.wp execOp;simp only[ho,Instr.box,newVar,newRow,px,run_newObj,rW,tD];exact hx
theorem aqb{s:Nat}{ns:List Nat}(ho:o.op=.alloc t)(h2:zeroOf P t=some z)(h3:Ci ns 0 z=some za):
  oT P U o (fun st X=>(aJ st.S s).isSome=true/\X (.pb s ((st.slot s).gen+1) 0) (st.cr s (.box ((st.slot s).gen+1) za))):=by
 intro N F M w0 w st G H a X hR hs K Q hK;obtain⟨e2,hX⟩:=hs;obtain⟨bQ,hst⟩:=hR.aez s e2 t (RI h3);have hx:=hK _ _ _ _ (.pointer (some ⟨w.heap.size,0,none⟩)) _ hX bQ (hst U) ⟨by rw[St.mX,aj ⟨rfl,e2⟩];exact cP _,fun cs hc=>by simp[gh]⟩;unfold zeroOf at h2
 cases hi:P.info? t with
 |none=>simp[hi] at h2
 |some it=>
  simp only[hi,Nn,bU] at h2;obtain⟨zv,hz,rfl⟩:=h2;unfold Oper.wp execOp;simp only[Array.toArray_toList] at hx;simp[ho,Instr.alloc,zeroValue,typeInfo,hi,hz,newVar,newRow];exact hx
def rowsOf (k n:Nat)(cs:List AC):List (List AC):=(List.range n).map fun i=>(cs.drop (i*k)).take k
theorem aeA{n:Nat}{row:List AC}(h:(rowsOf k n cs)[i]? =some row):i<n/\row=(cs.drop (i*k)).take k:=by
 unfold rowsOf at h;rw[fD,bU] at h;obtain⟨j,hj,rfl⟩:=h;have hlt:=(bN.1 hj).1;simp at hlt;rw[Gt hlt] at hj;simp only[aA] at hj;subst hj;exact⟨hlt,rfl⟩
theorem Xg{n j:Nat}(hi:i<n)(hj:j<k):i*k+j<n*k:=by
 have:=uH k hi;rw[Nat.succ_mul] at this;omega
theorem RN{S:Nat->Slot}{n:Nat}(hl:cs.length=n*k)(hc:cH w A S G H cs us)(hi:cs.all inl=true):qJ w A k (rowsOf k n cs) us:=by
 refine⟨fun i row h=> ?_,fun i row j x u h1 h2 h3=> ?_⟩
 ·obtain⟨hlt,rfl⟩:=aeA h;have:=uH k hlt;rw[Nat.succ_mul] at this;simp;omega
 ·obtain⟨hlt,rfl⟩:=aeA h1;rw[GQ] at h2;split at h2
  case isFalse=>cases h2
  exact(hc.2 _ x u h2 h3).ir (fE.1 hi x (eI h2))
theorem NR{n c:Nat}{es:List (List AC)}(hn:es.length=n)(hr:qJ w A k es us)(hl:us.length=n*k)(hA:¬A b)(hc:n<=c)(hm:n<=9223372036854775807)(hcell:∀j u,us[j]? =some u->w.cell? ⟨b,j,none⟩=some u):
  IR w A (.sl es) (.slice (some ⟨b,0,none⟩) n c):=by
 subst hn;refine IR.sl k es _ c (fun i j=>us.getD (i*k+j) undef) hc hm hr.1 (fun i row j x h1 h2=> ?_) (fun i row j h1 h2=> ?_)
 ·have hi:=(bN.1 h1).1;have hj:=(bN.1 h2).1;rw[hr.1 i row h1] at hj;have hb:=Xg hi hj
  have hu:us[i*k+j]? =some (us.getD (i*k+j) undef):=by rw[fC,cz ab];rfl
  exact hr.2 i row j x _ h1 h2 hu
 ·have hi:=(bN.1 h1).1;rw[hr.1 i row h1] at h2;have hb:=Xg hi h2
  have hu:us[i*k+j]? =some (us.getD (i*k+j) undef):=by rw[fC,cz ab];rfl
  exact⟨b,0,rfl,hA,by rw[eP];exact hcell _ _ hu⟩
def dx (k n:Nat)(za:List AC):List AC:=(List.range (n*k)).map fun j=>za.getD (j%k) (.v (.int .i64 0))
theorem Xh{S:Nat->Slot}{n:Nat}{z:Array Value}(h:cH w A S G H za z.toList)(hk:z.size=k)(aX:0<k):cH w A S G H (dx k n za) ((Array.range (n*k)).map (z[·%z.size]!)).toList:=by
 have qU:za.length=k:=by have:=h.1;simp at this;omega
 refine⟨by simp[dx],fun j x u e1 e2=> ?_⟩;unfold dx at e1;rw[fD,bU] at e1;obtain⟨j',xe,rfl⟩:=e1;have hlt:=(bN.1 xe).1;simp at hlt;rw[Gt hlt] at xe;simp only[aA] at xe;subst xe;have hm:=oM j aX
 have Xa:u=z[j%k]' ab:=by
  subst hk;simp[hlt] at e2;rw[<-e2];exact getElem!_pos z (j%z.size) ab
 refine h.2 (j%k) _ u ?_ ?_
 ·rw[fC,cz ab];rfl
 ·rw[Xa];simp
theorem Xi:∀(z:List AC) (l:List (Nat×Nat×List AC)) (r:List AC),nL z l=some r->r.length=z.length
 |z,[],r,h=>by simp only[nL,aA] at h;rw[h]
 |z,(off,size,cs)::l,r,h=>by
  unfold nL at h;split at h
  ·rename_i hc;rw[Xi _ l r h];simp;omega
  ·cases h
theorem aeB{e:TypeId}{n:Nat}{qs:List (Nat×Nat×aQ)}{pr:List (Nat×Nat×List AC)}{ps:Array (Nat×Operand)}(hR:Rel N F M w0 st G H a w)(hu:P.underlying t=some (.slice e))(hk:(P.info? e).map (·.size)=some k)(aX:0<k)(qU:z.length=k)(hn:n*k<=16777216)
  (h2:zeroOf P e=some z) (h3:En z=some za) (hp:GV (fun i=>some (i*k,k)) ps.toList qs) (e1:qR st qs=some pr) (e2:nL (dx k n za) pr=some cs):
  ∃out:List Value,cH w (aV M st.slot G H) st.slot G H cs out/\(Instr.buildSlice t n (ps.map fun(i,x)=>(i,a.eval x))).run P w=.ok (.slice (some ⟨w.heap.size,0,none⟩) n n) (w.alloc (.cells out.toArray e)):=by
 obtain⟨f1,f2⟩:=hR.parts _ hp e1;have hz:=Xe (w:=w) (G:=G) (H:=H) (A:=aV M st.slot G H) (S:=st.slot) h3;unfold zeroOf at h2
 cases hi:P.info? e with
 |none=>simp[hi] at h2
 |some it=>
  simp only[hi,Nn,bU] at h2;obtain⟨zv,Xj,rfl⟩:=h2
  have hsz:it.size=k:=by simpa [hi] using hk
  have Ck:zv.cells.size=k:=by simpa using qU
  obtain⟨out,f3,f4⟩:=Xb (w:=w) (G:=G) (H:=H) (A:=aV M st.slot G H) (S:=st.slot) (fun i=>some (i*k,k)) (ps.toList.map fun(i,x)=>(i,a.eval x)) pr ((Array.range (n*k)).map (zv.cells[·%zv.cells.size]!)) (dx k n za) cs (Xh hz Ck aX) (by simpa using f1) f2 e2;refine⟨out.toList,f4,?_⟩;unfold Instr.buildSlice
  have hsr:∀w',(sizeOf e).run P w'=.ok k w':=fun w'=>GR hk w'
  by_cases h0:n*k=0
  ·have RO:n=0:=by
    rcases Nat.mul_eq_zero.1 h0 with h|h
    ·exact h
    ·omega
   subst RO
   have h00:∀f:Nat->Value,(Array.range 0).map f=#[]:=fun f=>Array.eq_empty_of_size_eq_zero ai
   have Xk:Instr.fill (fun i=>some (i*k,k)) #[] (ps.toList.map fun(i,x)=>(i,a.eval x))=some out:=by
    rw[Nat.zero_mul,h00] at f3;exact f3
   simp[lG hu,hsr,newRow,h00,Xk]
  ·have hlt:¬16777216<n*k:=ab;simp[lG hu,hsr,zeroValue,typeInfo,hi,Xj,h0,hlt,newRow,run_newObj];have Xk:Instr.fill (fun i=>some (i*k,k)) ((Array.range (n*k)).map fun x=>zv.cells[x%zv.cells.size]!) (ps.toList.map fun(i,x)=>(i,a.eval x))=some out:=f3;simp[Xk]
end
section
variable {P:Program} {N:Nat} {F M:Nat->Prop} {w0:lj} {w:World} {st:St} {G:Nat->Gh} {H:Nat->Value} {a:Act}
variable {U:Option (List Nat)} {e k:Nat} {es:List (List AC)} {o:Oper} {ps:Array (Nat×Operand)} {qs:List (Nat×Nat×aQ)} {t:TypeId} {xs z:List Value} {za:List AC}
theorem Rel.alloc(h:Rel N F M w0 st G H a w)(o:Obj):Rel N F M w0 st G H a (w.alloc o):=h.grow rfl rfl rfl ai (fun b hb=>alloc_old w o hb)
theorem Rel.aeC(h:Rel N F M w0 st G H a w):¬aV M st.slot G H w.heap.size:=fun hh=>by
 rcases hh with hm|⟨s,hl⟩
 ·have:=h.lo.1 _ (.inr hm);have:=h.fr.size;omega
 ·have:=(h.qK hl).1;omega
theorem aeD(o:Obj):Mv w (w.alloc o) (aV M st.slot G H) (aV M st.slot G H) st.slot st.slot G G H H:=
 ⟨ai,fun _ _ h=>h,fun b hlt _=>alloc_old w o hlt,fun _=>cP _,fun s e k g es h1 _=>⟨⟨es,h1⟩,rfl⟩,fun s g cs h1 _=>⟨⟨cs,h1⟩,rfl⟩,fun s g K h1 _=>⟨⟨K,h1⟩,rfl,rfl⟩⟩
theorem Rel.newRow(h:Rel N F M w0 st G H a w)(s:Nat)(hs:(aJ st.S s).isSome=true){n:Nat}{v:Value}{w':World}(hn:es.length=n)(ho:w'.ownsRow 0 e k v n xs)(hg:w.grownBy w' v.ownBlock\/∃r,w.grownBy w' r/\∀b,r=some b->bq st.slot G H s b)
  (hb:∀b,v.ownBlock=some b->bq st.slot G H s b\/w.heap.size<=b) (hr:∀w2 A2,(∀x u,IR w (aV M st.slot G H) x u->IR w2 A2 x u)->qJ w2 A2 k es xs):
  Rel N F M w0 (st.cr s (.row e k ((st.slot s).gen+1) es)) G (fun i=>if i=s then v else H i) a w'/\
   ∀U,(yt U s\/∀b,b<w.heap.size->w'.heap[b]? =w.heap[b]?)->Ee U st.slot G H w (st.cr s (.row e k ((st.slot s).gen+1) es)).slot G (fun i=>if i=s then v else H i) w':=by
 have lK:w'.os=w.os/\w'.tape=w.tape/\w'.output=w.output/\w.heap.size<=w'.heap.size/\∀b,b<w.heap.size->¬bq st.slot G H s b->w'.heap[b]? =w.heap[b]? :=by
  rcases hg with hg|⟨r,hg,hr⟩
  ·refine⟨hg.os,hg.tape,hg.output,hg.size,fun b hlt hl=>hg.block b hlt (fun e=> ?_)⟩
   rcases hb b e.symm with h1|h1
   ·exact hl h1
   ·omega
  ·exact⟨hg.os,hg.tape,hg.output,hg.size,fun b hlt hl=>hg.block b hlt (fun e=>hl (hr b e.symm))⟩
 obtain⟨h1,h2,h3,h4,h5⟩:=lK;subst hn
 have kI:∀b,bq (st.cr s (.row e k ((st.slot s).gen+1) es)).slot G (fun i=>if i=s then v else H i) s b->bq st.slot G H s b\/w.heap.size<=b:=fun b hl=>by
  rcases hl with⟨g,c,q1,q2⟩|⟨e2,k2,g2,eY,q1,q2⟩|⟨g2,K2,q1,q2⟩
  ·rw[St.mX,aj ⟨rfl,hs⟩] at q1;cases q1
  ·simp only[nE] at q2;exact hb b q2
  ·rw[St.mX,aj ⟨rfl,hs⟩] at q1;cases q1
 refine⟨?_,fun U hU=>RE s _ (fun _ _=>rfl) (fun i hi=>by simp[hi]) h4 h5 kI hU⟩;refine h.RD s _ hs (fun _ _=>rfl) (fun i hi=>by simp[hi]) h1 h2 h3 h4 h5 kI (by simp[Slot.gen]) (fun e k g es h hg=>by cases h;omega) (fun g c h=>by cases h) (fun g K h=>by cases h) (fun m g c h=>by cases h) (fun m e2 k2 g2 eY h=> ?_) (fun m g K h=>by cases h)
 ·cases h;simp only[nE];exact⟨xs,ho,hr _ _ (fun x u hx=>IR.mv m hx)⟩
theorem qJ.map{A A2:Nat->Prop}{w2:World}(h:qJ w A k es xs)(hm:∀x u,IR w A x u->IR w2 A2 x u):qJ w2 A2 k es xs:=⟨h.1,fun i row j x u h1 h2 h3=>hm x u (h.2 i row j x u h1 h2 h3)⟩
theorem aqc{e:TypeId}{n:Nat}(ho:o.op=.buildSlice t n ps)(hu:P.underlying t=some (.slice e))(hk:(P.info? e).map (·.size)=some k)(aX:0<k)(qU:z.length=k)(hn:n*k<=16777216)
  (h2:zeroOf P e=some z) (h3:En z=some za) (hp:GV (fun i=>some (i*k,k)) ps.toList qs):
  oT P U o (fun st X=>∃pr cs,qR st qs=some pr/\nL (dx k n za) pr=some cs/\cs.all inl=true/\X (.w (.c (.sl (rowsOf k n cs)))) st):=by
 intro N F M w0 w st G H a X hR hs K Q hK;obtain⟨pr,cs,e1,e2,e3,hX⟩:=hs;obtain⟨out,f1,f2⟩:=aeB hR hu hk aX qU hn h2 h3 hp e1 e2
 have hl:cs.length=n*k:=by rw[Xi _ _ _ e2];simp[dx]
 have Ch:n<=n*k:=Nat.le_mul_of_pos_right n aX;have m:=aeD (w:=w) (M:=M) (st:=st) (G:=G) (H:=H) (.cells out.toArray e);have bg:=(RN hl f1 e3).map (fun x u hx=>IR.mv m hx)
 have hx:=hK _ _ _ _ (.slice (some ⟨w.heap.size,0,none⟩) n n) _ hX (hR.alloc (.cells out.toArray e)) (NK ai fun b hlt=>alloc_old w _ hlt)
  (NR (by simp[rowsOf]) bg (by rw[f1.1,hl]) hR.aeC ax ab (fun j u hu=>by rw[(ay.new w out.toArray e).cell];simpa using hu))
 unfold Oper.wp execOp;simp only[ho,px,f2,rW,tD];exact hx
theorem aqd{e:TypeId}{n s:Nat}(ho:o.op=.buildSlice t n ps)(hu:P.underlying t=some (.slice e))(hk:(P.info? e).map (·.size)=some k)(aX:0<k)(qU:z.length=k)(hn:n*k<=16777216)
  (h2:zeroOf P e=some z) (h3:En z=some za) (hp:GV (fun i=>some (i*k,k)) ps.toList qs):
  oT P U o (fun st X=>∃pr cs,qR st qs=some pr/\nL (dx k n za) pr=some cs/\cs.all inl=true/\(aJ st.S s).isSome=true/\X (.w (.c (.own s ((st.slot s).gen+1)))) (st.cr s (.row e k ((st.slot s).gen+1) (rowsOf k n cs)))):=by
 intro N F M w0 w st G H a X hR hs K Q hK;obtain⟨pr,cs,e1,e2,e3,bF,hX⟩:=hs;obtain⟨out,f1,f2⟩:=aeB hR hu hk aX qU hn h2 h3 hp e1 e2
 have hl:cs.length=n*k:=by rw[Xi _ _ _ e2];simp[dx]
 have Ch:n<=n*k:=Nat.le_mul_of_pos_right n aX
 have how:(w.alloc (.cells out.toArray e)).ownsRow 0 e k (.slice (some ⟨w.heap.size,0,none⟩) n n) n out:=by
  have:=World.ownsRow_lit (base:=w.heap.size) (e:=e) (size:=k) w out.toArray n ax (by simp only[maxLen];omega) (by simp;rw[f1.1,hl]);exact(by simpa using this:(w.alloc (.cells out.toArray e)).ownsRow w.heap.size e k _ n out).mono (BV _)
 obtain⟨bQ,hst⟩:=hR.newRow (w':=w.alloc (.cells out.toArray e)) s bF (e:=e) (k:=k) (es:=rowsOf k n cs) (by simp[rowsOf]) how (.inl (aeq w _ _)) (fun b hb=> .inr (by simp[Value.ownBlock] at hb;omega)) (fun w2 A2 hm=>(RN hl f1 e3).map hm);have hx:=hK _ _ _ _ (.slice (some ⟨w.heap.size,0,none⟩) n n) _ hX bQ (hst U (.inr fun b hlt=>alloc_old w _ hlt)) ⟨rfl,by rw[St.mX,aj ⟨rfl,bF⟩];exact cP _,fun _ _ _ _=>ai⟩;unfold Oper.wp execOp;simp only[ho,px,f2,rW,tD];exact hx
theorem aqe{s:Nat}(ho:o.op=.assign (.const (.slice none 0 0))\/o.op=.move (.const (.slice none 0 0))):oT P U o (fun st X=>(aJ st.S s).isSome=true/\X (.w (.c (.own s ((st.slot s).gen+1)))) (st.cr s (.row e k ((st.slot s).gen+1) []))):=by
 intro N F M w0 w st G H a X hR hs K Q hK;obtain⟨bF,hX⟩:=hs;obtain⟨bQ,hst⟩:=hR.newRow (w':=w) s bF (e:=e) (k:=k) (es:=[]) rfl (kz w 0 e k) (.inl ⟨rfl,rfl,rfl,cP _,fun _ _ _=>rfl⟩) (fun b hb=>by simp[Value.ownBlock] at hb) (fun w2 A2 hm=>⟨fun i row h=>by simp at h,fun i row j x u h=>by simp at h⟩);have hx:=hK _ _ _ _ (.slice none 0 0) _ hX bQ (hst U (.inr fun _ _=>rfl)) ⟨rfl,by rw[St.mX,aj ⟨rfl,bF⟩];exact cP _,fun _ _ _ _=>ai⟩;unfold Oper.wp execOp
 rcases ho with ho|ho<;>(simp only[ho,tD];exact hx)
end
section
variable {P:Program} {N:Nat} {F M:Nat->Prop} {w0:lj} {w:World} {st:St} {G:Nat->Gh} {H:Nat->Value} {a:Act}
theorem Rel.flat (h:Rel N F M w0 st G H a w){x:Operand}{y:aQ}(mu:dO x y){U:List Nat}{es:List (List AC)}{k:Nat}(aX:0<k)(hr:st.rows U (st.arg y)=some es)(hk:∀row∈es,row.length=k):
  ∃ad c,∃us:List Value,a.eval x=.slice ad es.length c/\us.length=es.length*k/\qJ w (aV M st.slot G H) k es us/\(∀j u,us[j]? =some u->∃b o,ad=some ⟨b,o,none⟩/\w.cell? ⟨b,o+j,none⟩=some u)/\(∀u∈us,u.oneCell'=true):=by
 have gK:∀(i:Nat) (row:List AC),es[i]? =some row->row.length=k:=fun i row hi=>hk row (eI hi)
 unfold St.rows at hr;split at hr
 ·rename_i es' hv;simp only[aA] at hr;subst hr;have h3:IR w (aV M st.slot G H) (.sl es') (a.eval x):=h.arg mu hv;generalize a.eval x=q at h3
  cases h3 with
  |sl k' _ ad c u hn hm ow hc hl=>
   have Xl:∀p,p<es'.length*k->p/k<es'.length/\p%k<k/\p/k*k+p%k=p:=fun p hp=>⟨(Nat.div_lt_iff_lt_mul aX).2 hp,oM _ aX,by rw[Gz];exact Nat.div_add_mod p k⟩
   have Ag:∀i j,j<k->(i*k+j)/k=i/\(i*k+j)%k=j:=fun i j hj=>by
    constructor
    ·rw[Gz,Nat.mul_add_div aX,Nat.div_eq_of_lt hj,qA]
    ·rw[Gz,Nat.mul_add_mod,Nat.mod_eq_of_lt hj]
   have qN:∀p v,((List.range (es'.length*k)).map fun p=>u (p/k) (p%k))[p]? =some v->p<es'.length*k/\v=u (p/k) (p%k):=by
    intro p v hp;rw[fD,bU] at hp;obtain⟨q,hq,rfl⟩:=hp;have hlt:=(bN.1 hq).1;simp at hlt;rw[Gt hlt] at hq;simp only[aA] at hq;subst hq;exact⟨hlt,rfl⟩
   refine⟨ad,c,(List.range (es'.length*k)).map fun p=>u (p/k) (p%k),rfl,ai,⟨gK,fun i row j x' v h1 h2 h3=> ?_⟩,fun p v hp=> ?_,fun v hv=> ?_⟩
   ·have hj:=(bN.1 h2).1;rw[gK i row h1] at hj;obtain⟨_,rfl⟩:=qN _ _ h3;rw[(Ag i j hj).1,(Ag i j hj).2];exact hc i row j x' h1 h2
   ·obtain⟨hlt,rfl⟩:=qN _ _ hp;obtain⟨g1,g2,g3⟩:=Xl p hlt;have bg:es'[p/k]? =some es'[p/k]:=cz g1;have eJ:=gK _ _ bg;obtain⟨b,o,e1,_,e2⟩:=hl _ _ (p%k) bg ab;have tE:=ow _ _ bg;rw[show k'=k by omega] at e2;exact⟨b,o,e1,by rw[<-e2,Nat.add_assoc,g3]⟩
   ·obtain⟨p,hp⟩:=wJ hv;obtain⟨hlt,rfl⟩:=qN _ _ hp;obtain⟨g1,g2,g3⟩:=Xl p hlt;have bg:es'[p/k]? =some es'[p/k]:=cz g1;have eJ:=gK _ _ bg;exact(hc _ _ (p%k) ((es'[p/k])[p%k]' ab) bg ai).one
 ·rename_i s g hv;split at hr
  case h_2=>cases hr
  rename_i e k' g' es' hs;split at hr
  case isFalse=>cases hr
  rename_i hg;obtain⟨rfl,_⟩:=hg;simp only[aA] at hr;subst hr;have h3:CR w (aV M st.slot G H) st.slot G H (.own s g) (a.eval x):=h.arg mu hv;obtain⟨_,_,hH⟩:=h3;obtain⟨_,xs,how,eJ,KI⟩:=h.rw s e k' g es' hs;rw[hH e k' es' hs];by_cases h0:es'=[]
  ·subst h0;have yw:xs=[]:=yb (by have:=how.1;simpa using this);subst yw
   rcases how.2 with⟨e1,_⟩|⟨gg,cap,cur,e1,_⟩
   ·exact⟨none,0,[],e1,ai,⟨gK,fun i row j x' v h1=>by simp at h1⟩,fun j u hj=>by simp at hj,fun u hu=>by simp at hu⟩
   ·exact⟨_,cap,[],e1,ai,⟨gK,fun i row j x' v h1=>by simp at h1⟩,fun j u hj=>by simp at hj,fun u hu=>by simp at hu⟩
  ·have DV:0<es'.length:=DI.2 h0;have bg:es'[0]? =some es'[0]:=cz DV
   have WY:k'=k:=by rw[<-eJ _ _ bg];exact gK _ _ bg
   subst WY;obtain⟨b,cap,e1,_,_⟩:=how.form DV;have hcell:=how.cells (g:=b) (by rw[e1];rfl);refine⟨_,cap,xs,e1,how.1,⟨eJ,KI⟩,fun j u hj=>⟨b,0,rfl,?_⟩,fun u hu=> ?_⟩
   ·have:=hcell j u hj;rwa[Addr.add_mid] at this
   ·obtain⟨p,hp⟩:=wJ hu;have hlt:=(bN.1 hp).1;rw[how.1] at hlt;have g1:p/k'<es'.length:=(Nat.div_lt_iff_lt_mul aX).2 hlt;have g2:=oM p aX
    have g3:p/k'*k'+p%k'=p:=by rw[Gz];exact Nat.div_add_mod p k'
    have bg:es'[p/k']? =some es'[p/k']:=cz g1;have aFF:=eJ _ _ bg;exact(KI _ _ (p%k') ((es'[p/k'])[p%k']' ab) u bg ai (by rw[g3];exact hp)).one
 ·cases hr
theorem qJ.app {A:Nat->Prop}{k:Nat}{es ys:List (List AC)}{xs us:List Value}(h1:qJ w A k es xs)(h2:qJ w A k ys us)(hx:xs.length=es.length*k):qJ w A k (es++ys) (xs++us):=by
 refine⟨fun i row h=> ?_,fun i row j x u e1 e2 e3=> ?_⟩
 ·rcases fU.1 (eI h) with hm|hm
  ·obtain⟨j,hj⟩:=wJ hm;exact h1.1 j row hj
  ·obtain⟨j,hj⟩:=wJ hm;exact h2.1 j row hj
 ·by_cases hi:i<es.length
  ·rw[mj hi] at e1;have hj:=(bN.1 e2).1;rw[h1.1 i row e1] at hj;rw[mj (by rw[hx];exact Xg hi hj)] at e3;exact h1.2 i row j x u e1 e2 e3
  ·rw[jc ab] at e1;have hle:es.length*k<=i*k:=uH k ab;rw[jc ab,hx] at e3;refine h2.2 _ row j x u e1 e2 ?_;rw[Nat.sub_mul,show i*k-es.length*k+j=i*k+j-es.length*k by omega];exact e3
theorem aqf {U:Option (List Nat)}{o:Oper}{t e:TypeId}{k bytes:Nat}{zv:Value}{x z:Operand}{y q:aQ}(ho:o.op=.call { callee:=.builtin .append,args:=#[x,z],argTypes:=#[t,t] })(hu:P.underlying t=some (.slice e))(mq:(P.info? e).map (fun i=>(i.zero,i.size,i.bytes))=some (some zv,k,bytes))(oh:zv.cells.size=k)(aX:0<k)(kC:bytes<=1000)(hx:dO x y)(hz:dO z q):
  oT P U o (fun st X=>∃s g es ys,st.arg y=some (.w (.c (.own s g)))/\aJ st.S s=some (.row e k g es)/\st.rows [s] (st.arg q)=some ys/\(∀row∈ys,row.length=k)/\es.length+ys.length<=100000000/\yt U s/\X (.w (.c (.own s (g+1)))) (st.cr s (.row e k (g+1) (es++ys)))):=by
 intro N F M w0 w st G H a X hR hs K Q hK;obtain⟨s,g,es,ys,e1,e2,e3,e4,e5,dZ,hX⟩:=hs;obtain⟨eC,iz⟩:=RJ e2;have h3:CR w (aV M st.slot G H) st.slot G H (.own s g) (a.eval x):=hR.arg hx e1;obtain⟨_,_,hH⟩:=h3;have El:=hH e k es eC;obtain⟨_,xs,how,lQ⟩:=hR.rw s e k g es eC;obtain⟨ad,c,us,f1,f2,f3,f4,f5⟩:=hR.flat hz aX e3 e4;obtain⟨it,hi,fk,cQ,fy⟩:=wN mq
 have pF:(st.slot s).gen=g:=by rw[eC];rfl
 have key:∀v' w',w'.ownsRow 0 e k v' (es.length+ys.length) (xs++us)->w.grownBy w' (H s).ownBlock->(v'.ownBlock=(H s).ownBlock\/v'.ownBlock=some w.heap.size)->K (a.put o.dst v') w':=by
  intro v' w' g1 g2 g3
  have hl:∀b,(H s).ownBlock=some b->bq st.slot G H s b:=fun b hb=> .inr (.inl ⟨e,k,g,es,eC,hb⟩)
  have⟨bQ,hst⟩:=hR.newRow (w':=w') s iz (e:=e) (k:=k) (es:=es++ys) (n:=es.length+ys.length) ai g1 (.inr ⟨_,g2,hl⟩) (fun b hb=>by
   rcases g3 with g3|g3
   ·rw[g3] at hb;exact .inl (hl b hb)
   ·rw[g3] at hb;right;simp at hb;omega) (fun w2 A2 hm=>(qJ.app lQ f3 how.1).map hm)
  rw[pF] at bQ hst;exact hK _ _ _ _ v' _ hX bQ (hst U (.inl dZ)) ⟨by rcases g1.2 with⟨rfl,_⟩|⟨gg,cap,cur,rfl,_⟩<;>rfl,by rw[St.mX,aj ⟨rfl,iz⟩];exact cP _,fun _ _ _ _=>ai⟩
 unfold Oper.wp execOp;simp only[ho,resolve,invoke,builtin,px,tD,rW,List.map_toArray,dJ,mP,El,f1]
 cases ad with
 |none=>
  have hy0:ys=[]:=by
   cases ys with
   |nil=>rfl
   |cons row r=>
    have hl:0<us.length:=by rw[f2];exact Nat.mul_pos ai aX
    obtain⟨b,o,hb,_⟩:=f4 0 us[0] (by simp[hl]);cases hb
  subst hy0;have hu0:us=[]:=yb (by rw[f2];simp);subst hu0
  have hrun:(Builtin.append_ #[t,t] o.type #[H s,.slice none 0 c]).run P w=.ok (H s) w:=by
   rcases how.2 with⟨h1,_⟩|⟨gg,cap,cur,h1,_,_,ou,_⟩
   ·rw[h1];simp[Builtin.append_,lG hu,sizeOf,typeInfo,hi,Builtin.lenOf,Builtin.firstCells]
   ·rw[h1];simp[Builtin.append_,lG hu,sizeOf,typeInfo,hi,Builtin.lenOf,Builtin.firstCells,ou,storeCells]
  simp only[List.length_nil,hrun,rW];exact key (H s) w (by simpa using how) ⟨rfl,rfl,rfl,cP _,fun _ _ _=>rfl⟩ (.inl rfl)
 |some ad=>
  obtain⟨v',w',g1,g2,g3,_,g5⟩:=run_append_own_at (P:=P) w 0 t o.type e it zv k bytes hu hi fk cQ fy oh aX (H s) es.length xs how ad ys.length c us f2 (fun j u hj=>by
   obtain⟨b,o',hb,hc⟩:=f4 j u hj;simp only[aA] at hb;subst hb;rw[Addr.add_mid]
   exact hc) f5 (by unfold maxLen;omega) (bm (og e5 kC) ab) (BV _)
  simp only[g1,rW];exact key v' w' g2 g3 g5
end
section
variable {P:Program} {N:Nat} {F M:Nat->Prop} {w0:lj} {w:World} {st:St} {G:Nat->Gh} {H:Nat->Value} {a:Act}
variable {A:Nat->Prop} {G G':Nat->Gh} {H H':Nat->Value} {S':Nat->Slot} {U:Option (List Nat)} {o:Oper} {v:Value}
theorem aqg{e k n h g cap:Nat}{xs:List Value}(ho:w.ownsRow 0 e k (.slice (some ⟨g,0,none⟩) n cap) n xs)(hh:h<=n):w.ownsRow 0 e k (.slice (some ⟨g,0,none⟩) h cap) h (xs.take (h*k)):=by
 have hle:h*k<=n*k:=uH k hh
 rcases ho.2 with⟨h',_⟩|⟨g',cap',cur,h',hb,hg,hn,hc,hs,aqh⟩
 ·cases h'
 ·simp only[Value.slice.injEq,aA,Addr.mk.injEq,and_true,true_and] at h';obtain⟨rfl,rfl⟩:=h';refine⟨by have:=ho.1;simp;omega,.inr ⟨g,cap,cur,rfl,hb,hg,bm hh hn,hc,hs,?_⟩⟩;rw[<-aqh,List.take_take,Gv hle]
theorem aqi{t e':TypeId}{x:Operand}{y:aQ}{hi:Option Operand}{hi':Option aQ}{k':Nat}(ho:o.op=.slice t x none hi none)(hu:P.underlying t=some (.slice e'))(hk:(P.info? e').map (·.size)=some k')(hx:dO x y)(jz:KF hi hi'):
  oT P U o (fun st X=>∃s g e k es h,st.arg y=some (.w (.c (.own s g)))/\aJ st.S s=some (.row e k g es)/\xa st es.length hi'=some h/\h<=es.length/\X (.w (.c (.own s (g+1)))) (st.cr s (.row e k (g+1) (es.take h)))):=by
 intro N F M w0 w st G H a X hR hs K Q hK;obtain⟨s,g,e,k,es,h,e1,e2,yv,h2,hX⟩:=hs;obtain⟨eC,iz⟩:=RJ e2;have h3:CR w (aV M st.slot G H) st.slot G H (.own s g) (a.eval x):=hR.arg hx e1;obtain⟨_,_,hH⟩:=h3;have El:=hH e k es eC;obtain⟨_,xs,how,lQ⟩:=hR.rw s e k g es eC
 have pF:(st.slot s).gen=g:=by rw[eC];rfl
 have aqj:∀(w2:World) (A2:Nat->Prop),(∀x u,IR w (aV M st.slot G H) x u->IR w2 A2 x u)->qJ w2 A2 k (es.take h) (xs.take (h*k)):=fun w2 A2 hm=>by
  refine⟨fun i row h1=> ?_,fun i row j x' u h1 h4 h5=> ?_⟩
  ·rw[wK] at h1;split at h1
   ·exact lQ.1 i row h1
   ·cases h1
  ·rw[wK] at h1 h5;split at h1
   case isFalse=>cases h1
   split at h5
   ·exact hm _ _ (lQ.2 i row j x' u h1 h4 h5)
   ·cases h5
 have KG:((hi.map a.eval)=none/\h=es.length)\/∃k,hi.map a.eval=some (.int k h):=by
  cases hi with
  |none=>cases hi' with
   |none=>simp[xa] at yv;exact .inl ⟨rfl,yv.symm⟩
   |some=>exact jz.elim
  |some p=>cases hi' with
   |none=>exact jz.elim
   |some q=>
    obtain⟨k,e⟩:=hR.bound jz yv;exact .inr ⟨k,by simp[e]⟩
 have key:∀(v':Value),v'.ownBlock=(H s).ownBlock->v'.oneCell'=true->w.ownsRow 0 e k v' h (xs.take (h*k))->K (a.put o.dst v') w:=by
  intro v' g1 g0 g2
  have hl:∀b,(H s).ownBlock=some b->bq st.slot G H s b:=fun b hb=> .inr (.inl ⟨e,k,g,es,eC,hb⟩)
  have⟨bQ,hst⟩:=hR.newRow (w':=w) s iz (e:=e) (k:=k) (es:=es.take h) (n:=h) bz g2 (.inl ⟨rfl,rfl,rfl,cP _,fun _ _ _=>rfl⟩) (fun b hb=> .inl (hl b (by rw[<-g1];exact hb))) aqj;rw[pF] at bQ hst;exact hK _ _ _ _ v' _ hX bQ (hst U (.inr fun _ _=>rfl)) ⟨g0,by rw[St.mX,aj ⟨rfl,iz⟩];exact cP _,fun _ _ _ _=>ai⟩
 unfold Oper.wp execOp
 rcases how.2 with⟨h5,h6⟩|⟨gg,cap,cur,h5,_,_,ou,_⟩
 ·have h0:h=0:=ab;subst h0;have hb:=WX (P:=P) w es.length 0 0 0 none (hi.map a.eval) (.inl ⟨rfl,rfl⟩) KG ax (BV _) ab;rw[h6] at hb;simp[ho,El,h5,Instr.sliceAt,Instr.slice,lG hu,hb,GR hk];exact key _ (by rw[h5]) rfl ⟨ai,.inl ⟨rfl,rfl⟩⟩
 ·have hb:=WX (P:=P) w es.length cap 0 h none (hi.map a.eval) (.inl ⟨rfl,rfl⟩) KG (BV _) h2 ou;rw[h5] at how;have lH:(⟨gg,0,none⟩:Addr).add 0=⟨gg,0,none⟩:=Addr.add_mid gg 0 0;simp[ho,El,h5,Instr.sliceAt,Instr.slice,lG hu,hb,GR hk,lH];exact key _ (by rw[h5];rfl) rfl (aqg how h2)
def AW.inl (x:AW):Bool:=x.cells.all Ab.inl
def WI (w:World)(A:Nat->Prop)(x:AW)(v:Value):Prop:=x.inl=true/\WR w A (fun _=> .dead 0) (fun _=>gh 0) (fun _=>undef) x v
def VI (w:World)(A:Nat->Prop):AV->Value->Prop
 | .w x,v=>WI w A x v
 | .bP vs,v=>∃arr:List Value,v=.tuple arr.toArray/\arr.length=vs.length/\∀(j:Nat) (x:AW) (u:Value),vs[j]? =some x->arr[j]? =some u->WI w A x u
 |_,_=>False
def bj (P:Program)(f:FuncId)(args:List AW)(Q:AV->Prop):Prop:=
 ∀(M:Nat->Prop) (w:World) (vs:List Value),(∀b,M b->b<w.heap.size)/\yr w (fun b=>b<w.heap.size)->vs.length=args.length->(∀(i:Nat) (x:AW) (v:Value),args[i]? =some x->vs[i]? =some v->WI w M x v)->
  Calls P f vs.toArray w fun e w'=>∃v r,e=.returned v/\Q r/\VI w' M r v/\Fr (fun b=>b<w.heap.size) w w'
theorem CR.any{S:Nat->Slot}{x:AC}{u:Value}(h:CR w A S G H x u)(hi:Ab.inl x=true):CR w A S' G' H' x u:=(h.ir hi).uY
theorem cH.any{S:Nat->Slot}{cs:List AC}{us:List Value}(h:cH w A S G H cs us)(hi:cs.all Ab.inl=true):cH w A S' G' H' cs us:=
 ⟨h.1,fun j x u h1 h2=>(h.2 j x u h1 h2).any (fE.1 hi x (eI h1))⟩
theorem WR.any{S:Nat->Slot}{x:AW}(h:WR w A S G H x v)(hi:x.inl=true):WR w A S' G' H' x v:=by
 cases x with
 |c x=>exact CR.any h (by simpa [AW.inl,AW.cells] using hi)
 |agg cs=>
  obtain⟨arr,e,h⟩:=h;exact⟨arr,e,h.any (by simpa [AW.inl,AW.cells] using hi)⟩
theorem VI.vr{S:Nat->Slot}{x:AV}(h:VI w A x v):VR w A S G H x v:=by
 cases x with
 |w x=>exact WR.any h.2 h.1
 |bP vs=>
  obtain⟨arr,e,hl,h⟩:=h;exact⟨arr,e,hl,fun j x u h1 h2=>WR.any (h j x u h1 h2).2 (h j x u h1 h2).1⟩
 |pb s g off=>exact h.elim
 |pr s g i off=>exact h.elim
 |pi cs off=>exact h.elim
 |u=>exact h.elim
def oU (st:St):List aQ->Option (List AW)
 |[]=>some []
 |y::r=>match st.arg y,oU st r with
  |some (.w x),some q=>if x.inl then some (x::q) else none
  |_,_=>none
def KJ:List Operand->List aQ->Prop
 |[],[]=>True
 |x::r,y::q=>dO x y/\KJ r q
 |_,_=>False
theorem Rel.args(h:Rel N F M w0 st G H a w):∀{xs:List Operand} {ys:List aQ} {r:List AW},KJ xs ys->oU st ys=some r->
  xs.length=r.length/\∀(i:Nat) (p:AW) (v:Value),r[i]? =some p->(xs.map a.eval)[i]? =some v->WI w (aV M st.slot G H) p v
 |[],[],r,_,hr=>by
  simp only[oU,aA] at hr;subst hr;exact⟨rfl,fun i p q e=>by simp at e⟩
 |x::xs,y::ys,r,hp,hr=>by
  obtain⟨h1,h2⟩:=hp;unfold oU at hr;split at hr
  case h_2=>cases hr
  rename_i xw q hv hq;split at hr
  case isFalse=>cases hr
  rename_i hi;simp only[aA] at hr;subst hr;obtain⟨e1,e2⟩:=Rel.args h h2 hq;refine⟨by simp[e1],fun j p v g1 g2=> ?_⟩
  cases j with
  |zero=>
   simp at g1 g2;subst g1;subst g2;exact⟨hi,WR.any (h.arg h1 hv) hi⟩
  |succ j=>exact e2 j p v (by simpa using g1) (by simpa using g2)
 |[],_::_,_,hp,_=>hp.elim
 |_::_,[],_,hp,_=>hp.elim
theorem aeE{f:FuncId}{fn:Func}{xs:Array Operand}{ys:List aQ}{ts:Array TypeId}(ho:o.op=.call { callee:=.value (.func f),args:=xs,argTypes:=ts })(hf:P.funcs[f]? =some fn)(hn:(fn.name== "runtime.NumGoroutine")=false)(hb:fn.body.isNone=false)(hx:KJ xs.toList ys):
  oT P U o (fun st X=>∃ws R,oU st ys=some ws/\bj P f ws R/\∀r,R r->X r st):=by
 intro N F M w0 w st G H a X hR hs K Q hK;obtain⟨ws,R,e1,hC,hX⟩:=hs;obtain⟨f1,f2⟩:=hR.args hx e1
 have hM:∀b,aV M st.slot G H b->b<w.heap.size:=fun b hb=>by
  rcases hb with hm|⟨s,hl⟩
  ·exact ju (hR.lo.1 b (.inr hm)) hR.fr.size
  ·exact(hR.qK hl).1
 have Xm:=hC (aV M st.slot G H) w (xs.toList.map a.eval) ⟨hM,hR.glo fun _ _ h=>h⟩ (by simpa using f1) f2;unfold Oper.wp execOp;simp only[ho,resolve,Act.eval,Deferred.ofValue,invoke,callFunc,hf,hn,hb,px,tD,rW,program,Sem.run]
 have qV:(#[]++xs.map a.eval++#[]:Array Value)=(xs.toList.map a.eval).toArray:=by
  apply Array.ext';simp
 simp only[zL,py,Sem.run]
 show Oper.upon P o a K Q (.ok (.enter f (#[]++xs.map a.eval++#[])) w)
 rw[qV,Oper.upon_enter]
 refine Xm.mono fun e w' he=> ?_
 obtain⟨v,r,rfl,hr,hv,dC⟩:=he;have bQ:=hR.grow dC.os dC.tape dC.out dC.size dC.block;exact hK r st G H v w' (hX r hr) bQ (NK dC.size dC.block) hv.vr
end
structure NT (M:Nat->Prop)(S:Nat->Slot)(G:Nat->Gh)(H:Nat->Value)(w:World):Prop where
 bx:∀s g cs,S s=.box g cs->¬M (G s).b/\∃arr:List Value,ay w (G s).b arr.toArray/\cH w (aV M S G H) S G H cs arr
 rw:∀s e k g es,S s=.row e k g es->(∀b,(H s).ownBlock=some b->¬M b)/\∃xs,w.ownsRow 0 e k (H s) es.length xs/\qJ w (aV M S G H) k es xs
 ob:∀s g K,S s=.obj g K->(∀b∈(G s).fp,¬M b)/\K.rep w (aV M S G H) (H s) (G s)
 dj:∀s s' b,bq S G H s b->bq S G H s' b->s=s'
def iJ (T:List (Nat×Slot))(s:Nat):Slot:=(aJ T s).getD (.dead 0)
def iK (P:Program)(f:FuncId)(args:List AV)(T:List (Nat×Slot))(Q:AV->(Nat->Slot)->Prop):Prop:=
 ∀(M:Nat->Prop) (w:World) (G:Nat->Gh) (H:Nat->Value) (vs:List Value),NT M (iJ T) G H w->(∀b,M b->b<w.heap.size)/\yr w (fun b=>b<w.heap.size/\∀s,¬bq (iJ T) G H s b)->vs.length=args.length->
  (∀(i:Nat) (x:AV) (v:Value),args[i]? =some x->vs[i]? =some v->VR w (aV M (iJ T) G H) (iJ T) G H x v)->
  Calls P f vs.toArray w fun e w'=>∃v r S' G' H',e=.returned v/\Q r S'/\VR w' (aV M S' G' H') S' G' H' r v/\NT M S' G' H' w'/\RB ⟨w,iJ T,G,H⟩ S' G' H'/\
   Fr (fun b=>b<w.heap.size/\∀s,¬bq (iJ T) G H s b) w w'/\(∀s b,bq S' G' H' s b->(∃s0,bq (iJ T) G H s0 b)\/w.heap.size<=b)/\∀s,aJ T s=none->S' s=.dead 0
def lR (D:List Nat):AC->Bool
 | .own s _=>D.contains s
 | .cK s _=>D.contains s
 | .part s _ _=>D.contains s
 | .cls _ cn=>cn.all fun q=>D.contains q.1
 |_=>true
def Ah (D:List Nat)(x:AW):Bool:=x.cells.all (lR D)
def iL (D:List Nat):AV->Bool
 | .w x=>Ah D x
 | .bP vs=>vs.all (Ah D)
 | .pb s _ _=>D.contains s
 | .pr s _ _ _=>D.contains s
 |_=>true
def fK (D:List Nat):Slot->Bool
 | .box _ cs=>cs.all (lR D)
 |_=>true
section
variable {P:Program} {N:Nat} {F M:Nat->Prop} {w0:lj} {w:World} {st:St} {G:Nat->Gh} {H:Nat->Value} {a:Act}
variable {A:Nat->Prop} {D:List Nat} {G G':Nat->Gh} {H H':Nat->Value} {S':Nat->Slot} {v:Value}
structure GY (D:List Nat)(S S':Nat->Slot)(G G':Nat->Gh)(H H':Nat->Value):Prop where
 s:∀s∈D,S' s=S s
 g:∀s∈D,G' s=G s
 h:∀s∈D,H' s=H s
theorem CR.same{S:Nat->Slot}(m:GY D S S' G G' H H'){x:AC}{u:Value}(hc:lR D x=true)(h:CR w A S G H x u):CR w A S' G' H' x u:=by
 cases x with
 |own s g=>
  have hs:s∈D:=by simpa [lR] using hc
  obtain⟨h1,h2,h3⟩:=h;exact⟨h1,by rw[m.s s hs];exact h2,fun e k es he=>by rw[m.s s hs] at he;rw[m.h s hs];exact h3 e k es he⟩
 |cK s g=>
  have hs:s∈D:=by simpa [lR] using hc
  obtain⟨h1,h2,h3⟩:=h;exact⟨h1,by rw[m.s s hs];exact h2,fun K he=>by rw[m.s s hs] at he;rw[m.h s hs];exact h3 K he⟩
 |part s g i=>
  have hs:s∈D:=by simpa [lR] using hc
  obtain⟨h1,h2,h3⟩:=h;exact⟨h1,by rw[m.s s hs];exact h2,fun K he=>by rw[m.s s hs] at he;rw[m.g s hs];exact h3 K he⟩
 |cls f cn=>
  obtain⟨ps,h1,h2,h3⟩:=h;refine⟨ps,h1,h2,fun i q p e1 e2=> ?_⟩
  have hs:q.1∈D:=by
   have h4:cn.all (fun q=>D.contains q.1)=true:=hc;have:=fE.1 h4 q (eI e1);simpa using this
  obtain⟨h4,h5⟩:=h3 i q p e1 e2;exact⟨by rw[m.s _ hs];exact h4,fun cs he=>by rw[m.s _ hs] at he;rw[m.g _ hs];exact h5 cs he⟩
 |v x=>exact h
 |sl es=>exact h
 |fV f cn=>exact h
theorem cH.same{S:Nat->Slot}(m:GY D S S' G G' H H'){cs:List AC}{us:List Value}(hc:cs.all (lR D)=true)(h:cH w A S G H cs us):cH w A S' G' H' cs us:=
 ⟨h.1,fun j x u h1 h2=>(h.2 j x u h1 h2).same m (fE.1 hc x (eI h1))⟩
theorem WR.same{S:Nat->Slot}(m:GY D S S' G G' H H'){x:AW}(hc:Ah D x=true)(h:WR w A S G H x v):WR w A S' G' H' x v:=by
 cases x with
 |c x=>exact CR.same m (by simpa [Ah,AW.cells] using hc) h
 |agg cs=>
  obtain⟨arr,e,h⟩:=h;exact⟨arr,e,h.same m hc⟩
theorem VR.same{S:Nat->Slot}(m:GY D S S' G G' H H'){x:AV}(hc:iL D x=true)(h:VR w A S G H x v):VR w A S' G' H' x v:=by
 cases x with
 |w x=>exact WR.same m hc h
 |bP vs=>
  obtain⟨arr,e,hl,h⟩:=h;exact⟨arr,e,hl,fun j x u h1 h2=>(h j x u h1 h2).same m (fE.1 hc x (eI h1))⟩
 |pb s g off=>
  have hs:s∈D:=by simpa [iL] using hc
  exact⟨by rw[m.s s hs];exact h.1,fun cs he=>by rw[m.s s hs] at he;rw[m.g s hs];exact h.2 cs he⟩
 |pr s g i off=>
  have hs:s∈D:=by simpa [iL] using hc
  exact⟨by rw[m.s s hs];exact h.1,fun e k es he=>by rw[m.s s hs] at he;rw[m.h s hs];exact h.2 e k es he⟩
 |pi cs off=>exact h
 |u=>trivial
def mY (st:St):List aQ->Option (List AV)
 |[]=>some []
 |y::r=>match st.arg y,mY st r with
  |some x,some q=>some (x::q)
  |_,_=>none
theorem Rel.mY (h:Rel N F M w0 st G H a w):∀{xs:List Operand} {ys:List aQ} {r:List AV},KJ xs ys->mY st ys=some r->
  xs.length=r.length/\∀(i:Nat) (p:AV) (v:Value),r[i]? =some p->(xs.map a.eval)[i]? =some v->VR w (aV M st.slot G H) st.slot G H p v
 |[],[],r,_,hr=>by
  simp only[Ab.mY,aA] at hr;subst hr;exact⟨rfl,fun i p q e=>by simp at e⟩
 |x::xs,y::ys,r,hp,hr=>by
  obtain⟨h1,h2⟩:=hp;unfold Ab.mY at hr;split at hr
  case h_2=>cases hr
  rename_i xv q hv hq;simp only[aA] at hr;subst hr;obtain⟨e1,e2⟩:=Rel.mY h h2 hq;refine⟨by simp[e1],fun j p v g1 g2=> ?_⟩
  cases j with
  |zero=>
   simp at g1 g2;subst g1;subst g2;exact h.arg h1 hv
  |succ j=>exact e2 j p v (by simpa using g1) (by simpa using g2)
 |[],_::_,_,hp,_=>hp.elim
 |_::_,[],_,hp,_=>hp.elim
def gU (st:St)(D:List Nat):List (Nat×Slot):=D.map fun s=>(s,st.slot s)
theorem RP (st:St):∀(D:List Nat) (s:Nat),aJ (gU st D) s=if s∈D then some (st.slot s) else none
 |[],s=>by simp[gU,aJ]
 |d::D,s=>by
  have ih:=RP st D s;unfold gU at ih⊢;simp only[dJ,aJ,ih];by_cases h:d=s
  ·subst h;simp
  ·have h':¬s=d:=fun e=>h e.symm
   simp[h,h']
def mZ (D:List Nat)(S':Nat->Slot)(st:St):St:={ st with S:=st.S.map fun p=>if D.contains p.1 then(p.1,S' p.1) else p }
theorem aeF (D:List Nat)(S':Nat->Slot):∀(l:List (Nat×Slot)) (s:Nat),aJ (l.map fun p=>if D.contains p.1 then(p.1,S' p.1) else p) s=if s∈D then(aJ l s).map fun _=>S' s else aJ l s
 |[],s=>by simp[aJ]
 |(i,x)::l,s=>by
  have ih:=aeF D S' l s;simp only[dJ];by_cases hi:i∈D
  ·have:D.contains i=true:=by simpa using hi
   simp only[this,nE,aJ,ih];by_cases h:i=s
   ·subst h;simp[hi]
   ·simp[h]
  ·have:D.contains i=false:=by simpa using hi
   simp only[this,zL,py,aJ,ih];by_cases h:i=s
   ·subst h;simp[hi]
   ·simp[h]
theorem Xn(hD:∀s∈D,(aJ st.S s).isSome=true)(s:Nat):(mZ D S' st).slot s=if s∈D then S' s else st.slot s:=by
 unfold St.slot mZ;dsimp only;rw[aeF];by_cases h:s∈D
 ·obtain⟨x,hx⟩:=Rj.1 (hD s h);simp[h,hx]
 ·simp[h]
def aeG (P:Program)(U:Option (List Nat))(f:FuncId)(ys:List aQ)(D:List Nat):GX:=fun st X=>∃ws Q,mY st ys=some ws/\ws.all (iL D)=true/\(∀s∈D,(aJ st.S s).isSome=true/\fK D (st.slot s)=true)/\(∀s∈D,yt U s)/\
 iK P f ws (gU st D) Q/\∀r S',Q r S'->(iL D r=true/\∀s∈D,fK D (S' s)=true)/\X r (mZ D S' st)
end
section
variable {P:Program} {N:Nat} {F M:Nat->Prop} {w0:lj} {w:World} {st:St} {G:Nat->Gh} {H:Nat->Value} {a:Act}
theorem Rel.bu (hR:Rel N F M w0 st G H a w){D:List Nat}{w':World}{S':Nat->Slot}{G':Nat->Gh}{H':Nat->Value}(hD:∀s∈D,(aJ st.S s).isSome=true)
  (bF:NT (fun b=>M b\/∃s,s∉D/\bq st.slot G H s b) S' G' H' w') (hh:RB ⟨w,iJ (gU st D),G,H⟩ S' G' H') (dC:Fr (fun b=>b<w.heap.size/\∀s,¬bq (iJ (gU st D)) G H s b) w w')
  (uU:∀s b,bq S' G' H' s b->(∃s0,bq (iJ (gU st D)) G H s0 b)\/w.heap.size<=b) (Xo:∀s,aJ (gU st D) s=none->S' s=.dead 0) (oV:∀s∈D,fK D (S' s)=true):
  Rel N F M w0 (mZ D S' st) (fun s=>if s∈D then G' s else G s) (fun s=>if s∈D then H' s else H s) a w'/\aV M (mZ D S' st).slot (fun s=>if s∈D then G' s else G s) (fun s=>if s∈D then H' s else H s)=aV (fun b=>M b\/∃s,s∉D/\bq st.slot G H s b) S' G' H'/\
   (∀s∈D,∀b,b<w.heap.size->bq (mZ D S' st).slot (fun s=>if s∈D then G' s else G s) (fun s=>if s∈D then H' s else H s) s b->∃s0∈D,bq st.slot G H s0 b):=by
 have tS:∀s,iJ (gU st D) s=if s∈D then st.slot s else .dead 0:=fun s=>by
  unfold iJ;rw[RP];by_cases h:s∈D<;>simp[h]
 have tL:∀s b,bq (iJ (gU st D)) G H s b↔s∈D/\bq st.slot G H s b:=fun s b=>by
  unfold bq;rw[tS];by_cases h:s∈D
  ·simp[h]
  ·simp[h]
 have uS:∀s,(mZ D S' st).slot s=if s∈D then S' s else st.slot s:=Xn hD
 have sD:∀s b,bq S' G' H' s b->s∈D:=fun s b hl=>by
  by_cases h:s∈D
  ·exact h
  ·have:=Xo s (by rw[RP];simp[h])
   rcases hl with⟨g,cs,h1,_⟩|⟨e,k,g,es,h1,_⟩|⟨g,K,h1,_⟩<;>(rw[this] at h1;cases h1)
 have uL:∀s b,bq (mZ D S' st).slot (fun s=>if s∈D then G' s else G s) (fun s=>if s∈D then H' s else H s) s b↔(s∈D/\bq S' G' H' s b)\/(s∉D/\bq st.slot G H s b):=fun s b=>by
  unfold bq;rw[uS];by_cases h:s∈D<;>simp[h]
 have hA:aV M (mZ D S' st).slot (fun s=>if s∈D then G' s else G s) (fun s=>if s∈D then H' s else H s)=aV (fun b=>M b\/∃s,s∉D/\bq st.slot G H s b) S' G' H':=by
  funext b;apply propext;constructor
  ·rintro(hm|⟨s,hl⟩)
   ·exact .inl (.inl hm)
   ·rcases(uL s b).1 hl with⟨_,h2⟩|⟨h1,h2⟩
    ·exact .inr ⟨s,h2⟩
    ·exact .inl (.inr ⟨s,h1,h2⟩)
  ·rintro((hm|⟨s,h1,h2⟩)|⟨s,hl⟩)
   ·exact .inl hm
   ·exact .inr ⟨s,(uL s b).2 (.inr ⟨h1,h2⟩)⟩
   ·exact .inr ⟨s,(uL s b).2 (.inl ⟨sD s b hl,hl⟩)⟩
 have hold:∀s∈D,∀b,b<w.heap.size->bq S' G' H' s b->∃s0∈D,bq st.slot G H s0 b:=fun s _ b hlt hl=>by
  rcases uU s b hl with⟨s0,h0⟩|h0
  ·obtain⟨h1,h2⟩:=(tL s0 b).1 h0;exact⟨s0,h1,h2⟩
  ·omega
 have NU:∀b,b<w.heap.size->(∀s∈D,¬bq st.slot G H s b)->w'.heap[b]? =w.heap[b]? :=fun b hlt hn=>dC.block b ⟨hlt,fun s hl=>by obtain⟨h1,h2⟩:=(tL s b).1 hl;exact hn s h1 h2⟩
 have m:Mv w w' (aV M st.slot G H) (aV M (mZ D S' st).slot (fun s=>if s∈D then G' s else G s) (fun s=>if s∈D then H' s else H s)) st.slot (mZ D S' st).slot G (fun s=>if s∈D then G' s else G s) H (fun s=>if s∈D then H' s else H s):=by
  refine⟨dC.size,fun b hlt hb=> ?_,fun b hlt hb=>NU b hlt (fun s _ hl=>hb (.inr ⟨s,hl⟩)),fun s=> ?_,fun s e k g es h1 h2=> ?_,fun s g cs h1 h2=> ?_,fun s g K h1 h2=> ?_⟩
  ·rcases hb with hm|⟨s,hl⟩
   ·exact .inl hm
   ·rcases(uL s b).1 hl with⟨h1,h2⟩|⟨_,h2⟩
    ·obtain⟨s0,_,h3⟩:=hold s h1 b hlt h2;exact .inr ⟨s0,h3⟩
    ·exact .inr ⟨s,h2⟩
  ·rw[uS];by_cases h:s∈D
   ·have:=hh.gen s;dsimp only at this;rw[tS,aj h] at this;rw[aj h];exact this
   ·rw[af h];exact cP _
  ·rw[uS] at h1;by_cases h:s∈D
   ·rw[aj h] at h1;have:=hh.row s e k g es h1;dsimp only at this;rw[tS,aj h] at this;rw[aj h];exact this h2
   ·rw[af h] at h1;rw[af h];exact⟨⟨es,h1⟩,rfl⟩
  ·rw[uS] at h1;by_cases h:s∈D
   ·rw[aj h] at h1;have:=hh.box s g cs h1;dsimp only at this;rw[tS,aj h] at this;rw[aj h];exact this h2
   ·rw[af h] at h1;rw[af h];exact⟨⟨cs,h1⟩,rfl⟩
  ·rw[uS] at h1;by_cases h:s∈D
   ·rw[aj h] at h1;have:=hh.obj s g K h1;dsimp only at this;rw[tS,aj h] at this;rw[aj h,aj h];exact this h2
   ·rw[af h] at h1;rw[af h,af h];exact⟨⟨K,h1⟩,rfl,rfl⟩
 have sm:GY D S' (mZ D S' st).slot G' (fun s=>if s∈D then G' s else G s) H' (fun s=>if s∈D then H' s else H s):=⟨fun s hs=>by rw[uS,aj hs],fun s hs=>by simp[hs],fun s hs=>by simp[hs]⟩
 have hF:∀s b,bq S' G' H' s b->¬F b:=fun s b hl hf=>by
  rcases uU s b hl with⟨s0,h0⟩|h0
  ·exact(hR.qK ((tL s0 b).1 h0).2).2.1 hf
  ·have:=hR.lo.1 b (.inl hf);have:=hR.fr.size;omega
 refine⟨⟨hR.sz,hR.df,⟨dC.os.trans hR.fr.os,dC.tape.trans hR.fr.tape,dC.out.trans hR.fr.out,bm hR.fr.size dC.size,fun b hf=> ?_⟩,⟨fun i=>bm (hR.hs.gen i) (m.gen i),fun i e k g es h1 h2=> ?_,fun i g cs h1 h2=> ?_,fun i g K h1 h2=> ?_⟩,hR.lo,fun i y hy=>VR.mv m (hR.tm i y hy),fun s g cs hs=> ?_,fun s e k g es hs=> ?_,fun s g K hs=> ?_,fun s s' b h1 h2=> ?_⟩,hA,fun s hs b hlt hl=> ?_⟩
 ·rw[NU b (ju (hR.lo.1 b (.inl hf)) hR.fr.size) (fun s _ hl=>(hR.qK hl).2.1 hf)];exact hR.fr.block b hf
 ·obtain⟨⟨NH,e5⟩,e6⟩:=m.row i e k g es h1 (bm h2 (hR.hs.gen i));rw[e6];exact hR.hs.row i e k g NH e5 h2
 ·obtain⟨⟨c0,e5⟩,e6⟩:=m.box i g cs h1 (bm h2 (hR.hs.gen i));rw[e6];exact hR.hs.box i g c0 e5 h2
 ·obtain⟨⟨c0,e5⟩,e6,e7⟩:=m.obj i g K h1 (bm h2 (hR.hs.gen i));rw[e6,e7];exact hR.hs.obj i g c0 e5 h2
 ·rw[uS] at hs;by_cases h:s∈D
  ·rw[aj h] at hs;obtain⟨f1,arr,f2,f3⟩:=bF.bx s g cs hs;have hc:=oV s h;rw[hs] at hc;rw[aj h,hA];exact⟨hF s _ (.inl ⟨g,cs,hs,rfl⟩),fun hm=>f1 (.inl hm),arr,f2,f3.same sm hc⟩
  ·rw[af h] at hs;obtain⟨f1,f2,arr,f3,f4⟩:=hR.bx s g cs hs;rw[af h];refine⟨f1,f2,arr,?_,cH.mv m f4⟩;obtain⟨t,ht⟩:=f3;exact⟨t,by rw[NU _ (ay.lt ⟨t,ht⟩) (fun s0 h0 hl=>h (by rw[hR.dj s s0 _ (.inl ⟨g,cs,hs,rfl⟩) hl];exact h0))];exact ht⟩
 ·rw[uS] at hs;by_cases h:s∈D
  ·rw[aj h] at hs;obtain⟨f1,xs,f2,f3⟩:=bF.rw s e k g es hs;rw[aj h,hA];exact⟨fun b hb=>⟨hF s b (.inr (.inl ⟨e,k,g,es,hs,hb⟩)),fun hm=>f1 b hb (.inl hm)⟩,xs,f2,f3⟩
  ·rw[af h] at hs;obtain⟨f1,xs,f2,f3⟩:=hR.rw s e k g es hs;rw[af h];refine⟨f1,xs,?_,f3.map fun x u hx=>IR.mv m hx⟩;obtain⟨q1,q2⟩:=f2;refine⟨q1,?_⟩
   rcases q2 with q2|⟨gg,cap,cur,q3,q4,q5,q6⟩
   ·exact .inl q2
   ·have hl:bq st.slot G H s gg:=.inr (.inl ⟨e,k,g,es,hs,by rw[q3];rfl⟩);exact .inr ⟨gg,cap,cur,q3,q4,by rw[NU gg (hR.qK hl).1 (fun s0 h0 iy=>h (by rw[hR.dj s s0 _ hl iy];exact h0))];exact q5,q6⟩
 ·rw[uS] at hs;by_cases h:s∈D
  ·rw[aj h] at hs;obtain⟨f1,f2⟩:=bF.ob s g K hs;rw[aj h,aj h,hA];exact⟨fun b hb=>⟨hF s b (.inr (.inr ⟨g,K,hs,hb⟩)),fun hm=>f1 b hb (.inl hm)⟩,f2⟩
  ·rw[af h] at hs;obtain⟨f1,f2⟩:=hR.ob s g K hs;rw[af h,af h];refine⟨f1,K.mono f2 m.size m.off (fun b hlt hb=> ?_)⟩
   rcases hb with hb|hb
   ·exact NU b hlt (fun s0 h0 iy=>h (by rw[hR.dj s s0 b (.inr (.inr ⟨g,K,hs,hb⟩)) iy];exact h0))
   ·exact m.kept b hlt hb
 ·rcases(uL s b).1 h1 with⟨d1,l1⟩|⟨d1,l1⟩<;>rcases(uL s' b).1 h2 with⟨d2,l2⟩|⟨d2,l2⟩
  ·exact bF.dj s s' b l1 l2
  ·obtain⟨s0,h0,l0⟩:=hold s d1 b (hR.qK l2).1 l1;exact absurd (by rw[hR.dj s' s0 b l2 l0];exact h0) d2
  ·obtain⟨s0,h0,l0⟩:=hold s' d2 b (hR.qK l1).1 l2;exact absurd (by rw[hR.dj s s0 b l1 l0];exact h0) d1
  ·exact hR.dj s s' b l1 l2
 ·rcases(uL s b).1 hl with⟨_,l1⟩|⟨d1,_⟩
  ·exact hold s hs b hlt l1
  ·exact absurd hs d1
theorem aqk {U:Option (List Nat)}{o:Oper}{f:FuncId}{fn:Func}{xs:Array Operand}{ys:List aQ}{ts:Array TypeId}{D:List Nat}(ho:o.op=.call { callee:=.value (.func f),args:=xs,argTypes:=ts })(hf:P.funcs[f]? =some fn)(hn:(fn.name== "runtime.NumGoroutine")=false)(hb:fn.body.isNone=false)(hx:KJ xs.toList ys):
  oT P U o (aeG P U f ys D):=by
 intro N F M w0 w st G H a X hR hs K Q hK;obtain⟨ws,R,e1,e2,hD,hU,hC,hX⟩:=hs;obtain⟨f1,f2⟩:=hR.mY hx e1
 have tS:∀s,iJ (gU st D) s=if s∈D then st.slot s else .dead 0:=fun s=>by
  unfold iJ;rw[RP];by_cases h:s∈D<;>simp[h]
 have tL:∀s b,bq (iJ (gU st D)) G H s b↔s∈D/\bq st.slot G H s b:=fun s b=>by
  unfold bq;rw[tS];by_cases h:s∈D
  ·simp[h]
  ·simp[h]
 have sm:GY D st.slot (iJ (gU st D)) G G H H:=⟨fun s hs=>by rw[tS,aj hs],fun _ _=>rfl,fun _ _=>rfl⟩
 have hA:aV (fun b=>M b\/∃s,s∉D/\bq st.slot G H s b) (iJ (gU st D)) G H=aV M st.slot G H:=by
  funext b;apply propext;constructor
  ·rintro((hm|⟨s,_,h2⟩)|⟨s,hl⟩)
   ·exact .inl hm
   ·exact .inr ⟨s,h2⟩
   ·exact .inr ⟨s,((tL s b).1 hl).2⟩
  ·rintro(hm|⟨s,hl⟩)
   ·exact .inl (.inl hm)
   ·by_cases h:s∈D
    ·exact .inr ⟨s,(tL s b).2 ⟨h,hl⟩⟩
    ·exact .inl (.inr ⟨s,h,hl⟩)
 have hM:∀b,(M b\/∃s,s∉D/\bq st.slot G H s b)->b<w.heap.size:=fun b hb=>by
  rcases hb with hm|⟨s,_,hl⟩
  ·exact ju (hR.lo.1 b (.inr hm)) hR.fr.size
  ·exact(hR.qK hl).1
 have bF:NT (fun b=>M b\/∃s,s∉D/\bq st.slot G H s b) (iJ (gU st D)) G H w:=by
  refine⟨fun s g cs hs=> ?_,fun s e k g es hs=> ?_,fun s g K hs=> ?_,fun s s' b h1 h2=>hR.dj s s' b ((tL s b).1 h1).2 ((tL s' b).1 h2).2⟩
  ·have dP:=hs;rw[tS] at dP;split at dP
   ·rename_i h;obtain⟨_,g2,arr,g3,g4⟩:=hR.bx s g cs dP;have hc:=(hD s h).2;rw[dP] at hc;rw[hA];exact⟨fun hm=>hm.elim g2 (fun⟨s0,h0,hl⟩=>h0 (by rw[hR.dj s0 s _ hl (.inl ⟨g,cs,dP,rfl⟩)];exact h)),arr,g3,g4.same sm hc⟩
   ·cases dP
  ·have dP:=hs;rw[tS] at dP;split at dP
   ·rename_i h;obtain⟨g1,xs,g3,g4⟩:=hR.rw s e k g es dP;rw[hA];exact⟨fun b hb hm=>hm.elim (g1 b hb).2 (fun⟨s0,h0,hl⟩=>h0 (by rw[hR.dj s0 s _ hl (.inr (.inl ⟨e,k,g,es,dP,hb⟩))];exact h)),xs,g3,g4⟩
   ·cases dP
  ·have dP:=hs;rw[tS] at dP;split at dP
   ·rename_i h;obtain⟨g1,g2⟩:=hR.ob s g K dP;rw[hA];exact⟨fun b hb hm=>hm.elim (g1 b hb).2 (fun⟨s0,h0,hl⟩=>h0 (by rw[hR.dj s0 s _ hl (.inr (.inr ⟨g,K,dP,hb⟩))];exact h)),g2⟩
   ·cases dP
 have Xm:=hC (fun b=>M b\/∃s,s∉D/\bq st.slot G H s b) w G H (xs.toList.map a.eval) bF ⟨hM,hR.glo fun b hf hb=>⟨hb,fun s hl=>(hR.qK ((tL s b).1 hl).2).2.1 hf⟩⟩ (by simpa using f1) (fun i x v h1 h2=>by
  rw[hA]
  exact(f2 i x v h1 h2).same sm (fE.1 e2 x (eI h1)))
 unfold Oper.wp execOp;simp only[ho,resolve,Act.eval,Deferred.ofValue,invoke,callFunc,hf,hn,hb,px,tD,rW,program,Sem.run]
 have qV:(#[]++xs.map a.eval++#[]:Array Value)=(xs.toList.map a.eval).toArray:=by
  apply Array.ext';simp
 simp only[zL,py,Sem.run]
 show Oper.upon P o a K Q (.ok (.enter f (#[]++xs.map a.eval++#[])) w)
 rw[qV,Oper.upon_enter]
 refine Xm.mono fun e w' he=> ?_
 obtain⟨v,r,S',G',H',rfl,hr,hv,aql,hh,dC,uU,Xo⟩:=he;obtain⟨⟨vf,hcs⟩,Xp⟩:=hX r S' hr;obtain⟨bQ,RQ,hL'⟩:=hR.bu (fun s hs=>(hD s hs).1) aql hh dC uU Xo hcs
 have sm':GY D S' (mZ D S' st).slot G' (fun s=>if s∈D then G' s else G s) H' (fun s=>if s∈D then H' s else H s):=⟨fun s hs=>by rw[Xn (fun s hs=>(hD s hs).1),aj hs],fun s hs=>by simp[hs],fun s hs=>by simp[hs]⟩
 refine hK r _ _ _ v w' Xp bQ ⟨dC.size,fun l hl=> ?_⟩ (by rw[RQ];exact hv.same sm' vf);subst hl;refine⟨fun b hlt hn=>dC.block b ⟨hlt,fun s hl=> ?_⟩,fun s hs b hlt hl=> ?_⟩
 ·obtain⟨h1,h2⟩:=(tL s b).1 hl;exact hn s (hU s h1) h2
 ·by_cases h:s∈D
  ·obtain⟨s0,h0,l0⟩:=hL' s h b hlt hl;exact⟨s0,hU s0 h0,l0⟩
  ·refine⟨s,hs,?_⟩;unfold bq at hl⊢;rw[Xn (fun s hs=>(hD s hs).1),af h] at hl;simpa [h] using hl
end
structure AO where
 dst:Option Nat
 guard:Option (Nat×Bool)
 xc:Option (List Nat)->GX
 ev:Option (Bool×(St->List Nat->Option AV))
def St.mz (st:St)(ao:AO)(x:AV):St:=match ao.dst with
 |some d=>st.put d x
 |none=>st
def lS (x:Option AV)(want:Bool):Option Bool:=match x with
 |some (.w (.c (.v (.bool b))))=>some (b==want)
 |some (.bP [])=>some false
 |_=>none
def sG (U:Option (List Nat))(ao:AO)(K:St->Prop)(st:St):Prop:=match ao.guard with
 |none=>ao.xc U st fun x st'=>K (st'.mz ao x)
 |some (t,want)=>match lS (st.arg (.t t)) want with
  |some true=>ao.xc U st fun x st'=>K (st'.mz ao x)
  |some false=>K (st.mz ao (.bP []))
  |none=>False
def bB (U:Option (List Nat)):List AO->(St->Prop)->St->Prop
 |[],K,st=>K st
 |ao::r,K,st=>sG U ao (bB U r K) st
structure KL (P:Program)(N:Nat)(ops:Array Oper)(o:Oper)(ao:AO):Prop where
 xc:∀U,oT P U o (ao.xc U)
 dst:o.dst=ao.dst
 lt:∀d,ao.dst=some d->d<N
 guard:match o.guard,ao.guard with
  |none,none=>True
  |some (j,want),some (t,RR)=>want=RR/\(ops[j]?).bind (·.dst)=some t
  |_,_=>False
 ev:∀m e,ao.ev=some (m,e)->jU P m o e
section
variable {P:Program} {N:Nat} {F M:Nat->Prop} {w0:lj} {w:World} {st:St} {G:Nat->Gh} {H:Nat->Value} {a:Act}
variable {K:Act->World->Prop} {Q:Exit->Act->World->Prop} {dz:List AO} {id:Nat} {o:Oper} {ops:Array Oper} {os:List Oper}
theorem Rel.mz(h:Rel N F M w0 st G H a w){ao:AO}(hk:KL P N ops o ao){x:AV}{v:Value}(hv:VR w (aV M st.slot G H) st.slot G H x v):Rel N F M w0 (st.mz ao x) G H (a.put o.dst v) w:=by
 rw[hk.dst];unfold St.mz
 cases hd:ao.dst with
 |none=>exact h
 |some d=>exact h.put (hk.lt d hd) hv
theorem KM(st:St)(ao:AO)(x:AV):(st.mz ao x).slot=st.slot:=by
 unfold St.mz;split
 ·have hS:∀d,(st.put d x).S=st.S:=fun d=>by unfold St.put;split<;>rfl
  funext i;unfold St.slot;rw[hS]
 ·rfl
theorem aeH{ao:AO}(hk:KL P N ops o ao)(hR:Rel N F M w0 st G H a w):
  (ao.guard=none->Region.wanted o (yielded ops a.tmps)=true)/\∀t want b,ao.guard=some (t,want)->lS (st.arg (.t t)) want=some b->Region.wanted o (yielded ops a.tmps)=b:=by
 have hg:=hk.guard;unfold Region.wanted;refine⟨fun h0=> ?_,fun t want b h0 hb=> ?_⟩
 ·rw[h0] at hg
  cases RT:o.guard with
  |none=>rfl
  |some p=>rw[RT] at hg;exact hg.elim
 ·rw[h0] at hg
  cases RT:o.guard with
  |none=>rw[RT] at hg;exact hg.elim
  |some p=>
   obtain⟨j,RR⟩:=p;rw[RT] at hg;obtain⟨rfl,hj⟩:=hg
   show(yielded ops a.tmps j==some RR)=b
   unfold lS at hb;split at hb
   ·rename_i c hc
    have NL:st.sc (.t t)=some (.bool c):=by unfold St.sc;rw[hc];rfl
    obtain⟨e1,_⟩:=hR.sc (x:=.tmp t) (y:=.t t) rfl NL
    have ht:a.tmps[t]? =some (.bool c):=by
     simp only[Act.eval,Ng] at e1
     cases h:a.tmps[t]? with
     |none=>rw[h] at e1;simp[undef] at e1
     |some u=>rw[h] at e1;simp at e1;rw[e1]
    have hy:yielded ops a.tmps j=some c:=by
     unfold yielded;rw[hj];simp[ht]
    rw[hy];simp only[aA] at hb;subst hb;cases c<;>cases RR<;>rfl
   ·rename_i hc;simp only[aA] at hb;subst hb;obtain⟨arr,e1,e2,_⟩:=hR.arg (x:=.tmp t) (y:=.t t) rfl hc;have qV:arr=[]:=yb e2;subst qV
    have hy:yielded ops a.tmps j=none:=by
     unfold yielded;rw[hj];simp only[Act.eval,Ng] at e1
     cases h:a.tmps[t]? with
     |none=>simp[h]
     |some u=>rw[h] at e1;simp at e1;simp[h,e1]
    rw[hy];rfl
   ·cases hb
theorem GZ{U:Option (List Nat)}{ao:AO}(hk:KL P N ops o ao)(hR:Rel N F M w0 st G H a w){X:St->Prop}(hs:sG U ao X st)
  (hK:∀st' G' H' a' w',X st'->Rel N F M w0 st' G' H' a' w'->Ee U st.slot G H w st'.slot G' H' w'->K a' w'):if Region.wanted o (yielded ops a.tmps)=true then Oper.wp P o a w K Q else K (a.put o.dst undef) w:=by
 obtain⟨pH,jA⟩:=aeH hk hR
 have go:ao.xc U st (fun x st'=>X (st'.mz ao x))->Oper.wp P o a w K Q:=fun aqm=>
  hk.xc U N F M w0 w st G H a _ hR aqm K Q fun x st' G' H' v w' hX bQ hst hv=>hK _ G' H' _ w' hX (bQ.mz hk hv) (by rw[KM];exact hst)
 have stay:X (st.mz ao (.bP []))->K (a.put o.dst undef) w:=fun hX=>hK _ G H _ w hX (hR.mz hk (x:=.bP []) ⟨[],rfl,rfl,fun j x u h=>by simp at h⟩) (by rw[KM];exact NK ax fun _ _=>rfl)
 unfold sG at hs;split at hs
 ·rename_i hg;rw[aj (pH hg)];exact go hs
 ·rename_i t want hg;split at hs
  ·rename_i hb;rw[jA t want _ hg hb,aj rfl];exact go hs
  ·rename_i hb;rw[jA t want _ hg hb,af ai];exact stay hs
  ·exact hs.elim
inductive sH (P:Program)(N:Nat)(ops:Array Oper):List Oper->List AO->Prop where
 |nil:sH P N ops [] []
 |cons {o:Oper} {ao:AO} {os:List Oper} {dz:List AO} (h:KL P N ops o ao) (r:sH P N ops os dz):sH P N ops (o::os) (ao::dz)
theorem aeI(hk:sH P N ops os dz):∀{st:St} {G:Nat->Gh} {H:Nat->Value} {a:Act} {w:World} {K:St->Prop},Rel N F M w0 st G H a w->bB none dz K st->
  (∀st' G' H' a' w',K st'->Rel N F M w0 st' G' H' a' w'->Q .normal a' w')->wpList P ops Q os a w:=by
 induction hk with
 |nil=>intro st G H a w K hR hs hQ;exact hQ st G H a w hs hR
 |cons h r ih=>
  intro st G H a w K hR hs hQ;have:=GZ (Q:=Q) h hR hs (K:=wpList P ops Q _) (fun st' G' H' a' w' hX bQ _=>ih bQ hX hQ);unfold wpList;split
  ·rename_i hw;rw[aj hw] at this;exact .inl this
  ·rename_i hw;rw[af hw] at this;exact this
theorem aqn(hk:sH P N ops ops.toList dz){K:St->Prop}(hR:Rel N F M w0 st G H a w)(hs:bB none dz K st)
  (hQ:∀st' G' H' a' w',K st'->Rel N F M w0 st' G' H' a' w'->Q .normal a' w'):(Code.region id ops false).wp P Q a w:=wp_region_list (aeI hk hR hs hQ)
def aW (U:List Nat)(dz tl:List AO)(K:St->Prop):OT->Bool->St->Prop
 | .nil,_,st=>bB none tl K st
 | .take i t,bu,st=>match dz[i]? with
  |none=>False
  |some ao=>match ao.ev with
   |none=>False
   |some (mem,ev)=>(mem=true->bu=false)/\match ao.guard with
    |none=>∃x,ev st U=some x/\aW U dz tl K t bu (st.mz ao x)
    |some (g,want)=>match lS (st.arg (.t g)) want with
     |some true=>∃x,ev st U=some x/\aW U dz tl K t bu (st.mz ao x)
     |some false=>aW U dz tl K t bu (st.mz ao (.bP []))
     |none=>False
 | .move i t,_,st=>match dz[i]? with
  |none=>False
  |some ao=>sG (some U) ao (aW U dz tl K t true) st
 | .fork i j ti tj,_,st=>(match dz[i]? with
  |none=>False
  |some ao=>sG (some U) ao (aW U dz tl K ti true) st)/\match dz[j]? with
  |none=>False
  |some ao=>sG (some U) ao (aW U dz tl K tj true) st
 | .wR i j k ti tj tk,_,st=>(match dz[i]? with
  |none=>False
  |some ao=>sG (some U) ao (aW U dz tl K ti true) st)/\(match dz[j]? with
  |none=>False
  |some ao=>sG (some U) ao (aW U dz tl K tj true) st)/\match dz[k]? with
  |none=>False
  |some ao=>sG (some U) ao (aW U dz tl K tk true) st
theorem sH.get(hk:sH P N ops os dz):∀{i:Nat} {ao:AO},dz[i]? =some ao->∃o,os[i]? =some o/\KL P N ops o ao:=by
 induction hk with
 |nil=>intro i ao h;simp at h
 |cons h r ih=>
  intro i ao hi
  cases i with
  |zero=>simp at hi;subst hi;exact⟨_,rfl,h⟩
  |succ i=>exact ih (by simpa using hi)
theorem sH.drop(hk:sH P N ops os dz):∀n,sH P N ops (os.drop n) (dz.drop n):=by
 induction hk with
 |nil=>intro n;simp;exact .nil
 |cons h r ih=>
  intro n
  cases n with
  |zero=>exact .cons h r
  |succ n=>exact ih n
theorem KN{U:List Nat}{S0 S S':Nat->Slot}{G0 G':Nat->Gh}{H0 H':Nat->Value}{wr w':World}(hz:wr.heap.size<=w.heap.size)(hA:dc U S0 G0 H0 wr w)(hL:∀s∈U,∀b,b<wr.heap.size->bq S G H s b->∃s0∈U,bq S0 G0 H0 s0 b)
  (hst:Ee (some U) S G H w S' G' H' w'):wr.heap.size<=w'.heap.size/\dc U S0 G0 H0 wr w'/\∀s∈U,∀b,b<wr.heap.size->bq S' G' H' s b->∃s0∈U,bq S0 G0 H0 s0 b:=by
 obtain⟨h1,h2⟩:=hst.2 U rfl
 refine⟨bm hz hst.1,fun b hlt hn=> ?_,fun s hs b hlt hl=>by
  obtain⟨s1,eC,cD⟩:=h2 s hs b (ju hlt hz) hl
  exact hL s1 eC b hlt cD⟩
 rw[h1 b (ju hlt hz) (fun s hs hl=>by
  obtain⟨s1,eC,cD⟩:=hL s hs b hlt hl
  exact hn s1 eC cD)]
 exact hA b hlt hn
theorem KO{S:World->Prop}(h:if Region.wanted o (yielded ops a.tmps)=true then Oper.wp P o a w (fun a' w'=>S w'/\K a' w') Q else S w/\K (a.put o.dst undef) w):
  if Region.wanted o (yielded ops a.tmps)=true then Oper.wp P o a w (fun a' w'=>S w'/\K a' w') Q else S w/\K (a.put o.dst undef) w:=h
theorem Cl {l:List Oper}{Q:Exit->Act->World->Prop}{dz:List AO}{n:Nat}(hk:sH P N l.toArray l dz){U:List Nat}{K:St->Prop}{S0:Nat->Slot}{G0:Nat->Gh}{H0:Nat->Value}{wr:World}
  (hQ:∀st' G' H' a' w',K st'->Rel N F M w0 st' G' H' a' w'->Q .normal a' w'):∀(t:OT) (bu:Bool) {st:St} {G:Nat->Gh} {H:Nat->Value} {a:Act} {w:World},Rel N F M w0 st G H a w->aW U dz (dz.drop n) K t bu st->
   wr.heap.size<=w.heap.size->dc U S0 G0 H0 wr w->(∀s∈U,∀b,b<wr.heap.size->bq st.slot G H s b->∃s0∈U,bq S0 G0 H0 s0 b)->(bu=false->w=wr/\st.slot=S0/\G=G0/\H=H0)->
   jP P l.toArray Q (fun w'=>wr.heap.size<=w'.heap.size/\dc U S0 G0 H0 wr w') (wpList P l.toArray Q (l.drop n)) l t a w
 | .nil,bu,st,G,H,a,w,hR,hs,hz,hA,hL,h0=>aeI (hk.drop n) hR hs hQ
 | .take i t,bu,st,G,H,a,w,hR,hs,hz,hA,hL,h0=>by
  unfold aW at hs;split at hs
  ·exact hs.elim
  rename_i ao vg;split at hs
  ·exact hs.elim
  rename_i mem ev aI;obtain⟨Ai,hs⟩:=hs;obtain⟨o,ho,cB⟩:=hk.get vg;obtain⟨pH,jA⟩:=aeH cB hR;have Aj:=cB.ev mem ev aI
  have yes:Region.wanted o (yielded l.toArray a.tmps)=true->(∃x,ev st U=some x/\aW U dz (dz.drop n) K t bu (st.mz ao x))->
    jP P l.toArray Q (fun w'=>wr.heap.size<=w'.heap.size/\dc U S0 G0 H0 wr w') (wpList P l.toArray Q (l.drop n)) l (.take i t) a w:=by
   rintro hw ⟨x,hx,hs⟩;obtain⟨v,hv,hrun⟩:=Aj N F M w0 w st G H a U x hR hx;refine⟨o,v,ho,.inl ⟨hw,fun w' hw'=>hrun w' fun hm=> ?_⟩,Cl hk hQ t bu (hR.mz cB hv) hs hz hA (by rw[KM];exact hL) (fun hm=>by rw[KM];exact h0 hm)⟩;obtain⟨rfl,e1,rfl,rfl⟩:=h0 (Ai hm);rw[e1];exact hw'.2
  have no:Region.wanted o (yielded l.toArray a.tmps)=false->aW U dz (dz.drop n) K t bu (st.mz ao (.bP []))->
    jP P l.toArray Q (fun w'=>wr.heap.size<=w'.heap.size/\dc U S0 G0 H0 wr w') (wpList P l.toArray Q (l.drop n)) l (.take i t) a w:=by
   intro hw hs;exact⟨o,undef,ho,.inr ⟨hw,rfl⟩,Cl hk hQ t bu (hR.mz cB (x:=.bP []) ⟨[],rfl,rfl,fun j x u h=>by simp at h⟩) hs hz hA (by rw[KM];exact hL) (fun hm=>by rw[KM];exact h0 hm)⟩
  split at hs
  ·rename_i hg;exact yes (pH hg) hs
  ·rename_i g want hg;split at hs
   ·rename_i hb;exact yes (jA g want _ hg hb) hs
   ·rename_i hb;exact no (jA g want _ hg hb) hs
   ·exact hs.elim
 | .move i t,bu,st,G,H,a,w,hR,hs,hz,hA,hL,h0=>by
  unfold aW at hs;split at hs
  ·exact hs.elim
  rename_i ao vg;obtain⟨o,ho,cB⟩:=hk.get vg
  exact⟨o,ho,GZ (Q:=Q) cB hR hs (K:=fun a' w'=>(wr.heap.size<=w'.heap.size/\dc U S0 G0 H0 wr w')/\jP P l.toArray Q (fun w'=>wr.heap.size<=w'.heap.size/\dc U S0 G0 H0 wr w') (wpList P l.toArray Q (l.drop n)) l t a' w') (fun st' G' H' a' w' hX bQ hst=>by
   obtain⟨g1,g2,g3⟩:=KN hz hA hL hst
   exact⟨⟨g1,g2⟩,Cl hk hQ t true bQ hX g1 g2 g3 (fun h=>by cases h)⟩)|>KO⟩
 | .fork i j ti tj,bu,st,G,H,a,w,hR,hs,hz,hA,hL,h0=>by
  unfold aW at hs;obtain⟨h1,h2⟩:=hs;refine⟨?_,?_⟩
  ·split at h1
   ·exact h1.elim
   rename_i ao vg;obtain⟨o,ho,cB⟩:=hk.get vg
   exact⟨o,ho,GZ (Q:=Q) cB hR h1 (K:=fun a' w'=>(wr.heap.size<=w'.heap.size/\dc U S0 G0 H0 wr w')/\jP P l.toArray Q (fun w'=>wr.heap.size<=w'.heap.size/\dc U S0 G0 H0 wr w') (wpList P l.toArray Q (l.drop n)) l ti a' w') (fun st' G' H' a' w' hX bQ hst=>by
    obtain⟨g1,g2,g3⟩:=KN hz hA hL hst
    exact⟨⟨g1,g2⟩,Cl hk hQ ti true bQ hX g1 g2 g3 (fun h=>by cases h)⟩)|>KO⟩
  ·split at h2
   ·exact h2.elim
   rename_i ao vg;obtain⟨o,ho,cB⟩:=hk.get vg
   exact⟨o,ho,GZ (Q:=Q) cB hR h2 (K:=fun a' w'=>(wr.heap.size<=w'.heap.size/\dc U S0 G0 H0 wr w')/\jP P l.toArray Q (fun w'=>wr.heap.size<=w'.heap.size/\dc U S0 G0 H0 wr w') (wpList P l.toArray Q (l.drop n)) l tj a' w') (fun st' G' H' a' w' hX bQ hst=>by
    obtain⟨g1,g2,g3⟩:=KN hz hA hL hst
    exact⟨⟨g1,g2⟩,Cl hk hQ tj true bQ hX g1 g2 g3 (fun h=>by cases h)⟩)|>KO⟩
 | .wR i j k ti tj tk,bu,st,G,H,a,w,hR,hs,hz,hA,hL,h0=>by
  unfold aW at hs;obtain⟨h1,h2,h3⟩:=hs;refine⟨?_,?_,?_⟩
  ·split at h1
   ·exact h1.elim
   rename_i ao vg;obtain⟨o,ho,cB⟩:=hk.get vg
   exact⟨o,ho,GZ (Q:=Q) cB hR h1 (K:=fun a' w'=>(wr.heap.size<=w'.heap.size/\dc U S0 G0 H0 wr w')/\jP P l.toArray Q (fun w'=>wr.heap.size<=w'.heap.size/\dc U S0 G0 H0 wr w') (wpList P l.toArray Q (l.drop n)) l ti a' w') (fun st' G' H' a' w' hX bQ hst=>by
    obtain⟨g1,g2,g3⟩:=KN hz hA hL hst
    exact⟨⟨g1,g2⟩,Cl hk hQ ti true bQ hX g1 g2 g3 (fun h=>by cases h)⟩)|>KO⟩
  ·split at h2
   ·exact h2.elim
   rename_i ao vg;obtain⟨o,ho,cB⟩:=hk.get vg
   exact⟨o,ho,GZ (Q:=Q) cB hR h2 (K:=fun a' w'=>(wr.heap.size<=w'.heap.size/\dc U S0 G0 H0 wr w')/\jP P l.toArray Q (fun w'=>wr.heap.size<=w'.heap.size/\dc U S0 G0 H0 wr w') (wpList P l.toArray Q (l.drop n)) l tj a' w') (fun st' G' H' a' w' hX bQ hst=>by
    obtain⟨g1,g2,g3⟩:=KN hz hA hL hst
    exact⟨⟨g1,g2⟩,Cl hk hQ tj true bQ hX g1 g2 g3 (fun h=>by cases h)⟩)|>KO⟩
  ·split at h3
   ·exact h3.elim
   rename_i ao vg;obtain⟨o,ho,cB⟩:=hk.get vg
   exact⟨o,ho,GZ (Q:=Q) cB hR h3 (K:=fun a' w'=>(wr.heap.size<=w'.heap.size/\dc U S0 G0 H0 wr w')/\jP P l.toArray Q (fun w'=>wr.heap.size<=w'.heap.size/\dc U S0 G0 H0 wr w') (wpList P l.toArray Q (l.drop n)) l tk a' w') (fun st' G' H' a' w' hX bQ hst=>by
    obtain⟨g1,g2,g3⟩:=KN hz hA hL hst
    exact⟨⟨g1,g2⟩,Cl hk hQ tk true bQ hX g1 g2 g3 (fun h=>by cases h)⟩)|>KO⟩
theorem aqo{l:List Oper}(n:Nat)(t:OT)(U:List Nat)(hk:sH P N l.toArray l dz)(hm:P.follows .mixedOrders=true)(hB:(Region.noSelect l.toArray && se .any l.toArray n && pz .any l.toArray n t n (Array.replicate l.toArray.size false))=true)
  {K:St->Prop} (hR:Rel N F M w0 st G H a w) (hs:aW U dz (dz.drop n) K t false st) (hQ:∀st' G' H' a' w',K st'->Rel N F M w0 st' G' H' a' w'->Q .normal a' w'):(Code.region id l.toArray true).wp P Q a w:=by
 have bQ:Rel N F M w0 st G H a w.drew:=hR.grow rfl rfl rfl ax (fun _ _=>rfl);refine Kw n t (fun w'=>w.drew.heap.size<=w'.heap.size/\dc U st.slot G H w.drew w') hm rfl hB ⟨cP _,fun _ _ _=>rfl⟩ ?_;exact Cl (Q:=NoPanic Q) hk (fun st' G' H' a' w' hK hR=>NoPanic.normal (hQ st' G' H' a' w' hK hR)) t false bQ hs ax (fun _ _ _=>rfl) (fun s hs _ _ h=>⟨s,hs,h⟩) (fun _=>⟨rfl,rfl,rfl,rfl⟩)
end
def mA (s g:Nat)(es:List (List AC)):AC->AC
 | .own s' g'=>if s'=s/\g'=g then .sl es else .own s' g'
 |x=>x
def RU (s g:Nat)(es:List (List AC)):AW->AW
 | .c x=> .c (mA s g es x)
 | .agg cs=> .agg (cs.map (mA s g es))
def yx (s g:Nat)(es:List (List AC)):AV->AV
 | .w x=> .w (RU s g es x)
 | .bP vs=> .bP (vs.map (RU s g es))
 |x=>x
def pI (s g:Nat)(es:List (List AC)):Slot->Slot
 | .box g' cs=> .box g' (cs.map (mA s g es))
 |x=>x
def mapA {α:Type}(f:Nat->α->α)(l:List (Nat×α)):List (Nat×α):=l.map fun p=>(p.1,f p.1 p.2)
theorem NV {α:Type}(f:Nat->α->α):∀(l:List (Nat×α)) (i:Nat),aJ (mapA f l) i=(aJ l i).map (f i)
 |[],i=>rfl
 |(j,x)::l,i=>by
  have ih:=NV f l i;unfold mapA at ih⊢;simp only[dJ,aJ,ih];by_cases h:j=i
  ·subst h;simp
  ·simp[h]
def St.freeze (st:St)(s:Nat):St:=match st.slot s with
 | .row _ k g es=>if 0<k then⟨mapA (fun _=>yx s g es) st.V,mapA (fun _=>yx s g es) st.L,mapA (fun i x=>if i=s then .dead g else pI s g es x) st.S⟩ else st
 |_=>st
section
variable {P:Program} {N:Nat} {F M:Nat->Prop} {w0:lj} {w:World} {st:St} {G:Nat->Gh} {H:Nat->Value} {a:Act}
theorem Rel.freeze (h:Rel N F M w0 st G H a w)(s:Nat):Rel N F M w0 (st.freeze s) G H a w:=by
 unfold St.freeze;split
 case h_2=>exact h
 rename_i e k g es hs;split
 case isFalse=>exact h
 rename_i aX
 have bF:∀i,(St.mk (mapA (fun _=>yx s g es) st.V) (mapA (fun _=>yx s g es) st.L) (mapA (fun i x=>if i=s then .dead g else pI s g es x) st.S)).slot i=if i=s then .dead g else pI s g es (st.slot i):=by
  intro i;unfold St.slot;dsimp only;rw[NV]
  cases hi:aJ st.S i with
  |some x=>rfl
  |none=>
   by_cases eh:i=s
   ·subst eh;unfold St.slot at hs;rw[hi] at hs;cases hs
   ·simp[eh,pI]
 generalize hst:(St.mk (mapA (fun _=>yx s g es) st.V) (mapA (fun _=>yx s g es) st.L) (mapA (fun i x=>if i=s then .dead g else pI s g es x) st.S))=st' at bF⊢
 have pF:∀i,(st'.slot i).gen=(st.slot i).gen:=fun i=>by
  rw[bF];by_cases eh:i=s
  ·subst eh;rw[aj rfl,hs];rfl
  ·rw[af eh];cases st.slot i<;>rfl
 have bg:∀i e2 k2 g2 eY,st'.slot i=.row e2 k2 g2 eY↔i≠s/\st.slot i=.row e2 k2 g2 eY:=fun i e2 k2 g2 eY=>by
  rw[bF];by_cases eh:i=s
  ·simp[eh]
  ·rw[af eh];cases st.slot i<;>simp[pI,eh]
 have gT:∀i g2 pG,st'.slot i=.box g2 pG↔∃cs,st.slot i=.box g2 cs/\pG=cs.map (mA s g es):=fun i g2 pG=>by
  rw[bF];by_cases eh:i=s
  ·subst eh;rw[aj rfl,hs];simp
  ·rw[af eh]
   cases hq:st.slot i with
   |dead g=>simp[pI]
   |row e k g es=>simp[pI]
   |obj g K=>simp[pI]
   |box g3 cs3=>
    simp only[pI,Slot.box.injEq];constructor
    ·rintro⟨rfl,rfl⟩;exact⟨cs3,⟨rfl,rfl⟩,rfl⟩
    ·rintro⟨cs,⟨rfl,rfl⟩,rfl⟩;exact⟨rfl,rfl⟩
 have uW:∀i g2 K2,st'.slot i=.obj g2 K2↔i≠s/\st.slot i=.obj g2 K2:=fun i g2 K2=>by
  rw[bF];by_cases eh:i=s
  ·simp[eh]
  ·rw[af eh];cases st.slot i<;>simp[pI,eh]
 have nK:∀i b,bq st'.slot G H i b->i≠s/\bq st.slot G H i b:=fun i b hl=>by
  rcases hl with⟨g2,pG,h1,h2⟩|⟨e2,k2,g2,eY,h1,h2⟩|⟨g2,K2,h1,h2⟩
  ·obtain⟨cs,h3,_⟩:=(gT i g2 pG).1 h1;refine⟨fun e=> ?_,.inl ⟨g2,cs,h3,h2⟩⟩;subst e;rw[hs] at h3;cases h3
  ·obtain⟨h3,h4⟩:=(bg i e2 k2 g2 eY).1 h1;exact⟨h3,.inr (.inl ⟨e2,k2,g2,eY,h4,h2⟩)⟩
  ·obtain⟨h3,h4⟩:=(uW i g2 K2).1 h1;exact⟨h3,.inr (.inr ⟨g2,K2,h4,h2⟩)⟩
 have Cg:∀b,aV M st'.slot G H b->aV M st.slot G H b:=fun b hb=>by
  rcases hb with hm|⟨i,hl⟩
  ·exact .inl hm
  ·exact .inr ⟨i,(nK i b hl).2⟩
 have qW:∀{z:AC} {v:Value},IR w (aV M st.slot G H) z v->IR w (aV M st'.slot G H) z v:=fun hz=>hz.mono ax (fun b _ hb=>Cg b hb) (fun _ _ _=>rfl)
 have aqp:IR w (aV M st'.slot G H) (.sl es) (H s):=by
  obtain⟨hn,xs,how,lQ⟩:=h.rw s e k g es hs;have hl:=how.1
  rcases how.2 with⟨e1,e2⟩|⟨gg,cap,cur,e1,_,RG,ou,Cm,_,_⟩
  ·have h0:es=[]:=yb e2;subst h0;rw[e1];exact IR.sl 0 [] none 0 (fun _ _=>undef) ax ai (by intro i row h;simp at h) (by intro i row j x h;simp at h) (by intro i row j h;simp at h)
  ·rw[e1];have hcell:=how.cells (g:=gg) (by rw[e1];rfl)
   have aT:(H s).ownBlock=some gg:=by rw[e1];rfl
   have Xq:¬aV M st'.slot G H gg:=fun hh=>by
    rcases hh with hm|⟨i,iy⟩
    ·exact(hn gg aT).2 hm
    ·obtain⟨d1,l1⟩:=nK i gg iy;exact d1 (h.dj i s gg l1 (.inr (.inl ⟨e,k,g,es,hs,aT⟩)))
   exact NR rfl (lQ.map fun x u hx=>qW hx) hl Xq ou (by simp only[maxLen] at Cm;omega) (fun j u hj=>by
    have:=hcell j u hj
    rwa[Addr.add_mid,eP] at this)
 have hC:∀{x:AC} {u:Value},CR w (aV M st.slot G H) st.slot G H x u->CR w (aV M st'.slot G H) st'.slot G H (mA s g es x) u:=by
  intro x u hx
  cases x with
  |v x=>exact qW hx
  |sl es=>exact qW hx
  |fV f cn=>exact qW hx
  |cK s' g'=>
   obtain⟨h1,h2,h3⟩:=hx;exact⟨h1,by rw[pF];exact h2,fun K he=>h3 K ((uW s' g' K).1 he).2⟩
  |part s' g' i'=>
   obtain⟨h1,h2,h3⟩:=hx;exact⟨h1,by rw[pF];exact h2,fun K he=>h3 K ((uW s' g' K).1 he).2⟩
  |cls f cn=>
   obtain⟨ps,h1,h2,h3⟩:=hx;refine⟨ps,h1,h2,fun i q p e1 e2=> ?_⟩;obtain⟨h4,h5⟩:=h3 i q p e1 e2;exact⟨by rw[pF];exact h4,fun cs he=>by obtain⟨cs',g1,_⟩:=(gT q.1 q.2 cs).1 he;exact h5 cs' g1⟩
  |own s' g'=>
   obtain⟨h1,h2,h3⟩:=hx;unfold mA;dsimp only;split
   ·rename_i hh;obtain⟨rfl,rfl⟩:=hh;rw[h3 e k es hs];exact aqp
   ·exact⟨h1,by rw[pF];exact h2,fun e2 k2 eY he=>h3 e2 k2 eY ((bg s' e2 k2 g' eY).1 he).2⟩
 have hCs:∀{cs:List AC} {us:List Value},cH w (aV M st.slot G H) st.slot G H cs us->cH w (aV M st'.slot G H) st'.slot G H (cs.map (mA s g es)) us:=fun hc=>
  ⟨by rw[dI];exact hc.1,fun j x u e1 e2=>by
   rw[fD,bU] at e1;obtain⟨y,hy,rfl⟩:=e1
   exact hC (hc.2 j y u hy e2)⟩
 have hW:∀{x:AW} {v:Value},WR w (aV M st.slot G H) st.slot G H x v->WR w (aV M st'.slot G H) st'.slot G H (RU s g es x) v:=by
  intro x v hx
  cases x with
  |c x=>exact hC hx
  |agg cs=>
   obtain⟨arr,e,hc⟩:=hx;exact⟨arr,e,hCs hc⟩
 have hV:∀{x:AV} {v:Value},VR w (aV M st.slot G H) st.slot G H x v->VR w (aV M st'.slot G H) st'.slot G H (yx s g es x) v:=by
  intro x v hx
  cases x with
  |w x=>exact hW hx
  |bP vs=>
   obtain⟨arr,e,hl,hc⟩:=hx
   exact⟨arr,e,by rw[dI];exact hl,fun j x u e1 e2=>by
    rw[fD,bU] at e1;obtain⟨y,hy,rfl⟩:=e1
    exact hW (hc j y u hy e2)⟩
  |pb s' g' off=>exact⟨by rw[pF];exact hx.1,fun cs he=>by obtain⟨cs',h1,_⟩:=(gT s' g' cs).1 he;exact hx.2 cs' h1⟩
  |pr s' g' i off=>exact⟨by rw[pF];exact hx.1,fun e2 k2 eY he=>hx.2 e2 k2 eY ((bg s' e2 k2 g' eY).1 he).2⟩
  |pi cs off=>
   obtain⟨b,o,e1,hlt,hA,us,hl,hc⟩:=hx;exact⟨b,o,e1,hlt,fun hb=>hA (Cg b hb),us,hl,fun j x u h1 h2=>⟨qW (hc j x u h1 h2).1,(hc j x u h1 h2).2⟩⟩
  |u=>trivial
 refine⟨h.sz,h.df,h.fr,⟨fun i=>by rw[pF];exact h.hs.gen i,fun i e2 k2 g2 eY h1 h2=>h.hs.row i e2 k2 g2 eY ((bg i e2 k2 g2 eY).1 h1).2 h2,fun i g2 pG h1 h2=> ?_,fun i g2 K2 h1 h2=>h.hs.obj i g2 K2 ((uW i g2 K2).1 h1).2 h2⟩,h.lo,fun i x hx=> ?_,fun i g2 pG hi=> ?_,fun i e2 k2 g2 eY hi=> ?_,fun i g2 K2 hi=> ?_,fun i j b h1 h2=>h.dj i j b (nK i b h1).2 (nK j b h2).2⟩
 ·obtain⟨cs,h3,_⟩:=(gT i g2 pG).1 h1;exact h.hs.box i g2 cs h3 h2
 ·have:∃y,st.get i=some y/\x=yx s g es y:=by
   subst hst;unfold St.get at hx⊢;dsimp only at hx;rw[NV,NV] at hx
   cases h1:aJ st.V i with
   |some y=>rw[h1] at hx;simp at hx;exact⟨y,rfl,hx.symm⟩
   |none=>
    rw[h1] at hx;dsimp only[Option.map_none] at hx;rw[bU] at hx;obtain⟨y,hy,rfl⟩:=hx;exact⟨y,hy,rfl⟩
  obtain⟨y,hy,rfl⟩:=this;exact hV (h.tm i y hy)
 ·obtain⟨cs,h3,rfl⟩:=(gT i g2 pG).1 hi;obtain⟨f1,f2,arr,f3,f4⟩:=h.bx i g2 cs h3;exact⟨f1,f2,arr,f3,hCs f4⟩
 ·obtain⟨_,h3⟩:=(bg i e2 k2 g2 eY).1 hi;obtain⟨f1,xs,f2,f3⟩:=h.rw i e2 k2 g2 eY h3;exact⟨f1,xs,f2,f3.map fun x u hx=>qW hx⟩
 ·obtain⟨_,h3⟩:=(uW i g2 K2).1 hi;obtain⟨f1,f2⟩:=h.ob i g2 K2 h3;exact⟨f1,K2.mono f2 ax (fun b _ hb=>Cg b hb) (fun _ _ _=>rfl)⟩
theorem Rel.aqq {s i b:Nat}(hl:bq (st.freeze s).slot G H i b):bq st.slot G H i b:=by
 unfold St.freeze at hl;split at hl
 case h_2=>exact hl
 rename_i e k g es hs;split at hl
 case isFalse=>exact hl
 have bF:∀i,(St.mk (mapA (fun _=>yx s g es) st.V) (mapA (fun _=>yx s g es) st.L) (mapA (fun i x=>if i=s then .dead g else pI s g es x) st.S)).slot i=if i=s then .dead g else pI s g es (st.slot i):=by
  intro i;unfold St.slot;dsimp only;rw[NV]
  cases hi:aJ st.S i with
  |some x=>rfl
  |none=>
   by_cases eh:i=s
   ·subst eh;unfold St.slot at hs;rw[hi] at hs;cases hs
   ·simp[eh,pI]
 have key:∀x,pI s g es x=x\/∃g' cs cs',x=.box g' cs/\pI s g es x=.box g' cs':=fun x=>by
  cases x with
  |dead g=>exact .inl rfl
  |row e k g es=>exact .inl rfl
  |obj g K=>exact .inl rfl
  |box g' cs=>exact .inr ⟨g',cs,_,rfl,rfl⟩
 rcases hl with⟨g2,pG,h1,h2⟩|⟨e2,k2,g2,eY,h1,h2⟩|⟨g2,K2,h1,h2⟩
 ·rw[bF] at h1;split at h1
  ·cases h1
  ·rcases key (st.slot i) with hk|⟨g',cs,cs',hk,ow⟩
   ·rw[hk] at h1;exact .inl ⟨g2,pG,h1,h2⟩
   ·rw[ow] at h1;cases h1;exact .inl ⟨_,cs,hk,h2⟩
 ·rw[bF] at h1;split at h1
  ·cases h1
  ·rcases key (st.slot i) with hk|⟨g',cs,cs',hk,ow⟩
   ·rw[hk] at h1;exact .inr (.inl ⟨e2,k2,g2,eY,h1,h2⟩)
   ·rw[ow] at h1;cases h1
 ·rw[bF] at h1;split at h1
  ·cases h1
  ·rcases key (st.slot i) with hk|⟨g',cs,cs',hk,ow⟩
   ·rw[hk] at h1;exact .inr (.inr ⟨g2,K2,h1,h2⟩)
   ·rw[ow] at h1;cases h1
end
def pJ:List Nat->St->St
 |[],st=>st
 |s::r,st=>pJ r (st.freeze s)
section
variable {P:Program} {N:Nat} {F M:Nat->Prop} {w0:lj} {w:World} {G:Nat->Gh} {H:Nat->Value} {a:Act}
theorem Rel.pJ:∀(D:List Nat) {st:St},Rel N F M w0 st G H a w->Rel N F M w0 (Ab.pJ D st) G H a w
 |[],_,h=>h
 |s::r,_,h=>Rel.pJ r (h.freeze s)
theorem Xr:∀(D:List Nat) {st:St} {i b:Nat},bq (Ab.pJ D st).slot G H i b->bq st.slot G H i b
 |[],_,_,_,h=>h
 |s::r,_,_,_,h=>Rel.aqq (Xr r h)
theorem aqr {U:Option (List Nat)}{o:Oper}{xc:GX}(D:List Nat)(h:oT P U o xc):oT P U o (fun st X=>xc (Ab.pJ D st) X):=by
 intro N F M w0 w st G H a X hR hs K Q hK;refine h N F M w0 w (Ab.pJ D st) G H a X (hR.pJ D) hs K Q (fun x st' G' H' v w' hX bQ hst hv=>hK x st' G' H' v w' hX bQ ⟨hst.1,fun l hl=>⟨fun b hlt hn=>(hst.2 l hl).1 b hlt fun s hs hh=>hn s hs (Xr D hh),fun s hs b hlt nK=> ?_⟩⟩ hv);obtain⟨s0,h0,l0⟩:=(hst.2 l hl).2 s hs b hlt nK;exact⟨s0,h0,Xr D l0⟩
end
def St.mB (st:St)(b off s e k:Nat):St:=match st.slot b,aJ st.S s with
 | .box g cs,some _=>match cs[off]? with
  |some (.v (.slice none 0 0))=>if b=s then st else(st.cr s (.row e k ((st.slot s).gen+1) [])).cr b (.box g (cs.set off (.own s ((st.slot s).gen+1))))
  |_=>st
 |_,_=>st
section
variable {P:Program} {N:Nat} {F M:Nat->Prop} {w0:lj} {w:World} {st:St} {G:Nat->Gh} {H:Nat->Value} {a:Act}
theorem Rel.mB (h:Rel N F M w0 st G H a w)(b off s e k:Nat):∃H',Rel N F M w0 (st.mB b off s e k) G H' a w:=by
 unfold St.mB;split
 case h_2=>exact⟨H,h⟩
 rename_i g cs y hb hs;split
 case h_2=>exact⟨H,h⟩
 rename_i aeJ;split
 ·exact⟨H,h⟩
 rename_i hbs
 have bF:(aJ st.S s).isSome=true:=by rw[hs];rfl
 have fq:(aJ st.S b).isSome=true:=by
  unfold St.slot at hb
  cases hq:aJ st.S b with
  |some y=>rfl
  |none=>rw[hq] at hb;cases hb
 obtain⟨h1,-⟩:=h.newRow (w':=w) s bF (e:=e) (k:=k) (es:=[]) rfl (kz w 0 e k) (.inl ⟨rfl,rfl,rfl,cP _,fun _ _ _=>rfl⟩) (fun b hb=>by simp[Value.ownBlock] at hb) (fun w2 A2 hm=>⟨fun i row h=>by simp at h,fun i row j x u h=>by simp at h⟩);refine⟨fun i=>if i=s then(.slice none 0 0:Value) else H i,?_⟩;generalize hH:(fun i=>if i=s then(.slice none 0 0:Value) else H i)=H' at h1⊢
 have El:H' s=.slice none 0 0:=by subst hH;simp
 generalize hst:st.cr s (.row e k ((st.slot s).gen+1) [])=st1 at h1⊢
 have cY:st1.slot b=.box g cs:=by subst hst;rw[St.mX,af (by simp[hbs])];exact hb
 have eC:st1.slot s=.row e k ((st.slot s).gen+1) []:=by subst hst;rw[St.mX,aj ⟨rfl,bF⟩]
 have Xs:(aJ st1.S b).isSome=true:=by
  subst hst;unfold St.cr;dsimp only;rw[WW,af hbs];exact fq
 obtain⟨f1,f2,arr,f3,f4⟩:=h1.bx b g cs cY;have Cg:=(bN.1 aeJ).1;have hlen:arr.length=cs.length:=f4.1
 have qV:arr[off]? =some (.slice none 0 0):=by
  obtain⟨q,hq⟩:∃q,arr[off]? =some q:=⟨arr[off]' ab,cz ab⟩
  have:=f4.2 off _ _ aeJ hq;rw[hq];cases this;rfl
 have jX:∀i,(st1.cr b (.box g (cs.set off (.own s ((st.slot s).gen+1))))).slot i=if i=b then .box g (cs.set off (.own s ((st.slot s).gen+1))) else st1.slot i:=fun i=>by
  rw[St.mX];by_cases hi:i=b
  ·subst hi;rw[aj ⟨rfl,Xs⟩,aj rfl]
  ·rw[af (by simp[hi]),af hi]
 generalize KP:st1.cr b (.box g (cs.set off (.own s ((st.slot s).gen+1))))=st2 at jX⊢
 have pF:∀i,(st2.slot i).gen=(st1.slot i).gen:=fun i=>by
  rw[jX];by_cases hi:i=b
  ·subst hi;rw[aj rfl,cY];rfl
  ·rw[af hi]
 have bg:∀i e2 k2 g2 eY,st2.slot i=.row e2 k2 g2 eY↔st1.slot i=.row e2 k2 g2 eY:=fun i e2 k2 g2 eY=>by
  rw[jX];by_cases hi:i=b
  ·subst hi;rw[aj rfl,cY];simp
  ·rw[af hi]
 have uW:∀i g2 K2,st2.slot i=.obj g2 K2↔st1.slot i=.obj g2 K2:=fun i g2 K2=>by
  rw[jX];by_cases hi:i=b
  ·subst hi;rw[aj rfl,cY];simp
  ·rw[af hi]
 have RW:∀i g2,(∃c2,st2.slot i=.box g2 c2)↔∃c2,st1.slot i=.box g2 c2:=fun i g2=>by
  rw[jX];by_cases hi:i=b
  ·subst hi;rw[aj rfl,cY];simp
  ·rw[af hi]
 have nK:∀i q,bq st2.slot G H' i q↔bq st1.slot G H' i q:=fun i q=>by
  unfold bq;constructor
  ·rintro(⟨g2,c2,q1,q2⟩|⟨e2,k2,g2,eY,q1,q2⟩|⟨g2,K2,q1,q2⟩)
   ·obtain⟨c3,q3⟩:=(RW i g2).1 ⟨c2,q1⟩;exact .inl ⟨g2,c3,q3,q2⟩
   ·exact .inr (.inl ⟨e2,k2,g2,eY,(bg ..).1 q1,q2⟩)
   ·exact .inr (.inr ⟨g2,K2,(uW ..).1 q1,q2⟩)
  ·rintro(⟨g2,c2,q1,q2⟩|⟨e2,k2,g2,eY,q1,q2⟩|⟨g2,K2,q1,q2⟩)
   ·obtain⟨c3,q3⟩:=(RW i g2).2 ⟨c2,q1⟩;exact .inl ⟨g2,c3,q3,q2⟩
   ·exact .inr (.inl ⟨e2,k2,g2,eY,(bg ..).2 q1,q2⟩)
   ·exact .inr (.inr ⟨g2,K2,(uW ..).2 q1,q2⟩)
 have aqs:aV M st2.slot G H'=aV M st1.slot G H':=by
  funext q;unfold aV;simp only[nK]
 have m:Mv w w (aV M st1.slot G H') (aV M st2.slot G H') st1.slot st2.slot G G H' H':=
  ⟨cP _,fun q _ hq=>by rw[aqs] at hq;exact hq,fun _ _ _=>rfl,fun i=>by rw[pF];exact cP _,fun i e2 k2 g2 eY q _=>⟨⟨eY,(bg ..).1 q⟩,rfl⟩,fun i g2 c2 q _=>⟨(RW i g2).1 ⟨c2,q⟩,rfl⟩,fun i g2 K2 q _=>⟨⟨K2,(uW ..).1 q⟩,rfl,rfl⟩⟩
 refine⟨h1.sz,h1.df,h1.fr,⟨fun i=>by rw[pF];exact h1.hs.gen i,fun i e2 k2 g2 eY q1 q2=>h1.hs.row i e2 k2 g2 eY ((bg ..).1 q1) q2,fun i g2 c2 q1 q2=>by
   obtain⟨c3,q3⟩:=(RW i g2).1 ⟨c2,q1⟩
   exact h1.hs.box i g2 c3 q3 q2,fun i g2 K2 q1 q2=>h1.hs.obj i g2 K2 ((uW ..).1 q1) q2⟩,h1.lo,fun i x hx=> ?_,fun i g2 c2 q=> ?_,fun i e2 k2 g2 eY q=> ?_,fun i g2 K2 q=> ?_,fun i j q q1 q2=>h1.dj i j q ((nK i q).1 q1) ((nK j q).1 q2)⟩
 ·refine VR.mv m (h1.tm i x ?_);subst KP;exact hx
 ·rw[jX] at q;by_cases hi:i=b
  ·subst hi;rw[aj rfl] at q;cases q;refine⟨f1,f2,arr,f3,by rw[List.length_set];exact f4.1,fun j x u e1 e2=> ?_⟩;rw[List.getElem?_set] at e1;split at e1
   ·rename_i hj;subst hj
    try rw[aj Cg] at e1
    cases e1;rw[qV] at e2;cases e2;exact⟨rfl,by rw[pF,eC];exact cP _,fun _ _ _ _=>El.symm⟩
   ·exact CR.mv m (f4.2 j x u e1 e2)
  ·rw[af hi] at q;obtain⟨p1,p2,tK,p3,p4⟩:=h1.bx i g2 c2 q;exact⟨p1,p2,tK,p3,cH.mv m p4⟩
 ·obtain⟨p1,xs,p2,p3⟩:=h1.rw i e2 k2 g2 eY ((bg ..).1 q);exact⟨p1,xs,p2,p3.map fun x u hx=>IR.mv m hx⟩
 ·obtain⟨p1,p2⟩:=h1.ob i g2 K2 ((uW ..).1 q);exact⟨p1,K2.mono p2 m.size m.off (fun _ _ _=>rfl)⟩
theorem aqt {U:Option (List Nat)}{o:Oper}{t e:TypeId}{k:Nat}{it:TypeInfo}{zv:Value}{za:List AC}{x:Operand}{q:aQ}(ho:o.op=.makeSlice t x x)(hu:P.underlying t=some (.slice e))(hi:P.info? e=some it)(hz:it.zero=some zv)(hs:it.size=k)(aX:0<k)(qU:zv.cells.size=k)(kC:it.bytes<=1000)
  (h3:En zv.cells.toList=some za) (hx:dO x q):
  oT P U o (fun st X=>∃n:Nat,st.sc q=some (.int .i64 n)/\n<=1000000/\(dx k n za).all inl=true/\X (.w (.c (.sl (rowsOf k n (dx k n za))))) st):=by
 intro N F M w0 w st G H a X hR hsm K Q hK;obtain⟨n,e1,e2,e3,hX⟩:=hsm;obtain⟨aI,-⟩:=hR.sc hx e1
 have hrun:=run_make (P:=P) w t e it zv hu hi hz .i64 .i64 (n:Int) (n:Int) ab ab (by
  have:it.bytes*n<=1000*1000000:=og kC e2;have:((it.bytes*n:Nat):Int)<=281474976710656:=ab
  rwa[Int.natCast_mul] at this) ab
 simp only[gF,hs] at hrun;have hcs:cH w (aV M st.slot G H) st.slot G H (dx k n za) (madeCells zv.cells (n*k)).toList:=Xh (Xe h3) qU aX
 have hl:(dx k n za).length=n*k:=by simp[dx]
 have Ch:n<=n*k:=Nat.le_mul_of_pos_right n aX;have m:=aeD (w:=w) (M:=M) (st:=st) (G:=G) (H:=H) (.cells (madeCells zv.cells (n*k)) e);have bg:=(RN hl hcs e3).map (fun x u hx=>IR.mv m hx)
 have hx:=hK _ _ _ _ (.slice (some ⟨w.heap.size,0,none⟩) n n) _ hX (hR.alloc (.cells (madeCells zv.cells (n*k)) e)) (NK ai fun b hlt=>alloc_old w _ hlt)
  (NR (by simp[rowsOf]) bg (by simp[madeCells]) hR.aeC ax ab (fun j u hu=>by rw[(ay.new w (madeCells zv.cells (n*k)) e).cell];simpa using hu))
 unfold Oper.wp execOp;simp only[ho,px,aI,hrun,rW,tD];exact hx
end
inductive gV where
 |normal
 |exit (id:Nat)
 |ret
def gV.ex:gV->Exit
 | .normal=> .normal
 | .exit id=> .exit id
 | .ret=> .ret
inductive pK where
 |skip
 |ret
 |exit (id:Nat)
 |seq (x y:pK)
 |cond (t:aQ) (x y:pK)
 |block (id:Nat) (c:pK)
 |loop (c:pK)
 |region (dz:List AO)
 |tM (dz:List AO) (n:Nat) (t:OT) (U:List Nat)
 |mC (s:Nat) (c:pK)
 |pL (b off s e k:Nat) (c:pK)
def lT (K:St->Prop)(Q:gV->St->Prop):gV->St->Prop
 | .normal,st=>K st
 |e,st=>Q e st
def mD (id:Nat)(Q:gV->St->Prop):gV->St->Prop
 | .exit pM,st=>if pM=id then Q .normal st else Q (.exit pM) st
 |e,st=>Q e st
def Hh (body:(gV->St->Prop)->St->Prop)(Q:gV->St->Prop):Nat->St->Prop
 |0,_=>False
 |n+1,st=>body (lT (Hh body Q n) Q) st
def aP:pK->(gV->St->Prop)->St->Prop
 | .skip,Q,st=>Q .normal st
 | .ret,Q,st=>Q .ret st
 | .exit id,Q,st=>Q (.exit id) st
 | .seq x y,Q,st=>aP x (lT (aP y Q) Q) st
 | .cond t x y,Q,st=>match st.sc t with
  |some (.bool true)=>aP x Q st
  |some (.bool false)=>aP y Q st
  |_=>False
 | .block id c,Q,st=>aP c (mD id Q) st
 | .loop c,Q,st=>∃n,Hh (aP c) Q n st
 | .region dz,Q,st=>bB none dz (Q .normal) { st with L:=[] }
 | .tM dz n t U,Q,st=>aW U dz (dz.drop n) (Q .normal) t false { st with L:=[] }
 | .mC s c,Q,st=>aP c Q (st.freeze s)
 | .pL b off s e k c,Q,st=>aP c Q (st.mB b off s e k)
inductive jB (P:Program)(N:Nat):Code->pK->Prop where
 |skip:jB P N .skip .skip
 |ret:jB P N .ret .ret
 |exit (id:Nat):jB P N (.exit id) (.exit id)
 |seq {x y:Code} {x' y':pK} (hx:jB P N x x') (hy:jB P N y y'):jB P N (.seq x y) (.seq x' y')
 |cond {t:Operand} {t':aQ} {x y:Code} {x' y':pK} (ht:dO t t') (hx:jB P N x x') (hy:jB P N y y'):jB P N (.cond t x y) (.cond t' x' y')
 |block (id:Nat) {c:Code} {c':pK} (h:jB P N c c'):jB P N (.block id c) (.block id c')
 |loop {c:Code} {c':pK} (h:jB P N c c'):jB P N (.loop c) (.loop c')
 |region (id:Nat) {ops:Array Oper} {dz:List AO} (h:sH P N ops ops.toList dz):jB P N (.region id ops false) (.region dz)
 |tM (id:Nat) {l:List Oper} {dz:List AO} (n:Nat) (t:OT) (U:List Nat) (h:sH P N l.toArray l dz) (hm:P.follows .mixedOrders=true) (hB:(Region.noSelect l.toArray && se .any l.toArray n && pz .any l.toArray n t n (Array.replicate l.toArray.size false))=true):jB P N (.region id l.toArray true) (.tM dz n t U)
 |mC (s:Nat) {c:Code} {c':pK} (h:jB P N c c'):jB P N c (.mC s c')
 |pL (b off s e k:Nat) {c:Code} {c':pK} (h:jB P N c c'):jB P N c (.pL b off s e k c')
section
variable {P:Program} {N:Nat} {F M:Nat->Prop} {w0:lj} {w:World} {st:St} {G:Nat->Gh} {H:Nat->Value} {a:Act}
theorem aqu {Q:Exit->Act->World->Prop}{c:Code}(I:Nat->Act->World->Prop)(h0:∀a w,¬I 0 a w)(round:∀n a w,I (n+1) a w->c.wp P (Exit.then (I n) Q) a w){n:Nat}{a:Act}{w:World}(h:I n a w):(Code.loop c).wp P Q a w:=by
 intro b k cs
 have key:∀n a w,I n a w->∃e a' w',Q e a' w'/\Arrives P (lone (b.at a (.code c:: .inLoop c::k)) cs w) b k cs e a' w':=by
  intro n
  induction n with
  |zero=>intro a w h;exact(h0 a w h).elim
  |succ n ih=>
   intro a w hI;obtain⟨e,a₁,w₁,hq,qV⟩:=round n a w hI b (.inLoop c::k) cs
   cases e with
   |normal=>
    obtain⟨e₂,a₂,w₂,aqv,aqw⟩:=ih a₁ w₁ hq;exact⟨e₂,a₂,w₂,aqv,.of_steps (Steps.trans qV (.one step_inLoop)) aqw⟩
   |exit id=>exact⟨_,a₁,w₁,hq,.pass (x:=.inLoop c) rfl (fun _ _=> .inl ai) qV⟩
   |goto l=>exact⟨_,a₁,w₁,hq,.pass (x:=.inLoop c) rfl (fun _ _=> .inl ai) qV⟩
   |ret=>exact⟨_,a₁,w₁,hq,.pass (x:=.inLoop c) rfl (fun _ _=> .inl ai) qV⟩
   |panic ch=>exact⟨_,a₁,w₁,hq,.pass (x:=.inLoop c) rfl (fun _ _=> .inl ai) qV⟩
   |outgrown=>exact⟨_,a₁,w₁,hq,.pass (x:=.inLoop c) rfl (fun _ _=> .inl ai) qV⟩
 obtain⟨e,a',w',hq,qV⟩:=key n a w h;exact⟨e,a',w',hq,.of_steps (.one step_loop) qV⟩
theorem Rel.aeK (h:Rel N F M w0 st G H a w):Rel N F M w0 { st with L:=[] } G H a w:=
 ⟨h.sz,h.df,h.fr,h.hs,h.lo,fun i x hx=>h.tm i x (by
  unfold St.get at hx⊢;dsimp only at hx;split at hx
  ·exact hx
  ·simp[aJ] at hx),h.bx,h.rw,h.ob,h.dj⟩
theorem aeL {c:Code}{ac:pK}(hk:jB P N c ac):∀{st:St} {G:Nat->Gh} {H:Nat->Value} {a:Act} {w:World} {Q:gV->St->Prop} {Q':Exit->Act->World->Prop},Rel N F M w0 st G H a w->aP ac Q st->
  (∀e st' G' H' a' w',Q e st'->Rel N F M w0 st' G' H' a' w'->Q' e.ex a' w')->c.wp P Q' a w:=by
 induction hk with
 |skip=>intro st G H a w Q Q' hR hs hQ;exact wp_skip (hQ .normal st G H a w hs hR)
 |ret=>intro st G H a w Q Q' hR hs hQ;exact wp_ret (hQ .ret st G H a w hs hR)
 |exit id=>intro st G H a w Q Q' hR hs hQ;exact wp_exit (hQ (.exit id) st G H a w hs hR)
 |seq hx hy yy yz=>
  intro st G H a w Q Q' hR hs hQ;refine wp_seq (yy hR hs fun e st' G' H' a' w' hq bQ=> ?_)
  cases e with
  |normal=>exact yz bQ hq hQ
  |exit id=>exact hQ _ _ _ _ _ _ hq bQ
  |ret=>exact hQ _ _ _ _ _ _ hq bQ
 |cond ht hx hy yy yz=>
  intro st G H a w Q Q' hR hs hQ;unfold aP at hs;split at hs
  ·rename_i hb;exact wp_cond_true (hR.sc ht hb).1 (yy hR hs hQ)
  ·rename_i hb;exact wp_cond_false (hR.sc ht hb).1 (yz hR hs hQ)
  ·exact hs.elim
 |block id h ih=>
  intro st G H a w Q Q' hR hs hQ;refine wp_block (ih hR hs fun e st' G' H' a' w' hq bQ=> ?_)
  cases e with
  |normal=>exact hQ .normal _ _ _ _ _ hq bQ
  |exit pM=>
   show Exit.inBlock id Q' (.exit pM) a' w'
   unfold mD at hq;unfold Exit.inBlock;dsimp only at hq⊢;split at hq
   ·rename_i he;rw[aj he];exact hQ .normal _ _ _ _ _ hq bQ
   ·rename_i he;rw[af he];exact hQ (.exit pM) _ _ _ _ _ hq bQ
  |ret=>exact hQ .ret _ _ _ _ _ hq bQ
 |loop h ih=>
  intro st G H a w Q Q' hR hs hQ;obtain⟨n,hn⟩:=hs;refine aqu (fun n a w=>∃st G H,Rel N F M w0 st G H a w/\Hh (aP _) Q n st) (fun a w ⟨_,_,_,_,h⟩=>h) (fun n a w ⟨st,G,H,hR,hl⟩=> ?_) ⟨st,G,H,hR,hn⟩
  refine ih hR hl fun e st' G' H' a' w' hq bQ=> ?_
  cases e with
  |normal=>exact⟨st',G',H',bQ,hq⟩
  |exit id=>exact hQ _ _ _ _ _ _ hq bQ
  |ret=>exact hQ _ _ _ _ _ _ hq bQ
 |region id h=>intro st G H a w Q Q' hR hs hQ;exact aqn h hR.aeK hs (fun st' G' H' a' w' hq bQ=>hQ .normal _ _ _ _ _ hq bQ)
 |mC s h ih=>intro st G H a w Q Q' hR hs hQ;exact ih (hR.freeze s) hs hQ
 |pL b off s e k h ih=>intro st G H a w Q Q' hR hs hQ;obtain⟨H',bQ⟩:=hR.mB b off s e k;exact ih bQ hs hQ
 |tM id n t U h hm hB=>intro st G H a w Q Q' hR hs hQ;exact aqo n t U h hm hB hR.aeK hs (fun st' G' H' a' w' hq bQ=>hQ .normal _ _ _ _ _ hq bQ)
end
section
variable {P:Program} {N:Nat} {F M:Nat->Prop} {w0:lj} {w:World} {st:St} {G:Nat->Gh} {H:Nat->Value} {a:Act}
def St.fz (st:St):AC->Option AC
 | .own s g=>match st.slot s with
  | .row _ k g' es=>if g=g'/\0<k then some (.sl es) else none
  |_=>none
 | .v x=>some (.v x)
 | .sl es=>some (.sl es)
 | .fV f cn=>some (.fV f cn)
 |_=>none
def St.jY (st:St):List AC->Option (List AC)
 |[]=>some []
 |x::l=>match st.fz x,st.jY l with
  |some y,some r=>some (y::r)
  |_,_=>none
def St.qX (st:St):AW->Option AW
 | .c x=>(st.fz x).map .c
 | .agg cs=>(st.jY cs).map .agg
theorem Rel.fz (h:Rel N F M w0 st G H a w){x y:AC}{u:Value}(hx:CR w (aV M st.slot G H) st.slot G H x u)(hf:st.fz x=some y):IR w M y u:=by
 have hA:∀b,b<w.heap.size->M b->aV M st.slot G H b:=fun b _ hm=> .inl hm
 cases x with
 |v x=>
  simp only[St.fz,aA] at hf;subst hf;exact IR.mono hx ax hA (fun _ _ _=>rfl)
 |sl es=>
  simp only[St.fz,aA] at hf;subst hf;exact IR.mono hx ax hA (fun _ _ _=>rfl)
 |fV f cn=>
  simp only[St.fz,aA] at hf;subst hf;exact IR.mono hx ax hA (fun _ _ _=>rfl)
 |cK s g=>cases hf
 |part s g i=>cases hf
 |cls f cn=>cases hf
 |own s g=>
  simp only[St.fz] at hf;split at hf
  case h_2=>cases hf
  rename_i e k g' es hs;split at hf
  case isFalse=>cases hf
  rename_i hg;obtain⟨rfl,aX⟩:=hg;simp only[aA] at hf;subst hf;obtain⟨_,_,hH⟩:=hx;have hu:=hH e k es hs;subst hu;obtain⟨hn,xs,how,lQ⟩:=h.rw s e k g es hs;have hl:=how.1
  rcases how.2 with⟨e1,e2⟩|⟨gg,cap,cur,e1,_,RG,ou,Cm,_,_⟩
  ·have h0:es=[]:=yb e2;subst h0;rw[e1];exact IR.sl 0 [] none 0 (fun _ _=>undef) ax ai (by intro i row h;simp at h) (by intro i row j x h;simp at h) (by intro i row j h;simp at h)
  ·rw[e1];have hcell:=how.cells (g:=gg) (by rw[e1];rfl)
   exact NR rfl (lQ.map fun x u hx=>hx.mono ax hA (fun _ _ _=>rfl)) hl (hn gg (by rw[e1];rfl)).2 ou (by simp only[maxLen] at Cm;omega) (fun j u hj=>by
    have:=hcell j u hj
    rwa[Addr.add_mid,eP] at this)
theorem aeM {x y:AC}(h:st.fz x=some y):inl y=true:=by
 cases x with
 |v x=>simp only[St.fz,aA] at h;subst h;rfl
 |sl es=>simp only[St.fz,aA] at h;subst h;rfl
 |fV f cn=>simp only[St.fz,aA] at h;subst h;rfl
 |cK s g=>cases h
 |part s g i=>cases h
 |cls f cn=>cases h
 |own s g=>
  simp only[St.fz] at h;split at h
  ·split at h
   ·simp only[aA] at h;subst h;rfl
   ·cases h
  ·cases h
theorem Rel.jY (h:Rel N F M w0 st G H a w):∀{cs r:List AC} {us:List Value},cH w (aV M st.slot G H) st.slot G H cs us->st.jY cs=some r->r.all inl=true/\cH w M (fun _=> .dead 0) (fun _=>gh 0) (fun _=>undef) r us
 |[],r,us,hc,hr=>by
  simp only[St.jY,aA] at hr;subst hr;exact⟨rfl,hc.1,fun j x u e=>by simp at e⟩
 |x::cs,r,us,hc,hr=>by
  unfold St.jY at hr;split at hr
  case h_2=>cases hr
  rename_i y q h1 h2;simp only[aA] at hr;subst hr
  cases us with
  |nil=>have:=hc.1;simp at this
  |cons u us=>
   have hc':cH w (aV M st.slot G H) st.slot G H cs us:=⟨by have:=hc.1;simpa using this,fun j x u e1 e2=>hc.2 (j+1) x u (by simpa using e1) (by simpa using e2)⟩
   obtain⟨g1,g2⟩:=Rel.jY h hc' h2;refine⟨by simp[aeM h1,g1],by have:=g2.1;simp[this],fun j z v e1 e2=> ?_⟩
   cases j with
   |zero=>
    simp at e1 e2;subst e1;subst e2;exact(h.fz (hc.2 0 x u rfl rfl) h1).uY
   |succ j=>exact g2.2 j z v (by simpa using e1) (by simpa using e2)
theorem Rel.qX (h:Rel N F M w0 st G H a w){x y:AW}{v:Value}(hx:WR w (aV M st.slot G H) st.slot G H x v)(hf:st.qX x=some y):WI w M y v:=by
 cases x with
 |c x=>
  simp only[St.qX,bU] at hf;obtain⟨z,hz,rfl⟩:=hf;exact⟨by simp[AW.inl,AW.cells,aeM hz],(h.fz hx hz).uY⟩
 |agg cs=>
  simp only[St.qX,bU] at hf;obtain⟨z,hz,rfl⟩:=hf;obtain⟨arr,e,hc⟩:=hx;obtain⟨g1,g2⟩:=h.jY hc hz;exact⟨by simpa [AW.inl,AW.cells] using g1,arr,e,g2⟩
def Ep (P:Program)(st:St):ResultVar->Option AW
 | .tmp t=>match st.get t with
  |some (.w x)=>st.qX x
  |_=>none
 | .cell p ty=>match(P.info? ty).map (·.size),P.underlying ty with
  |some n,some d=>if d.isRow then(st.cells [] n (st.get p)).bind fun cs=>st.qX (.agg cs) else(st.cells [] 1 (st.get p)).bind fun cs=>match cs with
   |[c]=>st.qX (.c c)
   |_=>none
  |_,_=>none
def yA (P:Program)(st:St):List ResultVar->Option (List AW)
 |[]=>some []
 |r::l=>match Ep P st r,yA P st l with
  |some x,some q=>some (x::q)
  |_,_=>none
def ek (l:List AW):AV:=match l with
 |[x]=> .w x
 |l=> .bP l
def xf (tmps:Array Value):ResultVar->Sem Value
 | .tmp t=>pure (tmps.getD t undef)
 | .cell a t=>do loadVar t (<-asAddr (tmps.getD a undef))
theorem Rel.Ep (h:Rel N F M w0 st G H a w){r:ResultVar}{x:AW}(hr:Ep P st r=some x):∃v,(xf a.tmps r).run P w=.ok v w/\WI w M x v:=by
 cases r with
 |tmp t=>
  simp only[Ab.Ep] at hr;split at hr
  case h_2=>cases hr
  rename_i y hy;exact⟨_,rfl,h.qX (h.tm t _ hy) hr⟩
 |cell p ty=>
  simp only[Ab.Ep] at hr;split at hr
  case h_2=>cases hr
  rename_i n d hn hd;split at hr
  ·rename_i bg;rw[Option.bind_eq_some_iff] at hr;obtain⟨cs,hc,hf⟩:=hr
   cases hp:st.get p with
   |none=>rw[hp] at hc;simp[St.cells] at hc
   |some pv=>
    rw[hp] at hc;obtain⟨b,o,us,e1,hlt,_,yB,hcs,hl⟩:=h.cells (h.tm p pv hp) hc;refine⟨.agg us.toArray,?_,h.qX (x:=.agg cs) ⟨us,rfl,hcs⟩ hf⟩;simp only[xf,e1,asAddr,px,tD,rW];exact run_loadVar_mid w b o ty us d yB hd bg (by rw[hl];exact hn)
  ·rename_i bg;rw[Option.bind_eq_some_iff] at hr;obtain⟨cs,hc,hf⟩:=hr;split at hf
   case h_2=>cases hf
   rename_i c
   cases hp:st.get p with
   |none=>rw[hp] at hc;simp[St.cells] at hc
   |some pv=>
    rw[hp] at hc;obtain⟨b,o,us,e1,hlt,_,yB,hcs,hl⟩:=h.cells (h.tm p pv hp) hc
    obtain⟨u,rfl⟩:∃u,us=[u]:=by
     match us,hl with
     |[u],_=>exact⟨u,rfl⟩
    refine⟨u,?_,h.qX (x:=.c c) (hcs.2 0 c u rfl rfl) hf⟩;have hcell:=yB 0 u rfl;rw[qA] at hcell
    have yu:(isAgg ty).run P w=.ok false w:=by
     unfold isAgg;rw[px,lG hd]
     cases d<;>first|rfl|(exact absurd rfl bg)
    simp[xf,e1,asAddr,loadVar,yu,hcell]
theorem Rel.yA (h:Rel N F M w0 st G H a w):∀{rs:List ResultVar} {xs:List AW},yA P st rs=some xs->∃vs:List Value,(rs.mapM (xf a.tmps)).run P w=.ok vs w/\vs.length=xs.length/\∀(j:Nat) (x:AW) (v:Value),xs[j]? =some x->vs[j]? =some v->WI w M x v
 |[],xs,hr=>by
  simp only[Ab.yA,aA] at hr;subst hr;exact⟨[],ai,rfl,fun j x v e=>by simp at e⟩
 |r::rs,xs,hr=>by
  unfold Ab.yA at hr;split at hr
  case h_2=>cases hr
  rename_i x q h1 h2;simp only[aA] at hr;subst hr;obtain⟨v,e1,e2⟩:=h.Ep h1;obtain⟨vs,e3,e4,e5⟩:=Rel.yA h h2;refine⟨v::vs,by simp[Gw,e1,e3],by simp[e4],fun j y u g1 g2=> ?_⟩
  cases j with
  |zero=>simp at g1 g2;subst g1;subst g2;exact e2
  |succ j=>exact e5 j y u (by simpa using g1) (by simpa using g2)
theorem aeN {fn:Func}{tmps:Array Value}{vs:List Value}(h:(fn.results.toList.mapM (xf tmps)).run P w=.ok vs w):(results fn tmps).run P w=.ok (if h:vs.toArray.size=1 then vs.toArray[0] else .tuple vs.toArray) w:=by
 have:fn.results.mapM (xf tmps)=Functor.map List.toArray (fn.results.toList.mapM (xf tmps)):=by rw[Array.mapM_eq_mapM_toList]
 unfold results
 show Sem.run P ((fn.results.mapM (xf tmps))>>=fun vs=>pure (if h:vs.size=1 then vs[0] else .tuple vs)) w=_
 rw[this];simp[h]
theorem aqx {f:FuncId}{fn:Func}{c:Code}{ac:pK}(hf:P.funcs[f]? =some fn)(hb:fn.body=some c)(hk:jB P fn.ntmps c ac)(args:List AW)(Cn:args.length<=fn.ntmps)(V:List (Nat×AV))(S:List (Nat×Slot)){Q:AV->Prop}
  (hV:∀i x,aJ V i=some x->x=.u\/∃y,args[i]? =some y/\x=.w y) (hS:∀s,(aJ S s).getD (.dead 0)=.dead 0)
  (h:aP ac (fun e st=>(match e with | .exit _=>False|_=>True)/\∃xs,yA P st fn.results.toList=some xs/\Q (ek xs)) ⟨V,[],S⟩):bj P f args Q:=by
 intro M w vs hM hlen dV;refine calls_of_wp hf hb ?_
 have jX:(St.mk V [] S).slot=fun _=> .dead 0:=funext fun s=>hS s
 have hR:Rel fn.ntmps (fun b=>b<w.heap.size) M ⟨w,fun _=> .dead 0,fun _=>gh 0,fun _=>undef⟩ ⟨V,[],S⟩ (fun _=>gh 0) (fun _=>undef) { tmps:=vs.toArray++Array.replicate (fn.ntmps-vs.toArray.size) undef,defers:=[] } w:=by
  refine⟨by simp;omega,rfl,⟨rfl,rfl,rfl,cP _,fun _ _=>rfl⟩,⟨fun s=>(by rw[jX];exact cP _),fun s e k g es hs=>(by rw[jX] at hs;cases hs),fun s g cs hs=>(by rw[jX] at hs;cases hs),fun s g K hs=>(by rw[jX] at hs;cases hs)⟩,⟨fun b hb=>hb.elim id (hM.1 b),hM.2⟩,fun i x hx=> ?_,fun s g cs hs=>(by rw[jX] at hs;cases hs),fun s e k g es hs=>(by rw[jX] at hs;cases hs),fun s g K hs=>(by rw[jX] at hs;cases hs),fun s s' b hl=> ?_⟩
  ·have sF:aJ V i=some x:=by
    unfold St.get at hx;dsimp only at hx;split at hx
    ·rename_i v hv;rw[hv];exact hx
    ·simp[aJ] at hx
   rcases hV i x sF with rfl|⟨y,hy,rfl⟩
   ·trivial
   ·have hi:=(bN.1 hy).1;have hv:vs[i]? =some (vs[i]' ab):=cz ab;have hw:=dV i y _ hy hv
    have qN:(vs.toArray++Array.replicate (fn.ntmps-vs.toArray.size) undef).getD i undef=vs[i]' ab:=by
     simp[Ng,Array.getElem?_append,show i<vs.length by omega]
    rw[qN]
    have hA:aV M (St.mk V [] S).slot (fun _=>gh 0) (fun _=>undef)=M:=by
     funext b;apply propext;refine⟨fun hh=> ?_,.inl⟩
     rcases hh with hm|⟨s,hl⟩
     ·exact hm
     ·rw[jX] at hl
      rcases hl with⟨g,cs,h1,_⟩|⟨e,k,g,es,h1,_⟩|⟨g,K,h1,_⟩<;>cases h1
    rw[hA];exact WR.any hw.2 hw.1
  ·rw[jX] at hl
   rcases hl with⟨g,cs,h1,_⟩|⟨e,k,g,es,h1,_⟩|⟨g,K,h1,_⟩<;>cases h1
 refine aeL hk hR h fun e st' G' H' a' w' hq bQ=> ?_
 obtain⟨he,xs,cq,hQ⟩:=hq;obtain⟨us,e1,e2,e3⟩:=bQ.yA cq;have hrun:=aeN (fn:=fn) e1
 have fin:a'.defers=[]/\∃v,(results fn a'.tmps).run P w'=.ok v w'/\∃v' r,Ending.returned v=.returned v'/\Q r/\VI w' M r v'/\Fr (fun b=>b<w.heap.size) w w':=by
  refine⟨bQ.df,_,hrun,_,ek xs,rfl,hQ,?_,bQ.fr⟩
  match xs,us,e2,e3 with
  |[x],[u],_,e3=>exact e3 0 x u rfl rfl
  |[],[],_,e3=>exact⟨[],rfl,rfl,fun j x u e=>by simp at e⟩
  |x::y::r,u::v::q,e2,e3=>
   have hne:¬(u::v::q).toArray.size=1:=ai;rw[dif_neg hne];exact⟨u::v::q,rfl,e2,e3⟩
 cases e with
 |normal=>exact fin
 |exit id=>exact he.elim
 |ret=>exact fin
end
end Ab
end Go.Proofs.YtkanpepkdcmpmaaGreatDoor
