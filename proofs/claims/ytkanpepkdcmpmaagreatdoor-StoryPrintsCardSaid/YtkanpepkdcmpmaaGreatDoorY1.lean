import Derived.Lib.LaidTab
import Derived.Lib.ItoaNum
import Derived.Test.YtkanpepkdcmpmaaGreatDoorY0
import Derived.Laws.MakeOwn
set_option maxHeartbeats 40000000
set_option maxRecDepth 100000
set_option linter.all false
namespace Go.Proofs.YtkanpepkdcmpmaaGreatDoor
section
open Go.RowKit
variable {w w':World}
structure Gl (w:World):Prop where
 mx:∃m,w.cell? ⟨0,0,none⟩=some (.int .i64 m)
 lE:Lib.TabIs Tryz.prog w "internal/strconv.uint64pow10" .u64 Lib.pow10Tab
 WJ:∃te pe,w.cell? ⟨4,0,none⟩=some (.iface te pe)
 WK:∃te pe,w.cell? ⟨5,0,none⟩=some (.iface te pe)
 low:8<=w.heap.size
theorem aps:Tryz.prog.globalNamed "internal/strconv.uint64pow10" =some 1:=ah
theorem Gl.WL(h:Gl w)(hb:Below 8 w w'):Gl w':=by
 refine⟨?_,?_,?_,?_,bj h.low hb.size⟩
 ·obtain⟨m,hm⟩:=h.mx;exact⟨m,(hb.cell (p:=⟨0,0,none⟩) au).trans hm⟩
 ·have:=h.lE;unfold Lib.TabIs World.var? at*;rw[aps] at*;simp only[MZ] at*;rw[hb.block 1 au];exact this
 ·obtain⟨a,b,hm⟩:=h.WJ;exact⟨a,b,(hb.cell (p:=⟨4,0,none⟩) au).trans hm⟩
 ·obtain⟨a,b,hm⟩:=h.WK;exact⟨a,b,(hb.cell (p:=⟨5,0,none⟩) au).trans hm⟩
theorem Gl.below(h:Gl w)(hb:aw w w'):Gl w':=h.WL (hb.mono h.low)
theorem Gl.grown{p:Nat}(h:Gl w)(hg:w.grownBy w' (some p))(hp:8<=p):Gl w':=
 h.WL ⟨hg.os,hg.tape,hg.output,hg.size,fun k hk=>hg.block k (by have:=h.low;omega) (by intro e;injection e with e;omega)⟩
theorem Gl.drew(h:Gl w):Gl w.drew:=h.below (Below.refl _ _).drew
theorem Gl.alloc(h:Gl w)(o:Obj):Gl (w.alloc o):=h.below ((Below.refl _ _).alloc ax o)
end
namespace Ab
open Go Go.RowKit
variable {A:Nat->Prop} {v:Value} {w w':World}
def gN:Nat:=8
def Gv (w:World):Prop:=Gl w
theorem Gv.kept(h:Gv w)(hb:Below gN w w'):Gv w':=Gl.WL h hb
theorem Gv.low(h:Gv w):gN<=w.heap.size:=Gl.low h
inductive AC where
 |v (x:Value)
 |sl (es:List (List AC))
 |own (s g:Nat)
 |cP (s g:Nat)
 |part (s g i:Nat)
 |fM (f:FuncId) (bZ:List (List AC))
 |cls (f:FuncId) (bZ:List (Nat×Nat))
variable {x:AC}
inductive AW where
 |c (x:AC)
 |agg (cs:List AC)
inductive AV where
 |w (x:AW)
 |bD (vs:List AW)
 |pb (s g off:Nat)
 |pr (s g i off:Nat)
 |pi (cs:List AC) (off:Nat)
 |u
structure Gh where
 b:Nat
 fp:List Nat
 hs:List Value
def gh (b:Nat):Gh:=⟨b,[],[]⟩
structure apt where
 rep:World->(Nat->Prop)->Value->Gh->Prop
 one:∀{w A v g},rep w A v g->v.oneCell'=true
 parts:∀{w A v g},rep w A v g->∀u∈g.hs,u.oneCell'=true
 lt:∀{w A v g},rep w A v g->∀b∈g.fp,b<w.heap.size
 mono:∀{w w':World} {A A':Nat->Prop} {v:Value} {g:Gh},rep w A v g->w.heap.size<=w'.heap.size->(∀b,b<w.heap.size->A' b->A b)->(∀b,b<w.heap.size->b∈g.fp\/¬A b->w'.heap[b]? =w.heap[b]?)->rep w' A' v g
inductive Slot where
 |dead (g:Nat)
 |box (g:Nat) (cs:List AC)
 |row (e k g:Nat) (es:List (List AC))
 |obj (g:Nat) (K:apt)
def Slot.gen:Slot->Nat
 | .dead g=>g
 | .box g _=>g
 | .row _ _ g _=>g
 | .obj g _=>g
structure St where
 V:List (Nat×AV)
 L:List (Nat×AV)
 S:List (Nat×Slot)
def aI {α:Type}:List (Nat×α)->Nat->Option α
 |[],_=>none
 |(i,x)::l,j=>if i=j then some x else aI l j
def qA {α:Type}:List (Nat×α)->Nat->α->List (Nat×α)
 |[],_,_=>[]
 |(i,x)::l,j,y=>if i=j then(i,y)::qA l j y else(i,x)::qA l j y
def St.get (st:St)(i:Nat):Option AV:=match aI st.V i with
 |some v=>some v
 |none=>aI st.L i
def St.slot (st:St)(s:Nat):Slot:=(aI st.S s).getD (.dead 0)
def St.put (st:St)(d:Nat)(v:AV):St:=if(aI st.V d).isSome then { st with V:=qA st.V d v } else { st with L:=(d,v)::st.L }
def St.cn (st:St)(s:Nat)(x:Slot):St:={ st with S:=qA st.S s x }
theorem WM{α:Type}(l:List (Nat×α))(j:Nat)(y:α)(i:Nat):aI (qA l j y) i=if i=j then(aI l i).map fun _=>y else aI l i:=by
 induction l with
 |nil=>simp[qA,aI]
 |cons p l ih=>
  obtain⟨a,x⟩:=p;by_cases h1:a=j
  ·subst h1;simp only[qA,nk,aI];by_cases h2:a=i
   ·subst h2;simp
   ·simp only[h2,pd,ih]
  ·simp only[qA,af h1,aI];by_cases h2:a=i
   ·subst h2;simp[h1]
   ·simp only[h2,pd,ih]
theorem St.apu{st:St}{d:Nat}{v:AV}{i:Nat}{x:AV}(h:(st.put d v).get i=some x):(i=d/\x=v)\/(i≠d/\st.get i=some x):=by
 unfold St.put at h;split at h
 ·rename_i hd;simp only[St.get,WM] at h;by_cases hi:i=d
  ·subst hi;obtain⟨y,hy⟩:=QW.1 hd;simp[hy] at h;exact .inl ⟨rfl,h.symm⟩
  ·simp only[hi,pd] at h;exact .inr ⟨hi,h⟩
 ·rename_i hd
  have hn:aI st.V d=none:=by cases hv:aI st.V d with
   |none=>rfl
   |some y=>rw[hv] at hd;simp at hd
  simp only[St.get,aI] at h;by_cases hi:d=i
  ·subst hi;simp[hn] at h;exact .inl ⟨rfl,h.symm⟩
  ·simp only[hi,pd] at h;exact .inr ⟨fun e=>hi e.symm,h⟩
theorem St.mL(st:St)(s:Nat)(x:Slot)(i:Nat):(st.cn s x).slot i=if i=s/\(aI st.S i).isSome=true then x else st.slot i:=by
 unfold St.slot St.cn;simp only[WM];by_cases hi:i=s
 ·subst hi;cases h:aI st.S i<;>simp
 ·simp[hi]
def yv:Value->Bool
 | .int _ _=>true
 | .bool _=>true
 | .string _=>true
 | .nilIface=>true
 | .iface _ _=>true
 | .slice none 0 0=>true
 | .func _ a b=>a.isEmpty && b.isEmpty
 |_=>false
theorem apv{x:Value}(h:yv x=true):x.oneCell'=true:=by cases x<;>first|rfl|cases h
inductive IR (w:World)(A:Nat->Prop):AC->Value->Prop where
 |v (x:Value) (h:yv x=true):IR w A (.v x) x
 |sl (k:Nat) (es:List (List AC)) (a:Option Addr) (c:Nat) (u:Nat->Nat->Value) (hn:es.length<=c) (hm:es.length<=9223372036854775807) (hk:∀(i:Nat) (row:List AC),es[i]? =some row->row.length=k)
   (hc:∀(i:Nat) (row:List AC) (j:Nat) (x:AC),es[i]? =some row->row[j]? =some x->IR w A x (u i j))
   (hl:∀(i:Nat) (row:List AC) (j:Nat),es[i]? =some row->j<row.length->∃b o,a=some ⟨b,o,none⟩/\¬A b/\w.cell? ⟨b,o+i*k+j,none⟩=some (u i j)):IR w A (.sl es) (.slice a es.length c)
 |fM (f:FuncId) (bZ:List (List AC)) (at_:Nat->Nat×Nat) (u:Nat->Nat->Value)
   (hc:∀(i:Nat) (row:List AC) (j:Nat) (x:AC),bZ[i]? =some row->row[j]? =some x->IR w A x (u i j))
   (hl:∀(i:Nat) (row:List AC),bZ[i]? =some row->(at_ i).1<w.heap.size/\¬A (at_ i).1/\∀j,j<row.length->w.cell? ⟨(at_ i).1,(at_ i).2+j,none⟩=some (u i j)):
   IR w A (.fM f bZ) (.func (.func f) #[] ((List.range bZ.length).map fun i=> .pointer (some ⟨(at_ i).1,(at_ i).2,none⟩)).toArray)
theorem IR.one(h:IR w A x v):v.oneCell'=true:=by
 cases h with
 |v x h=>exact apv h
 |sl=>rfl
 |fM=>rfl
theorem IR.mono{A':Nat->Prop}(h:IR w A x v)(hz:w.heap.size<=w'.heap.size)(hA:∀b,b<w.heap.size->A' b->A b)(hw:∀b,b<w.heap.size->¬A b->w'.heap[b]? =w.heap[b]?):IR w' A' x v:=by
 induction h with
 |v x h=>exact .v x h
 |sl k es a c u hn hm hk hc hl ih=>
  refine .sl k es a c u hn hm hk (fun i row j x h1 h2=>ih i row j x h1 h2) (fun i row j h1 h2=> ?_);obtain⟨b,o,ha,hb,hcell⟩:=hl i row j h1 h2;have hlt:=iT _ _ hcell;exact⟨b,o,ha,fun h=>hb (hA b hlt h),by rw[FY (hw b hlt hb)];exact hcell⟩
 |fM f bZ at_ u hc hl ih=>
  refine .fM f bZ at_ u (fun i row j x h1 h2=>ih i row j x h1 h2) (fun i row h1=> ?_);obtain⟨hlt,hb,hcell⟩:=hl i row h1;exact⟨jj hlt hz,fun h=>hb (hA _ hlt h),fun j hj=>by rw[FY (hw _ hlt hb)];exact hcell j hj⟩
def CR (w:World)(A:Nat->Prop)(S:Nat->Slot)(G:Nat->Gh)(H:Nat->Value):AC->Value->Prop
 | .own s g,u=>u.oneCell'=true/\g<=(S s).gen/\∀e k es,S s=.row e k g es->u=H s
 | .cP s g,u=>u.oneCell'=true/\g<=(S s).gen/\∀K,S s=.obj g K->u=H s
 | .part s g i,u=>u.oneCell'=true/\g<=(S s).gen/\∀K,S s=.obj g K->(G s).hs[i]? =some u
 | .cls f bZ,u=>∃ps:List Value,u=.func (.func f) #[] ps.toArray/\ps.length=bZ.length/\∀(i:Nat) (q:Nat×Nat) (p:Value),bZ[i]? =some q->ps[i]? =some p->q.2<=(S q.1).gen/\∀cs,S q.1=.box q.2 cs->p=.pointer (some ⟨(G q.1).b,0,none⟩)
 | .v x,u=>IR w A (.v x) u
 | .sl es,u=>IR w A (.sl es) u
 | .fM f bZ,u=>IR w A (.fM f bZ) u
def cE (w:World)(A:Nat->Prop)(S:Nat->Slot)(G:Nat->Gh)(H:Nat->Value)(cs:List AC)(arr:List Value):Prop:=arr.length=cs.length/\∀(j:Nat) (x:AC) (u:Value),cs[j]? =some x->arr[j]? =some u->CR w A S G H x u
def WR (w:World)(A:Nat->Prop)(S:Nat->Slot)(G:Nat->Gh)(H:Nat->Value):AW->Value->Prop
 | .c x,v=>CR w A S G H x v
 | .agg cs,v=>∃arr:List Value,v=.agg arr.toArray/\cE w A S G H cs arr
def VR (w:World)(A:Nat->Prop)(S:Nat->Slot)(G:Nat->Gh)(H:Nat->Value):AV->Value->Prop
 | .w x,v=>WR w A S G H x v
 | .bD vs,v=>∃arr:List Value,v=.tuple arr.toArray/\arr.length=vs.length/\∀(j:Nat) (x:AW) (u:Value),vs[j]? =some x->arr[j]? =some u->WR w A S G H x u
 | .pb s g off,v=>g<=(S s).gen/\∀cs,S s=.box g cs->v=.pointer (some ⟨(G s).b,off,none⟩)
 | .pr s g i off,v=>g<=(S s).gen/\∀e k es,S s=.row e k g es->∃b n c,H s=.slice (some ⟨b,0,none⟩) n c/\v=.pointer (some ⟨b,i*k+off,none⟩)
 | .pi cs off,v=>∃b o,v=.pointer (some ⟨b,o+off,none⟩)/\b<w.heap.size/\¬A b/\∃us:List Value,us.length=cs.length/\∀(j:Nat) (x:AC) (u:Value),cs[j]? =some x->us[j]? =some u->IR w A x u/\w.cell? ⟨b,o+j,none⟩=some u
 | .u,_=>True
theorem CR.one{S:Nat->Slot}{G:Nat->Gh}{H:Nat->Value}(h:CR w A S G H x v):v.oneCell'=true:=by
 cases x with
 |own s g=>exact h.1
 |cP s g=>exact h.1
 |part s g i=>exact h.1
 |cls f bZ=>obtain⟨ps,rfl,_⟩:=h;rfl
 |v x=>exact IR.one h
 |sl es=>exact IR.one h
 |fM f bZ=>exact IR.one h
structure Mv (w w':World)(A A':Nat->Prop)(S S':Nat->Slot)(G G':Nat->Gh)(H H':Nat->Value):Prop where
 size:w.heap.size<=w'.heap.size
 off:∀b,b<w.heap.size->A' b->A b
 kept:∀b,b<w.heap.size->¬A b->w'.heap[b]? =w.heap[b]?
 gen:∀s,(S s).gen<=(S' s).gen
 row:∀s e k g es,S' s=.row e k g es->g<=(S s).gen->(∃es,S s=.row e k g es)/\H' s=H s
 box:∀s g cs,S' s=.box g cs->g<=(S s).gen->(∃cs,S s=.box g cs)/\G' s=G s
 obj:∀s g K,S' s=.obj g K->g<=(S s).gen->(∃K,S s=.obj g K)/\G' s=G s/\H' s=H s
section
variable {w w':World} {A A':Nat->Prop} {S S':Nat->Slot} {G G':Nat->Gh} {H H':Nat->Value} (m:Mv w w' A A' S S' G G' H H')
variable {v:Value} {x:AC}
include m
theorem IR.mv(h:IR w A x v):IR w' A' x v:=h.mono m.size m.off m.kept
theorem CR.mv(h:CR w A S G H x v):CR w' A' S' G' H' x v:=by
 cases x with
 |own s g=>
  obtain⟨h1,h2,h3⟩:=h;refine⟨h1,bj h2 (m.gen s),fun e k es hs=> ?_⟩;obtain⟨⟨Nv,e1⟩,e2⟩:=m.row s e k g es hs h2;rw[e2];exact h3 e k Nv e1
 |cP s g=>
  obtain⟨h1,h2,h3⟩:=h;refine⟨h1,bj h2 (m.gen s),fun K hs=> ?_⟩;obtain⟨⟨K0,e1⟩,_,e2⟩:=m.obj s g K hs h2;rw[e2];exact h3 K0 e1
 |part s g i=>
  obtain⟨h1,h2,h3⟩:=h;refine⟨h1,bj h2 (m.gen s),fun K hs=> ?_⟩;obtain⟨⟨K0,e1⟩,e2,_⟩:=m.obj s g K hs h2;rw[e2];exact h3 K0 e1
 |cls f bZ=>
  obtain⟨ps,h1,h2,h3⟩:=h;refine⟨ps,h1,h2,fun i q p e1 e2=> ?_⟩;obtain⟨h4,h5⟩:=h3 i q p e1 e2;refine⟨bj h4 (m.gen q.1),fun cs hs=> ?_⟩;obtain⟨⟨c0,g1⟩,g2⟩:=m.box q.1 q.2 cs hs h4;rw[g2];exact h5 c0 g1
 |v x=>exact IR.mv m h
 |sl es=>exact IR.mv m h
 |fM f bZ=>exact IR.mv m h
theorem cE.mv{cs:List AC}{arr:List Value}(h:cE w A S G H cs arr):cE w' A' S' G' H' cs arr:=⟨h.1,fun j x u h1 h2=>(h.2 j x u h1 h2).mv m⟩
theorem WR.mv{x:AW}(h:WR w A S G H x v):WR w' A' S' G' H' x v:=by
 cases x with
 |c x=>exact CR.mv m h
 |agg cs=>
  obtain⟨arr,e,h⟩:=h;exact⟨arr,e,cE.mv m h⟩
theorem VR.mv{x:AV}(h:VR w A S G H x v):VR w' A' S' G' H' x v:=by
 cases x with
 |w x=>exact WR.mv m h
 |bD vs=>
  obtain⟨arr,e,hl,h⟩:=h;exact⟨arr,e,hl,fun j x u h1 h2=>(h j x u h1 h2).mv m⟩
 |pb s g off=>
  obtain⟨h1,h2⟩:=h;refine⟨bj h1 (m.gen s),fun cs hs=> ?_⟩;obtain⟨⟨c0,e1⟩,e2⟩:=m.box s g cs hs h1;rw[e2];exact h2 c0 e1
 |pr s g i off=>
  obtain⟨h1,h2⟩:=h;refine⟨bj h1 (m.gen s),fun e k es hs=> ?_⟩;obtain⟨⟨c0,e1⟩,e2⟩:=m.row s e k g es hs h1;rw[e2];exact h2 e k c0 e1
 |pi cs off=>
  obtain⟨b,o,e,hlt,hb,us,hl,h⟩:=h;refine⟨b,o,e,jj hlt m.size,fun hh=>hb (m.off b hlt hh),us,hl,fun j x u h1 h2=> ?_⟩;obtain⟨e1,e2⟩:=h j x u h1 h2;exact⟨IR.mv m e1,by rw[FY (m.kept b hlt hb)];exact e2⟩
 |u=>trivial
end
structure Fr (F:Nat->Prop)(w0 w:World):Prop where
 os:w.os=w0.os
 tape:w.tape=w0.tape
 out:w.output=w0.output
 size:w0.heap.size<=w.heap.size
 block:∀b,F b->w.heap[b]? =w0.heap[b]?
def bm (S:Nat->Slot)(G:Nat->Gh)(H:Nat->Value)(s b:Nat):Prop:=(∃g cs,S s=.box g cs/\b=(G s).b)\/(∃e k g es,S s=.row e k g es/\(H s).ownBlock=some b)\/(∃g K,S s=.obj g K/\b∈(G s).fp)
def aV (M:Nat->Prop)(S:Nat->Slot)(G:Nat->Gh)(H:Nat->Value)(b:Nat):Prop:=M b\/∃s,bm S G H s b
def qB (w:World)(A:Nat->Prop)(k:Nat)(es:List (List AC))(xs:List Value):Prop:=
 (∀(i:Nat) (row:List AC),es[i]? =some row->row.length=k)/\∀(i:Nat) (row:List AC) (j:Nat) (x:AC) (u:Value),es[i]? =some row->row[j]? =some x->xs[i*k+j]? =some u->IR w A x u
structure kT where
 w:World
 S:Nat->Slot
 G:Nat->Gh
 H:Nat->Value
structure Rq (w0:kT)(S:Nat->Slot)(G:Nat->Gh)(H:Nat->Value):Prop where
 gen:∀s,(w0.S s).gen<=(S s).gen
 row:∀s e k g es,S s=.row e k g es->g<=(w0.S s).gen->(∃es,w0.S s=.row e k g es)/\H s=w0.H s
 box:∀s g cs,S s=.box g cs->g<=(w0.S s).gen->(∃cs,w0.S s=.box g cs)/\G s=w0.G s
 obj:∀s g K,S s=.obj g K->g<=(w0.S s).gen->(∃K,w0.S s=.obj g K)/\G s=w0.G s/\H s=w0.H s
structure yw (w:World)(F:Nat->Prop):Prop where
 gl:Gv w
 lo:∀b,b<gN->F b
theorem yw.mono {w:World}{F F':Nat->Prop}(h:yw w F)(hF:∀b,F b->F' b):yw w F':=⟨h.gl,fun b hb=>hF b (h.lo b hb)⟩
theorem yw.fr {w w':World}{F:Nat->Prop}(h:yw w F)(hf:Fr F w w'):yw w' F:=⟨h.gl.kept ⟨hf.os,hf.tape,hf.out,hf.size,fun b hb=>hf.block b (h.lo b hb)⟩,h.lo⟩
theorem Kv {w:World}(h:Gv w):yw w (fun b=>b<w.heap.size):=⟨h,fun _ hb=>jj hb h.low⟩
structure Rel (N:Nat)(F M:Nat->Prop)(w0:kT)(st:St)(G:Nat->Gh)(H:Nat->Value)(a:Act)(w:World):Prop where
 sz:a.tmps.size=N
 df:a.defers=[]
 fr:Fr F w0.w w
 hs:Rq w0 st.slot G H
 lo:(∀b,F b\/M b->b<w0.w.heap.size)/\yw w0.w F
 tm:∀i x,st.get i=some x->VR w (aV M st.slot G H) st.slot G H x (a.tmps.getD i undef)
 bx:∀s g cs,st.slot s=.box g cs->¬F (G s).b/\¬M (G s).b/\∃arr:List Value,az w (G s).b arr.toArray/\cE w (aV M st.slot G H) st.slot G H cs arr
 rw:∀s e k g es,st.slot s=.row e k g es->(∀b,(H s).ownBlock=some b->¬F b/\¬M b)/\∃xs,w.ownsRow 0 e k (H s) es.length xs/\qB w (aV M st.slot G H) k es xs
 ob:∀s g K,st.slot s=.obj g K->(∀b∈(G s).fp,¬F b/\¬M b)/\K.rep w (aV M st.slot G H) (H s) (G s)
 dj:∀s s' b,bm st.slot G H s b->bm st.slot G H s' b->s=s'
theorem Act.apw {a:Act}{d:Nat}{v:Value}(hd:d<a.tmps.size)(i:Nat):(a.put (some d) v).tmps.getD i undef=if i=d then v else a.tmps.getD i undef:=by
 simp only[Act.put,MT];by_cases h:i=d
 ·subst h;simp[oz hd]
 ·simp[h,nf (Ne.symm h)]
section
variable {N:Nat} {F M:Nat->Prop} {w0:kT} {w:World} {st:St} {G:Nat->Gh} {H:Nat->Value} {a:Act}
variable {G':Nat->Gh} {H':Nat->Value} {U:Option (List Nat)} {w':World}
theorem Rel.put(h:Rel N F M w0 st G H a w){d:Nat}(hd:d<N){x:AV}{v:Value}(hv:VR w (aV M st.slot G H) st.slot G H x v):Rel N F M w0 (st.put d x) G H (a.put (some d) v) w:=by
 have hS:(st.put d x).S=st.S:=by unfold St.put;split<;>rfl
 have hs:(st.put d x).slot=st.slot:=by funext i;unfold St.slot;rw[hS]
 refine⟨by simpa [Act.put] using h.sz,h.df,h.fr,by rw[hs];exact h.hs,h.lo,?_,by rw[hs];exact h.bx,by rw[hs];exact h.rw,by rw[hs];exact h.ob,by rw[hs];exact h.dj⟩;intro i y hy;rw[hs,Act.apw (by rw[h.sz];exact hd)]
 rcases St.apu hy with⟨h1,h2⟩|⟨h1,h2⟩
 ·rw[aq h1,h2];exact hv
 ·rw[af h1];exact h.tm i y h2
theorem Rel.qC(h:Rel N F M w0 st G H a w){s b:Nat}(hl:bm st.slot G H s b):b<w.heap.size/\¬F b/\¬M b:=by
 rcases hl with⟨g,cs,h1,rfl⟩|⟨e,k,g,es,h1,h2⟩|⟨g,K,h1,h2⟩
 ·obtain⟨e1,e2,arr,e3,_⟩:=h.bx s g cs h1;exact⟨e3.lt,e1,e2⟩
 ·obtain⟨e1,xs,e3,_⟩:=h.rw s e k g es h1;exact⟨(e3.lt b h2).2,e1 b h2⟩
 ·obtain⟨e1,e2⟩:=h.ob s g K h1;exact⟨K.lt e2 b h2,e1 b h2⟩
theorem Rel.glo(h:Rel N F M w0 st G H a w){F':Nat->Prop}(hF:∀b,F b->b<w.heap.size->F' b):yw w F':=
 (h.lo.2.fr h.fr).mono fun b hb=>hF b hb (jj (h.lo.1 b (.inl hb)) h.fr.size)
theorem Rel.Rs(h:Rel N F M w0 st G H a w)(s:Nat)(x:Slot)(hs:(aI st.S s).isSome=true)(hG:∀i,i≠s->G' i=G i)(hH:∀i,i≠s->H' i=H i)
  (ho:w'.os=w.os) (ht:w'.tape=w.tape) (Nw:w'.output=w.output) (hz:w.heap.size<=w'.heap.size) (hb:∀b,b<w.heap.size->¬bm st.slot G H s b->w'.heap[b]? =w.heap[b]?)
  (uR:∀b,bm (st.cn s x).slot G' H' s b->bm st.slot G H s b\/w.heap.size<=b) (pw:(st.slot s).gen<=x.gen)
  (bl:∀e k g es,x=.row e k g es->g<=(st.slot s).gen->(∃es,st.slot s=.row e k g es)/\H' s=H s) (gK:∀g cs,x=.box g cs->g<=(st.slot s).gen->(∃cs,st.slot s=.box g cs)/\G' s=G s)
  (uT:∀g K,x=.obj g K->g<=(st.slot s).gen->(∃K,st.slot s=.obj g K)/\G' s=G s/\H' s=H s)
  (qD:Mv w w' (aV M st.slot G H) (aV M (st.cn s x).slot G' H') st.slot (st.cn s x).slot G G' H H'->∀g cs,x=.box g cs->∃arr:List Value,az w' (G' s).b arr.toArray/\cE w' (aV M (st.cn s x).slot G' H') (st.cn s x).slot G' H' cs arr)
  (Aa:Mv w w' (aV M st.slot G H) (aV M (st.cn s x).slot G' H') st.slot (st.cn s x).slot G G' H H'->∀e k g es,x=.row e k g es->∃xs,w'.ownsRow 0 e k (H' s) es.length xs/\qB w' (aV M (st.cn s x).slot G' H') k es xs)
  (qE:Mv w w' (aV M st.slot G H) (aV M (st.cn s x).slot G' H') st.slot (st.cn s x).slot G G' H H'->∀g K,x=.obj g K->K.rep w' (aV M (st.cn s x).slot G' H') (H' s) (G' s)):
  Rel N F M w0 (st.cn s x) G' H' a w':=by
 have e1:(st.cn s x).slot s=x:=by rw[St.mL,aq ⟨rfl,hs⟩]
 have e2:∀i,i≠s->(st.cn s x).slot i=st.slot i:=fun i hi=>by rw[St.mL,af (fun hh=>hi hh.1)]
 have nz:∀i b,i≠s->(bm (st.cn s x).slot G' H' i b↔bm st.slot G H i b):=fun i b hi=>by unfold bm;rw[e2 i hi,hG i hi,hH i hi]
 have m:Mv w w' (aV M st.slot G H) (aV M (st.cn s x).slot G' H') st.slot (st.cn s x).slot G G' H H':=by
  refine⟨hz,fun b hlt BX=> ?_,fun b hlt BX=>hb b hlt (fun hl=>BX (.inr ⟨s,hl⟩)),fun i=> ?_,fun i e k g es h1 h2=> ?_,fun i g cs h1 h2=> ?_,fun i g K h1 h2=> ?_⟩
  ·rcases BX with hm|⟨i,hl⟩
   ·exact .inl hm
   ·by_cases hi:i=s
    ·subst hi
     rcases uR b hl with h1|h1
     ·exact .inr ⟨i,h1⟩
     ·omega
    ·exact .inr ⟨i,(nz i b hi).1 hl⟩
  ·by_cases hi:i=s
   ·subst hi;rw[e1];exact pw
   ·rw[e2 i hi];exact cK _
  ·by_cases hi:i=s
   ·subst hi;rw[e1] at h1;exact bl e k g es h1 h2
   ·rw[e2 i hi] at h1;exact⟨⟨es,h1⟩,hH i hi⟩
  ·by_cases hi:i=s
   ·subst hi;rw[e1] at h1;exact gK g cs h1 h2
   ·rw[e2 i hi] at h1;exact⟨⟨cs,h1⟩,hG i hi⟩
  ·by_cases hi:i=s
   ·subst hi;rw[e1] at h1;exact uT g K h1 h2
   ·rw[e2 i hi] at h1;exact⟨⟨K,h1⟩,hG i hi,hH i hi⟩
 have qF:∀i,(st.cn s x).get i=st.get i:=fun _=>rfl
 have hF:∀b,bm (st.cn s x).slot G' H' s b->¬F b/\¬M b:=fun b hl=>by
  rcases uR b hl with h1|h1
  ·exact(h.qC h1).2
  ·have:=h.fr.size;exact⟨fun hf=>by have:=h.lo.1 b (.inl hf);omega,fun hf=>by have:=h.lo.1 b (.inr hf);omega⟩
 refine⟨h.sz,h.df,⟨ho.trans h.fr.os,ht.trans h.fr.tape,Nw.trans h.fr.out,bj h.fr.size hz,fun b hf=> ?_⟩,⟨fun i=>bj (h.hs.gen i) (m.gen i),fun i e k g es h1 h2=> ?_,fun i g cs h1 h2=> ?_,fun i g K h1 h2=> ?_⟩,h.lo,fun i y hy=>VR.mv m (h.tm i y (by rw[<-qF];exact hy)),fun i g cs hi=> ?_,fun i e k g es hi=> ?_,fun i g K hi=> ?_,fun i j b h1 h2=> ?_⟩
 ·have hlt:=h.lo.1 b (.inl hf);rw[hb b (jj hlt h.fr.size) (fun hl=>(h.qC hl).2.1 hf)];exact h.fr.block b hf
 ·obtain⟨⟨Nv,e5⟩,e6⟩:=m.row i e k g es h1 (bj h2 (h.hs.gen i));rw[e6];exact h.hs.row i e k g Nv e5 h2
 ·obtain⟨⟨c0,e5⟩,e6⟩:=m.box i g cs h1 (bj h2 (h.hs.gen i));rw[e6];exact h.hs.box i g c0 e5 h2
 ·obtain⟨⟨c0,e5⟩,e6,e7⟩:=m.obj i g K h1 (bj h2 (h.hs.gen i));rw[e6,e7];exact h.hs.obj i g c0 e5 h2
 ·by_cases dZ:i=s
  ·subst dZ;rw[e1] at hi;have:=hF (G' i).b (.inl ⟨g,cs,by rw[e1];exact hi,rfl⟩);exact⟨this.1,this.2,qD m g cs hi⟩
  ·rw[e2 i dZ] at hi;obtain⟨f1,f2,arr,f3,f4⟩:=h.bx i g cs hi;rw[hG i dZ];refine⟨f1,f2,arr,?_,cE.mv m f4⟩;obtain⟨t,ht⟩:=f3;refine⟨t,?_⟩;rw[hb (G i).b (az.lt ⟨t,ht⟩) (fun hl=>dZ (h.dj i s (G i).b (.inl ⟨g,cs,hi,rfl⟩) hl))];exact ht
 ·by_cases dZ:i=s
  ·subst dZ;rw[e1] at hi;exact⟨fun b sq=>hF b (.inr (.inl ⟨e,k,g,es,by rw[e1];exact hi,sq⟩)),Aa m e k g es hi⟩
  ·rw[e2 i dZ] at hi;obtain⟨f1,xs,f3,f4,f5⟩:=h.rw i e k g es hi;rw[hH i dZ];refine⟨f1,xs,?_,f4,fun i' row j y u g1 g2 g3=>IR.mv m (f5 i' row j y u g1 g2 g3)⟩;obtain⟨q1,q2⟩:=f3;refine⟨q1,?_⟩
   rcases q2 with q2|⟨gg,cap,cur,q3,q4,q5,q6⟩
   ·exact .inl q2
   ·refine .inr ⟨gg,cap,cur,q3,q4,?_,q6⟩;have hl:bm st.slot G H i gg:=.inr (.inl ⟨e,k,g,es,hi,by rw[q3];rfl⟩);rw[hb gg (h.qC hl).1 (fun ij=>dZ (h.dj i s gg hl ij))];exact q5
 ·by_cases dZ:i=s
  ·subst dZ;rw[e1] at hi;exact⟨fun b sq=>hF b (.inr (.inr ⟨g,K,by rw[e1];exact hi,sq⟩)),qE m g K hi⟩
  ·rw[e2 i dZ] at hi;obtain⟨f1,f2⟩:=h.ob i g K hi;rw[hH i dZ,hG i dZ];refine⟨f1,K.mono f2 m.size m.off (fun b hlt sr=> ?_)⟩
   rcases sr with sr|sr
   ·exact hb b hlt (fun ij=>dZ (h.dj i s b (.inr (.inr ⟨g,K,hi,sr⟩)) ij))
   ·exact m.kept b hlt sr
 ·by_cases dZ:i=s
  ·by_cases DY:j=s
   ·rw[dZ,DY]
   ·rw[dZ] at h1;have h2':=(nz j b DY).1 h2
    rcases uR b h1 with h3|h3
    ·exact absurd (h.dj s j b h3 h2') (fun e=>DY e.symm)
    ·have:=(h.qC h2').1;omega
  ·have oF:=(nz i b dZ).1 h1;by_cases DY:j=s
   ·rw[DY] at h2
    rcases uR b h2 with h3|h3
    ·exact absurd (h.dj i s b oF h3) dZ
    ·have:=(h.qC oF).1;omega
   ·exact h.dj i j b oF ((nz j b DY).1 h2)
theorem Rel.grow(h:Rel N F M w0 st G H a w)(ho:w'.os=w.os)(ht:w'.tape=w.tape)(Nw:w'.output=w.output)(hz:w.heap.size<=w'.heap.size)(hb:∀b,b<w.heap.size->w'.heap[b]? =w.heap[b]?):Rel N F M w0 st G H a w':=by
 have m:Mv w w' (aV M st.slot G H) (aV M st.slot G H) st.slot st.slot G G H H:=
  ⟨hz,fun _ _ h=>h,fun b hlt _=>hb b hlt,fun _=>cK _,fun s e k g es h1 _=>⟨⟨es,h1⟩,rfl⟩,fun s g cs h1 _=>⟨⟨cs,h1⟩,rfl⟩,fun s g K h1 _=>⟨⟨K,h1⟩,rfl,rfl⟩⟩
 refine⟨h.sz,h.df,⟨ho.trans h.fr.os,ht.trans h.fr.tape,Nw.trans h.fr.out,bj h.fr.size hz,fun b hf=> ?_⟩,h.hs,h.lo,fun i y hy=>VR.mv m (h.tm i y hy),fun i g cs hi=> ?_,fun i e k g es hi=> ?_,fun i g K hi=> ?_,h.dj⟩
 ·rw[hb b (jj (h.lo.1 b (.inl hf)) h.fr.size)];exact h.fr.block b hf
 ·obtain⟨f1,f2,arr,f3,f4⟩:=h.bx i g cs hi;refine⟨f1,f2,arr,?_,cE.mv m f4⟩;obtain⟨t,ht⟩:=f3;exact⟨t,by rw[hb _ (az.lt ⟨t,ht⟩)];exact ht⟩
 ·obtain⟨f1,xs,f3,f4,f5⟩:=h.rw i e k g es hi;refine⟨f1,xs,?_,f4,fun i' row j y u g1 g2 g3=>IR.mv m (f5 i' row j y u g1 g2 g3)⟩;obtain⟨q1,q2⟩:=f3;refine⟨q1,?_⟩
  rcases q2 with q2|⟨gg,cap,cur,q3,q4,q5,q6⟩
  ·exact .inl q2
  ·have hl:bm st.slot G H i gg:=.inr (.inl ⟨e,k,g,es,hi,by rw[q3];rfl⟩);exact .inr ⟨gg,cap,cur,q3,q4,by rw[hb gg (h.qC hl).1];exact q5,q6⟩
 ·obtain⟨f1,f2⟩:=h.ob i g K hi;exact⟨f1,K.mono f2 hz (fun _ _ h=>h) (fun b hlt _=>hb b hlt)⟩
def cZ (U:List Nat)(S:Nat->Slot)(G:Nat->Gh)(H:Nat->Value)(w w':World):Prop:=∀b,b<w.heap.size->(∀s∈U,¬bm S G H s b)->w'.heap[b]? =w.heap[b]?
def yx (U:Option (List Nat))(s:Nat):Prop:=match U with
 |none=>True
 |some l=>s∈l
def DZ (U:Option (List Nat))(S:Nat->Slot)(G:Nat->Gh)(H:Nat->Value)(w:World)(S':Nat->Slot)(G':Nat->Gh)(H':Nat->Value)(w':World):Prop:=
 w.heap.size<=w'.heap.size/\∀l,U=some l->cZ l S G H w w'/\∀s∈l,∀b,b<w.heap.size->bm S' G' H' s b->∃s0∈l,bm S G H s0 b
theorem Nx{S:Nat->Slot}(hz:w.heap.size<=w'.heap.size)(hb:∀b,b<w.heap.size->w'.heap[b]? =w.heap[b]?):DZ U S G H w S G H w':=⟨hz,fun _ _=>⟨fun b hlt _=>hb b hlt,fun s hs _ _ h=>⟨s,hs,h⟩⟩⟩
theorem Rt(s:Nat)(x:Slot)(hG:∀i,i≠s->G' i=G i)(hH:∀i,i≠s->H' i=H i)(hz:w.heap.size<=w'.heap.size)(hb:∀b,b<w.heap.size->¬bm st.slot G H s b->w'.heap[b]? =w.heap[b]?)
  (uR:∀b,bm (st.cn s x).slot G' H' s b->bm st.slot G H s b\/w.heap.size<=b) (hU:yx U s\/∀b,b<w.heap.size->w'.heap[b]? =w.heap[b]?):DZ U st.slot G H w (st.cn s x).slot G' H' w':=by
 refine⟨hz,fun l hl=> ?_⟩;subst hl;refine⟨fun b hlt hn=> ?_,fun i hi b hlt nz=> ?_⟩
 ·rcases hU with hU|hU
  ·exact hb b hlt (hn s hU)
  ·exact hU b hlt
 ·by_cases dZ:i=s
  ·subst dZ
   rcases uR b nz with h1|h1
   ·exact⟨i,hi,h1⟩
   ·omega
  ·refine⟨i,hi,?_⟩;unfold bm at nz⊢;rw[St.mL,af (fun hh=>dZ hh.1),hG i dZ,hH i dZ] at nz;exact nz
end
inductive aP where
 |t (i:Nat)
 |k (x:AW)
def St.arg (st:St):aP->Option AV
 | .t i=>st.get i
 | .k x=>some (.w x)
def Gw:Option AV->Option Value
 |some (.w (.c (.v x)))=>some x
 |_=>none
def St.sc (st:St)(x:aP):Option Value:=Gw (st.arg x)
def aW (op:BinOp):Value->Value->Option Value
 | .int k a,.int k' b=>if k=k' then match op with
   | .add=>if k.wrap (a+b)=a+b then some (.int k (a+b)) else none
   | .sub=>if k.wrap (a-b)=a-b then some (.int k (a-b)) else none
   | .mul=>if k.wrap (a*b)=a*b then some (.int k (a*b)) else none
   | .quo=>if b≠0/\k.wrap (a.tdiv b)=a.tdiv b then some (.int k (a.tdiv b)) else none
   | .rem=>if b≠0 then some (.int k (a.tmod b)) else none
   | .eql=>some (.bool (decide (a=b)))
   | .neq=>some (.bool (decide (a≠b)))
   | .lss=>some (.bool (decide (a<b)))
   | .leq=>some (.bool (decide (a<=b)))
   | .gtr=>some (.bool (decide (b<a)))
   | .geq=>some (.bool (decide (b<=a)))
   |_=>none
  else none
 | .string a,.string b=>match op with
   | .eql=>some (.bool (a.toList==b.toList))
   | .neq=>some (.bool (!(a.toList==b.toList)))
   | .add=>if((a.size+b.size:Nat):Int)>IntKind.i64.max then none else some (.string (a++b))
   |_=>none
 |_,_=>none
def Ea (op:UnOp):Value->Option Value
 | .int k a=>match op with
   | .neg=>if k.wrap (0-a)= -a then some (.int k (-a)) else none
   |_=>none
 | .bool b=>match op with
   | .not=>some (.bool !b)
   |_=>none
 |_=>none
def Gx (mx:Bool):Value->Value->Option Value
 | .int k a,.int k' b=>if k=k' then some (.int k (if mx then max a b else min a b)) else none
 |_,_=>none
def St.rows (st:St)(U:List Nat):Option AV->Option (List (List AC))
 |some (.w (.c (.sl es)))=>some es
 |some (.w (.c (.own s g)))=>match st.slot s with
  | .row _ _ g' es=>if g=g'/\s∉U then some es else none
  |_=>none
 |_=>none
def St.cells (st:St)(U:List Nat)(n:Nat):Option AV->Option (List AC)
 |some (.pb s g off)=>match st.slot s with
  | .box g' cs=>if g=g'/\s∉U/\off+n<=cs.length then some ((cs.drop off).take n) else none
  |_=>none
 |some (.pr s g i off)=>match st.slot s with
  | .row _ _ g' es=>if g=g'/\s∉U then match es[i]? with
    |some row=>if off+n<=row.length then some ((row.drop off).take n) else none
    |none=>none
   else none
  |_=>none
 |some (.pi cs off)=>if off+n<=cs.length then some ((cs.drop off).take n) else none
 |_=>none
section
variable {P:Program} {N:Nat} {F M:Nat->Prop} {w0:kT} {w:World} {st:St} {G:Nat->Gh} {H:Nat->Value} {a:Act}
variable {o:Oper} {t:TypeId} {x:Operand} {y:aP}
def dO (x:Operand)(y:aP):Prop:=match y with
 | .t i=>x=.tmp i
 | .k (.c (.v v))=>x=.const v/\yv v=true
 | .k (.c (.sl []))=>x=.const (.slice none 0 0)
 |_=>False
theorem Rel.arg(h:Rel N F M w0 st G H a w)(lZ:dO x y){v:AV}(hv:st.arg y=some v):VR w (aV M st.slot G H) st.slot G H v (a.eval x):=by
 cases y with
 |t i=>
  have hx:x=.tmp i:=lZ;subst hx;exact h.tm i v hv
 |k q=>
  simp only[St.arg,aA] at hv;subst hv
  cases q with
  |c c=>
   cases c with
   |v u=>
    obtain⟨h1,h2⟩:=lZ;subst h1;exact IR.v u h2
   |sl es=>
    cases es with
    |nil=>
     have hx:x=.const (.slice none 0 0):=lZ;subst hx;exact IR.sl 0 [] none 0 (fun _ _=>undef) ax ai (by intro i row h;simp at h) (by intro i row j x h;simp at h) (by intro i row j h;simp at h)
    |cons e es=>exact lZ.elim
   |own s g=>exact lZ.elim
   |cP s g=>exact lZ.elim
   |part s g i=>exact lZ.elim
   |fM f bZ=>exact lZ.elim
   |cls f bZ=>exact lZ.elim
  |agg cs=>exact lZ.elim
theorem Rel.sc(h:Rel N F M w0 st G H a w)(lZ:dO x y){v:Value}(hv:st.sc y=some v):a.eval x=v/\yv v=true:=by
 unfold St.sc Gw at hv;split at hv
 ·rename_i u hu;simp only[aA] at hv;subst hv;have:=h.arg lZ hu
  cases this with
  |v _ h=>exact⟨rfl,h⟩
 ·cases hv
def jM (P:Program)(mem:Bool)(o:Oper)(ev:St->List Nat->Option AV):Prop:=
 ∀(N:Nat) (F M:Nat->Prop) (w0:kT) (w:World) (st:St) (G:Nat->Gh) (H:Nat->Value) (a:Act) (U:List Nat) (x:AV),Rel N F M w0 st G H a w->ev st U=some x->
  ∃v,VR w (aV M st.slot G H) st.slot G H x v/\∀w',(mem=true->cZ U st.slot G H w w')->(execOp a.eval o).run P w'=.ok (.value v) w'
theorem aei(ho:o.op=.move x\/o.op=.assign x)(lZ:dO x y):jM P false o (fun st _=>st.arg y):=by
 intro N F M w0 w st G H a U r h hr;refine⟨a.eval x,h.arg lZ hr,fun w' _=> ?_⟩;unfold execOp
 rcases ho with ho|ho<;>simp[ho]
theorem apx{op:BinOp}{t':TypeId}{x':Operand}{y':aP}(ho:o.op=.binOp op t x x' t')(hx:dO x y)(su:dO x' y'):
  jM P false o (fun st _=>match st.sc y,st.sc y' with |some u,some v=>(aW op u v).map fun r=> .w (.c (.v r))|_,_=>none):=by
 intro N F M w0 w st G H a U r h hr;dsimp only at hr;split at hr
 case h_2=>cases hr
 rename_i u v hu hv;obtain⟨e1,s1⟩:=h.sc hx hu;obtain⟨e2,s2⟩:=h.sc su hv;rw[bO] at hr;obtain⟨q,hq,rfl⟩:=hr
 have Ny:yv q=true:=by
  unfold aW at hq
  repeat' split at hq
  all_goals first|(simp only[aA] at hq;subst hq;rfl)|cases hq
 refine⟨q,IR.v q Ny,fun w' _=> ?_⟩;unfold execOp;simp only[ho,e1,e2];unfold aW at hq;split at hq
 ·split at hq
  ·rename_i k a b k' c hk;subst hk;cases op<;>dsimp only at hq<;>(try split at hq)
   all_goals first|(simp only[aA] at hq;subst hq)|cases hq
   all_goals
    first
     |(simp[eqGuard,binOp,Op.intArith,Op.intCmp, *];done)
     |(rename_i hw;simp[eqGuard,binOp,Op.intArith,Op.intDiv,hw];done)
     |(rename_i hw;simp[eqGuard,binOp,Op.intDiv,hw.1,hw.2];done)
     |(unfold eqGuard binOp Op.intCmp;simp;done)
     |(unfold eqGuard binOp Op.intCmp;simp;rfl)
  ·cases hq
 ·cases op<;>dsimp only at hq
  all_goals first|(simp only[aA] at hq;subst hq;simp[eqGuard,binOp,Op.stringOp];done)|(cases hq;done)|(split at hq<;>first|(cases hq;done)|(rename_i hlt;simp only[aA] at hq;subst hq;simp[eqGuard,binOp,Op.stringOp,hlt];try (simpa using hlt);done))
 ·cases hq
theorem apy{op:UnOp}(ho:o.op=.unOp op t x)(hx:dO x y):jM P false o (fun st _=>match st.sc y with |some u=>(Ea op u).map fun r=> .w (.c (.v r))|_=>none):=by
 intro N F M w0 w st G H a U r h hr;dsimp only at hr;split at hr
 case h_2=>cases hr
 rename_i u hu;obtain⟨e1,s1⟩:=h.sc hx hu;rw[bO] at hr;obtain⟨q,hq,rfl⟩:=hr
 have Ny:yv q=true:=by
  unfold Ea at hq
  repeat' split at hq
  all_goals first|(simp only[aA] at hq;subst hq;rfl)|cases hq
 refine⟨q,IR.v q Ny,fun w' _=> ?_⟩;unfold execOp;simp only[ho,e1];unfold Ea at hq
 repeat' split at hq
 all_goals first|(simp only[aA] at hq;subst hq)|cases hq
 ·rename_i hw;simp[Op.unary,Op.intArith,hw];simpa using hw
 ·simp[Op.unary]
theorem apz{x1 x2 x3:Operand}{y1 y2 y3:aP}(ho:o.op=.pick x1 x2 x3)(h1:dO x1 y1)(h2:dO x2 y2)(h3:dO x3 y3):
  jM P false o (fun st _=>match st.sc y1 with |some (.bool true)=>st.arg y2|some (.bool false)=>st.arg y3|_=>none):=by
 intro N F M w0 w st G H a U r h hr;dsimp only at hr;split at hr
 ·rename_i hu;obtain⟨e1,s1⟩:=h.sc h1 hu;exact⟨_,h.arg h2 hr,fun w' _=>by unfold execOp;simp[ho,e1,asBool]⟩
 ·rename_i hu;obtain⟨e1,s1⟩:=h.sc h1 hu;exact⟨_,h.arg h3 hr,fun w' _=>by unfold execOp;simp[ho,e1,asBool]⟩
 ·cases hr
theorem IR.tF{A:Nat->Prop}{S:Nat->Slot}{G:Nat->Gh}{x:AC}{u:Value}(h:IR w A x u):CR w A S G H x u:=by cases h with
 |v _ hs=>exact IR.v _ hs
 |sl k es ad c us hn hm hk hc hl=>exact IR.sl k es ad c us hn hm hk hc hl
 |fM f bZ at_ us hc hl=>exact IR.fM f bZ at_ us hc hl
theorem Rel.rows(h:Rel N F M w0 st G H a w)(lZ:dO x y){U:List Nat}{es:List (List AC)}(hr:st.rows U (st.arg y)=some es):∃ad c,a.eval x=.slice ad es.length c/\es.length<=c/\es.length<=9223372036854775807:=by
 unfold St.rows at hr;split at hr
 ·rename_i es' hv;simp only[aA] at hr;subst hr;have:=h.arg lZ hv;generalize a.eval x=q at this;have h3:IR w (aV M st.slot G H) (.sl es') q:=this
  cases h3 with
  |sl _ _ ad c u hn hm _ _ _=>exact⟨ad,c,rfl,hn,hm⟩
 ·rename_i s g hv;split at hr
  ·rename_i e k' g' es' hs;split at hr
   ·rename_i hg;simp only[aA] at hr;subst hr;obtain⟨rfl,_⟩:=hg;have h3:CR w (aV M st.slot G H) st.slot G H (.own s g) (a.eval x):=h.arg lZ hv;obtain⟨_,_,hH⟩:=h3;rw[hH e k' es' hs];obtain⟨_,xs,ho,_⟩:=h.rw s e k' g es' hs
    rcases ho.2 with⟨e1,e2⟩|⟨gg,cap,cur,e1,_,_,e3,e4,_⟩
    ·rw[e1,e2];exact⟨none,0,rfl,ab,ab⟩
    ·rw[e1];exact⟨_,cap,rfl,e3,by simp only[maxLen] at e4;omega⟩
   ·cases hr
  ·cases hr
 ·cases hr
end
section
variable {P:Program} {N:Nat} {F M:Nat->Prop} {w0:kT} {w:World} {st:St} {G:Nat->Gh} {H:Nat->Value} {a:Act}
variable {U:List Nat} {b:Nat} {d:TypeDesc} {o:Oper} {p:AV} {t:TypeId} {x:Operand} {y:aP}
theorem Gy{α:Type}(l:List α)(off n j:Nat):((l.drop off).take n)[j]? =if j<n then l[off+j]? else none:=by
 rw[wI];split
 ·rw[oA]
 ·rfl
theorem Rel.cells(h:Rel N F M w0 st G H a w){n:Nat}{v:Value}{cs:List AC}(hv:VR w (aV M st.slot G H) st.slot G H p v)(hc:st.cells U n (some p)=some cs):
  ∃b o us,v=.pointer (some ⟨b,o,none⟩)/\b<w.heap.size/\(∀s∈U,¬bm st.slot G H s b)/\w.rangeAt b o us/\cE w (aV M st.slot G H) st.slot G H cs us/\us.length=n:=by
 cases p with
 |w x=>simp[St.cells] at hc
 |bD vs=>simp[St.cells] at hc
 |u=>simp[St.cells] at hc
 |pb s g off=>
  simp only[St.cells] at hc;split at hc
  case h_2=>cases hc
  rename_i g' cs' hs;split at hc
  case isFalse=>cases hc
  rename_i hg;obtain⟨rfl,hU,hlen⟩:=hg;simp only[aA] at hc;subst hc;obtain⟨_,hp⟩:=hv;obtain⟨_,_,arr,hb,hl,hr⟩:=h.bx s g cs' hs;refine⟨(G s).b,off,(arr.drop off).take n,hp cs' hs,hb.lt,fun s' eo ij=> ?_,fun j u hj=> ?_,⟨by simp;omega,fun j x u h1 h2=> ?_⟩,by simp;omega⟩
  ·have:=h.dj s s' _ (.inl ⟨g,cs',hs,rfl⟩) ij;subst this;exact hU eo
  ·rw[Gy] at hj;split at hj
   ·rw[hb.cell];simpa using hj
   ·cases hj
  ·rw[Gy] at h1 h2;split at h1
   ·rename_i hj;rw[aq hj] at h2;exact hr _ x u h1 h2
   ·cases h1
 |pr s g i off=>
  simp only[St.cells] at hc;split at hc
  case h_2=>cases hc
  rename_i e k g' es hs;split at hc
  case isFalse=>cases hc
  rename_i hg;obtain⟨rfl,hU⟩:=hg;split at hc
  case h_2=>cases hc
  rename_i row bl;split at hc
  case isFalse=>cases hc
  rename_i hlen;simp only[aA] at hc;subst hc;obtain⟨_,hp⟩:=hv;obtain⟨b,n',c',hH,rfl⟩:=hp e k es hs;obtain⟨_,xs,ho,hk,hx⟩:=h.rw s e k g es hs
  have aS:(H s).ownBlock=some b:=by rw[hH];rfl
  have hi:=(bK.1 bl).1;have oI:=ho.1;have eb:=hk i row bl;have hle:(i+1)*k<=es.length*k:=uG k hi;rw[zO,Nat.one_mul] at hle;refine⟨b,i*k+off,(xs.drop (i*k+off)).take n,rfl,(ho.lt b aS).2,fun s' eo ij=> ?_,fun j u hj=> ?_,⟨by simp;omega,fun j x u h1 h2=> ?_⟩,by simp;omega⟩
  ·have:=h.dj s s' _ (.inr (.inl ⟨e,k,g,es,hs,aS⟩)) ij;subst this;exact hU eo
  ·rw[Gy] at hj;split at hj
   ·have:=ho.cells aS _ _ hj;rwa[Addr.add_mid,fu] at this
   ·cases hj
  ·rw[Gy] at h1 h2;split at h1
   ·rename_i hj;rw[aq hj,Nat.add_assoc] at h2;exact(hx i row _ x u bl h1 h2).tF
   ·cases h1
 |pi cs' off=>
  simp only[St.cells] at hc;split at hc
  case isFalse=>cases hc
  rename_i hlen;simp only[aA] at hc;subst hc;obtain⟨b,o,rfl,hlt,hA,us,hl,hx⟩:=hv;refine⟨b,o+off,(us.drop off).take n,rfl,hlt,fun s' _ ij=>hA (.inr ⟨s',ij⟩),fun j u hj=> ?_,⟨by simp;omega,fun j x u h1 h2=> ?_⟩,by simp;omega⟩
  ·rw[Gy] at hj;split at hj
   ·rename_i zQ;have cY:=(bK.1 hj).1;have:=hx (off+j) (cs'[off+j]' ab) u ai hj;rw[Nat.add_assoc];exact this.2
   ·cases hj
  ·rw[Gy] at h1 h2;split at h1
   ·rename_i hj;rw[aq hj] at h2;exact(hx _ x u h1 h2).1.tF
   ·cases h1
theorem aej{S:Nat->Slot}{w w':World}{o:Nat}{us:List Value}(hw:cZ U S G H w w')(hlt:b<w.heap.size)(hU:∀s∈U,¬bm S G H s b)(hr:w.rangeAt b o us):w'.rangeAt b o us:=fun j v hv=>by
 rw[FY (hw b hlt hU)];exact hr j v hv
theorem apA(ho:o.op=.load t x)(hu:P.underlying t=some d)(hd:d.isRow=false)(hx:dO x y):
  jM P true o (fun st U=>match st.cells U 1 (st.arg y) with |some (c::_)=>some (.w (.c c))|_=>none):=by
 intro N F M w0 w st G H a U r h hr;dsimp only at hr;split at hr
 case h_2=>cases hr
 rename_i c cs hc;simp only[aA] at hr;subst hr
 cases hp:st.arg y with
 |none=>rw[hp] at hc;simp[St.cells] at hc
 |some p=>
  rw[hp] at hc;obtain⟨b,off,us,e1,hlt,hU,hr,hcs,hl⟩:=h.cells (h.arg hx hp) hc
  obtain⟨u,rfl⟩:∃u,us=[u]:=by
   match us,hl with
   |[u],_=>exact⟨u,rfl⟩
  refine⟨u,hcs.2 0 c u rfl rfl,fun w' hw=> ?_⟩;have hcell:=aej (hw rfl) hlt hU hr 0 u rfl;rw[qm] at hcell;unfold execOp
  have yy:(isAgg t).run P w'=.ok false w':=by
   unfold isAgg;rw[oZ,lu hu]
   cases d<;>first|rfl|cases hd
  simp[ho,e1,Instr.loadAt,Instr.sureAddr,loadVar,yy,hcell]
theorem apB{n:Nat}(ho:o.op=.load t x)(hu:P.underlying t=some d)(hd:d.isRow=true)(hn:(P.info? t).map (·.size)=some n)(hx:dO x y):
  jM P true o (fun st U=>match st.cells U n (st.arg y) with |some cs=>some (.w (.agg cs))|_=>none):=by
 intro N F M w0 w st G H a U r h hr;dsimp only at hr;split at hr
 case h_2=>cases hr
 rename_i cs hc;simp only[aA] at hr;subst hr
 cases hp:st.arg y with
 |none=>rw[hp] at hc;simp[St.cells] at hc
 |some p=>
  rw[hp] at hc;obtain⟨b,off,us,e1,hlt,hU,hr,hcs,hl⟩:=h.cells (h.arg hx hp) hc;refine⟨.agg us.toArray,⟨us,rfl,hcs⟩,fun w' hw=> ?_⟩;unfold execOp;simp[ho,e1,run_loadAt_mid w' b off t us d (aej (hw rfl) hlt hU hr) hu hd (by rw[hl];exact hn)]
def AV.shift (k:Nat):AV->AV
 | .pb s g off=> .pb s g (off+k)
 | .pr s g i off=> .pr s g i (off+k)
 | .pi cs off=> .pi cs (off+k)
 |x=>x
theorem VR.shift{A:Nat->Prop}{S:Nat->Slot}{o k:Nat}(hp:∃c,st.cells [] 0 (some p)=some c)(hS:S=st.slot)(hv:VR w A S G H p (.pointer (some ⟨b,o,none⟩))):VR w A S G H (p.shift k) (.pointer (some ⟨b,o+k,none⟩)):=by
 subst hS;obtain⟨c,hp⟩:=hp
 cases p with
 |w x=>simp[St.cells] at hp
 |bD vs=>simp[St.cells] at hp
 |u=>simp[St.cells] at hp
 |pb s g off=>
  refine⟨hv.1,fun cs hs=> ?_⟩;have:=hv.2 cs hs;simp only[Value.pointer.injEq,aA,Addr.mk.injEq] at this;obtain⟨rfl,rfl,_⟩:=this;rfl
 |pr s g i off=>
  refine⟨hv.1,fun e k' es hs=> ?_⟩;obtain⟨b',n,c,h1,h2⟩:=hv.2 e k' es hs;simp only[Value.pointer.injEq,aA,Addr.mk.injEq] at h2;obtain⟨rfl,rfl,_⟩:=h2;exact⟨b,n,c,h1,by rw[Nat.add_assoc]⟩
 |pi cs off=>
  obtain⟨b',o',h2,h3⟩:=hv;simp only[Value.pointer.injEq,aA,Addr.mk.injEq] at h2;obtain⟨rfl,rfl,_⟩:=h2;exact⟨b,o',by rw[Nat.add_assoc],h3⟩
theorem apC{f:Nat}{fs:Array Field}{fd:Field}{z:Nat}(ho:o.op=.fieldAddr t x f)(hu:P.underlying t=some (.struct fs))(hf:fs[f]? =some fd)(hz:(P.info? fd.type).map (·.size)=some z)(eZ:z≠0)(hx:dO x y):
  jM P false o (fun st _=>match st.cells [] 0 (st.arg y),st.arg y with |some _,some p=>some (p.shift fd.offset)|_,_=>none):=by
 intro N F M w0 w st G H a U r h hr;dsimp only at hr;split at hr
 case h_2=>cases hr
 rename_i cs p hc hp;simp only[aA] at hr;subst hr;rw[hp] at hc;obtain⟨b,off,us,e1,hlt,hU,hr,hcs,hl⟩:=h.cells (h.arg hx hp) hc;have hv:=h.arg hx hp;rw[e1] at hv;refine⟨_,VR.shift ⟨cs,hc⟩ rfl hv,fun w' hw=> ?_⟩
 have hsz:(sizeOf fd.type).run P w'=.ok z w':=by
  cases hi:P.info? fd.type with
  |none=>simp[hi] at hz
  |some i=>simp[hi] at hz;simp[sizeOf,typeInfo,hi,hz]
 unfold execOp;simp[ho,e1,Instr.fieldAt,lu hu,hf,Instr.sureAddr,fieldPlace,hsz,eZ,Addr.add_mid]
end
def Eb (k:Nat):Option (List (List AC))->Option AV->Option Value->Option AV
 |some es,some (.w (.c (.sl _))),some (.int _ n)=>if 0<=n/\n<es.length/\(es.getD n.toNat []).length=k then some (.pi (es.getD n.toNat []) 0) else none
 |some es,some (.w (.c (.own s g))),some (.int _ n)=>if 0<=n/\n<es.length/\(es.getD n.toNat []).length=k then some (.pr s g n.toNat 0) else none
 |_,_,_=>none
def Ru (n k:Nat):Option (List AC)->Option AV->Option Value->Option AV
 |some _,some p,some (.int _ i)=>if 0<=i/\i<n then some (p.shift (i.toNat*k)) else none
 |_,_,_=>none
def Nz:Option Value->Option Nat
 |some (.int _ n)=>if 0<=n then some n.toNat else none
 |_=>none
section
variable {P:Program} {N:Nat} {F M:Nat->Prop} {w0:kT} {w:World} {st:St} {G:Nat->Gh} {H:Nat->Value} {a:Act}
variable {e t:TypeId} {k:Nat} {o:Oper} {q y:aP} {x z:Operand}
theorem Gz{z:Nat}(hz:(P.info? t).map (·.size)=some z)(w':World):(sizeOf t).run P w'=.ok z w':=by
 cases hi:P.info? t with
 |none=>simp[hi] at hz
 |some i=>simp[hi] at hz;simp[sizeOf,typeInfo,hi,hz]
theorem aek{mx:Bool}{x1 x2:Operand}{y1 y2:aP}{ts:Array TypeId}(ho:o.op=.call { callee:=.builtin (if mx then .max else .min),args:=#[x1,x2],argTypes:=ts })(h1:dO x1 y1)(h2:dO x2 y2):
  jM P false o (fun st _=>match st.sc y1,st.sc y2 with |some u,some v=>(Gx mx u v).map fun r=> .w (.c (.v r))|_,_=>none):=by
 intro N F M w0 w st G H a U r h hr;dsimp only at hr;split at hr
 case h_2=>cases hr
 rename_i u v hu hv;obtain⟨e1,s1⟩:=h.sc h1 hu;obtain⟨e2,s2⟩:=h.sc h2 hv;rw[bO] at hr;obtain⟨q,hq,rfl⟩:=hr;unfold Gx at hq;split at hq
 case h_2=>cases hq
 rename_i k x k' y;split at hq
 case isFalse=>cases hq
 rename_i hk;subst hk;simp only[aA] at hq;subst hq;refine⟨_,IR.v _ rfl,fun w' _=> ?_⟩;unfold execOp;cases mx
 ·have:min x y=if y<x then y else x:=ab;simp[ho,resolve,e1,e2,invoke,Go.builtin,Builtin.min_,Builtin.min2,this]
 ·have:max x y=if x<y then y else x:=ab;simp[ho,resolve,e1,e2,invoke,Go.builtin,Builtin.max_,Builtin.max2,this]
theorem apD(ho:o.op=.indexAddr t x z)(hu:P.underlying t=some (.slice e))(hk:(P.info? e).map (·.size)=some k)(aY:0<k)(hx:dO x y)(hz:dO z q):
  jM P false o (fun st _=>Eb k (st.rows [] (st.arg y)) (st.arg y) (st.sc q)):=by
 intro N F M w0 w st G H a U r h hr;dsimp only at hr
 have run:∀(w':World) (ad:Addr) (n c:Nat) (kk:IntKind) (i:Int),0<=i->i<n->a.eval x=.slice (some ad) n c->a.eval z=.int kk i->(execOp a.eval o).run P w'=.ok (.value (.pointer (some (ad.add (i.toNat*k))))) w':=by
  intro w' ad n c kk i h0 h1 e1 e2;unfold execOp;simp[ho,e1,e2,Instr.indexAt,asIntOf,lu hu,Gz hk,h0,h1]
 unfold Eb at hr;split at hr
 ·rename_i es es' kk n wW hv hn;split at hr
  case isFalse=>cases hr
  rename_i hb;obtain⟨h0,h1,h2⟩:=hb;simp only[aA] at hr;subst hr;obtain⟨e2,_⟩:=h.sc hz hn;have h3:IR w (aV M st.slot G H) (.sl es') (a.eval x):=h.arg hx hv;rw[hv] at wW;simp only[St.rows,aA] at wW;subst wW;generalize hq:a.eval x=qv at h3
  cases h3 with
  |sl k' _ ad c u nW hm gC hc hl=>
   have wY:n.toNat<es'.length:=ab
   have bl:es'[n.toNat]? =some (es'.getD n.toNat []):=by rw[fo,cw wY];rfl
   generalize es'.getD n.toNat []=row at bl h2;have ew:=gC _ _ bl;rw[h2] at ew;subst ew;obtain⟨b,off,rfl,hA,hcell⟩:=hl n.toNat row 0 bl ab;have hlt:=iT _ _ hcell;refine⟨_,⟨b,off+n.toNat*k,rfl,hlt,hA,(List.range row.length).map (fun j=>u n.toNat j),ai,fun j x' u' g1 g2=> ?_⟩,fun w' _=> ?_⟩
   ·have hj:=(bK.1 g1).1;simp[hj] at g2;subst g2;refine⟨hc _ _ j x' bl g1,?_⟩;obtain⟨b',o',Kq,_,apE⟩:=hl n.toNat row j bl hj;simp only[aA,Addr.mk.injEq] at Kq;obtain⟨rfl,rfl,_⟩:=Kq;exact apE
   ·rw[run w' _ _ _ _ _ h0 h1 hq e2,Addr.add_mid,qm]
 ·rename_i es s g kk n wW hv hn;split at hr
  case isFalse=>cases hr
  rename_i hb;obtain⟨h0,h1,h2⟩:=hb;simp only[aA] at hr;subst hr;obtain⟨e2,_⟩:=h.sc hz hn;have h3:CR w (aV M st.slot G H) st.slot G H (.own s g) (a.eval x):=h.arg hx hv;obtain⟨_,hg,hH⟩:=h3;rw[hv] at wW;simp only[St.rows] at wW;split at wW
  case h_2=>cases wW
  rename_i e' k' g' es' hs;split at wW
  case isFalse=>cases wW
  rename_i Rv;obtain⟨rfl,_⟩:=Rv;simp only[aA] at wW;subst wW;have Ec:=hH e' k' es' hs;obtain⟨_,xs,how,eF,_⟩:=h.rw s e' k' g es' hs;obtain⟨b,cap,e3,_,_⟩:=how.form ab;have wY:n.toNat<es'.length:=ab
  have bl:es'[n.toNat]? =some (es'.getD n.toNat []):=by rw[fo,cw wY];rfl
  have ew:=eF _ _ bl;rw[h2] at ew;subst ew;refine⟨_,⟨hg,fun e2 k2 eR ik=> ?_⟩,fun w' _=>run w' _ _ _ _ _ h0 h1 (by rw[Ec];exact e3) e2⟩;rw[hs] at ik;cases ik;exact⟨b,es'.length,cap,e3,by rw[Addr.add_mid,fu];rfl⟩
 ·cases hr
theorem apF{n:Nat}(ho:o.op=.indexAddr t x z)(hu:P.underlying t=some (.array n e))(hk:(P.info? e).map (·.size)=some k)(hx:dO x y)(hz:dO z q):
  jM P false o (fun st _=>Ru n k (st.cells [] 0 (st.arg y)) (st.arg y) (st.sc q)):=by
 intro N F M w0 w st G H a U r h hr;dsimp only at hr;unfold Ru at hr;split at hr
 case h_2=>cases hr
 rename_i cs p kk i hc hp hi;split at hr
 case isFalse=>cases hr
 rename_i hb;simp only[aA] at hr;subst hr;rw[hp] at hc;obtain⟨e2,_⟩:=h.sc hz hi;obtain⟨b,off,us,e1,hlt,hU,hr,hcs,hl⟩:=h.cells (h.arg hx hp) hc;have hv:=h.arg hx hp;rw[e1] at hv;refine⟨_,VR.shift ⟨cs,hc⟩ rfl hv,fun w' hw=> ?_⟩;unfold execOp;simp[ho,e1,e2,Instr.indexAt,asIntOf,lu hu,Instr.sureAddr,Gz hk,hb.1,hb.2,Addr.add_mid]
theorem apG{i:Nat}(ho:o.op=.extract x i)(hx:dO x y):jM P false o (fun st _=>match st.arg y with |some (.bD vs)=>(vs[i]?).map .w|_=>none):=by
 intro N F M w0 w st G H a U r h hr;dsimp only at hr;split at hr
 case h_2=>cases hr
 rename_i vs hv;rw[bO] at hr;obtain⟨q,hq,rfl⟩:=hr;obtain⟨arr,e1,hl,hw⟩:=h.arg hx hv;have hi:=(bK.1 hq).1
 obtain⟨u,hu⟩:∃u,arr[i]? =some u:=⟨arr[i]' ab,ai⟩
 refine⟨u,hw i q u hq hu,fun w' _=> ?_⟩;unfold execOp;simp[ho,e1,Instr.extract,hu]
theorem apH(ho:o.op=.index t x z)(hu:P.underlying t=some .string)(hx:dO x y)(hz:dO z q):
  jM P false o (fun st _=>match st.sc y,st.sc q with |some (.string s),some (.int _ n)=>if h:0<=n/\n.toNat<s.size then some (.w (.c (.v (.int .u8 (s.get n.toNat h.2).toNat)))) else none|_,_=>none):=by
 intro N F M w0 w st G H a U r h hr;dsimp only at hr;split at hr
 case h_2=>cases hr
 rename_i s kk n hs hn;split at hr
 case isFalse=>cases hr
 rename_i hb;simp only[aA] at hr;subst hr;obtain⟨e1,_⟩:=h.sc hx hs;obtain⟨e2,_⟩:=h.sc hz hn;refine⟨_,IR.v _ rfl,fun w' _=> ?_⟩;unfold execOp;have h2:n<s.size:=ab;simp[ho,e1,e2,Instr.index,asIntOf,lu hu,hb.1,h2];rfl
theorem WN(w:World)(n c l h:Nat)(lo hi:Option Value)(oJ:(lo=none/\l=0)\/∃k,lo=some (.int k l))(jn:(hi=none/\h=n)\/∃k,hi=some (.int k h))(h1:l<=h)(h2:h<=n)(h3:n<=c):
  (Instr.sliceBounds true n c lo hi none).run P w=.ok (l,h,c) w:=by
 have e1:∀(k:IntKind) (code:BoundsCode),(Instr.sliceBound (.int k h) c code).run P w=.ok h w:=fun k code=>by rw[run_sliceBound w k h c code ab ab];simp
 have e2:∀(k:IntKind) (code:BoundsCode),(Instr.sliceBound (.int k l) h code).run P w=.ok l w:=fun k code=>by rw[run_sliceBound w k l h code ab ab];simp
 rcases oJ with⟨rfl,rfl⟩|⟨k,rfl⟩<;>rcases jn with⟨rfl,rfl⟩|⟨k',rfl⟩<;>simp[Instr.sliceBounds,e1,e2]
end
section
variable {P:Program} {N:Nat} {F M:Nat->Prop} {w0:kT} {w:World} {st:St} {G:Nat->Gh} {H:Nat->Value} {a:Act}
theorem apI {A:Nat->Prop}{es:List (List AC)}{ad:Option Addr}{n c l h k:Nat}(h1:l<=h)(h2:h<=es.length)(hk:∀(i:Nat) (row:List AC),es[i]? =some row->row.length=k)(hr:IR w A (.sl es) (.slice ad n c)):
  IR w A (.sl ((es.take h).drop l)) (.slice (if c=l then ad else ad.map (·.add (l*k))) (h-l) (c-l)):=by
 cases hr with
 |sl k' _ _ _ u hn hm gC hc hl=>
  have hlen:((es.take h).drop l).length=h-l:=bq
  have qF:∀i row,((es.take h).drop l)[i]? =some row->es[l+i]? =some row/\i<h-l:=by
   intro i row hi;have:=(bK.1 hi).1;rw[oA,wI] at hi;split at hi
   ·exact⟨hi,ab⟩
   ·cases hi
  rw[<-hlen];refine IR.sl k _ _ _ (fun i j=>u (l+i) j) ab ab (fun i row hi=>hk _ _ (qF i row hi).1) (fun i row j x hi hj=>hc _ row j x (qF i row hi).1 hj) (fun i row j hi hj=> ?_);obtain⟨hi',hlt⟩:=qF i row hi;have ew:=hk _ _ hi';have nX:=gC _ _ hi';have WO:k'=k:=ab;subst WO;obtain⟨b,o,rfl,hA,hcell⟩:=hl _ row j hi' hj;refine⟨b,o+l*k',?_,hA,?_⟩
  ·rw[af ab];simp[Addr.add_mid]
  ·rw[zO] at hcell;rw[show o+l*k'+i*k'+j=o+(l*k'+i*k')+j by omega];exact hcell
def Ed (st:St):Option aP->Option Nat
 |none=>some 0
 |some y=>Nz (st.sc y)
def wZ (st:St)(n:Nat):Option aP->Option Nat
 |none=>some n
 |some y=>Nz (st.sc y)
def Kw:Option Operand->Option aP->Prop
 |none,none=>True
 |some x,some y=>dO x y
 |_,_=>False
theorem Rel.bound (h:Rel N F M w0 st G H a w){x:Operand}{y:aP}(hx:dO x y){n:Nat}(hb:Nz (st.sc y)=some n):∃k,a.eval x=.int k n:=by
 unfold Nz at hb;split at hb
 ·rename_i k i hi;split at hb
  ·rename_i h0;simp only[aA] at hb;obtain⟨e,_⟩:=h.sc hx hi;exact⟨k,by rw[e];congr 1;omega⟩
  ·cases hb
 ·cases hb
theorem apJ {o:Oper}{t e:TypeId}{x:Operand}{y:aP}{lo hi:Option Operand}{qG hi':Option aP}{k:Nat}(ho:o.op=.slice t x lo hi none)(hu:P.underlying t=some (.slice e))(hk:(P.info? e).map (·.size)=some k)(hx:dO x y)(oJ:Kw lo qG)(jn:Kw hi hi'):
  jM P false o (fun st _=>match st.arg y with
   |some (.w (.c (.sl es)))=>match Ed st qG,wZ st es.length hi' with
    |some l,some h=>if l<=h/\h<=es.length/\∀row∈es,row.length=k then some (.w (.c (.sl ((es.take h).drop l)))) else none
    |_,_=>none
   |_=>none):=by
 intro N F M w0 w st G H a U r h hr;dsimp only at hr;split at hr
 case h_2=>cases hr
 rename_i es hv;split at hr
 case h_2=>cases hr
 rename_i l hh cF yz;split at hr
 case isFalse=>cases hr
 rename_i hb;obtain⟨h1,h2,h3⟩:=hb;simp only[aA] at hr;subst hr;have Rw:IR w (aV M st.slot G H) (.sl es) (a.eval x):=h.arg hx hv
 have gC:∀(i:Nat) (row:List AC),es[i]? =some row->row.length=k:=fun i row hi=>h3 row (eE hi)
 obtain⟨ad,c,e1,jN,_⟩:=h.rows (U:=[]) hx (es:=es) (by rw[hv];rfl);rw[e1] at Rw;refine⟨_,apI h1 h2 gC Rw,fun w' _=> ?_⟩
 have WQ:((lo.map a.eval)=none/\l=0)\/∃k,lo.map a.eval=some (.int k l):=by
  cases lo with
  |none=>cases qG with
   |none=>simp[Ed] at cF;exact .inl ⟨rfl,cF.symm⟩
   |some=>exact oJ.elim
  |some p=>cases qG with
   |none=>exact oJ.elim
   |some q=>
    obtain⟨k,e⟩:=h.bound oJ cF;exact .inr ⟨k,by simp[e]⟩
 have Ky:((hi.map a.eval)=none/\hh=es.length)\/∃k,hi.map a.eval=some (.int k hh):=by
  cases hi with
  |none=>cases hi' with
   |none=>simp[wZ] at yz;exact .inl ⟨rfl,yz.symm⟩
   |some=>exact jn.elim
  |some p=>cases hi' with
   |none=>exact jn.elim
   |some q=>
    obtain⟨k,e⟩:=h.bound jn yz;exact .inr ⟨k,by simp[e]⟩
 unfold execOp;simp[ho,e1,Instr.sliceAt,Instr.slice,lu hu,WN w' es.length c l hh _ _ WQ Ky h1 h2 jN,Gz hk]
def AW.cells:AW->List AC
 | .c x=>[x]
 | .agg cs=>cs
def nA:List AC->List (Nat×Nat×List AC)->Option (List AC)
 |z,[]=>some z
 |z,(off,size,cs)::r=>if cs.length=size/\off+size<=z.length then nA (z.take off++cs++z.drop (off+size)) r else none
theorem ael (off:Nat):∀(l:List Value) (i:Nat) (cs:Array Value),(l.zipIdx i).foldl (fun(cs:Array Value) (p:Value×Nat)=>cs.setIfInBounds (off+p.2) p.1) cs=DX cs (off+i) l
 |[],i,cs=>rfl
 |v::l,i,cs=>by
  rw[List.zipIdx_cons,zN,DX,ael off l (i+1)];rfl
end
section
variable {P:Program} {N:Nat} {F M:Nat->Prop} {w0:kT} {w:World} {st:St} {G:Nat->Gh} {H:Nat->Value} {a:Act}
variable {A:Nat->Prop} {c:List AC} {pl:Nat->Option (Nat×Nat)} {t:TypeId} {u z:List Value} {v:Value} {x:AC}
theorem aem(l:List Value)(cs:Array Value)(o:Nat)(h:o+l.length<=cs.size):(DX cs o l).toList=cs.toList.take o++l++cs.toList.drop (o+l.length):=by
 apply yj;intro j;rw[Array.getElem?_toList,apr l cs o h];have hz:cs.toList.length=cs.size:=ai;by_cases h1:j<o
 ·rw[af ab,List.append_assoc,lT (by rw[dN];omega),wI,aq h1];simp
 ·by_cases h2:j<o+l.length
  ·rw[aq ab,lT (by rw[List.length_append,dN];omega),iR (by rw[dN];omega),dN,Ge ab]
  ·rw[af ab,iR (by rw[List.length_append,dN];omega),oA,List.length_append,dN,Ge ab,
    show o+l.length+(j-(o+l.length))=j by omega]
   simp
theorem cE.app{S:Nat->Slot}{c1 c2:List AC}{u1 u2:List Value}(h1:cE w A S G H c1 u1)(h2:cE w A S G H c2 u2):cE w A S G H (c1++c2) (u1++u2):=by
 refine⟨by rw[List.length_append,List.length_append,h1.1,h2.1],fun j x u e1 e2=> ?_⟩;by_cases hj:j<c1.length
 ·rw[lT hj] at e1;rw[lT (by rw[h1.1];exact hj)] at e2;exact h1.2 j x u e1 e2
 ·rw[iR ab] at e1;rw[iR (by rw[h1.1];omega),h1.1] at e2;exact h2.2 _ x u e1 e2
theorem cE.take{S:Nat->Slot}(h:cE w A S G H c u)(n:Nat):cE w A S G H (c.take n) (u.take n):=by
 refine⟨by rw[dN,dN,h.1],fun j x v e1 e2=> ?_⟩;rw[wI] at e1 e2;split at e1
 ·rename_i hj;rw[aq hj] at e2;exact h.2 j x v e1 e2
 ·cases e1
theorem cE.drop{S:Nat->Slot}(h:cE w A S G H c u)(n:Nat):cE w A S G H (c.drop n) (u.drop n):=by
 refine⟨by rw[lU,lU,h.1],fun j x v e1 e2=> ?_⟩;rw[oA] at e1 e2;exact h.2 _ x v e1 e2
theorem WR.cells{S:Nat->Slot}{x:AW}(h:WR w A S G H x v):cE w A S G H x.cells v.cells.toList:=by
 cases x with
 |c x=>
  have ho:=CR.one h
  have hv:v.cells=#[v]:=by cases v<;>first|rfl|cases ho
  rw[hv];refine⟨rfl,fun j y u e1 e2=> ?_⟩
  cases j with
  |zero=>
   have Kz:x=y:=dX e1;have WS:v=u:=dX e2;rw[<-Kz,<-WS];exact h
  |succ j=>simp[AW.cells] at e1
 |agg cs=>
  obtain⟨arr,rfl,h⟩:=h;exact h
theorem WT (place:Nat->Option (Nat×Nat)){A:Nat->Prop}{S:Nat->Slot}:∀(parts:List (Nat×Value)) (pa:List (Nat×Nat×List AC)) (cells:Array Value) (z r:List AC),cE w A S G H z cells.toList->parts.length=pa.length->
  (∀(i:Nat) (p:Nat×Value) (q:Nat×Nat×List AC),parts[i]? =some p->pa[i]? =some q->place p.1=some (q.1,q.2.1)/\cE w A S G H q.2.2 p.2.cells.toList)->nA z pa=some r->∃out,Instr.fill place cells parts=some out/\cE w A S G H r out.toList
 |[],[],cells,z,r,hz,_,_,hf=>by
  simp only[nA,aA] at hf;subst hf;exact⟨cells,rfl,hz⟩
 |(i,v)::parts,(off,size,cs)::pa,cells,z,r,hz,hl,hp,hf=>by
  obtain⟨h1,h2⟩:=hp 0 _ _ rfl rfl;dsimp only at h1 h2;unfold nA at hf;split at hf
  case isFalse=>cases hf
  rename_i hc
  have e1:v.cells.size=size:=by have:=h2.1;simp at this;omega
  have e2:z.length=cells.size:=by have:=hz.1;simp at this;omega
  have jO:(v.cells.zipIdx.foldl (fun cs (c,j)=>cs.setIfInBounds (off+j) c) cells).toList=cells.toList.take off++v.cells.toList++cells.toList.drop (off+size):=by
   have:=ael off v.cells.toList 0 cells;rw[<-Array.foldl_toList,Array.toList_zipIdx,this,qm,aem _ _ _ bq];simp[e1]
  have hn:cE w A S G H (z.take off++cs++z.drop (off+size)) (v.cells.zipIdx.foldl (fun cs (c,j)=>cs.setIfInBounds (off+j) c) cells).toList:=by
   rw[jO];exact((hz.take off).app h2).app (hz.drop _)
  obtain⟨out,e3,e4⟩:=WT place parts pa _ _ r hn (by simpa using hl) (fun j p q g1 g2=>hp (j+1) p q g1 g2) hf;refine⟨out,?_,e4⟩;simp only[Instr.fill,h1,e1,ne_eq,not_true_eq_false,false_or];rw[af bq];exact e3
 |[],_::_,_,_,_,_,hl,_,_=>by simp at hl
 |_::_,[],_,_,_,_,hl,_,_=>by simp at hl
def WU:Value->Option AC
 | .slice none 0 0=>some (.sl [])
 |v=>if yv v then some (.v v) else none
theorem apK{S:Nat->Slot}(h:WU v=some x):CR w A S G H x v:=by
 unfold WU at h;split at h
 ·simp only[aA] at h;subst h;exact IR.sl 0 [] none 0 (fun _ _=>undef) ax ai (by intro i row h;simp at h) (by intro i row j x h;simp at h) (by intro i row j h;simp at h)
 ·split at h
  ·rename_i hs;simp only[aA] at h;subst h;exact IR.v _ hs
  ·cases h
def WV:Value->Option AC
 | .slice none 0 0=>some (.v (.slice none 0 0))
 |_=>none
theorem apL{S:Nat->Slot}(h:WV v=some x):CR w A S G H x v:=by
 unfold WV at h;split at h
 ·simp only[aA] at h;subst h;exact IR.v _ rfl
 ·cases h
def BZ (ns:List Nat):Nat->List Value->Option (List AC)
 |_,[]=>some []
 |i,v::l=>match(if ns.contains i then WV v else WU v),BZ ns (i+1) l with
  |some x,some r=>some (x::r)
  |_,_=>none
abbrev Ee (l:List Value):Option (List AC):=BZ [] 0 l
theorem Rx {A:Nat->Prop}{S:Nat->Slot}{ns:List Nat}:∀{l:List Value} {i:Nat} {r:List AC},BZ ns i l=some r->cE w A S G H r l
 |[],i,r,h=>by
  simp only[BZ,aA] at h;subst h;exact⟨rfl,fun j x u e=>by simp at e⟩
 |v::l,i,r,h=>by
  unfold BZ at h;split at h
  case h_2=>cases h
  rename_i x r' h1 h2;simp only[aA] at h;subst h
  have hx:CR w A S G H x v:=by
   split at h1
   ·exact apL h1
   ·exact apK h1
  exact cE.app (c1:=[x]) (u1:=[v]) ⟨rfl,fun j y u e1 e2=>by
   cases j with
   |zero=>simp at e1 e2;subst e1;subst e2;exact hx
   |succ j=>simp at e1⟩ (Rx h2)
theorem WW{S:Nat->Slot}{l:List Value}{r:List AC}(h:Ee l=some r):cE w A S G H r l:=Rx h
def placesOf (P:Program)(t:TypeId):Option (Nat->Option (Nat×Nat)):=match P.underlying t with
 |some (.array _ e)=>(P.info? e).map fun ie=>fun i=>some (i*ie.size,ie.size)
 |some (.struct fields)=>(fields.toList.mapM (fun f=>(P.info? f.type).map fun i=>(f.offset,i.size))).map fun l=>fun i=>l.toArray[i]?
 |_=>none
def zeroOf (P:Program)(t:TypeId):Option (List Value):=(P.info? t).bind fun i=>i.zero.map fun z=>z.cells.toList
theorem apM{parts:List (Nat×Value)}{out:Array Value}(h1:placesOf P t=some pl)(h2:zeroOf P t=some z)(h3:Instr.fill pl z.toArray parts=some out):P.built t parts=some out:=by
 unfold placesOf at h1;unfold zeroOf at h2;unfold Program.built
 cases hi:P.info? t with
 |none=>simp[hi] at h2
 |some it=>
  simp only[hi,MZ,bO] at h2;obtain⟨zv,hz,rfl⟩:=h2;split at h1
  ·rename_i n e hu;rw[bO] at h1;obtain⟨ie,GC,rfl⟩:=h1;simp only[hu,hz,GC];simpa using h3
  ·rename_i fields hu;rw[bO] at h1;obtain⟨l,hl,rfl⟩:=h1;simp only[hu,hz,hl];simpa using h3
  ·cases h1
def qH (st:St):List (Nat×Nat×aP)->Option (List (Nat×Nat×List AC))
 |[]=>some []
 |(off,size,y)::r=>match st.arg y,qH st r with
  |some (.w x),some q=>some ((off,size,x.cells)::q)
  |_,_=>none
def GD (pl:Nat->Option (Nat×Nat)):List (Nat×Operand)->List (Nat×Nat×aP)->Prop
 |[],[]=>True
 |(i,x)::r,(off,size,y)::q=>pl i=some (off,size)/\dO x y/\GD pl r q
 |_,_=>False
theorem Rel.parts(h:Rel N F M w0 st G H a w)(pl:Nat->Option (Nat×Nat)):∀{ps:List (Nat×Operand)} {qs:List (Nat×Nat×aP)} {r:List (Nat×Nat×List AC)},GD pl ps qs->qH st qs=some r->
  ps.length=r.length/\∀(i:Nat) (p:Nat×Value) (q:Nat×Nat×List AC),(ps.map fun(i,x)=>(i,a.eval x))[i]? =some p->r[i]? =some q->pl p.1=some (q.1,q.2.1)/\cE w (aV M st.slot G H) st.slot G H q.2.2 p.2.cells.toList
 |[],[],r,_,hr=>by
  simp only[qH,aA] at hr;subst hr;exact⟨rfl,fun i p q e=>by simp at e⟩
 |(i,x)::ps,(off,size,y)::qs,r,hp,hr=>by
  obtain⟨h1,h2,h3⟩:=hp;unfold qH at hr;split at hr
  case h_2=>cases hr
  rename_i xw q hv hq;simp only[aA] at hr;subst hr;obtain⟨e1,e2⟩:=Rel.parts h pl h3 hq;refine⟨by simp[e1],fun j p q' g1 g2=> ?_⟩
  cases j with
  |zero=>
   simp at g1 g2;subst g1;subst g2;exact⟨h1,WR.cells (h.arg h2 hv)⟩
  |succ j=>exact e2 j p q' (by simpa using g1) (by simpa using g2)
 |[],_::_,_,hp,_=>hp.elim
 |_::_,[],_,hp,_=>hp.elim
theorem apN{o:Oper}{ps:Array (Nat×Operand)}{qs:List (Nat×Nat×aP)}{za:List AC}{ns:List Nat}(ho:o.op=.build t ps)(h1:placesOf P t=some pl)(h2:zeroOf P t=some z)(h3:BZ ns 0 z=some za)(hp:GD pl ps.toList qs):
  jM P false o (fun st _=>match qH st qs with |some r=>(nA za r).map fun cs=> .w (.agg cs)|none=>none):=by
 intro N F M w0 w st G H a U r h hr;dsimp only at hr;split at hr
 case h_2=>cases hr
 rename_i r' Ef;rw[bO] at hr;obtain⟨cs,hf,rfl⟩:=hr;obtain⟨e1,e2⟩:=h.parts pl hp Ef;obtain⟨out,e3,e4⟩:=WT (w:=w) (H:=H) (A:=aV M st.slot G H) (S:=st.slot) pl _ r' z.toArray za cs (by simpa using Rx h3) (by simpa using e1) e2 hf;have hb:=apM h1 h2 e3;refine⟨.agg out,⟨out.toList,ai,e4⟩,fun w' _=> ?_⟩;unfold execOp;simp only[ho,oZ];rw[run_build w' t (ps.map fun(i,x)=>(i,a.eval x)) out (by simpa using hb)];rfl
end
abbrev GF:=St->(AV->St->Prop)->Prop
def oK (P:Program)(U:Option (List Nat))(o:Oper)(xa:GF):Prop:=
 ∀(N:Nat) (F M:Nat->Prop) (w0:kT) (w:World) (st:St) (G:Nat->Gh) (H:Nat->Value) (a:Act) (X:AV->St->Prop),Rel N F M w0 st G H a w->xa st X->
  ∀(K:Act->World->Prop) (Q:Exit->Act->World->Prop),(∀x st' G' H' v w',X x st'->Rel N F M w0 st' G' H' a w'->DZ U st.slot G H w st'.slot G' H' w'->VR w' (aV M st'.slot G' H') st'.slot G' H' x v->K (a.put o.dst v) w')->Oper.wp P o a w K Q
section
variable {P:Program} {N:Nat} {F M:Nat->Prop} {w0:kT} {w:World} {st:St} {G:Nat->Gh} {H:Nat->Value} {a:Act}
variable {A:Nat->Prop} {U:Option (List Nat)} {o:Oper}
theorem aen{mem:Bool}{ev:St->List Nat->Option AV}(h:jM P mem o ev):oK P U o (fun st X=>∃x,ev st []=some x/\X x st):=by
 intro N F M w0 w st G H a X hR hs K Q hK;obtain⟨x,hx,hX⟩:=hs;obtain⟨v,hv,hrun⟩:=h N F M w0 w st G H a [] x hR hx;unfold Oper.wp;rw[hrun w (fun _ b _ _=>rfl)];exact hK x st G H v w hX hR (Nx ax fun _ _=>rfl) hv
theorem apO(w:World)(b o:Nat)(ty:TypeId)(v:Value)(ht:w.there b o v.cells.size)(hi:(P.info? ty).map (·.size)=some v.cells.size)(h1:v.cells.toList.all Value.oneCell'=true):
  (storeVar ty ⟨b,o,none⟩ v).run P w=.ok () (w.setCells b o v.cells.toList):=by
 have:=run_storeCells_cells (P:=P) b o v.cells.toList 0 w (fun j hj=>by simpa using(ht j (by simpa using hj)).1) (fun j hj=>by simpa using(ht j (by simpa using hj)).2)
  (fun u hv=>fq.1 h1 u hv)
 simp only[qm] at this;simp[storeVar,Gz hi,this]
def inl:AC->Bool
 | .v _=>true
 | .sl _=>true
 | .fM _ _=>true
 |_=>false
def St.store (st:St)(xs:List AC):Option AV->Option St
 |some (.pb s g off)=>match aI st.S s with
  |some (.box g' cs)=>if g=g'/\off+xs.length<=cs.length then some (st.cn s (.box g (cs.take off++xs++cs.drop (off+xs.length)))) else none
  |_=>none
 |some (.pr s g i off)=>match aI st.S s with
  |some (.row e k g' es)=>if g=g'/\xs.all inl=true then match es[i]? with
    |some row=>if off+xs.length<=row.length then some (st.cn s (.row e k g (es.set i (row.take off++xs++row.drop (off+xs.length))))) else none
    |none=>none
   else none
  |_=>none
 |_=>none
theorem Ry{s:Nat}{x:Slot}(h:aI st.S s=some x):st.slot s=x/\(aI st.S s).isSome=true:=by unfold St.slot;rw[h];exact⟨rfl,rfl⟩
theorem cE.all{S:Nat->Slot}{cs:List AC}{us:List Value}(h:cE w A S G H cs us):us.all Value.oneCell'=true:=by
 rw[fq];intro u hu;obtain⟨j,hj⟩:=wH hu;have hl:=(bK.1 hj).1;exact CR.one (h.2 j (cs[j]'(by rw[<-h.1];exact hl)) u ai hj)
theorem CR.ir{S:Nat->Slot}{x:AC}{u:Value}(h:CR w A S G H x u)(hi:inl x=true):IR w A x u:=by
 cases x with
 |own s g=>cases hi
 |cP s g=>cases hi
 |part s g i=>cases hi
 |cls f bZ=>cases hi
 |v x=>exact h
 |sl es=>exact h
 |fM f bZ=>exact h
def Rz (xs:List Value)(o:Nat):List Value->List Value
 |[]=>xs
 |v::r=>Rz (xs.set o v) (o+1) r
theorem apP(l:List Value):∀(xs:List Value) (o:Nat),o+l.length<=xs.length->∀j,(Rz xs o l)[j]? =if o<=j/\j<o+l.length then l[j-o]? else xs[j]? :=by
 induction l with
 |nil=>intro xs o _ j;rw[af (by simp only[List.length_nil];omega)];rfl
 |cons v l ih=>
  intro xs o ho j;simp only[List.length_cons] at ho⊢;rw[Rz,ih _ _ (by rw[List.length_set];omega)];by_cases h1:o+1<=j/\j<o+1+l.length
  ·rw[aq h1,aq ab,show j-o=(j-(o+1))+1 by omega,FW]
  ·rw[af h1];by_cases h2:j=o
   ·subst h2;rw[aq ab,Nat.sub_self,wG,BD ab]
   ·rw[af ab,uH (Ne.symm h2)]
theorem aeo {e k g n cap:Nat}:∀(l:List Value) {w:World} {xs:List Value} (o:Nat),w.ownsRow 0 e k (.slice (some ⟨g,0,none⟩) n cap) n xs->
  (w.setCells g o l).ownsRow 0 e k (.slice (some ⟨g,0,none⟩) n cap) n (Rz xs o l)/\w.grownBy (w.setCells g o l) (some g)
 |[],w,xs,o,h=>⟨h,⟨rfl,rfl,rfl,cK _,fun _ _ _=>rfl⟩⟩
 |v::l,w,xs,o,h=>by
  obtain⟨h1,h2⟩:=h.stored o v;obtain⟨h3,h4⟩:=aeo l (o+1) h1;exact⟨h3,h2.trans h4⟩
def NA:Option AV->Option Nat
 |some (.pb s _ _)=>some s
 |some (.pr s _ _ _)=>some s
 |_=>none
theorem aep{t:TypeId}{x z:Operand}{y q:aP}{n:Nat}(ho:o.op=.store t x z)(hn:(P.info? t).map (·.size)=some n)(hx:dO x y)(hz:dO z q):
  oK P U o (fun st X=>∃xw st',st.arg q=some (.w xw)/\xw.cells.length=n/\st.store xw.cells (st.arg y)=some st'/\(∀s,NA (st.arg y)=some s->yx U s)/\X .u st'):=by
 intro N F M w0 w st G H a X hR hs K Q hK;obtain⟨xw,st',e1,e2,e3,dW,hX⟩:=hs;have hw:=WR.cells (hR.arg hz e1);generalize bT:a.eval z=v at hw
 have hsz:v.cells.size=n:=by have:=hw.1;simp at this;omega
 have fin:∀b off,a.eval x=.pointer (some ⟨b,off,none⟩)->w.there b off v.cells.size->(∃G' H',Rel N F M w0 st' G' H' a (w.setCells b off v.cells.toList)/\DZ U st.slot G H w st'.slot G' H' (w.setCells b off v.cells.toList))->Oper.wp P o a w K Q:=by
  intro b off ep WX ⟨G',H',bM,hst⟩;unfold Oper.wp execOp;simp only[ho,bT,ep,Instr.storeAt,Instr.sureAddr,oZ,tw,rP,apO w b off t v WX (by rw[hsz];exact hn) (cE.all hw)];exact hK .u st' G' H' _ _ hX bM hst trivial
 cases hp:st.arg y with
 |none=>rw[hp] at e3;simp[St.store] at e3
 |some p=>
  rw[hp] at e3 dW;have hv:=hR.arg hx hp
  cases p with
  |w x=>simp[St.store] at e3
  |bD vs=>simp[St.store] at e3
  |u=>simp[St.store] at e3
  |pi cs off=>simp[St.store] at e3
  |pb s g off=>
   simp only[St.store] at e3;split at e3
   case h_2=>cases e3
   rename_i g' cs hs;split at e3
   case isFalse=>cases e3
   rename_i hc;obtain⟨rfl,hlen⟩:=hc;simp only[aA] at e3;subst e3;obtain⟨ey,ik⟩:=Ry hs;obtain⟨_,GG⟩:=hv;obtain⟨_,_,arr,hb,hcs⟩:=hR.bx s g cs ey;have uU:arr.length=cs.length:=hcs.1;refine fin (G s).b off (GG cs ey) (apq hb bq) ⟨G,H,?_⟩;obtain⟨f1,f2,f3⟩:=aeg v.cells.toList off hb
   have NB:∀b,b<w.heap.size->¬bm st.slot G H s b->(w.setCells (G s).b off v.cells.toList).heap[b]? =w.heap[b]? :=(fun b hlt hl=>f2.block b hlt (fun e=>hl (by simp at e;subst e;exact .inl ⟨g,cs,ey,rfl⟩)))
   have NC:∀b,bm (st.cn s (.box g (cs.take off++xw.cells++cs.drop (off+xw.cells.length)))).slot G H s b->bm st.slot G H s b\/w.heap.size<=b:=fun b hl=>by
    rcases hl with⟨g2,px,h1,h2⟩|⟨e,k,g2,es,h1,h2⟩|⟨g2,K2,h1,h2⟩
    ·exact .inl (.inl ⟨g,cs,ey,h2⟩)
    ·rw[St.mL,aq ⟨rfl,ik⟩] at h1;cases h1
    ·rw[St.mL,aq ⟨rfl,ik⟩] at h1;cases h1
   refine⟨?_,Rt s _ (fun _ _=>rfl) (fun _ _=>rfl) f2.size NB NC (.inl (dW s rfl))⟩
   refine hR.Rs s _ ik (fun _ _=>rfl) (fun _ _=>rfl) f2.os f2.tape f2.output f2.size NB NC (by rw[ey];exact cK _)
    (fun e k g es h=>by cases h) (fun g2 px h _=>by cases h;exact⟨⟨cs,ey⟩,rfl⟩) (fun g2 K2 h=>by cases h) (fun m g2 px h=> ?_) (fun m e k g es h=>by cases h) (fun m g2 K2 h=>by cases h)
   ·cases h;refine⟨_,f1,?_⟩
    have jO:(DX arr.toArray off v.cells.toList).toList=arr.take off++v.cells.toList++arr.drop (off+xw.cells.length):=by
     rw[aem _ _ _ bq];simp[hsz,e2]
    have:=((cE.mv m (hcs.take off)).app (cE.mv m hw)).app (cE.mv m (hcs.drop (off+xw.cells.length)));rw[<-jO] at this;simpa using this
  |pr s g i off=>
   simp only[St.store] at e3;split at e3
   case h_2=>cases e3
   rename_i e k g' es hs;split at e3
   case isFalse=>cases e3
   rename_i hc;obtain⟨rfl,apQ⟩:=hc;split at e3
   case h_2=>cases e3
   rename_i row bl;split at e3
   case isFalse=>cases e3
   rename_i hlen;simp only[aA] at e3;subst e3;obtain⟨ey,ik⟩:=Ry hs;obtain⟨_,GG⟩:=hv;obtain⟨b,n1,c1,hH,ep⟩:=GG e k es ey;obtain⟨hnF,xs,how,eF,KA⟩:=hR.rw s e k g es ey
   have aS:(H s).ownBlock=some b:=by rw[hH];rfl
   have hi:=(bK.1 bl).1;have eb:=eF i row bl;have oI:=how.1;have hle:(i+1)*k<=es.length*k:=uG k hi;rw[zO,Nat.one_mul] at hle;obtain⟨b',cap,e4,_,_⟩:=how.form ab
   have sr:b'=b:=by rw[e4] at aS;simpa [Value.ownBlock] using aS
   subst sr;have RA:=how;rw[e4] at RA
   have WX:w.there b' (i*k+off) v.cells.size:=fun j hj=>by
    refine⟨?_,RA.frozenAt _⟩;rw[RA.cellAt _ ab];simp;omega
   refine fin b' (i*k+off) ep WX ⟨G,H,?_⟩;obtain⟨f1,f2⟩:=aeo v.cells.toList (i*k+off) RA;rw[<-e4] at f1;have uW:v.cells.toList.length=xw.cells.length:=bq
   have NB:∀b,b<w.heap.size->¬bm st.slot G H s b->(w.setCells b' (i*k+off) v.cells.toList).heap[b]? =w.heap[b]? :=(fun b hlt hl=>f2.block b hlt (fun e'=>hl (by simp at e';subst e';exact .inr (.inl ⟨e,k,g,es,ey,aS⟩))))
   have NC:∀b,bm (st.cn s (.row e k g (es.set i (row.take off++xw.cells++row.drop (off+xw.cells.length))))).slot G H s b->bm st.slot G H s b\/w.heap.size<=b:=fun b hl=>by
    rcases hl with⟨g2,px,h1,h2⟩|⟨e2,k2,g2,eR,h1,h2⟩|⟨g2,K2,h1,h2⟩
    ·rw[St.mL,aq ⟨rfl,ik⟩] at h1;cases h1
    ·exact .inl (.inr (.inl ⟨e,k,g,es,ey,h2⟩))
    ·rw[St.mL,aq ⟨rfl,ik⟩] at h1;cases h1
   refine⟨?_,Rt s _ (fun _ _=>rfl) (fun _ _=>rfl) f2.size NB NC (.inl (dW s rfl))⟩
   refine hR.Rs s _ ik (fun _ _=>rfl) (fun _ _=>rfl) f2.os f2.tape f2.output f2.size NB NC (by rw[ey];exact cK _)
    (fun e2 k2 g2 eR h _=>by cases h;exact⟨⟨es,ey⟩,rfl⟩) (fun g2 px h=>by cases h) (fun g2 K2 h=>by cases h) (fun m g2 px h=>by cases h) (fun m e2 k2 g2 eR h=> ?_) (fun m g2 K2 h=>by cases h)
   ·cases h;have apR:(row.take off++xw.cells++row.drop (off+xw.cells.length)).length=k:=bq;refine⟨_,by rw[List.length_set];exact f1,fun i' row' hi'=> ?_,fun i' row' j x' u hi' hj hu=> ?_⟩
    ·rw[List.getElem?_set] at hi';split at hi'
     ·simp only[aA] at hi';rw[<-hi'];exact apR
     ·exact eF i' row' hi'
    ·rw[apP _ _ _ ab] at hu;rw[List.getElem?_set] at hi';split at hi'
     ·rename_i Ac;subst Ac;simp only[aA] at hi';subst hi';by_cases h1:j<off
      ·rw[af ab] at hu;rw[List.append_assoc,lT bq,wI,aq h1] at hj;exact IR.mv m (KA i row j x' u bl hj hu)
      ·by_cases h2:j<off+xw.cells.length
       ·rw[aq ab,show i*k+j-(i*k+off)=j-off by omega] at hu;rw[lT bq,iR bq,dN,Ge ab] at hj;have dW:inl x'=true:=fq.1 apQ x' (eE hj);exact IR.mv m ((hw.2 _ x' u hj hu).ir dW)
       ·rw[af ab] at hu;rw[iR bq,oA] at hj;simp only[List.length_append,dN] at hj;rw[Ge ab,show off+xw.cells.length+(j-(off+xw.cells.length))=j by omega] at hj;exact IR.mv m (KA i row j x' u bl hj hu)
     ·rename_i Ac
      have ib:j<k:=by
       have:=(bK.1 hj).1;rw[eF i' row' hi'] at this;exact this
      have Nw:¬(i*k+off<=i'*k+j/\i'*k+j<i*k+off+v.cells.toList.length):=by
       rcases BK i i' with hlt|tG
       ·have:=uG k hlt;rw[Nat.succ_mul] at this;omega
       ·have hlt:i'<i:=ab;have:=uG k hlt;rw[Nat.succ_mul] at this;omega
      rw[af Nw] at hu;exact IR.mv m (KA i' row' j x' u hi' hj hu)
end
section
variable {P:Program} {N:Nat} {F M:Nat->Prop} {w0:kT} {w:World} {st:St} {G:Nat->Gh} {H:Nat->Value} {a:Act}
variable {A:Nat->Prop} {U:Option (List Nat)} {b i k:Nat} {cs za:List AC} {o:Oper} {t:TypeId} {us z:List Value}
theorem alloc_old(w:World)(o:Obj)(h:b<w.heap.size):(w.alloc o).heap[b]? =w.heap[b]? :=Ke w o b h
theorem Rel.aeq(h:Rel N F M w0 st G H a w)(s:Nat)(hs:(aI st.S s).isSome=true){arr:List Value}(t:TypeId)(hc:cE w (aV M st.slot G H) st.slot G H cs arr):
  Rel N F M w0 (st.cn s (.box ((st.slot s).gen+1) cs)) (fun i=>if i=s then gh w.heap.size else G i) H a (w.alloc (.cells arr.toArray t))/\
   ∀U,DZ U st.slot G H w (st.cn s (.box ((st.slot s).gen+1) cs)).slot (fun i=>if i=s then gh w.heap.size else G i) H (w.alloc (.cells arr.toArray t)):=by
 have kB:∀b,bm (st.cn s (.box ((st.slot s).gen+1) cs)).slot (fun i=>if i=s then gh w.heap.size else G i) H s b->bm st.slot G H s b\/w.heap.size<=b:=fun b hl=>by
  rcases hl with⟨g,c,h1,h2⟩|⟨e,k,g,es,h1,h2⟩|⟨g,K,h1,h2⟩
  ·simp only[nk,gh] at h2;exact .inr ab
  ·rw[St.mL,aq ⟨rfl,hs⟩] at h1;cases h1
  ·rw[St.mL,aq ⟨rfl,hs⟩] at h1;cases h1
 refine⟨?_,fun U=>Rt s _ (fun i hi=>by simp[hi]) (fun _ _=>rfl) ai (fun b hlt _=>alloc_old w _ hlt) kB (.inr fun b hlt=>alloc_old w _ hlt)⟩;refine h.Rs s _ hs (fun i hi=>by simp[hi]) (fun _ _=>rfl) rfl rfl rfl ai (fun b hlt _=>alloc_old w _ hlt) kB (by simp[Slot.gen]) (fun e k g es h=>by cases h) (fun g c h hg=>by cases h;omega) (fun g K h=>by cases h) (fun m g c h=> ?_) (fun m e k g es h=>by cases h) (fun m g K h=>by cases h)
 ·cases h;simp only[nk,gh];exact⟨arr,az.new w _ _,cE.mv m hc⟩
theorem apS{z:Operand}{q:aP}{s:Nat}(ho:o.op=.box t z)(hz:dO z q):
  oK P U o (fun st X=>∃xw,st.arg q=some (.w xw)/\(aI st.S s).isSome=true/\X (.pb s ((st.slot s).gen+1) 0) (st.cn s (.box ((st.slot s).gen+1) xw.cells))):=by
 intro N F M w0 w st G H a X hR hs K Q hK;obtain⟨xw,e1,e2,hX⟩:=hs;have hw:=WR.cells (hR.arg hz e1);obtain⟨bM,hst⟩:=hR.aeq s e2 t hw;have hx:=hK _ _ _ _ (.pointer (some ⟨w.heap.size,0,none⟩)) _ hX bM (hst U) ⟨by rw[St.mL,aq ⟨rfl,e2⟩];exact cK _,fun cs hc=>by simp[gh]⟩;unfold Oper.wp execOp;simp only[ho,Instr.box,newVar,newRow,oZ,run_newObj,rP,tw];exact hx
theorem apT{s:Nat}{ns:List Nat}(ho:o.op=.alloc t)(h2:zeroOf P t=some z)(h3:BZ ns 0 z=some za):
  oK P U o (fun st X=>(aI st.S s).isSome=true/\X (.pb s ((st.slot s).gen+1) 0) (st.cn s (.box ((st.slot s).gen+1) za))):=by
 intro N F M w0 w st G H a X hR hs K Q hK;obtain⟨e2,hX⟩:=hs;obtain⟨bM,hst⟩:=hR.aeq s e2 t (Rx h3);have hx:=hK _ _ _ _ (.pointer (some ⟨w.heap.size,0,none⟩)) _ hX bM (hst U) ⟨by rw[St.mL,aq ⟨rfl,e2⟩];exact cK _,fun cs hc=>by simp[gh]⟩;unfold zeroOf at h2
 cases hi:P.info? t with
 |none=>simp[hi] at h2
 |some it=>
  simp only[hi,MZ,bO] at h2;obtain⟨zv,hz,rfl⟩:=h2;unfold Oper.wp execOp;simp only[Array.toArray_toList] at hx;simp[ho,Instr.alloc,zeroValue,typeInfo,hi,hz,newVar,newRow];exact hx
def rowsOf (k n:Nat)(cs:List AC):List (List AC):=(List.range n).map fun i=>(cs.drop (i*k)).take k
theorem aer{n:Nat}{row:List AC}(h:(rowsOf k n cs)[i]? =some row):i<n/\row=(cs.drop (i*k)).take k:=by
 unfold rowsOf at h;rw[fh,bO] at h;obtain⟨j,hj,rfl⟩:=h;have hlt:=(bK.1 hj).1;simp at hlt;rw[Gc hlt] at hj;simp only[aA] at hj;subst hj;exact⟨hlt,rfl⟩
theorem WY{n j:Nat}(hi:i<n)(hj:j<k):i*k+j<n*k:=by
 have:=uG k hi;rw[Nat.succ_mul] at this;omega
theorem RB{S:Nat->Slot}{n:Nat}(hl:cs.length=n*k)(hc:cE w A S G H cs us)(hi:cs.all inl=true):qB w A k (rowsOf k n cs) us:=by
 refine⟨fun i row h=> ?_,fun i row j x u h1 h2 h3=> ?_⟩
 ·obtain⟨hlt,rfl⟩:=aer h;have:=uG k hlt;rw[Nat.succ_mul] at this;simp;omega
 ·obtain⟨hlt,rfl⟩:=aer h1;rw[Gy] at h2;split at h2
  case isFalse=>cases h2
  exact(hc.2 _ x u h2 h3).ir (fq.1 hi x (eE h2))
theorem ND{n c:Nat}{es:List (List AC)}(hn:es.length=n)(hr:qB w A k es us)(hl:us.length=n*k)(hA:¬A b)(hc:n<=c)(hm:n<=9223372036854775807)(hcell:∀j u,us[j]? =some u->w.cell? ⟨b,j,none⟩=some u):
  IR w A (.sl es) (.slice (some ⟨b,0,none⟩) n c):=by
 subst hn;refine IR.sl k es _ c (fun i j=>us.getD (i*k+j) undef) hc hm hr.1 (fun i row j x h1 h2=> ?_) (fun i row j h1 h2=> ?_)
 ·have hi:=(bK.1 h1).1;have hj:=(bK.1 h2).1;rw[hr.1 i row h1] at hj;have hb:=WY hi hj
  have hu:us[i*k+j]? =some (us.getD (i*k+j) undef):=by rw[fo,cw ab];rfl
  exact hr.2 i row j x _ h1 h2 hu
 ·have hi:=(bK.1 h1).1;rw[hr.1 i row h1] at h2;have hb:=WY hi h2
  have hu:us[i*k+j]? =some (us.getD (i*k+j) undef):=by rw[fo,cw ab];rfl
  exact⟨b,0,rfl,hA,by rw[fu];exact hcell _ _ hu⟩
def dt (k n:Nat)(za:List AC):List AC:=(List.range (n*k)).map fun j=>za.getD (j%k) (.v (.int .i64 0))
theorem WZ{S:Nat->Slot}{n:Nat}{z:Array Value}(h:cE w A S G H za z.toList)(hk:z.size=k)(aY:0<k):cE w A S G H (dt k n za) ((Array.range (n*k)).map (z[·%z.size]!)).toList:=by
 have qI:za.length=k:=by have:=h.1;simp at this;omega
 refine⟨by simp[dt],fun j x u e1 e2=> ?_⟩;unfold dt at e1;rw[fh,bO] at e1;obtain⟨j',xc,rfl⟩:=e1;have hlt:=(bK.1 xc).1;simp at hlt;rw[Gc hlt] at xc;simp only[aA] at xc;subst xc;have hm:=oD j aY
 have WS:u=z[j%k]' ab:=by
  subst hk;simp[hlt] at e2;rw[<-e2];exact getElem!_pos z (j%z.size) ab
 refine h.2 (j%k) _ u ?_ ?_
 ·rw[fo,cw ab];rfl
 ·rw[WS];simp
theorem Xa:∀(z:List AC) (l:List (Nat×Nat×List AC)) (r:List AC),nA z l=some r->r.length=z.length
 |z,[],r,h=>by simp only[nA,aA] at h;rw[h]
 |z,(off,size,cs)::l,r,h=>by
  unfold nA at h;split at h
  ·rename_i hc;rw[Xa _ l r h];simp;omega
  ·cases h
theorem aes{e:TypeId}{n:Nat}{qs:List (Nat×Nat×aP)}{pr:List (Nat×Nat×List AC)}{ps:Array (Nat×Operand)}(hR:Rel N F M w0 st G H a w)(hu:P.underlying t=some (.slice e))(hk:(P.info? e).map (·.size)=some k)(aY:0<k)(qI:z.length=k)(hn:n*k<=16777216)
  (h2:zeroOf P e=some z) (h3:Ee z=some za) (hp:GD (fun i=>some (i*k,k)) ps.toList qs) (e1:qH st qs=some pr) (e2:nA (dt k n za) pr=some cs):
  ∃out:List Value,cE w (aV M st.slot G H) st.slot G H cs out/\(Instr.buildSlice t n (ps.map fun(i,x)=>(i,a.eval x))).run P w=.ok (.slice (some ⟨w.heap.size,0,none⟩) n n) (w.alloc (.cells out.toArray e)):=by
 obtain⟨f1,f2⟩:=hR.parts _ hp e1;have hz:=WW (w:=w) (G:=G) (H:=H) (A:=aV M st.slot G H) (S:=st.slot) h3;unfold zeroOf at h2
 cases hi:P.info? e with
 |none=>simp[hi] at h2
 |some it=>
  simp only[hi,MZ,bO] at h2;obtain⟨zv,Xb,rfl⟩:=h2
  have hsz:it.size=k:=by simpa [hi] using hk
  have Ca:zv.cells.size=k:=by simpa using qI
  obtain⟨out,f3,f4⟩:=WT (w:=w) (G:=G) (H:=H) (A:=aV M st.slot G H) (S:=st.slot) (fun i=>some (i*k,k)) (ps.toList.map fun(i,x)=>(i,a.eval x)) pr ((Array.range (n*k)).map (zv.cells[·%zv.cells.size]!)) (dt k n za) cs (WZ hz Ca aY) (by simpa using f1) f2 e2;refine⟨out.toList,f4,?_⟩;unfold Instr.buildSlice
  have hsr:∀w',(sizeOf e).run P w'=.ok k w':=fun w'=>Gz hk w'
  by_cases h0:n*k=0
  ·have RD:n=0:=by
    rcases Nat.mul_eq_zero.1 h0 with h|h
    ·exact h
    ·omega
   subst RD
   have h00:∀f:Nat->Value,(Array.range 0).map f=#[]:=fun f=>Array.eq_empty_of_size_eq_zero ai
   have Xc:Instr.fill (fun i=>some (i*k,k)) #[] (ps.toList.map fun(i,x)=>(i,a.eval x))=some out:=by
    rw[Nat.zero_mul,h00] at f3;exact f3
   simp[lu hu,hsr,newRow,h00,Xc]
  ·have hlt:¬16777216<n*k:=ab;simp[lu hu,hsr,zeroValue,typeInfo,hi,Xb,h0,hlt,newRow,run_newObj];have Xc:Instr.fill (fun i=>some (i*k,k)) ((Array.range (n*k)).map fun x=>zv.cells[x%zv.cells.size]!) (ps.toList.map fun(i,x)=>(i,a.eval x))=some out:=f3;simp[Xc]
end
section
variable {P:Program} {N:Nat} {F M:Nat->Prop} {w0:kT} {w:World} {st:St} {G:Nat->Gh} {H:Nat->Value} {a:Act}
variable {U:Option (List Nat)} {e k:Nat} {es:List (List AC)} {o:Oper} {ps:Array (Nat×Operand)} {qs:List (Nat×Nat×aP)} {t:TypeId} {xs z:List Value} {za:List AC}
theorem Rel.alloc(h:Rel N F M w0 st G H a w)(o:Obj):Rel N F M w0 st G H a (w.alloc o):=h.grow rfl rfl rfl ai (fun b hb=>alloc_old w o hb)
theorem Rel.aet(h:Rel N F M w0 st G H a w):¬aV M st.slot G H w.heap.size:=fun hh=>by
 rcases hh with hm|⟨s,hl⟩
 ·have:=h.lo.1 _ (.inr hm);have:=h.fr.size;omega
 ·have:=(h.qC hl).1;omega
theorem aeu(o:Obj):Mv w (w.alloc o) (aV M st.slot G H) (aV M st.slot G H) st.slot st.slot G G H H:=
 ⟨ai,fun _ _ h=>h,fun b hlt _=>alloc_old w o hlt,fun _=>cK _,fun s e k g es h1 _=>⟨⟨es,h1⟩,rfl⟩,fun s g cs h1 _=>⟨⟨cs,h1⟩,rfl⟩,fun s g K h1 _=>⟨⟨K,h1⟩,rfl,rfl⟩⟩
theorem Rel.newRow(h:Rel N F M w0 st G H a w)(s:Nat)(hs:(aI st.S s).isSome=true){n:Nat}{v:Value}{w':World}(hn:es.length=n)(ho:w'.ownsRow 0 e k v n xs)(hg:w.grownBy w' v.ownBlock\/∃r,w.grownBy w' r/\∀b,r=some b->bm st.slot G H s b)
  (hb:∀b,v.ownBlock=some b->bm st.slot G H s b\/w.heap.size<=b) (hr:∀w2 A2,(∀x u,IR w (aV M st.slot G H) x u->IR w2 A2 x u)->qB w2 A2 k es xs):
  Rel N F M w0 (st.cn s (.row e k ((st.slot s).gen+1) es)) G (fun i=>if i=s then v else H i) a w'/\
   ∀U,(yx U s\/∀b,b<w.heap.size->w'.heap[b]? =w.heap[b]?)->DZ U st.slot G H w (st.cn s (.row e k ((st.slot s).gen+1) es)).slot G (fun i=>if i=s then v else H i) w':=by
 have lz:w'.os=w.os/\w'.tape=w.tape/\w'.output=w.output/\w.heap.size<=w'.heap.size/\∀b,b<w.heap.size->¬bm st.slot G H s b->w'.heap[b]? =w.heap[b]? :=by
  rcases hg with hg|⟨r,hg,hr⟩
  ·refine⟨hg.os,hg.tape,hg.output,hg.size,fun b hlt hl=>hg.block b hlt (fun e=> ?_)⟩
   rcases hb b e.symm with h1|h1
   ·exact hl h1
   ·omega
  ·exact⟨hg.os,hg.tape,hg.output,hg.size,fun b hlt hl=>hg.block b hlt (fun e=>hl (hr b e.symm))⟩
 obtain⟨h1,h2,h3,h4,h5⟩:=lz;subst hn
 have kB:∀b,bm (st.cn s (.row e k ((st.slot s).gen+1) es)).slot G (fun i=>if i=s then v else H i) s b->bm st.slot G H s b\/w.heap.size<=b:=fun b hl=>by
  rcases hl with⟨g,c,q1,q2⟩|⟨e2,k2,g2,eR,q1,q2⟩|⟨g2,K2,q1,q2⟩
  ·rw[St.mL,aq ⟨rfl,hs⟩] at q1;cases q1
  ·simp only[nk] at q2;exact hb b q2
  ·rw[St.mL,aq ⟨rfl,hs⟩] at q1;cases q1
 refine⟨?_,fun U hU=>Rt s _ (fun _ _=>rfl) (fun i hi=>by simp[hi]) h4 h5 kB hU⟩;refine h.Rs s _ hs (fun _ _=>rfl) (fun i hi=>by simp[hi]) h1 h2 h3 h4 h5 kB (by simp[Slot.gen]) (fun e k g es h hg=>by cases h;omega) (fun g c h=>by cases h) (fun g K h=>by cases h) (fun m g c h=>by cases h) (fun m e2 k2 g2 eR h=> ?_) (fun m g K h=>by cases h)
 ·cases h;simp only[nk];exact⟨xs,ho,hr _ _ (fun x u hx=>IR.mv m hx)⟩
theorem qB.map{A A2:Nat->Prop}{w2:World}(h:qB w A k es xs)(hm:∀x u,IR w A x u->IR w2 A2 x u):qB w2 A2 k es xs:=⟨h.1,fun i row j x u h1 h2 h3=>hm x u (h.2 i row j x u h1 h2 h3)⟩
theorem apU{e:TypeId}{n:Nat}(ho:o.op=.buildSlice t n ps)(hu:P.underlying t=some (.slice e))(hk:(P.info? e).map (·.size)=some k)(aY:0<k)(qI:z.length=k)(hn:n*k<=16777216)
  (h2:zeroOf P e=some z) (h3:Ee z=some za) (hp:GD (fun i=>some (i*k,k)) ps.toList qs):
  oK P U o (fun st X=>∃pr cs,qH st qs=some pr/\nA (dt k n za) pr=some cs/\cs.all inl=true/\X (.w (.c (.sl (rowsOf k n cs)))) st):=by
 intro N F M w0 w st G H a X hR hs K Q hK;obtain⟨pr,cs,e1,e2,e3,hX⟩:=hs;obtain⟨out,f1,f2⟩:=aes hR hu hk aY qI hn h2 h3 hp e1 e2
 have hl:cs.length=n*k:=by rw[Xa _ _ _ e2];simp[dt]
 have wY:n<=n*k:=Nat.le_mul_of_pos_right n aY;have m:=aeu (w:=w) (M:=M) (st:=st) (G:=G) (H:=H) (.cells out.toArray e);have bl:=(RB hl f1 e3).map (fun x u hx=>IR.mv m hx)
 have hx:=hK _ _ _ _ (.slice (some ⟨w.heap.size,0,none⟩) n n) _ hX (hR.alloc (.cells out.toArray e)) (Nx ai fun b hlt=>alloc_old w _ hlt)
  (ND (by simp[rowsOf]) bl (by rw[f1.1,hl]) hR.aet ax ab (fun j u hu=>by rw[(az.new w out.toArray e).cell];simpa using hu))
 unfold Oper.wp execOp;simp only[ho,oZ,f2,rP,tw];exact hx
theorem apV{e:TypeId}{n s:Nat}(ho:o.op=.buildSlice t n ps)(hu:P.underlying t=some (.slice e))(hk:(P.info? e).map (·.size)=some k)(aY:0<k)(qI:z.length=k)(hn:n*k<=16777216)
  (h2:zeroOf P e=some z) (h3:Ee z=some za) (hp:GD (fun i=>some (i*k,k)) ps.toList qs):
  oK P U o (fun st X=>∃pr cs,qH st qs=some pr/\nA (dt k n za) pr=some cs/\cs.all inl=true/\(aI st.S s).isSome=true/\X (.w (.c (.own s ((st.slot s).gen+1)))) (st.cn s (.row e k ((st.slot s).gen+1) (rowsOf k n cs)))):=by
 intro N F M w0 w st G H a X hR hs K Q hK;obtain⟨pr,cs,e1,e2,e3,cq,hX⟩:=hs;obtain⟨out,f1,f2⟩:=aes hR hu hk aY qI hn h2 h3 hp e1 e2
 have hl:cs.length=n*k:=by rw[Xa _ _ _ e2];simp[dt]
 have wY:n<=n*k:=Nat.le_mul_of_pos_right n aY
 have how:(w.alloc (.cells out.toArray e)).ownsRow 0 e k (.slice (some ⟨w.heap.size,0,none⟩) n n) n out:=by
  have:=World.ownsRow_lit (base:=w.heap.size) (e:=e) (size:=k) w out.toArray n ax (by simp only[maxLen];omega) (by simp;rw[f1.1,hl]);exact(by simpa using this:(w.alloc (.cells out.toArray e)).ownsRow w.heap.size e k _ n out).mono (BM _)
 obtain⟨bM,hst⟩:=hR.newRow (w':=w.alloc (.cells out.toArray e)) s cq (e:=e) (k:=k) (es:=rowsOf k n cs) (by simp[rowsOf]) how (.inl (aeh w _ _)) (fun b hb=> .inr (by simp[Value.ownBlock] at hb;omega)) (fun w2 A2 hm=>(RB hl f1 e3).map hm);have hx:=hK _ _ _ _ (.slice (some ⟨w.heap.size,0,none⟩) n n) _ hX bM (hst U (.inr fun b hlt=>alloc_old w _ hlt)) ⟨rfl,by rw[St.mL,aq ⟨rfl,cq⟩];exact cK _,fun _ _ _ _=>ai⟩;unfold Oper.wp execOp;simp only[ho,oZ,f2,rP,tw];exact hx
theorem apW{s:Nat}(ho:o.op=.assign (.const (.slice none 0 0))\/o.op=.move (.const (.slice none 0 0))):oK P U o (fun st X=>(aI st.S s).isSome=true/\X (.w (.c (.own s ((st.slot s).gen+1)))) (st.cn s (.row e k ((st.slot s).gen+1) []))):=by
 intro N F M w0 w st G H a X hR hs K Q hK;obtain⟨cq,hX⟩:=hs;obtain⟨bM,hst⟩:=hR.newRow (w':=w) s cq (e:=e) (k:=k) (es:=[]) rfl (ko w 0 e k) (.inl ⟨rfl,rfl,rfl,cK _,fun _ _ _=>rfl⟩) (fun b hb=>by simp[Value.ownBlock] at hb) (fun w2 A2 hm=>⟨fun i row h=>by simp at h,fun i row j x u h=>by simp at h⟩);have hx:=hK _ _ _ _ (.slice none 0 0) _ hX bM (hst U (.inr fun _ _=>rfl)) ⟨rfl,by rw[St.mL,aq ⟨rfl,cq⟩];exact cK _,fun _ _ _ _=>ai⟩;unfold Oper.wp execOp
 rcases ho with ho|ho<;>(simp only[ho,tw];exact hx)
end
section
variable {P:Program} {N:Nat} {F M:Nat->Prop} {w0:kT} {w:World} {st:St} {G:Nat->Gh} {H:Nat->Value} {a:Act}
theorem Rel.flat (h:Rel N F M w0 st G H a w){x:Operand}{y:aP}(lZ:dO x y){U:List Nat}{es:List (List AC)}{k:Nat}(aY:0<k)(hr:st.rows U (st.arg y)=some es)(hk:∀row∈es,row.length=k):
  ∃ad c,∃us:List Value,a.eval x=.slice ad es.length c/\us.length=es.length*k/\qB w (aV M st.slot G H) k es us/\(∀j u,us[j]? =some u->∃b o,ad=some ⟨b,o,none⟩/\w.cell? ⟨b,o+j,none⟩=some u)/\(∀u∈us,u.oneCell'=true):=by
 have gC:∀(i:Nat) (row:List AC),es[i]? =some row->row.length=k:=fun i row hi=>hk row (eE hi)
 unfold St.rows at hr;split at hr
 ·rename_i es' hv;simp only[aA] at hr;subst hr;have h3:IR w (aV M st.slot G H) (.sl es') (a.eval x):=h.arg lZ hv;generalize a.eval x=q at h3
  cases h3 with
  |sl k' _ ad c u hn hm nX hc hl=>
   have Xd:∀p,p<es'.length*k->p/k<es'.length/\p%k<k/\p/k*k+p%k=p:=fun p hp=>⟨(Nat.div_lt_iff_lt_mul aY).2 hp,oD _ aY,by rw[Gj];exact Nat.div_add_mod p k⟩
   have Ad:∀i j,j<k->(i*k+j)/k=i/\(i*k+j)%k=j:=fun i j hj=>by
    constructor
    ·rw[Gj,Nat.mul_add_div aY,Nat.div_eq_of_lt hj,qm]
    ·rw[Gj,Nat.mul_add_mod,Nat.mod_eq_of_lt hj]
   have qF:∀p v,((List.range (es'.length*k)).map fun p=>u (p/k) (p%k))[p]? =some v->p<es'.length*k/\v=u (p/k) (p%k):=by
    intro p v hp;rw[fh,bO] at hp;obtain⟨q,hq,rfl⟩:=hp;have hlt:=(bK.1 hq).1;simp at hlt;rw[Gc hlt] at hq;simp only[aA] at hq;subst hq;exact⟨hlt,rfl⟩
   refine⟨ad,c,(List.range (es'.length*k)).map fun p=>u (p/k) (p%k),rfl,ai,⟨gC,fun i row j x' v h1 h2 h3=> ?_⟩,fun p v hp=> ?_,fun v hv=> ?_⟩
   ·have hj:=(bK.1 h2).1;rw[gC i row h1] at hj;obtain⟨_,rfl⟩:=qF _ _ h3;rw[(Ad i j hj).1,(Ad i j hj).2];exact hc i row j x' h1 h2
   ·obtain⟨hlt,rfl⟩:=qF _ _ hp;obtain⟨g1,g2,g3⟩:=Xd p hlt;have bl:es'[p/k]? =some es'[p/k]:=cw g1;have eF:=gC _ _ bl;obtain⟨b,o,e1,_,e2⟩:=hl _ _ (p%k) bl ab;have tA:=nX _ _ bl;rw[show k'=k by omega] at e2;exact⟨b,o,e1,by rw[<-e2,Nat.add_assoc,g3]⟩
   ·obtain⟨p,hp⟩:=wH hv;obtain⟨hlt,rfl⟩:=qF _ _ hp;obtain⟨g1,g2,g3⟩:=Xd p hlt;have bl:es'[p/k]? =some es'[p/k]:=cw g1;have eF:=gC _ _ bl;exact(hc _ _ (p%k) ((es'[p/k])[p%k]' ab) bl ai).one
 ·rename_i s g hv;split at hr
  case h_2=>cases hr
  rename_i e k' g' es' hs;split at hr
  case isFalse=>cases hr
  rename_i hg;obtain⟨rfl,_⟩:=hg;simp only[aA] at hr;subst hr;have h3:CR w (aV M st.slot G H) st.slot G H (.own s g) (a.eval x):=h.arg lZ hv;obtain⟨_,_,hH⟩:=h3;obtain⟨_,xs,how,eF,KA⟩:=h.rw s e k' g es' hs;rw[hH e k' es' hs];by_cases h0:es'=[]
  ·subst h0;have yA:xs=[]:=yh (by have:=how.1;simpa using this);subst yA
   rcases how.2 with⟨e1,_⟩|⟨gg,cap,cur,e1,_⟩
   ·exact⟨none,0,[],e1,ai,⟨gC,fun i row j x' v h1=>by simp at h1⟩,fun j u hj=>by simp at hj,fun u hu=>by simp at hu⟩
   ·exact⟨_,cap,[],e1,ai,⟨gC,fun i row j x' v h1=>by simp at h1⟩,fun j u hj=>by simp at hj,fun u hu=>by simp at hu⟩
  ·have DM:0<es'.length:=Dy.2 h0;have bl:es'[0]? =some es'[0]:=cw DM
   have WO:k'=k:=by rw[<-eF _ _ bl];exact gC _ _ bl
   subst WO;obtain⟨b,cap,e1,_,_⟩:=how.form DM;have hcell:=how.cells (g:=b) (by rw[e1];rfl);refine⟨_,cap,xs,e1,how.1,⟨eF,KA⟩,fun j u hj=>⟨b,0,rfl,?_⟩,fun u hu=> ?_⟩
   ·have:=hcell j u hj;rwa[Addr.add_mid] at this
   ·obtain⟨p,hp⟩:=wH hu;have hlt:=(bK.1 hp).1;rw[how.1] at hlt;have g1:p/k'<es'.length:=(Nat.div_lt_iff_lt_mul aY).2 hlt;have g2:=oD p aY
    have g3:p/k'*k'+p%k'=p:=by rw[Gj];exact Nat.div_add_mod p k'
    have bl:es'[p/k']? =some es'[p/k']:=cw g1;have aFD:=eF _ _ bl;exact(KA _ _ (p%k') ((es'[p/k'])[p%k']' ab) u bl ai (by rw[g3];exact hp)).one
 ·cases hr
theorem qB.app {A:Nat->Prop}{k:Nat}{es ys:List (List AC)}{xs us:List Value}(h1:qB w A k es xs)(h2:qB w A k ys us)(hx:xs.length=es.length*k):qB w A k (es++ys) (xs++us):=by
 refine⟨fun i row h=> ?_,fun i row j x u e1 e2 e3=> ?_⟩
 ·rcases fL.1 (eE h) with hm|hm
  ·obtain⟨j,hj⟩:=wH hm;exact h1.1 j row hj
  ·obtain⟨j,hj⟩:=wH hm;exact h2.1 j row hj
 ·by_cases hi:i<es.length
  ·rw[lT hi] at e1;have hj:=(bK.1 e2).1;rw[h1.1 i row e1] at hj;rw[lT (by rw[hx];exact WY hi hj)] at e3;exact h1.2 i row j x u e1 e2 e3
  ·rw[iR ab] at e1;have hle:es.length*k<=i*k:=uG k ab;rw[iR ab,hx] at e3;refine h2.2 _ row j x u e1 e2 ?_;rw[Nat.sub_mul,show i*k-es.length*k+j=i*k+j-es.length*k by omega];exact e3
theorem apX {U:Option (List Nat)}{o:Oper}{t e:TypeId}{k bytes:Nat}{zv:Value}{x z:Operand}{y q:aP}(ho:o.op=.call { callee:=.builtin .append,args:=#[x,z],argTypes:=#[t,t] })(hu:P.underlying t=some (.slice e))(lX:(P.info? e).map (fun i=>(i.zero,i.size,i.bytes))=some (some zv,k,bytes))(nS:zv.cells.size=k)(aY:0<k)(ks:bytes<=1000)(hx:dO x y)(hz:dO z q):
  oK P U o (fun st X=>∃s g es ys,st.arg y=some (.w (.c (.own s g)))/\aI st.S s=some (.row e k g es)/\st.rows [s] (st.arg q)=some ys/\(∀row∈ys,row.length=k)/\es.length+ys.length<=100000000/\yx U s/\X (.w (.c (.own s (g+1)))) (st.cn s (.row e k (g+1) (es++ys)))):=by
 intro N F M w0 w st G H a X hR hs K Q hK;obtain⟨s,g,es,ys,e1,e2,e3,e4,e5,dW,hX⟩:=hs;obtain⟨ey,ik⟩:=Ry e2;have h3:CR w (aV M st.slot G H) st.slot G H (.own s g) (a.eval x):=hR.arg hx e1;obtain⟨_,_,hH⟩:=h3;have Ec:=hH e k es ey;obtain⟨_,xs,how,lF⟩:=hR.rw s e k g es ey;obtain⟨ad,c,us,f1,f2,f3,f4,f5⟩:=hR.flat hz aY e3 e4;obtain⟨it,hi,eZ,cL,fj⟩:=wL lX
 have pw:(st.slot s).gen=g:=by rw[ey];rfl
 have key:∀v' w',w'.ownsRow 0 e k v' (es.length+ys.length) (xs++us)->w.grownBy w' (H s).ownBlock->(v'.ownBlock=(H s).ownBlock\/v'.ownBlock=some w.heap.size)->K (a.put o.dst v') w':=by
  intro v' w' g1 g2 g3
  have hl:∀b,(H s).ownBlock=some b->bm st.slot G H s b:=fun b hb=> .inr (.inl ⟨e,k,g,es,ey,hb⟩)
  have⟨bM,hst⟩:=hR.newRow (w':=w') s ik (e:=e) (k:=k) (es:=es++ys) (n:=es.length+ys.length) ai g1 (.inr ⟨_,g2,hl⟩) (fun b hb=>by
   rcases g3 with g3|g3
   ·rw[g3] at hb;exact .inl (hl b hb)
   ·rw[g3] at hb;right;simp at hb;omega) (fun w2 A2 hm=>(qB.app lF f3 how.1).map hm)
  rw[pw] at bM hst;exact hK _ _ _ _ v' _ hX bM (hst U (.inl dW)) ⟨by rcases g1.2 with⟨rfl,_⟩|⟨gg,cap,cur,rfl,_⟩<;>rfl,by rw[St.mL,aq ⟨rfl,ik⟩];exact cK _,fun _ _ _ _=>ai⟩
 unfold Oper.wp execOp;simp only[ho,resolve,invoke,builtin,oZ,tw,rP,List.map_toArray,dF,mF,Ec,f1]
 cases ad with
 |none=>
  have hy0:ys=[]:=by
   cases ys with
   |nil=>rfl
   |cons row r=>
    have hl:0<us.length:=by rw[f2];exact Nat.mul_pos ai aY
    obtain⟨b,o,hb,_⟩:=f4 0 us[0] (by simp[hl]);cases hb
  subst hy0;have hu0:us=[]:=yh (by rw[f2];simp);subst hu0
  have hrun:(Builtin.append_ #[t,t] o.type #[H s,.slice none 0 c]).run P w=.ok (H s) w:=by
   rcases how.2 with⟨h1,_⟩|⟨gg,cap,cur,h1,_,_,nW,_⟩
   ·rw[h1];simp[Builtin.append_,lu hu,sizeOf,typeInfo,hi,Builtin.lenOf,Builtin.firstCells]
   ·rw[h1];simp[Builtin.append_,lu hu,sizeOf,typeInfo,hi,Builtin.lenOf,Builtin.firstCells,nW,storeCells]
  simp only[List.length_nil,hrun,rP];exact key (H s) w (by simpa using how) ⟨rfl,rfl,rfl,cK _,fun _ _ _=>rfl⟩ (.inl rfl)
 |some ad=>
  obtain⟨v',w',g1,g2,g3,_,g5⟩:=run_append_own_at (P:=P) w 0 t o.type e it zv k bytes hu hi eZ cL fj nS aY (H s) es.length xs how ad ys.length c us f2 (fun j u hj=>by
   obtain⟨b,o',hb,hc⟩:=f4 j u hj;simp only[aA] at hb;subst hb;rw[Addr.add_mid]
   exact hc) f5 (by unfold maxLen;omega) (bj (nR e5 ks) ab) (BM _)
  simp only[g1,rP];exact key v' w' g2 g3 g5
end
section
variable {P:Program} {N:Nat} {F M:Nat->Prop} {w0:kT} {w:World} {st:St} {G:Nat->Gh} {H:Nat->Value} {a:Act}
variable {A:Nat->Prop} {G G':Nat->Gh} {H H':Nat->Value} {S':Nat->Slot} {U:Option (List Nat)} {o:Oper} {v:Value}
theorem apY{e k n h g cap:Nat}{xs:List Value}(ho:w.ownsRow 0 e k (.slice (some ⟨g,0,none⟩) n cap) n xs)(hh:h<=n):w.ownsRow 0 e k (.slice (some ⟨g,0,none⟩) h cap) h (xs.take (h*k)):=by
 have hle:h*k<=n*k:=uG k hh
 rcases ho.2 with⟨h',_⟩|⟨g',cap',cur,h',hb,hg,hn,hc,hs,apZ⟩
 ·cases h'
 ·simp only[Value.slice.injEq,aA,Addr.mk.injEq,and_true,true_and] at h';obtain⟨rfl,rfl⟩:=h';refine⟨by have:=ho.1;simp;omega,.inr ⟨g,cap,cur,rfl,hb,hg,bj hh hn,hc,hs,?_⟩⟩;rw[<-apZ,List.take_take,Ge hle]
theorem aqa{t e':TypeId}{x:Operand}{y:aP}{hi:Option Operand}{hi':Option aP}{k':Nat}(ho:o.op=.slice t x none hi none)(hu:P.underlying t=some (.slice e'))(hk:(P.info? e').map (·.size)=some k')(hx:dO x y)(jn:Kw hi hi'):
  oK P U o (fun st X=>∃s g e k es h,st.arg y=some (.w (.c (.own s g)))/\aI st.S s=some (.row e k g es)/\wZ st es.length hi'=some h/\h<=es.length/\X (.w (.c (.own s (g+1)))) (st.cn s (.row e k (g+1) (es.take h)))):=by
 intro N F M w0 w st G H a X hR hs K Q hK;obtain⟨s,g,e,k,es,h,e1,e2,yz,h2,hX⟩:=hs;obtain⟨ey,ik⟩:=Ry e2;have h3:CR w (aV M st.slot G H) st.slot G H (.own s g) (a.eval x):=hR.arg hx e1;obtain⟨_,_,hH⟩:=h3;have Ec:=hH e k es ey;obtain⟨_,xs,how,lF⟩:=hR.rw s e k g es ey
 have pw:(st.slot s).gen=g:=by rw[ey];rfl
 have aqb:∀(w2:World) (A2:Nat->Prop),(∀x u,IR w (aV M st.slot G H) x u->IR w2 A2 x u)->qB w2 A2 k (es.take h) (xs.take (h*k)):=fun w2 A2 hm=>by
  refine⟨fun i row h1=> ?_,fun i row j x' u h1 h4 h5=> ?_⟩
  ·rw[wI] at h1;split at h1
   ·exact lF.1 i row h1
   ·cases h1
  ·rw[wI] at h1 h5;split at h1
   case isFalse=>cases h1
   split at h5
   ·exact hm _ _ (lF.2 i row j x' u h1 h4 h5)
   ·cases h5
 have Ky:((hi.map a.eval)=none/\h=es.length)\/∃k,hi.map a.eval=some (.int k h):=by
  cases hi with
  |none=>cases hi' with
   |none=>simp[wZ] at yz;exact .inl ⟨rfl,yz.symm⟩
   |some=>exact jn.elim
  |some p=>cases hi' with
   |none=>exact jn.elim
   |some q=>
    obtain⟨k,e⟩:=hR.bound jn yz;exact .inr ⟨k,by simp[e]⟩
 have key:∀(v':Value),v'.ownBlock=(H s).ownBlock->v'.oneCell'=true->w.ownsRow 0 e k v' h (xs.take (h*k))->K (a.put o.dst v') w:=by
  intro v' g1 g0 g2
  have hl:∀b,(H s).ownBlock=some b->bm st.slot G H s b:=fun b hb=> .inr (.inl ⟨e,k,g,es,ey,hb⟩)
  have⟨bM,hst⟩:=hR.newRow (w':=w) s ik (e:=e) (k:=k) (es:=es.take h) (n:=h) bq g2 (.inl ⟨rfl,rfl,rfl,cK _,fun _ _ _=>rfl⟩) (fun b hb=> .inl (hl b (by rw[<-g1];exact hb))) aqb;rw[pw] at bM hst;exact hK _ _ _ _ v' _ hX bM (hst U (.inr fun _ _=>rfl)) ⟨g0,by rw[St.mL,aq ⟨rfl,ik⟩];exact cK _,fun _ _ _ _=>ai⟩
 unfold Oper.wp execOp
 rcases how.2 with⟨h5,h6⟩|⟨gg,cap,cur,h5,_,_,nW,_⟩
 ·have h0:h=0:=ab;subst h0;have hb:=WN (P:=P) w es.length 0 0 0 none (hi.map a.eval) (.inl ⟨rfl,rfl⟩) Ky ax (BM _) ab;rw[h6] at hb;simp[ho,Ec,h5,Instr.sliceAt,Instr.slice,lu hu,hb,Gz hk];exact key _ (by rw[h5]) rfl ⟨ai,.inl ⟨rfl,rfl⟩⟩
 ·have hb:=WN (P:=P) w es.length cap 0 h none (hi.map a.eval) (.inl ⟨rfl,rfl⟩) Ky (BM _) h2 nW;rw[h5] at how;have lv:(⟨gg,0,none⟩:Addr).add 0=⟨gg,0,none⟩:=Addr.add_mid gg 0 0;simp[ho,Ec,h5,Instr.sliceAt,Instr.slice,lu hu,hb,Gz hk,lv];exact key _ (by rw[h5];rfl) rfl (apY how h2)
def AW.inl (x:AW):Bool:=x.cells.all Ab.inl
def WI (w:World)(A:Nat->Prop)(x:AW)(v:Value):Prop:=x.inl=true/\WR w A (fun _=> .dead 0) (fun _=>gh 0) (fun _=>undef) x v
def VI (w:World)(A:Nat->Prop):AV->Value->Prop
 | .w x,v=>WI w A x v
 | .bD vs,v=>∃arr:List Value,v=.tuple arr.toArray/\arr.length=vs.length/\∀(j:Nat) (x:AW) (u:Value),vs[j]? =some x->arr[j]? =some u->WI w A x u
 |_,_=>False
def aU (P:Program)(f:FuncId)(args:List AW)(Q:AV->Prop):Prop:=
 ∀(M:Nat->Prop) (w:World) (vs:List Value),(∀b,M b->b<w.heap.size)/\yw w (fun b=>b<w.heap.size)->vs.length=args.length->(∀(i:Nat) (x:AW) (v:Value),args[i]? =some x->vs[i]? =some v->WI w M x v)->
  Calls P f vs.toArray w fun e w'=>∃v r,e=.returned v/\Q r/\VI w' M r v/\Fr (fun b=>b<w.heap.size) w w'
theorem CR.any{S:Nat->Slot}{x:AC}{u:Value}(h:CR w A S G H x u)(hi:Ab.inl x=true):CR w A S' G' H' x u:=(h.ir hi).tF
theorem cE.any{S:Nat->Slot}{cs:List AC}{us:List Value}(h:cE w A S G H cs us)(hi:cs.all Ab.inl=true):cE w A S' G' H' cs us:=
 ⟨h.1,fun j x u h1 h2=>(h.2 j x u h1 h2).any (fq.1 hi x (eE h1))⟩
theorem WR.any{S:Nat->Slot}{x:AW}(h:WR w A S G H x v)(hi:x.inl=true):WR w A S' G' H' x v:=by
 cases x with
 |c x=>exact CR.any h (by simpa [AW.inl,AW.cells] using hi)
 |agg cs=>
  obtain⟨arr,e,h⟩:=h;exact⟨arr,e,h.any (by simpa [AW.inl,AW.cells] using hi)⟩
theorem VI.vr{S:Nat->Slot}{x:AV}(h:VI w A x v):VR w A S G H x v:=by
 cases x with
 |w x=>exact WR.any h.2 h.1
 |bD vs=>
  obtain⟨arr,e,hl,h⟩:=h;exact⟨arr,e,hl,fun j x u h1 h2=>WR.any (h j x u h1 h2).2 (h j x u h1 h2).1⟩
 |pb s g off=>exact h.elim
 |pr s g i off=>exact h.elim
 |pi cs off=>exact h.elim
 |u=>exact h.elim
def oL (st:St):List aP->Option (List AW)
 |[]=>some []
 |y::r=>match st.arg y,oL st r with
  |some (.w x),some q=>if x.inl then some (x::q) else none
  |_,_=>none
def KB:List Operand->List aP->Prop
 |[],[]=>True
 |x::r,y::q=>dO x y/\KB r q
 |_,_=>False
theorem Rel.args(h:Rel N F M w0 st G H a w):∀{xs:List Operand} {ys:List aP} {r:List AW},KB xs ys->oL st ys=some r->
  xs.length=r.length/\∀(i:Nat) (p:AW) (v:Value),r[i]? =some p->(xs.map a.eval)[i]? =some v->WI w (aV M st.slot G H) p v
 |[],[],r,_,hr=>by
  simp only[oL,aA] at hr;subst hr;exact⟨rfl,fun i p q e=>by simp at e⟩
 |x::xs,y::ys,r,hp,hr=>by
  obtain⟨h1,h2⟩:=hp;unfold oL at hr;split at hr
  case h_2=>cases hr
  rename_i xw q hv hq;split at hr
  case isFalse=>cases hr
  rename_i hi;simp only[aA] at hr;subst hr;obtain⟨e1,e2⟩:=Rel.args h h2 hq;refine⟨by simp[e1],fun j p v g1 g2=> ?_⟩
  cases j with
  |zero=>
   simp at g1 g2;subst g1;subst g2;exact⟨hi,WR.any (h.arg h1 hv) hi⟩
  |succ j=>exact e2 j p v (by simpa using g1) (by simpa using g2)
 |[],_::_,_,hp,_=>hp.elim
 |_::_,[],_,hp,_=>hp.elim
theorem aev{f:FuncId}{fn:Func}{xs:Array Operand}{ys:List aP}{ts:Array TypeId}(ho:o.op=.call { callee:=.value (.func f),args:=xs,argTypes:=ts })(hf:P.funcs[f]? =some fn)(hn:(fn.name== "runtime.NumGoroutine")=false)(hb:fn.body.isNone=false)(hx:KB xs.toList ys):
  oK P U o (fun st X=>∃ws R,oL st ys=some ws/\aU P f ws R/\∀r,R r->X r st):=by
 intro N F M w0 w st G H a X hR hs K Q hK;obtain⟨ws,R,e1,hC,hX⟩:=hs;obtain⟨f1,f2⟩:=hR.args hx e1
 have hM:∀b,aV M st.slot G H b->b<w.heap.size:=fun b hb=>by
  rcases hb with hm|⟨s,hl⟩
  ·exact jj (hR.lo.1 b (.inr hm)) hR.fr.size
  ·exact(hR.qC hl).1
 have Xe:=hC (aV M st.slot G H) w (xs.toList.map a.eval) ⟨hM,hR.glo fun _ _ h=>h⟩ (by simpa using f1) f2;unfold Oper.wp execOp;simp only[ho,resolve,Act.eval,Deferred.ofValue,invoke,callFunc,hf,hn,hb,oZ,tw,rP,program,Sem.run]
 have qJ:(#[]++xs.map a.eval++#[]:Array Value)=(xs.toList.map a.eval).toArray:=by
  apply Array.ext';simp
 simp only[zJ,pd,Sem.run]
 show Oper.upon P o a K Q (.ok (.enter f (#[]++xs.map a.eval++#[])) w)
 rw[qJ,Oper.upon_enter]
 refine Xe.mono fun e w' he=> ?_
 obtain⟨v,r,rfl,hr,hv,dx⟩:=he;have bM:=hR.grow dx.os dx.tape dx.out dx.size dx.block;exact hK r st G H v w' (hX r hr) bM (Nx dx.size dx.block) hv.vr
end
structure NG (M:Nat->Prop)(S:Nat->Slot)(G:Nat->Gh)(H:Nat->Value)(w:World):Prop where
 bx:∀s g cs,S s=.box g cs->¬M (G s).b/\∃arr:List Value,az w (G s).b arr.toArray/\cE w (aV M S G H) S G H cs arr
 rw:∀s e k g es,S s=.row e k g es->(∀b,(H s).ownBlock=some b->¬M b)/\∃xs,w.ownsRow 0 e k (H s) es.length xs/\qB w (aV M S G H) k es xs
 ob:∀s g K,S s=.obj g K->(∀b∈(G s).fp,¬M b)/\K.rep w (aV M S G H) (H s) (G s)
 dj:∀s s' b,bm S G H s b->bm S G H s' b->s=s'
def iz (T:List (Nat×Slot))(s:Nat):Slot:=(aI T s).getD (.dead 0)
def iB (P:Program)(f:FuncId)(args:List AV)(T:List (Nat×Slot))(Q:AV->(Nat->Slot)->Prop):Prop:=
 ∀(M:Nat->Prop) (w:World) (G:Nat->Gh) (H:Nat->Value) (vs:List Value),NG M (iz T) G H w->(∀b,M b->b<w.heap.size)/\yw w (fun b=>b<w.heap.size/\∀s,¬bm (iz T) G H s b)->vs.length=args.length->
  (∀(i:Nat) (x:AV) (v:Value),args[i]? =some x->vs[i]? =some v->VR w (aV M (iz T) G H) (iz T) G H x v)->
  Calls P f vs.toArray w fun e w'=>∃v r S' G' H',e=.returned v/\Q r S'/\VR w' (aV M S' G' H') S' G' H' r v/\NG M S' G' H' w'/\Rq ⟨w,iz T,G,H⟩ S' G' H'/\
   Fr (fun b=>b<w.heap.size/\∀s,¬bm (iz T) G H s b) w w'/\(∀s b,bm S' G' H' s b->(∃s0,bm (iz T) G H s0 b)\/w.heap.size<=b)/\∀s,aI T s=none->S' s=.dead 0
def lG (D:List Nat):AC->Bool
 | .own s _=>D.contains s
 | .cP s _=>D.contains s
 | .part s _ _=>D.contains s
 | .cls _ bZ=>bZ.all fun q=>D.contains q.1
 |_=>true
def Ae (D:List Nat)(x:AW):Bool:=x.cells.all (lG D)
def iC (D:List Nat):AV->Bool
 | .w x=>Ae D x
 | .bD vs=>vs.all (Ae D)
 | .pb s _ _=>D.contains s
 | .pr s _ _ _=>D.contains s
 |_=>true
def fy (D:List Nat):Slot->Bool
 | .box _ cs=>cs.all (lG D)
 |_=>true
section
variable {P:Program} {N:Nat} {F M:Nat->Prop} {w0:kT} {w:World} {st:St} {G:Nat->Gh} {H:Nat->Value} {a:Act}
variable {A:Nat->Prop} {D:List Nat} {G G':Nat->Gh} {H H':Nat->Value} {S':Nat->Slot} {v:Value}
structure GH (D:List Nat)(S S':Nat->Slot)(G G':Nat->Gh)(H H':Nat->Value):Prop where
 s:∀s∈D,S' s=S s
 g:∀s∈D,G' s=G s
 h:∀s∈D,H' s=H s
theorem CR.same{S:Nat->Slot}(m:GH D S S' G G' H H'){x:AC}{u:Value}(hc:lG D x=true)(h:CR w A S G H x u):CR w A S' G' H' x u:=by
 cases x with
 |own s g=>
  have hs:s∈D:=by simpa [lG] using hc
  obtain⟨h1,h2,h3⟩:=h;exact⟨h1,by rw[m.s s hs];exact h2,fun e k es he=>by rw[m.s s hs] at he;rw[m.h s hs];exact h3 e k es he⟩
 |cP s g=>
  have hs:s∈D:=by simpa [lG] using hc
  obtain⟨h1,h2,h3⟩:=h;exact⟨h1,by rw[m.s s hs];exact h2,fun K he=>by rw[m.s s hs] at he;rw[m.h s hs];exact h3 K he⟩
 |part s g i=>
  have hs:s∈D:=by simpa [lG] using hc
  obtain⟨h1,h2,h3⟩:=h;exact⟨h1,by rw[m.s s hs];exact h2,fun K he=>by rw[m.s s hs] at he;rw[m.g s hs];exact h3 K he⟩
 |cls f bZ=>
  obtain⟨ps,h1,h2,h3⟩:=h;refine⟨ps,h1,h2,fun i q p e1 e2=> ?_⟩
  have hs:q.1∈D:=by
   have h4:bZ.all (fun q=>D.contains q.1)=true:=hc;have:=fq.1 h4 q (eE e1);simpa using this
  obtain⟨h4,h5⟩:=h3 i q p e1 e2;exact⟨by rw[m.s _ hs];exact h4,fun cs he=>by rw[m.s _ hs] at he;rw[m.g _ hs];exact h5 cs he⟩
 |v x=>exact h
 |sl es=>exact h
 |fM f bZ=>exact h
theorem cE.same{S:Nat->Slot}(m:GH D S S' G G' H H'){cs:List AC}{us:List Value}(hc:cs.all (lG D)=true)(h:cE w A S G H cs us):cE w A S' G' H' cs us:=
 ⟨h.1,fun j x u h1 h2=>(h.2 j x u h1 h2).same m (fq.1 hc x (eE h1))⟩
theorem WR.same{S:Nat->Slot}(m:GH D S S' G G' H H'){x:AW}(hc:Ae D x=true)(h:WR w A S G H x v):WR w A S' G' H' x v:=by
 cases x with
 |c x=>exact CR.same m (by simpa [Ae,AW.cells] using hc) h
 |agg cs=>
  obtain⟨arr,e,h⟩:=h;exact⟨arr,e,h.same m hc⟩
theorem VR.same{S:Nat->Slot}(m:GH D S S' G G' H H'){x:AV}(hc:iC D x=true)(h:VR w A S G H x v):VR w A S' G' H' x v:=by
 cases x with
 |w x=>exact WR.same m hc h
 |bD vs=>
  obtain⟨arr,e,hl,h⟩:=h;exact⟨arr,e,hl,fun j x u h1 h2=>(h j x u h1 h2).same m (fq.1 hc x (eE h1))⟩
 |pb s g off=>
  have hs:s∈D:=by simpa [iC] using hc
  exact⟨by rw[m.s s hs];exact h.1,fun cs he=>by rw[m.s s hs] at he;rw[m.g s hs];exact h.2 cs he⟩
 |pr s g i off=>
  have hs:s∈D:=by simpa [iC] using hc
  exact⟨by rw[m.s s hs];exact h.1,fun e k es he=>by rw[m.s s hs] at he;rw[m.h s hs];exact h.2 e k es he⟩
 |pi cs off=>exact h
 |u=>trivial
def mM (st:St):List aP->Option (List AV)
 |[]=>some []
 |y::r=>match st.arg y,mM st r with
  |some x,some q=>some (x::q)
  |_,_=>none
theorem Rel.mM (h:Rel N F M w0 st G H a w):∀{xs:List Operand} {ys:List aP} {r:List AV},KB xs ys->mM st ys=some r->
  xs.length=r.length/\∀(i:Nat) (p:AV) (v:Value),r[i]? =some p->(xs.map a.eval)[i]? =some v->VR w (aV M st.slot G H) st.slot G H p v
 |[],[],r,_,hr=>by
  simp only[Ab.mM,aA] at hr;subst hr;exact⟨rfl,fun i p q e=>by simp at e⟩
 |x::xs,y::ys,r,hp,hr=>by
  obtain⟨h1,h2⟩:=hp;unfold Ab.mM at hr;split at hr
  case h_2=>cases hr
  rename_i xv q hv hq;simp only[aA] at hr;subst hr;obtain⟨e1,e2⟩:=Rel.mM h h2 hq;refine⟨by simp[e1],fun j p v g1 g2=> ?_⟩
  cases j with
  |zero=>
   simp at g1 g2;subst g1;subst g2;exact h.arg h1 hv
  |succ j=>exact e2 j p v (by simpa using g1) (by simpa using g2)
 |[],_::_,_,hp,_=>hp.elim
 |_::_,[],_,hp,_=>hp.elim
def gL (st:St)(D:List Nat):List (Nat×Slot):=D.map fun s=>(s,st.slot s)
theorem RE (st:St):∀(D:List Nat) (s:Nat),aI (gL st D) s=if s∈D then some (st.slot s) else none
 |[],s=>by simp[gL,aI]
 |d::D,s=>by
  have ih:=RE st D s;unfold gL at ih⊢;simp only[dF,aI,ih];by_cases h:d=s
  ·subst h;simp
  ·have h':¬s=d:=fun e=>h e.symm
   simp[h,h']
def mN (D:List Nat)(S':Nat->Slot)(st:St):St:={ st with S:=st.S.map fun p=>if D.contains p.1 then(p.1,S' p.1) else p }
theorem aew (D:List Nat)(S':Nat->Slot):∀(l:List (Nat×Slot)) (s:Nat),aI (l.map fun p=>if D.contains p.1 then(p.1,S' p.1) else p) s=if s∈D then(aI l s).map fun _=>S' s else aI l s
 |[],s=>by simp[aI]
 |(i,x)::l,s=>by
  have ih:=aew D S' l s;simp only[dF];by_cases hi:i∈D
  ·have:D.contains i=true:=by simpa using hi
   simp only[this,nk,aI,ih];by_cases h:i=s
   ·subst h;simp[hi]
   ·simp[h]
  ·have:D.contains i=false:=by simpa using hi
   simp only[this,zJ,pd,aI,ih];by_cases h:i=s
   ·subst h;simp[hi]
   ·simp[h]
theorem Xf(hD:∀s∈D,(aI st.S s).isSome=true)(s:Nat):(mN D S' st).slot s=if s∈D then S' s else st.slot s:=by
 unfold St.slot mN;dsimp only;rw[aew];by_cases h:s∈D
 ·obtain⟨x,hx⟩:=QW.1 (hD s h);simp[h,hx]
 ·simp[h]
def aex (P:Program)(U:Option (List Nat))(f:FuncId)(ys:List aP)(D:List Nat):GF:=fun st X=>∃ws Q,mM st ys=some ws/\ws.all (iC D)=true/\(∀s∈D,(aI st.S s).isSome=true/\fy D (st.slot s)=true)/\(∀s∈D,yx U s)/\
 iB P f ws (gL st D) Q/\∀r S',Q r S'->(iC D r=true/\∀s∈D,fy D (S' s)=true)/\X r (mN D S' st)
end
section
variable {P:Program} {N:Nat} {F M:Nat->Prop} {w0:kT} {w:World} {st:St} {G:Nat->Gh} {H:Nat->Value} {a:Act}
theorem Rel.bp (hR:Rel N F M w0 st G H a w){D:List Nat}{w':World}{S':Nat->Slot}{G':Nat->Gh}{H':Nat->Value}(hD:∀s∈D,(aI st.S s).isSome=true)
  (cq:NG (fun b=>M b\/∃s,s∉D/\bm st.slot G H s b) S' G' H' w') (hh:Rq ⟨w,iz (gL st D),G,H⟩ S' G' H') (dx:Fr (fun b=>b<w.heap.size/\∀s,¬bm (iz (gL st D)) G H s b) w w')
  (uR:∀s b,bm S' G' H' s b->(∃s0,bm (iz (gL st D)) G H s0 b)\/w.heap.size<=b) (Xg:∀s,aI (gL st D) s=none->S' s=.dead 0) (oM:∀s∈D,fy D (S' s)=true):
  Rel N F M w0 (mN D S' st) (fun s=>if s∈D then G' s else G s) (fun s=>if s∈D then H' s else H s) a w'/\aV M (mN D S' st).slot (fun s=>if s∈D then G' s else G s) (fun s=>if s∈D then H' s else H s)=aV (fun b=>M b\/∃s,s∉D/\bm st.slot G H s b) S' G' H'/\
   (∀s∈D,∀b,b<w.heap.size->bm (mN D S' st).slot (fun s=>if s∈D then G' s else G s) (fun s=>if s∈D then H' s else H s) s b->∃s0∈D,bm st.slot G H s0 b):=by
 have tS:∀s,iz (gL st D) s=if s∈D then st.slot s else .dead 0:=fun s=>by
  unfold iz;rw[RE];by_cases h:s∈D<;>simp[h]
 have tL:∀s b,bm (iz (gL st D)) G H s b↔s∈D/\bm st.slot G H s b:=fun s b=>by
  unfold bm;rw[tS];by_cases h:s∈D
  ·simp[h]
  ·simp[h]
 have uS:∀s,(mN D S' st).slot s=if s∈D then S' s else st.slot s:=Xf hD
 have sD:∀s b,bm S' G' H' s b->s∈D:=fun s b hl=>by
  by_cases h:s∈D
  ·exact h
  ·have:=Xg s (by rw[RE];simp[h])
   rcases hl with⟨g,cs,h1,_⟩|⟨e,k,g,es,h1,_⟩|⟨g,K,h1,_⟩<;>(rw[this] at h1;cases h1)
 have uL:∀s b,bm (mN D S' st).slot (fun s=>if s∈D then G' s else G s) (fun s=>if s∈D then H' s else H s) s b↔(s∈D/\bm S' G' H' s b)\/(s∉D/\bm st.slot G H s b):=fun s b=>by
  unfold bm;rw[uS];by_cases h:s∈D<;>simp[h]
 have hA:aV M (mN D S' st).slot (fun s=>if s∈D then G' s else G s) (fun s=>if s∈D then H' s else H s)=aV (fun b=>M b\/∃s,s∉D/\bm st.slot G H s b) S' G' H':=by
  funext b;apply propext;constructor
  ·rintro(hm|⟨s,hl⟩)
   ·exact .inl (.inl hm)
   ·rcases(uL s b).1 hl with⟨_,h2⟩|⟨h1,h2⟩
    ·exact .inr ⟨s,h2⟩
    ·exact .inl (.inr ⟨s,h1,h2⟩)
  ·rintro((hm|⟨s,h1,h2⟩)|⟨s,hl⟩)
   ·exact .inl hm
   ·exact .inr ⟨s,(uL s b).2 (.inr ⟨h1,h2⟩)⟩
   ·exact .inr ⟨s,(uL s b).2 (.inl ⟨sD s b hl,hl⟩)⟩
 have hold:∀s∈D,∀b,b<w.heap.size->bm S' G' H' s b->∃s0∈D,bm st.slot G H s0 b:=fun s _ b hlt hl=>by
  rcases uR s b hl with⟨s0,h0⟩|h0
  ·obtain⟨h1,h2⟩:=(tL s0 b).1 h0;exact⟨s0,h1,h2⟩
  ·omega
 have NH:∀b,b<w.heap.size->(∀s∈D,¬bm st.slot G H s b)->w'.heap[b]? =w.heap[b]? :=fun b hlt hn=>dx.block b ⟨hlt,fun s hl=>by obtain⟨h1,h2⟩:=(tL s b).1 hl;exact hn s h1 h2⟩
 have m:Mv w w' (aV M st.slot G H) (aV M (mN D S' st).slot (fun s=>if s∈D then G' s else G s) (fun s=>if s∈D then H' s else H s)) st.slot (mN D S' st).slot G (fun s=>if s∈D then G' s else G s) H (fun s=>if s∈D then H' s else H s):=by
  refine⟨dx.size,fun b hlt hb=> ?_,fun b hlt hb=>NH b hlt (fun s _ hl=>hb (.inr ⟨s,hl⟩)),fun s=> ?_,fun s e k g es h1 h2=> ?_,fun s g cs h1 h2=> ?_,fun s g K h1 h2=> ?_⟩
  ·rcases hb with hm|⟨s,hl⟩
   ·exact .inl hm
   ·rcases(uL s b).1 hl with⟨h1,h2⟩|⟨_,h2⟩
    ·obtain⟨s0,_,h3⟩:=hold s h1 b hlt h2;exact .inr ⟨s0,h3⟩
    ·exact .inr ⟨s,h2⟩
  ·rw[uS];by_cases h:s∈D
   ·have:=hh.gen s;dsimp only at this;rw[tS,aq h] at this;rw[aq h];exact this
   ·rw[af h];exact cK _
  ·rw[uS] at h1;by_cases h:s∈D
   ·rw[aq h] at h1;have:=hh.row s e k g es h1;dsimp only at this;rw[tS,aq h] at this;rw[aq h];exact this h2
   ·rw[af h] at h1;rw[af h];exact⟨⟨es,h1⟩,rfl⟩
  ·rw[uS] at h1;by_cases h:s∈D
   ·rw[aq h] at h1;have:=hh.box s g cs h1;dsimp only at this;rw[tS,aq h] at this;rw[aq h];exact this h2
   ·rw[af h] at h1;rw[af h];exact⟨⟨cs,h1⟩,rfl⟩
  ·rw[uS] at h1;by_cases h:s∈D
   ·rw[aq h] at h1;have:=hh.obj s g K h1;dsimp only at this;rw[tS,aq h] at this;rw[aq h,aq h];exact this h2
   ·rw[af h] at h1;rw[af h,af h];exact⟨⟨K,h1⟩,rfl,rfl⟩
 have sm:GH D S' (mN D S' st).slot G' (fun s=>if s∈D then G' s else G s) H' (fun s=>if s∈D then H' s else H s):=⟨fun s hs=>by rw[uS,aq hs],fun s hs=>by simp[hs],fun s hs=>by simp[hs]⟩
 have hF:∀s b,bm S' G' H' s b->¬F b:=fun s b hl hf=>by
  rcases uR s b hl with⟨s0,h0⟩|h0
  ·exact(hR.qC ((tL s0 b).1 h0).2).2.1 hf
  ·have:=hR.lo.1 b (.inl hf);have:=hR.fr.size;omega
 refine⟨⟨hR.sz,hR.df,⟨dx.os.trans hR.fr.os,dx.tape.trans hR.fr.tape,dx.out.trans hR.fr.out,bj hR.fr.size dx.size,fun b hf=> ?_⟩,⟨fun i=>bj (hR.hs.gen i) (m.gen i),fun i e k g es h1 h2=> ?_,fun i g cs h1 h2=> ?_,fun i g K h1 h2=> ?_⟩,hR.lo,fun i y hy=>VR.mv m (hR.tm i y hy),fun s g cs hs=> ?_,fun s e k g es hs=> ?_,fun s g K hs=> ?_,fun s s' b h1 h2=> ?_⟩,hA,fun s hs b hlt hl=> ?_⟩
 ·rw[NH b (jj (hR.lo.1 b (.inl hf)) hR.fr.size) (fun s _ hl=>(hR.qC hl).2.1 hf)];exact hR.fr.block b hf
 ·obtain⟨⟨Nv,e5⟩,e6⟩:=m.row i e k g es h1 (bj h2 (hR.hs.gen i));rw[e6];exact hR.hs.row i e k g Nv e5 h2
 ·obtain⟨⟨c0,e5⟩,e6⟩:=m.box i g cs h1 (bj h2 (hR.hs.gen i));rw[e6];exact hR.hs.box i g c0 e5 h2
 ·obtain⟨⟨c0,e5⟩,e6,e7⟩:=m.obj i g K h1 (bj h2 (hR.hs.gen i));rw[e6,e7];exact hR.hs.obj i g c0 e5 h2
 ·rw[uS] at hs;by_cases h:s∈D
  ·rw[aq h] at hs;obtain⟨f1,arr,f2,f3⟩:=cq.bx s g cs hs;have hc:=oM s h;rw[hs] at hc;rw[aq h,hA];exact⟨hF s _ (.inl ⟨g,cs,hs,rfl⟩),fun hm=>f1 (.inl hm),arr,f2,f3.same sm hc⟩
  ·rw[af h] at hs;obtain⟨f1,f2,arr,f3,f4⟩:=hR.bx s g cs hs;rw[af h];refine⟨f1,f2,arr,?_,cE.mv m f4⟩;obtain⟨t,ht⟩:=f3;exact⟨t,by rw[NH _ (az.lt ⟨t,ht⟩) (fun s0 h0 hl=>h (by rw[hR.dj s s0 _ (.inl ⟨g,cs,hs,rfl⟩) hl];exact h0))];exact ht⟩
 ·rw[uS] at hs;by_cases h:s∈D
  ·rw[aq h] at hs;obtain⟨f1,xs,f2,f3⟩:=cq.rw s e k g es hs;rw[aq h,hA];exact⟨fun b hb=>⟨hF s b (.inr (.inl ⟨e,k,g,es,hs,hb⟩)),fun hm=>f1 b hb (.inl hm)⟩,xs,f2,f3⟩
  ·rw[af h] at hs;obtain⟨f1,xs,f2,f3⟩:=hR.rw s e k g es hs;rw[af h];refine⟨f1,xs,?_,f3.map fun x u hx=>IR.mv m hx⟩;obtain⟨q1,q2⟩:=f2;refine⟨q1,?_⟩
   rcases q2 with q2|⟨gg,cap,cur,q3,q4,q5,q6⟩
   ·exact .inl q2
   ·have hl:bm st.slot G H s gg:=.inr (.inl ⟨e,k,g,es,hs,by rw[q3];rfl⟩);exact .inr ⟨gg,cap,cur,q3,q4,by rw[NH gg (hR.qC hl).1 (fun s0 h0 ij=>h (by rw[hR.dj s s0 _ hl ij];exact h0))];exact q5,q6⟩
 ·rw[uS] at hs;by_cases h:s∈D
  ·rw[aq h] at hs;obtain⟨f1,f2⟩:=cq.ob s g K hs;rw[aq h,aq h,hA];exact⟨fun b hb=>⟨hF s b (.inr (.inr ⟨g,K,hs,hb⟩)),fun hm=>f1 b hb (.inl hm)⟩,f2⟩
  ·rw[af h] at hs;obtain⟨f1,f2⟩:=hR.ob s g K hs;rw[af h,af h];refine⟨f1,K.mono f2 m.size m.off (fun b hlt hb=> ?_)⟩
   rcases hb with hb|hb
   ·exact NH b hlt (fun s0 h0 ij=>h (by rw[hR.dj s s0 b (.inr (.inr ⟨g,K,hs,hb⟩)) ij];exact h0))
   ·exact m.kept b hlt hb
 ·rcases(uL s b).1 h1 with⟨d1,l1⟩|⟨d1,l1⟩<;>rcases(uL s' b).1 h2 with⟨d2,l2⟩|⟨d2,l2⟩
  ·exact cq.dj s s' b l1 l2
  ·obtain⟨s0,h0,l0⟩:=hold s d1 b (hR.qC l2).1 l1;exact absurd (by rw[hR.dj s' s0 b l2 l0];exact h0) d2
  ·obtain⟨s0,h0,l0⟩:=hold s' d2 b (hR.qC l1).1 l2;exact absurd (by rw[hR.dj s s0 b l1 l0];exact h0) d1
  ·exact hR.dj s s' b l1 l2
 ·rcases(uL s b).1 hl with⟨_,l1⟩|⟨d1,_⟩
  ·exact hold s hs b hlt l1
  ·exact absurd hs d1
theorem aqc {U:Option (List Nat)}{o:Oper}{f:FuncId}{fn:Func}{xs:Array Operand}{ys:List aP}{ts:Array TypeId}{D:List Nat}(ho:o.op=.call { callee:=.value (.func f),args:=xs,argTypes:=ts })(hf:P.funcs[f]? =some fn)(hn:(fn.name== "runtime.NumGoroutine")=false)(hb:fn.body.isNone=false)(hx:KB xs.toList ys):
  oK P U o (aex P U f ys D):=by
 intro N F M w0 w st G H a X hR hs K Q hK;obtain⟨ws,R,e1,e2,hD,hU,hC,hX⟩:=hs;obtain⟨f1,f2⟩:=hR.mM hx e1
 have tS:∀s,iz (gL st D) s=if s∈D then st.slot s else .dead 0:=fun s=>by
  unfold iz;rw[RE];by_cases h:s∈D<;>simp[h]
 have tL:∀s b,bm (iz (gL st D)) G H s b↔s∈D/\bm st.slot G H s b:=fun s b=>by
  unfold bm;rw[tS];by_cases h:s∈D
  ·simp[h]
  ·simp[h]
 have sm:GH D st.slot (iz (gL st D)) G G H H:=⟨fun s hs=>by rw[tS,aq hs],fun _ _=>rfl,fun _ _=>rfl⟩
 have hA:aV (fun b=>M b\/∃s,s∉D/\bm st.slot G H s b) (iz (gL st D)) G H=aV M st.slot G H:=by
  funext b;apply propext;constructor
  ·rintro((hm|⟨s,_,h2⟩)|⟨s,hl⟩)
   ·exact .inl hm
   ·exact .inr ⟨s,h2⟩
   ·exact .inr ⟨s,((tL s b).1 hl).2⟩
  ·rintro(hm|⟨s,hl⟩)
   ·exact .inl (.inl hm)
   ·by_cases h:s∈D
    ·exact .inr ⟨s,(tL s b).2 ⟨h,hl⟩⟩
    ·exact .inl (.inr ⟨s,h,hl⟩)
 have hM:∀b,(M b\/∃s,s∉D/\bm st.slot G H s b)->b<w.heap.size:=fun b hb=>by
  rcases hb with hm|⟨s,_,hl⟩
  ·exact jj (hR.lo.1 b (.inr hm)) hR.fr.size
  ·exact(hR.qC hl).1
 have cq:NG (fun b=>M b\/∃s,s∉D/\bm st.slot G H s b) (iz (gL st D)) G H w:=by
  refine⟨fun s g cs hs=> ?_,fun s e k g es hs=> ?_,fun s g K hs=> ?_,fun s s' b h1 h2=>hR.dj s s' b ((tL s b).1 h1).2 ((tL s' b).1 h2).2⟩
  ·have eo:=hs;rw[tS] at eo;split at eo
   ·rename_i h;obtain⟨_,g2,arr,g3,g4⟩:=hR.bx s g cs eo;have hc:=(hD s h).2;rw[eo] at hc;rw[hA];exact⟨fun hm=>hm.elim g2 (fun⟨s0,h0,hl⟩=>h0 (by rw[hR.dj s0 s _ hl (.inl ⟨g,cs,eo,rfl⟩)];exact h)),arr,g3,g4.same sm hc⟩
   ·cases eo
  ·have eo:=hs;rw[tS] at eo;split at eo
   ·rename_i h;obtain⟨g1,xs,g3,g4⟩:=hR.rw s e k g es eo;rw[hA];exact⟨fun b hb hm=>hm.elim (g1 b hb).2 (fun⟨s0,h0,hl⟩=>h0 (by rw[hR.dj s0 s _ hl (.inr (.inl ⟨e,k,g,es,eo,hb⟩))];exact h)),xs,g3,g4⟩
   ·cases eo
  ·have eo:=hs;rw[tS] at eo;split at eo
   ·rename_i h;obtain⟨g1,g2⟩:=hR.ob s g K eo;rw[hA];exact⟨fun b hb hm=>hm.elim (g1 b hb).2 (fun⟨s0,h0,hl⟩=>h0 (by rw[hR.dj s0 s _ hl (.inr (.inr ⟨g,K,eo,hb⟩))];exact h)),g2⟩
   ·cases eo
 have Xe:=hC (fun b=>M b\/∃s,s∉D/\bm st.slot G H s b) w G H (xs.toList.map a.eval) cq ⟨hM,hR.glo fun b hf hb=>⟨hb,fun s hl=>(hR.qC ((tL s b).1 hl).2).2.1 hf⟩⟩ (by simpa using f1) (fun i x v h1 h2=>by
  rw[hA]
  exact(f2 i x v h1 h2).same sm (fq.1 e2 x (eE h1)))
 unfold Oper.wp execOp;simp only[ho,resolve,Act.eval,Deferred.ofValue,invoke,callFunc,hf,hn,hb,oZ,tw,rP,program,Sem.run]
 have qJ:(#[]++xs.map a.eval++#[]:Array Value)=(xs.toList.map a.eval).toArray:=by
  apply Array.ext';simp
 simp only[zJ,pd,Sem.run]
 show Oper.upon P o a K Q (.ok (.enter f (#[]++xs.map a.eval++#[])) w)
 rw[qJ,Oper.upon_enter]
 refine Xe.mono fun e w' he=> ?_
 obtain⟨v,r,S',G',H',rfl,hr,hv,aqd,hh,dx,uR,Xg⟩:=he;obtain⟨⟨uX,hcs⟩,Xh⟩:=hX r S' hr;obtain⟨bM,RF,hL'⟩:=hR.bp (fun s hs=>(hD s hs).1) aqd hh dx uR Xg hcs
 have sm':GH D S' (mN D S' st).slot G' (fun s=>if s∈D then G' s else G s) H' (fun s=>if s∈D then H' s else H s):=⟨fun s hs=>by rw[Xf (fun s hs=>(hD s hs).1),aq hs],fun s hs=>by simp[hs],fun s hs=>by simp[hs]⟩
 refine hK r _ _ _ v w' Xh bM ⟨dx.size,fun l hl=> ?_⟩ (by rw[RF];exact hv.same sm' uX);subst hl;refine⟨fun b hlt hn=>dx.block b ⟨hlt,fun s hl=> ?_⟩,fun s hs b hlt hl=> ?_⟩
 ·obtain⟨h1,h2⟩:=(tL s b).1 hl;exact hn s (hU s h1) h2
 ·by_cases h:s∈D
  ·obtain⟨s0,h0,l0⟩:=hL' s h b hlt hl;exact⟨s0,hU s0 h0,l0⟩
  ·refine⟨s,hs,?_⟩;unfold bm at hl⊢;rw[Xf (fun s hs=>(hD s hs).1),af h] at hl;simpa [h] using hl
end
structure AO where
 dst:Option Nat
 guard:Option (Nat×Bool)
 xa:Option (List Nat)->GF
 ev:Option (Bool×(St->List Nat->Option AV))
def St.ma (st:St)(ao:AO)(x:AV):St:=match ao.dst with
 |some d=>st.put d x
 |none=>st
def lH (x:Option AV)(want:Bool):Option Bool:=match x with
 |some (.w (.c (.v (.bool b))))=>some (b==want)
 |some (.bD [])=>some false
 |_=>none
def sx (U:Option (List Nat))(ao:AO)(K:St->Prop)(st:St):Prop:=match ao.guard with
 |none=>ao.xa U st fun x st'=>K (st'.ma ao x)
 |some (t,want)=>match lH (st.arg (.t t)) want with
  |some true=>ao.xa U st fun x st'=>K (st'.ma ao x)
  |some false=>K (st.ma ao (.bD []))
  |none=>False
def bt (U:Option (List Nat)):List AO->(St->Prop)->St->Prop
 |[],K,st=>K st
 |ao::r,K,st=>sx U ao (bt U r K) st
structure KC (P:Program)(N:Nat)(ops:Array Oper)(o:Oper)(ao:AO):Prop where
 xa:∀U,oK P U o (ao.xa U)
 dst:o.dst=ao.dst
 lt:∀d,ao.dst=some d->d<N
 guard:match o.guard,ao.guard with
  |none,none=>True
  |some (j,want),some (t,RG)=>want=RG/\(ops[j]?).bind (·.dst)=some t
  |_,_=>False
 ev:∀m e,ao.ev=some (m,e)->jM P m o e
section
variable {P:Program} {N:Nat} {F M:Nat->Prop} {w0:kT} {w:World} {st:St} {G:Nat->Gh} {H:Nat->Value} {a:Act}
variable {K:Act->World->Prop} {Q:Exit->Act->World->Prop} {du:List AO} {id:Nat} {o:Oper} {ops:Array Oper} {os:List Oper}
theorem Rel.ma(h:Rel N F M w0 st G H a w){ao:AO}(hk:KC P N ops o ao){x:AV}{v:Value}(hv:VR w (aV M st.slot G H) st.slot G H x v):Rel N F M w0 (st.ma ao x) G H (a.put o.dst v) w:=by
 rw[hk.dst];unfold St.ma
 cases hd:ao.dst with
 |none=>exact h
 |some d=>exact h.put (hk.lt d hd) hv
theorem KD(st:St)(ao:AO)(x:AV):(st.ma ao x).slot=st.slot:=by
 unfold St.ma;split
 ·have hS:∀d,(st.put d x).S=st.S:=fun d=>by unfold St.put;split<;>rfl
  funext i;unfold St.slot;rw[hS]
 ·rfl
theorem aey{ao:AO}(hk:KC P N ops o ao)(hR:Rel N F M w0 st G H a w):
  (ao.guard=none->Region.wanted o (yielded ops a.tmps)=true)/\∀t want b,ao.guard=some (t,want)->lH (st.arg (.t t)) want=some b->Region.wanted o (yielded ops a.tmps)=b:=by
 have hg:=hk.guard;unfold Region.wanted;refine⟨fun h0=> ?_,fun t want b h0 hb=> ?_⟩
 ·rw[h0] at hg
  cases RH:o.guard with
  |none=>rfl
  |some p=>rw[RH] at hg;exact hg.elim
 ·rw[h0] at hg
  cases RH:o.guard with
  |none=>rw[RH] at hg;exact hg.elim
  |some p=>
   obtain⟨j,RG⟩:=p;rw[RH] at hg;obtain⟨rfl,hj⟩:=hg
   show(yielded ops a.tmps j==some RG)=b
   unfold lH at hb;split at hb
   ·rename_i c hc
    have Ny:st.sc (.t t)=some (.bool c):=by unfold St.sc;rw[hc];rfl
    obtain⟨e1,_⟩:=hR.sc (x:=.tmp t) (y:=.t t) rfl Ny
    have ht:a.tmps[t]? =some (.bool c):=by
     simp only[Act.eval,MT] at e1
     cases h:a.tmps[t]? with
     |none=>rw[h] at e1;simp[undef] at e1
     |some u=>rw[h] at e1;simp at e1;rw[e1]
    have hy:yielded ops a.tmps j=some c:=by
     unfold yielded;rw[hj];simp[ht]
    rw[hy];simp only[aA] at hb;subst hb;cases c<;>cases RG<;>rfl
   ·rename_i hc;simp only[aA] at hb;subst hb;obtain⟨arr,e1,e2,_⟩:=hR.arg (x:=.tmp t) (y:=.t t) rfl hc;have qJ:arr=[]:=yh e2;subst qJ
    have hy:yielded ops a.tmps j=none:=by
     unfold yielded;rw[hj];simp only[Act.eval,MT] at e1
     cases h:a.tmps[t]? with
     |none=>simp[h]
     |some u=>rw[h] at e1;simp at e1;simp[h,e1]
    rw[hy];rfl
   ·cases hb
theorem GI{U:Option (List Nat)}{ao:AO}(hk:KC P N ops o ao)(hR:Rel N F M w0 st G H a w){X:St->Prop}(hs:sx U ao X st)
  (hK:∀st' G' H' a' w',X st'->Rel N F M w0 st' G' H' a' w'->DZ U st.slot G H w st'.slot G' H' w'->K a' w'):if Region.wanted o (yielded ops a.tmps)=true then Oper.wp P o a w K Q else K (a.put o.dst undef) w:=by
 obtain⟨py,jo⟩:=aey hk hR
 have go:ao.xa U st (fun x st'=>X (st'.ma ao x))->Oper.wp P o a w K Q:=fun aqe=>
  hk.xa U N F M w0 w st G H a _ hR aqe K Q fun x st' G' H' v w' hX bM hst hv=>hK _ G' H' _ w' hX (bM.ma hk hv) (by rw[KD];exact hst)
 have stay:X (st.ma ao (.bD []))->K (a.put o.dst undef) w:=fun hX=>hK _ G H _ w hX (hR.ma hk (x:=.bD []) ⟨[],rfl,rfl,fun j x u h=>by simp at h⟩) (by rw[KD];exact Nx ax fun _ _=>rfl)
 unfold sx at hs;split at hs
 ·rename_i hg;rw[aq (py hg)];exact go hs
 ·rename_i t want hg;split at hs
  ·rename_i hb;rw[jo t want _ hg hb,aq rfl];exact go hs
  ·rename_i hb;rw[jo t want _ hg hb,af ai];exact stay hs
  ·exact hs.elim
inductive sy (P:Program)(N:Nat)(ops:Array Oper):List Oper->List AO->Prop where
 |nil:sy P N ops [] []
 |cons {o:Oper} {ao:AO} {os:List Oper} {du:List AO} (h:KC P N ops o ao) (r:sy P N ops os du):sy P N ops (o::os) (ao::du)
theorem aez(hk:sy P N ops os du):∀{st:St} {G:Nat->Gh} {H:Nat->Value} {a:Act} {w:World} {K:St->Prop},Rel N F M w0 st G H a w->bt none du K st->
  (∀st' G' H' a' w',K st'->Rel N F M w0 st' G' H' a' w'->Q .normal a' w')->wpList P ops Q os a w:=by
 induction hk with
 |nil=>intro st G H a w K hR hs hQ;exact hQ st G H a w hs hR
 |cons h r ih=>
  intro st G H a w K hR hs hQ;have:=GI (Q:=Q) h hR hs (K:=wpList P ops Q _) (fun st' G' H' a' w' hX bM _=>ih bM hX hQ);unfold wpList;split
  ·rename_i hw;rw[aq hw] at this;exact .inl this
  ·rename_i hw;rw[af hw] at this;exact this
theorem aqf(hk:sy P N ops ops.toList du){K:St->Prop}(hR:Rel N F M w0 st G H a w)(hs:bt none du K st)
  (hQ:∀st' G' H' a' w',K st'->Rel N F M w0 st' G' H' a' w'->Q .normal a' w'):(Code.region id ops false).wp P Q a w:=wp_region_list (aez hk hR hs hQ)
def aX (U:List Nat)(du tl:List AO)(K:St->Prop):OT->Bool->St->Prop
 | .nil,_,st=>bt none tl K st
 | .take i t,bp,st=>match du[i]? with
  |none=>False
  |some ao=>match ao.ev with
   |none=>False
   |some (mem,ev)=>(mem=true->bp=false)/\match ao.guard with
    |none=>∃x,ev st U=some x/\aX U du tl K t bp (st.ma ao x)
    |some (g,want)=>match lH (st.arg (.t g)) want with
     |some true=>∃x,ev st U=some x/\aX U du tl K t bp (st.ma ao x)
     |some false=>aX U du tl K t bp (st.ma ao (.bD []))
     |none=>False
 | .move i t,_,st=>match du[i]? with
  |none=>False
  |some ao=>sx (some U) ao (aX U du tl K t true) st
 | .fork i j ti tj,_,st=>(match du[i]? with
  |none=>False
  |some ao=>sx (some U) ao (aX U du tl K ti true) st)/\match du[j]? with
  |none=>False
  |some ao=>sx (some U) ao (aX U du tl K tj true) st
 | .wQ i j k ti tj tk,_,st=>(match du[i]? with
  |none=>False
  |some ao=>sx (some U) ao (aX U du tl K ti true) st)/\(match du[j]? with
  |none=>False
  |some ao=>sx (some U) ao (aX U du tl K tj true) st)/\match du[k]? with
  |none=>False
  |some ao=>sx (some U) ao (aX U du tl K tk true) st
theorem sy.get(hk:sy P N ops os du):∀{i:Nat} {ao:AO},du[i]? =some ao->∃o,os[i]? =some o/\KC P N ops o ao:=by
 induction hk with
 |nil=>intro i ao h;simp at h
 |cons h r ih=>
  intro i ao hi
  cases i with
  |zero=>simp at hi;subst hi;exact⟨_,rfl,h⟩
  |succ i=>exact ih (by simpa using hi)
theorem sy.drop(hk:sy P N ops os du):∀n,sy P N ops (os.drop n) (du.drop n):=by
 induction hk with
 |nil=>intro n;simp;exact .nil
 |cons h r ih=>
  intro n
  cases n with
  |zero=>exact .cons h r
  |succ n=>exact ih n
theorem KE{U:List Nat}{S0 S S':Nat->Slot}{G0 G':Nat->Gh}{H0 H':Nat->Value}{wr w':World}(hz:wr.heap.size<=w.heap.size)(hA:cZ U S0 G0 H0 wr w)(hL:∀s∈U,∀b,b<wr.heap.size->bm S G H s b->∃s0∈U,bm S0 G0 H0 s0 b)
  (hst:DZ (some U) S G H w S' G' H' w'):wr.heap.size<=w'.heap.size/\cZ U S0 G0 H0 wr w'/\∀s∈U,∀b,b<wr.heap.size->bm S' G' H' s b->∃s0∈U,bm S0 G0 H0 s0 b:=by
 obtain⟨h1,h2⟩:=hst.2 U rfl
 refine⟨bj hz hst.1,fun b hlt hn=> ?_,fun s hs b hlt hl=>by
  obtain⟨s1,ey,cF⟩:=h2 s hs b (jj hlt hz) hl
  exact hL s1 ey b hlt cF⟩
 rw[h1 b (jj hlt hz) (fun s hs hl=>by
  obtain⟨s1,ey,cF⟩:=hL s hs b hlt hl
  exact hn s1 ey cF)]
 exact hA b hlt hn
theorem KF{S:World->Prop}(h:if Region.wanted o (yielded ops a.tmps)=true then Oper.wp P o a w (fun a' w'=>S w'/\K a' w') Q else S w/\K (a.put o.dst undef) w):
  if Region.wanted o (yielded ops a.tmps)=true then Oper.wp P o a w (fun a' w'=>S w'/\K a' w') Q else S w/\K (a.put o.dst undef) w:=h
theorem Cb {l:List Oper}{Q:Exit->Act->World->Prop}{du:List AO}{n:Nat}(hk:sy P N l.toArray l du){U:List Nat}{K:St->Prop}{S0:Nat->Slot}{G0:Nat->Gh}{H0:Nat->Value}{wr:World}
  (hQ:∀st' G' H' a' w',K st'->Rel N F M w0 st' G' H' a' w'->Q .normal a' w'):∀(t:OT) (bp:Bool) {st:St} {G:Nat->Gh} {H:Nat->Value} {a:Act} {w:World},Rel N F M w0 st G H a w->aX U du (du.drop n) K t bp st->
   wr.heap.size<=w.heap.size->cZ U S0 G0 H0 wr w->(∀s∈U,∀b,b<wr.heap.size->bm st.slot G H s b->∃s0∈U,bm S0 G0 H0 s0 b)->(bp=false->w=wr/\st.slot=S0/\G=G0/\H=H0)->
   jH P l.toArray Q (fun w'=>wr.heap.size<=w'.heap.size/\cZ U S0 G0 H0 wr w') (wpList P l.toArray Q (l.drop n)) l t a w
 | .nil,bp,st,G,H,a,w,hR,hs,hz,hA,hL,h0=>aez (hk.drop n) hR hs hQ
 | .take i t,bp,st,G,H,a,w,hR,hs,hz,hA,hL,h0=>by
  unfold aX at hs;split at hs
  ·exact hs.elim
  rename_i ao uY;split at hs
  ·exact hs.elim
  rename_i mem ev bT;obtain⟨Af,hs⟩:=hs;obtain⟨o,ho,bU⟩:=hk.get uY;obtain⟨py,jo⟩:=aey bU hR;have Ag:=bU.ev mem ev bT
  have yes:Region.wanted o (yielded l.toArray a.tmps)=true->(∃x,ev st U=some x/\aX U du (du.drop n) K t bp (st.ma ao x))->
    jH P l.toArray Q (fun w'=>wr.heap.size<=w'.heap.size/\cZ U S0 G0 H0 wr w') (wpList P l.toArray Q (l.drop n)) l (.take i t) a w:=by
   rintro hw ⟨x,hx,hs⟩;obtain⟨v,hv,hrun⟩:=Ag N F M w0 w st G H a U x hR hx;refine⟨o,v,ho,.inl ⟨hw,fun w' hw'=>hrun w' fun hm=> ?_⟩,Cb hk hQ t bp (hR.ma bU hv) hs hz hA (by rw[KD];exact hL) (fun hm=>by rw[KD];exact h0 hm)⟩;obtain⟨rfl,e1,rfl,rfl⟩:=h0 (Af hm);rw[e1];exact hw'.2
  have no:Region.wanted o (yielded l.toArray a.tmps)=false->aX U du (du.drop n) K t bp (st.ma ao (.bD []))->
    jH P l.toArray Q (fun w'=>wr.heap.size<=w'.heap.size/\cZ U S0 G0 H0 wr w') (wpList P l.toArray Q (l.drop n)) l (.take i t) a w:=by
   intro hw hs;exact⟨o,undef,ho,.inr ⟨hw,rfl⟩,Cb hk hQ t bp (hR.ma bU (x:=.bD []) ⟨[],rfl,rfl,fun j x u h=>by simp at h⟩) hs hz hA (by rw[KD];exact hL) (fun hm=>by rw[KD];exact h0 hm)⟩
  split at hs
  ·rename_i hg;exact yes (py hg) hs
  ·rename_i g want hg;split at hs
   ·rename_i hb;exact yes (jo g want _ hg hb) hs
   ·rename_i hb;exact no (jo g want _ hg hb) hs
   ·exact hs.elim
 | .move i t,bp,st,G,H,a,w,hR,hs,hz,hA,hL,h0=>by
  unfold aX at hs;split at hs
  ·exact hs.elim
  rename_i ao uY;obtain⟨o,ho,bU⟩:=hk.get uY
  exact⟨o,ho,GI (Q:=Q) bU hR hs (K:=fun a' w'=>(wr.heap.size<=w'.heap.size/\cZ U S0 G0 H0 wr w')/\jH P l.toArray Q (fun w'=>wr.heap.size<=w'.heap.size/\cZ U S0 G0 H0 wr w') (wpList P l.toArray Q (l.drop n)) l t a' w') (fun st' G' H' a' w' hX bM hst=>by
   obtain⟨g1,g2,g3⟩:=KE hz hA hL hst
   exact⟨⟨g1,g2⟩,Cb hk hQ t true bM hX g1 g2 g3 (fun h=>by cases h)⟩)|>KF⟩
 | .fork i j ti tj,bp,st,G,H,a,w,hR,hs,hz,hA,hL,h0=>by
  unfold aX at hs;obtain⟨h1,h2⟩:=hs;refine⟨?_,?_⟩
  ·split at h1
   ·exact h1.elim
   rename_i ao uY;obtain⟨o,ho,bU⟩:=hk.get uY
   exact⟨o,ho,GI (Q:=Q) bU hR h1 (K:=fun a' w'=>(wr.heap.size<=w'.heap.size/\cZ U S0 G0 H0 wr w')/\jH P l.toArray Q (fun w'=>wr.heap.size<=w'.heap.size/\cZ U S0 G0 H0 wr w') (wpList P l.toArray Q (l.drop n)) l ti a' w') (fun st' G' H' a' w' hX bM hst=>by
    obtain⟨g1,g2,g3⟩:=KE hz hA hL hst
    exact⟨⟨g1,g2⟩,Cb hk hQ ti true bM hX g1 g2 g3 (fun h=>by cases h)⟩)|>KF⟩
  ·split at h2
   ·exact h2.elim
   rename_i ao uY;obtain⟨o,ho,bU⟩:=hk.get uY
   exact⟨o,ho,GI (Q:=Q) bU hR h2 (K:=fun a' w'=>(wr.heap.size<=w'.heap.size/\cZ U S0 G0 H0 wr w')/\jH P l.toArray Q (fun w'=>wr.heap.size<=w'.heap.size/\cZ U S0 G0 H0 wr w') (wpList P l.toArray Q (l.drop n)) l tj a' w') (fun st' G' H' a' w' hX bM hst=>by
    obtain⟨g1,g2,g3⟩:=KE hz hA hL hst
    exact⟨⟨g1,g2⟩,Cb hk hQ tj true bM hX g1 g2 g3 (fun h=>by cases h)⟩)|>KF⟩
 | .wQ i j k ti tj tk,bp,st,G,H,a,w,hR,hs,hz,hA,hL,h0=>by
  unfold aX at hs;obtain⟨h1,h2,h3⟩:=hs;refine⟨?_,?_,?_⟩
  ·split at h1
   ·exact h1.elim
   rename_i ao uY;obtain⟨o,ho,bU⟩:=hk.get uY
   exact⟨o,ho,GI (Q:=Q) bU hR h1 (K:=fun a' w'=>(wr.heap.size<=w'.heap.size/\cZ U S0 G0 H0 wr w')/\jH P l.toArray Q (fun w'=>wr.heap.size<=w'.heap.size/\cZ U S0 G0 H0 wr w') (wpList P l.toArray Q (l.drop n)) l ti a' w') (fun st' G' H' a' w' hX bM hst=>by
    obtain⟨g1,g2,g3⟩:=KE hz hA hL hst
    exact⟨⟨g1,g2⟩,Cb hk hQ ti true bM hX g1 g2 g3 (fun h=>by cases h)⟩)|>KF⟩
  ·split at h2
   ·exact h2.elim
   rename_i ao uY;obtain⟨o,ho,bU⟩:=hk.get uY
   exact⟨o,ho,GI (Q:=Q) bU hR h2 (K:=fun a' w'=>(wr.heap.size<=w'.heap.size/\cZ U S0 G0 H0 wr w')/\jH P l.toArray Q (fun w'=>wr.heap.size<=w'.heap.size/\cZ U S0 G0 H0 wr w') (wpList P l.toArray Q (l.drop n)) l tj a' w') (fun st' G' H' a' w' hX bM hst=>by
    obtain⟨g1,g2,g3⟩:=KE hz hA hL hst
    exact⟨⟨g1,g2⟩,Cb hk hQ tj true bM hX g1 g2 g3 (fun h=>by cases h)⟩)|>KF⟩
  ·split at h3
   ·exact h3.elim
   rename_i ao uY;obtain⟨o,ho,bU⟩:=hk.get uY
   exact⟨o,ho,GI (Q:=Q) bU hR h3 (K:=fun a' w'=>(wr.heap.size<=w'.heap.size/\cZ U S0 G0 H0 wr w')/\jH P l.toArray Q (fun w'=>wr.heap.size<=w'.heap.size/\cZ U S0 G0 H0 wr w') (wpList P l.toArray Q (l.drop n)) l tk a' w') (fun st' G' H' a' w' hX bM hst=>by
    obtain⟨g1,g2,g3⟩:=KE hz hA hL hst
    exact⟨⟨g1,g2⟩,Cb hk hQ tk true bM hX g1 g2 g3 (fun h=>by cases h)⟩)|>KF⟩
theorem aqg{l:List Oper}(n:Nat)(t:OT)(U:List Nat)(hk:sy P N l.toArray l du)(hm:P.follows .mixedOrders=true)(hB:(Region.noSelect l.toArray && rU .any l.toArray n && pf .any l.toArray n t n (Array.replicate l.toArray.size false))=true)
  {K:St->Prop} (hR:Rel N F M w0 st G H a w) (hs:aX U du (du.drop n) K t false st) (hQ:∀st' G' H' a' w',K st'->Rel N F M w0 st' G' H' a' w'->Q .normal a' w'):(Code.region id l.toArray true).wp P Q a w:=by
 have bM:Rel N F M w0 st G H a w.drew:=hR.grow rfl rfl rfl ax (fun _ _=>rfl);refine Rk n t (fun w'=>w.drew.heap.size<=w'.heap.size/\cZ U st.slot G H w.drew w') hm rfl hB ⟨cK _,fun _ _ _=>rfl⟩ ?_;exact Cb (Q:=NoPanic Q) hk (fun st' G' H' a' w' hK hR=>NoPanic.normal (hQ st' G' H' a' w' hK hR)) t false bM hs ax (fun _ _ _=>rfl) (fun s hs _ _ h=>⟨s,hs,h⟩) (fun _=>⟨rfl,rfl,rfl,rfl⟩)
end
def mf (s g:Nat)(es:List (List AC)):AC->AC
 | .own s' g'=>if s'=s/\g'=g then .sl es else .own s' g'
 |x=>x
def RI (s g:Nat)(es:List (List AC)):AW->AW
 | .c x=> .c (mf s g es x)
 | .agg cs=> .agg (cs.map (mf s g es))
def yB (s g:Nat)(es:List (List AC)):AV->AV
 | .w x=> .w (RI s g es x)
 | .bD vs=> .bD (vs.map (RI s g es))
 |x=>x
def pz (s g:Nat)(es:List (List AC)):Slot->Slot
 | .box g' cs=> .box g' (cs.map (mf s g es))
 |x=>x
def mapA {α:Type}(f:Nat->α->α)(l:List (Nat×α)):List (Nat×α):=l.map fun p=>(p.1,f p.1 p.2)
theorem NI {α:Type}(f:Nat->α->α):∀(l:List (Nat×α)) (i:Nat),aI (mapA f l) i=(aI l i).map (f i)
 |[],i=>rfl
 |(j,x)::l,i=>by
  have ih:=NI f l i;unfold mapA at ih⊢;simp only[dF,aI,ih];by_cases h:j=i
  ·subst h;simp
  ·simp[h]
def St.freeze (st:St)(s:Nat):St:=match st.slot s with
 | .row _ k g es=>if 0<k then⟨mapA (fun _=>yB s g es) st.V,mapA (fun _=>yB s g es) st.L,mapA (fun i x=>if i=s then .dead g else pz s g es x) st.S⟩ else st
 |_=>st
section
variable {P:Program} {N:Nat} {F M:Nat->Prop} {w0:kT} {w:World} {st:St} {G:Nat->Gh} {H:Nat->Value} {a:Act}
theorem Rel.freeze (h:Rel N F M w0 st G H a w)(s:Nat):Rel N F M w0 (st.freeze s) G H a w:=by
 unfold St.freeze;split
 case h_2=>exact h
 rename_i e k g es hs;split
 case isFalse=>exact h
 rename_i aY
 have cq:∀i,(St.mk (mapA (fun _=>yB s g es) st.V) (mapA (fun _=>yB s g es) st.L) (mapA (fun i x=>if i=s then .dead g else pz s g es x) st.S)).slot i=if i=s then .dead g else pz s g es (st.slot i):=by
  intro i;unfold St.slot;dsimp only;rw[NI]
  cases hi:aI st.S i with
  |some x=>rfl
  |none=>
   by_cases dZ:i=s
   ·subst dZ;unfold St.slot at hs;rw[hi] at hs;cases hs
   ·simp[dZ,pz]
 generalize hst:(St.mk (mapA (fun _=>yB s g es) st.V) (mapA (fun _=>yB s g es) st.L) (mapA (fun i x=>if i=s then .dead g else pz s g es x) st.S))=st' at cq⊢
 have pw:∀i,(st'.slot i).gen=(st.slot i).gen:=fun i=>by
  rw[cq];by_cases dZ:i=s
  ·subst dZ;rw[aq rfl,hs];rfl
  ·rw[af dZ];cases st.slot i<;>rfl
 have bl:∀i e2 k2 g2 eR,st'.slot i=.row e2 k2 g2 eR↔i≠s/\st.slot i=.row e2 k2 g2 eR:=fun i e2 k2 g2 eR=>by
  rw[cq];by_cases dZ:i=s
  ·simp[dZ]
  ·rw[af dZ];cases st.slot i<;>simp[pz,dZ]
 have gK:∀i g2 px,st'.slot i=.box g2 px↔∃cs,st.slot i=.box g2 cs/\px=cs.map (mf s g es):=fun i g2 px=>by
  rw[cq];by_cases dZ:i=s
  ·subst dZ;rw[aq rfl,hs];simp
  ·rw[af dZ]
   cases hq:st.slot i with
   |dead g=>simp[pz]
   |row e k g es=>simp[pz]
   |obj g K=>simp[pz]
   |box g3 cs3=>
    simp only[pz,Slot.box.injEq];constructor
    ·rintro⟨rfl,rfl⟩;exact⟨cs3,⟨rfl,rfl⟩,rfl⟩
    ·rintro⟨cs,⟨rfl,rfl⟩,rfl⟩;exact⟨rfl,rfl⟩
 have uT:∀i g2 K2,st'.slot i=.obj g2 K2↔i≠s/\st.slot i=.obj g2 K2:=fun i g2 K2=>by
  rw[cq];by_cases dZ:i=s
  ·simp[dZ]
  ·rw[af dZ];cases st.slot i<;>simp[pz,dZ]
 have nz:∀i b,bm st'.slot G H i b->i≠s/\bm st.slot G H i b:=fun i b hl=>by
  rcases hl with⟨g2,px,h1,h2⟩|⟨e2,k2,g2,eR,h1,h2⟩|⟨g2,K2,h1,h2⟩
  ·obtain⟨cs,h3,_⟩:=(gK i g2 px).1 h1;refine⟨fun e=> ?_,.inl ⟨g2,cs,h3,h2⟩⟩;subst e;rw[hs] at h3;cases h3
  ·obtain⟨h3,h4⟩:=(bl i e2 k2 g2 eR).1 h1;exact⟨h3,.inr (.inl ⟨e2,k2,g2,eR,h4,h2⟩)⟩
  ·obtain⟨h3,h4⟩:=(uT i g2 K2).1 h1;exact⟨h3,.inr (.inr ⟨g2,K2,h4,h2⟩)⟩
 have BX:∀b,aV M st'.slot G H b->aV M st.slot G H b:=fun b hb=>by
  rcases hb with hm|⟨i,hl⟩
  ·exact .inl hm
  ·exact .inr ⟨i,(nz i b hl).2⟩
 have qK:∀{z:AC} {v:Value},IR w (aV M st.slot G H) z v->IR w (aV M st'.slot G H) z v:=fun hz=>hz.mono ax (fun b _ hb=>BX b hb) (fun _ _ _=>rfl)
 have aqh:IR w (aV M st'.slot G H) (.sl es) (H s):=by
  obtain⟨hn,xs,how,lF⟩:=h.rw s e k g es hs;have hl:=how.1
  rcases how.2 with⟨e1,e2⟩|⟨gg,cap,cur,e1,_,Rv,nW,Cc,_,_⟩
  ·have h0:es=[]:=yh e2;subst h0;rw[e1];exact IR.sl 0 [] none 0 (fun _ _=>undef) ax ai (by intro i row h;simp at h) (by intro i row j x h;simp at h) (by intro i row j h;simp at h)
  ·rw[e1];have hcell:=how.cells (g:=gg) (by rw[e1];rfl)
   have aS:(H s).ownBlock=some gg:=by rw[e1];rfl
   have Xi:¬aV M st'.slot G H gg:=fun hh=>by
    rcases hh with hm|⟨i,ij⟩
    ·exact(hn gg aS).2 hm
    ·obtain⟨d1,l1⟩:=nz i gg ij;exact d1 (h.dj i s gg l1 (.inr (.inl ⟨e,k,g,es,hs,aS⟩)))
   exact ND rfl (lF.map fun x u hx=>qK hx) hl Xi nW (by simp only[maxLen] at Cc;omega) (fun j u hj=>by
    have:=hcell j u hj
    rwa[Addr.add_mid,fu] at this)
 have hC:∀{x:AC} {u:Value},CR w (aV M st.slot G H) st.slot G H x u->CR w (aV M st'.slot G H) st'.slot G H (mf s g es x) u:=by
  intro x u hx
  cases x with
  |v x=>exact qK hx
  |sl es=>exact qK hx
  |fM f bZ=>exact qK hx
  |cP s' g'=>
   obtain⟨h1,h2,h3⟩:=hx;exact⟨h1,by rw[pw];exact h2,fun K he=>h3 K ((uT s' g' K).1 he).2⟩
  |part s' g' i'=>
   obtain⟨h1,h2,h3⟩:=hx;exact⟨h1,by rw[pw];exact h2,fun K he=>h3 K ((uT s' g' K).1 he).2⟩
  |cls f bZ=>
   obtain⟨ps,h1,h2,h3⟩:=hx;refine⟨ps,h1,h2,fun i q p e1 e2=> ?_⟩;obtain⟨h4,h5⟩:=h3 i q p e1 e2;exact⟨by rw[pw];exact h4,fun cs he=>by obtain⟨cs',g1,_⟩:=(gK q.1 q.2 cs).1 he;exact h5 cs' g1⟩
  |own s' g'=>
   obtain⟨h1,h2,h3⟩:=hx;unfold mf;dsimp only;split
   ·rename_i hh;obtain⟨rfl,rfl⟩:=hh;rw[h3 e k es hs];exact aqh
   ·exact⟨h1,by rw[pw];exact h2,fun e2 k2 eR he=>h3 e2 k2 eR ((bl s' e2 k2 g' eR).1 he).2⟩
 have hCs:∀{cs:List AC} {us:List Value},cE w (aV M st.slot G H) st.slot G H cs us->cE w (aV M st'.slot G H) st'.slot G H (cs.map (mf s g es)) us:=fun hc=>
  ⟨by rw[dE];exact hc.1,fun j x u e1 e2=>by
   rw[fh,bO] at e1;obtain⟨y,hy,rfl⟩:=e1
   exact hC (hc.2 j y u hy e2)⟩
 have hW:∀{x:AW} {v:Value},WR w (aV M st.slot G H) st.slot G H x v->WR w (aV M st'.slot G H) st'.slot G H (RI s g es x) v:=by
  intro x v hx
  cases x with
  |c x=>exact hC hx
  |agg cs=>
   obtain⟨arr,e,hc⟩:=hx;exact⟨arr,e,hCs hc⟩
 have hV:∀{x:AV} {v:Value},VR w (aV M st.slot G H) st.slot G H x v->VR w (aV M st'.slot G H) st'.slot G H (yB s g es x) v:=by
  intro x v hx
  cases x with
  |w x=>exact hW hx
  |bD vs=>
   obtain⟨arr,e,hl,hc⟩:=hx
   exact⟨arr,e,by rw[dE];exact hl,fun j x u e1 e2=>by
    rw[fh,bO] at e1;obtain⟨y,hy,rfl⟩:=e1
    exact hW (hc j y u hy e2)⟩
  |pb s' g' off=>exact⟨by rw[pw];exact hx.1,fun cs he=>by obtain⟨cs',h1,_⟩:=(gK s' g' cs).1 he;exact hx.2 cs' h1⟩
  |pr s' g' i off=>exact⟨by rw[pw];exact hx.1,fun e2 k2 eR he=>hx.2 e2 k2 eR ((bl s' e2 k2 g' eR).1 he).2⟩
  |pi cs off=>
   obtain⟨b,o,e1,hlt,hA,us,hl,hc⟩:=hx;exact⟨b,o,e1,hlt,fun hb=>hA (BX b hb),us,hl,fun j x u h1 h2=>⟨qK (hc j x u h1 h2).1,(hc j x u h1 h2).2⟩⟩
  |u=>trivial
 refine⟨h.sz,h.df,h.fr,⟨fun i=>by rw[pw];exact h.hs.gen i,fun i e2 k2 g2 eR h1 h2=>h.hs.row i e2 k2 g2 eR ((bl i e2 k2 g2 eR).1 h1).2 h2,fun i g2 px h1 h2=> ?_,fun i g2 K2 h1 h2=>h.hs.obj i g2 K2 ((uT i g2 K2).1 h1).2 h2⟩,h.lo,fun i x hx=> ?_,fun i g2 px hi=> ?_,fun i e2 k2 g2 eR hi=> ?_,fun i g2 K2 hi=> ?_,fun i j b h1 h2=>h.dj i j b (nz i b h1).2 (nz j b h2).2⟩
 ·obtain⟨cs,h3,_⟩:=(gK i g2 px).1 h1;exact h.hs.box i g2 cs h3 h2
 ·have:∃y,st.get i=some y/\x=yB s g es y:=by
   subst hst;unfold St.get at hx⊢;dsimp only at hx;rw[NI,NI] at hx
   cases h1:aI st.V i with
   |some y=>rw[h1] at hx;simp at hx;exact⟨y,rfl,hx.symm⟩
   |none=>
    rw[h1] at hx;dsimp only[Option.map_none] at hx;rw[bO] at hx;obtain⟨y,hy,rfl⟩:=hx;exact⟨y,hy,rfl⟩
  obtain⟨y,hy,rfl⟩:=this;exact hV (h.tm i y hy)
 ·obtain⟨cs,h3,rfl⟩:=(gK i g2 px).1 hi;obtain⟨f1,f2,arr,f3,f4⟩:=h.bx i g2 cs h3;exact⟨f1,f2,arr,f3,hCs f4⟩
 ·obtain⟨_,h3⟩:=(bl i e2 k2 g2 eR).1 hi;obtain⟨f1,xs,f2,f3⟩:=h.rw i e2 k2 g2 eR h3;exact⟨f1,xs,f2,f3.map fun x u hx=>qK hx⟩
 ·obtain⟨_,h3⟩:=(uT i g2 K2).1 hi;obtain⟨f1,f2⟩:=h.ob i g2 K2 h3;exact⟨f1,K2.mono f2 ax (fun b _ hb=>BX b hb) (fun _ _ _=>rfl)⟩
theorem Rel.aqi {s i b:Nat}(hl:bm (st.freeze s).slot G H i b):bm st.slot G H i b:=by
 unfold St.freeze at hl;split at hl
 case h_2=>exact hl
 rename_i e k g es hs;split at hl
 case isFalse=>exact hl
 have cq:∀i,(St.mk (mapA (fun _=>yB s g es) st.V) (mapA (fun _=>yB s g es) st.L) (mapA (fun i x=>if i=s then .dead g else pz s g es x) st.S)).slot i=if i=s then .dead g else pz s g es (st.slot i):=by
  intro i;unfold St.slot;dsimp only;rw[NI]
  cases hi:aI st.S i with
  |some x=>rfl
  |none=>
   by_cases dZ:i=s
   ·subst dZ;unfold St.slot at hs;rw[hi] at hs;cases hs
   ·simp[dZ,pz]
 have key:∀x,pz s g es x=x\/∃g' cs cs',x=.box g' cs/\pz s g es x=.box g' cs':=fun x=>by
  cases x with
  |dead g=>exact .inl rfl
  |row e k g es=>exact .inl rfl
  |obj g K=>exact .inl rfl
  |box g' cs=>exact .inr ⟨g',cs,_,rfl,rfl⟩
 rcases hl with⟨g2,px,h1,h2⟩|⟨e2,k2,g2,eR,h1,h2⟩|⟨g2,K2,h1,h2⟩
 ·rw[cq] at h1;split at h1
  ·cases h1
  ·rcases key (st.slot i) with hk|⟨g',cs,cs',hk,nX⟩
   ·rw[hk] at h1;exact .inl ⟨g2,px,h1,h2⟩
   ·rw[nX] at h1;cases h1;exact .inl ⟨_,cs,hk,h2⟩
 ·rw[cq] at h1;split at h1
  ·cases h1
  ·rcases key (st.slot i) with hk|⟨g',cs,cs',hk,nX⟩
   ·rw[hk] at h1;exact .inr (.inl ⟨e2,k2,g2,eR,h1,h2⟩)
   ·rw[nX] at h1;cases h1
 ·rw[cq] at h1;split at h1
  ·cases h1
  ·rcases key (st.slot i) with hk|⟨g',cs,cs',hk,nX⟩
   ·rw[hk] at h1;exact .inr (.inr ⟨g2,K2,h1,h2⟩)
   ·rw[nX] at h1;cases h1
end
def pA:List Nat->St->St
 |[],st=>st
 |s::r,st=>pA r (st.freeze s)
section
variable {P:Program} {N:Nat} {F M:Nat->Prop} {w0:kT} {w:World} {G:Nat->Gh} {H:Nat->Value} {a:Act}
theorem Rel.pA:∀(D:List Nat) {st:St},Rel N F M w0 st G H a w->Rel N F M w0 (Ab.pA D st) G H a w
 |[],_,h=>h
 |s::r,_,h=>Rel.pA r (h.freeze s)
theorem Xj:∀(D:List Nat) {st:St} {i b:Nat},bm (Ab.pA D st).slot G H i b->bm st.slot G H i b
 |[],_,_,_,h=>h
 |s::r,_,_,_,h=>Rel.aqi (Xj r h)
theorem aqj {U:Option (List Nat)}{o:Oper}{xa:GF}(D:List Nat)(h:oK P U o xa):oK P U o (fun st X=>xa (Ab.pA D st) X):=by
 intro N F M w0 w st G H a X hR hs K Q hK;refine h N F M w0 w (Ab.pA D st) G H a X (hR.pA D) hs K Q (fun x st' G' H' v w' hX bM hst hv=>hK x st' G' H' v w' hX bM ⟨hst.1,fun l hl=>⟨fun b hlt hn=>(hst.2 l hl).1 b hlt fun s hs hh=>hn s hs (Xj D hh),fun s hs b hlt nz=> ?_⟩⟩ hv);obtain⟨s0,h0,l0⟩:=(hst.2 l hl).2 s hs b hlt nz;exact⟨s0,h0,Xj D l0⟩
end
def St.mh (st:St)(b off s e k:Nat):St:=match st.slot b,aI st.S s with
 | .box g cs,some _=>match cs[off]? with
  |some (.v (.slice none 0 0))=>if b=s then st else(st.cn s (.row e k ((st.slot s).gen+1) [])).cn b (.box g (cs.set off (.own s ((st.slot s).gen+1))))
  |_=>st
 |_,_=>st
section
variable {P:Program} {N:Nat} {F M:Nat->Prop} {w0:kT} {w:World} {st:St} {G:Nat->Gh} {H:Nat->Value} {a:Act}
theorem Rel.mh (h:Rel N F M w0 st G H a w)(b off s e k:Nat):∃H',Rel N F M w0 (st.mh b off s e k) G H' a w:=by
 unfold St.mh;split
 case h_2=>exact⟨H,h⟩
 rename_i g cs y hb hs;split
 case h_2=>exact⟨H,h⟩
 rename_i aeA;split
 ·exact⟨H,h⟩
 rename_i hbs
 have cq:(aI st.S s).isSome=true:=by rw[hs];rfl
 have fc:(aI st.S b).isSome=true:=by
  unfold St.slot at hb
  cases hq:aI st.S b with
  |some y=>rfl
  |none=>rw[hq] at hb;cases hb
 obtain⟨h1,-⟩:=h.newRow (w':=w) s cq (e:=e) (k:=k) (es:=[]) rfl (ko w 0 e k) (.inl ⟨rfl,rfl,rfl,cK _,fun _ _ _=>rfl⟩) (fun b hb=>by simp[Value.ownBlock] at hb) (fun w2 A2 hm=>⟨fun i row h=>by simp at h,fun i row j x u h=>by simp at h⟩);refine⟨fun i=>if i=s then(.slice none 0 0:Value) else H i,?_⟩;generalize hH:(fun i=>if i=s then(.slice none 0 0:Value) else H i)=H' at h1⊢
 have Ec:H' s=.slice none 0 0:=by subst hH;simp
 generalize hst:st.cn s (.row e k ((st.slot s).gen+1) [])=st1 at h1⊢
 have cT:st1.slot b=.box g cs:=by subst hst;rw[St.mL,af (by simp[hbs])];exact hb
 have ey:st1.slot s=.row e k ((st.slot s).gen+1) []:=by subst hst;rw[St.mL,aq ⟨rfl,cq⟩]
 have Xk:(aI st1.S b).isSome=true:=by
  subst hst;unfold St.cn;dsimp only;rw[WM,af hbs];exact fc
 obtain⟨f1,f2,arr,f3,f4⟩:=h1.bx b g cs cT;have BX:=(bK.1 aeA).1;have hlen:arr.length=cs.length:=f4.1
 have qJ:arr[off]? =some (.slice none 0 0):=by
  obtain⟨q,hq⟩:∃q,arr[off]? =some q:=⟨arr[off]' ab,cw ab⟩
  have:=f4.2 off _ _ aeA hq;rw[hq];cases this;rfl
 have jP:∀i,(st1.cn b (.box g (cs.set off (.own s ((st.slot s).gen+1))))).slot i=if i=b then .box g (cs.set off (.own s ((st.slot s).gen+1))) else st1.slot i:=fun i=>by
  rw[St.mL];by_cases hi:i=b
  ·subst hi;rw[aq ⟨rfl,Xk⟩,aq rfl]
  ·rw[af (by simp[hi]),af hi]
 generalize KG:st1.cn b (.box g (cs.set off (.own s ((st.slot s).gen+1))))=st2 at jP⊢
 have pw:∀i,(st2.slot i).gen=(st1.slot i).gen:=fun i=>by
  rw[jP];by_cases hi:i=b
  ·subst hi;rw[aq rfl,cT];rfl
  ·rw[af hi]
 have bl:∀i e2 k2 g2 eR,st2.slot i=.row e2 k2 g2 eR↔st1.slot i=.row e2 k2 g2 eR:=fun i e2 k2 g2 eR=>by
  rw[jP];by_cases hi:i=b
  ·subst hi;rw[aq rfl,cT];simp
  ·rw[af hi]
 have uT:∀i g2 K2,st2.slot i=.obj g2 K2↔st1.slot i=.obj g2 K2:=fun i g2 K2=>by
  rw[jP];by_cases hi:i=b
  ·subst hi;rw[aq rfl,cT];simp
  ·rw[af hi]
 have RJ:∀i g2,(∃c2,st2.slot i=.box g2 c2)↔∃c2,st1.slot i=.box g2 c2:=fun i g2=>by
  rw[jP];by_cases hi:i=b
  ·subst hi;rw[aq rfl,cT];simp
  ·rw[af hi]
 have nz:∀i q,bm st2.slot G H' i q↔bm st1.slot G H' i q:=fun i q=>by
  unfold bm;constructor
  ·rintro(⟨g2,c2,q1,q2⟩|⟨e2,k2,g2,eR,q1,q2⟩|⟨g2,K2,q1,q2⟩)
   ·obtain⟨c3,q3⟩:=(RJ i g2).1 ⟨c2,q1⟩;exact .inl ⟨g2,c3,q3,q2⟩
   ·exact .inr (.inl ⟨e2,k2,g2,eR,(bl ..).1 q1,q2⟩)
   ·exact .inr (.inr ⟨g2,K2,(uT ..).1 q1,q2⟩)
  ·rintro(⟨g2,c2,q1,q2⟩|⟨e2,k2,g2,eR,q1,q2⟩|⟨g2,K2,q1,q2⟩)
   ·obtain⟨c3,q3⟩:=(RJ i g2).2 ⟨c2,q1⟩;exact .inl ⟨g2,c3,q3,q2⟩
   ·exact .inr (.inl ⟨e2,k2,g2,eR,(bl ..).2 q1,q2⟩)
   ·exact .inr (.inr ⟨g2,K2,(uT ..).2 q1,q2⟩)
 have aqk:aV M st2.slot G H'=aV M st1.slot G H':=by
  funext q;unfold aV;simp only[nz]
 have m:Mv w w (aV M st1.slot G H') (aV M st2.slot G H') st1.slot st2.slot G G H' H':=
  ⟨cK _,fun q _ hq=>by rw[aqk] at hq;exact hq,fun _ _ _=>rfl,fun i=>by rw[pw];exact cK _,fun i e2 k2 g2 eR q _=>⟨⟨eR,(bl ..).1 q⟩,rfl⟩,fun i g2 c2 q _=>⟨(RJ i g2).1 ⟨c2,q⟩,rfl⟩,fun i g2 K2 q _=>⟨⟨K2,(uT ..).1 q⟩,rfl,rfl⟩⟩
 refine⟨h1.sz,h1.df,h1.fr,⟨fun i=>by rw[pw];exact h1.hs.gen i,fun i e2 k2 g2 eR q1 q2=>h1.hs.row i e2 k2 g2 eR ((bl ..).1 q1) q2,fun i g2 c2 q1 q2=>by
   obtain⟨c3,q3⟩:=(RJ i g2).1 ⟨c2,q1⟩
   exact h1.hs.box i g2 c3 q3 q2,fun i g2 K2 q1 q2=>h1.hs.obj i g2 K2 ((uT ..).1 q1) q2⟩,h1.lo,fun i x hx=> ?_,fun i g2 c2 q=> ?_,fun i e2 k2 g2 eR q=> ?_,fun i g2 K2 q=> ?_,fun i j q q1 q2=>h1.dj i j q ((nz i q).1 q1) ((nz j q).1 q2)⟩
 ·refine VR.mv m (h1.tm i x ?_);subst KG;exact hx
 ·rw[jP] at q;by_cases hi:i=b
  ·subst hi;rw[aq rfl] at q;cases q;refine⟨f1,f2,arr,f3,by rw[List.length_set];exact f4.1,fun j x u e1 e2=> ?_⟩;rw[List.getElem?_set] at e1;split at e1
   ·rename_i hj;subst hj
    try rw[aq BX] at e1
    cases e1;rw[qJ] at e2;cases e2;exact⟨rfl,by rw[pw,ey];exact cK _,fun _ _ _ _=>Ec.symm⟩
   ·exact CR.mv m (f4.2 j x u e1 e2)
  ·rw[af hi] at q;obtain⟨p1,p2,tH,p3,p4⟩:=h1.bx i g2 c2 q;exact⟨p1,p2,tH,p3,cE.mv m p4⟩
 ·obtain⟨p1,xs,p2,p3⟩:=h1.rw i e2 k2 g2 eR ((bl ..).1 q);exact⟨p1,xs,p2,p3.map fun x u hx=>IR.mv m hx⟩
 ·obtain⟨p1,p2⟩:=h1.ob i g2 K2 ((uT ..).1 q);exact⟨p1,K2.mono p2 m.size m.off (fun _ _ _=>rfl)⟩
theorem aql {U:Option (List Nat)}{o:Oper}{t e:TypeId}{k:Nat}{it:TypeInfo}{zv:Value}{za:List AC}{x:Operand}{q:aP}(ho:o.op=.makeSlice t x x)(hu:P.underlying t=some (.slice e))(hi:P.info? e=some it)(hz:it.zero=some zv)(hs:it.size=k)(aY:0<k)(qI:zv.cells.size=k)(ks:it.bytes<=1000)
  (h3:Ee zv.cells.toList=some za) (hx:dO x q):
  oK P U o (fun st X=>∃n:Nat,st.sc q=some (.int .i64 n)/\n<=1000000/\(dt k n za).all inl=true/\X (.w (.c (.sl (rowsOf k n (dt k n za))))) st):=by
 intro N F M w0 w st G H a X hR hsm K Q hK;obtain⟨n,e1,e2,e3,hX⟩:=hsm;obtain⟨bT,-⟩:=hR.sc hx e1
 have hrun:=run_make (P:=P) w t e it zv hu hi hz .i64 .i64 (n:Int) (n:Int) ab ab (by
  have:it.bytes*n<=1000*1000000:=nR ks e2;have:((it.bytes*n:Nat):Int)<=281474976710656:=ab
  rwa[Int.natCast_mul] at this) ab
 simp only[fJ,hs] at hrun;have hcs:cE w (aV M st.slot G H) st.slot G H (dt k n za) (madeCells zv.cells (n*k)).toList:=WZ (WW h3) qI aY
 have hl:(dt k n za).length=n*k:=by simp[dt]
 have wY:n<=n*k:=Nat.le_mul_of_pos_right n aY;have m:=aeu (w:=w) (M:=M) (st:=st) (G:=G) (H:=H) (.cells (madeCells zv.cells (n*k)) e);have bl:=(RB hl hcs e3).map (fun x u hx=>IR.mv m hx)
 have hx:=hK _ _ _ _ (.slice (some ⟨w.heap.size,0,none⟩) n n) _ hX (hR.alloc (.cells (madeCells zv.cells (n*k)) e)) (Nx ai fun b hlt=>alloc_old w _ hlt)
  (ND (by simp[rowsOf]) bl (by simp[madeCells]) hR.aet ax ab (fun j u hu=>by rw[(az.new w (madeCells zv.cells (n*k)) e).cell];simpa using hu))
 unfold Oper.wp execOp;simp only[ho,oZ,bT,hrun,rP,tw];exact hx
end
inductive gM where
 |normal
 |exit (id:Nat)
 |ret
def gM.ex:gM->Exit
 | .normal=> .normal
 | .exit id=> .exit id
 | .ret=> .ret
inductive pB where
 |skip
 |ret
 |exit (id:Nat)
 |seq (x y:pB)
 |cond (t:aP) (x y:pB)
 |block (id:Nat) (c:pB)
 |loop (c:pB)
 |region (du:List AO)
 |tI (du:List AO) (n:Nat) (t:OT) (U:List Nat)
 |mi (s:Nat) (c:pB)
 |pC (b off s e k:Nat) (c:pB)
def lI (K:St->Prop)(Q:gM->St->Prop):gM->St->Prop
 | .normal,st=>K st
 |e,st=>Q e st
def mj (id:Nat)(Q:gM->St->Prop):gM->St->Prop
 | .exit pD,st=>if pD=id then Q .normal st else Q (.exit pD) st
 |e,st=>Q e st
def GJ (body:(gM->St->Prop)->St->Prop)(Q:gM->St->Prop):Nat->St->Prop
 |0,_=>False
 |n+1,st=>body (lI (GJ body Q n) Q) st
def aM:pB->(gM->St->Prop)->St->Prop
 | .skip,Q,st=>Q .normal st
 | .ret,Q,st=>Q .ret st
 | .exit id,Q,st=>Q (.exit id) st
 | .seq x y,Q,st=>aM x (lI (aM y Q) Q) st
 | .cond t x y,Q,st=>match st.sc t with
  |some (.bool true)=>aM x Q st
  |some (.bool false)=>aM y Q st
  |_=>False
 | .block id c,Q,st=>aM c (mj id Q) st
 | .loop c,Q,st=>∃n,GJ (aM c) Q n st
 | .region du,Q,st=>bt none du (Q .normal) { st with L:=[] }
 | .tI du n t U,Q,st=>aX U du (du.drop n) (Q .normal) t false { st with L:=[] }
 | .mi s c,Q,st=>aM c Q (st.freeze s)
 | .pC b off s e k c,Q,st=>aM c Q (st.mh b off s e k)
inductive jq (P:Program)(N:Nat):Code->pB->Prop where
 |skip:jq P N .skip .skip
 |ret:jq P N .ret .ret
 |exit (id:Nat):jq P N (.exit id) (.exit id)
 |seq {x y:Code} {x' y':pB} (hx:jq P N x x') (hy:jq P N y y'):jq P N (.seq x y) (.seq x' y')
 |cond {t:Operand} {t':aP} {x y:Code} {x' y':pB} (ht:dO t t') (hx:jq P N x x') (hy:jq P N y y'):jq P N (.cond t x y) (.cond t' x' y')
 |block (id:Nat) {c:Code} {c':pB} (h:jq P N c c'):jq P N (.block id c) (.block id c')
 |loop {c:Code} {c':pB} (h:jq P N c c'):jq P N (.loop c) (.loop c')
 |region (id:Nat) {ops:Array Oper} {du:List AO} (h:sy P N ops ops.toList du):jq P N (.region id ops false) (.region du)
 |tI (id:Nat) {l:List Oper} {du:List AO} (n:Nat) (t:OT) (U:List Nat) (h:sy P N l.toArray l du) (hm:P.follows .mixedOrders=true) (hB:(Region.noSelect l.toArray && rU .any l.toArray n && pf .any l.toArray n t n (Array.replicate l.toArray.size false))=true):jq P N (.region id l.toArray true) (.tI du n t U)
 |mi (s:Nat) {c:Code} {c':pB} (h:jq P N c c'):jq P N c (.mi s c')
 |pC (b off s e k:Nat) {c:Code} {c':pB} (h:jq P N c c'):jq P N c (.pC b off s e k c')
section
variable {P:Program} {N:Nat} {F M:Nat->Prop} {w0:kT} {w:World} {st:St} {G:Nat->Gh} {H:Nat->Value} {a:Act}
theorem aqm {Q:Exit->Act->World->Prop}{c:Code}(I:Nat->Act->World->Prop)(h0:∀a w,¬I 0 a w)(round:∀n a w,I (n+1) a w->c.wp P (Exit.then (I n) Q) a w){n:Nat}{a:Act}{w:World}(h:I n a w):(Code.loop c).wp P Q a w:=by
 intro b k cs
 have key:∀n a w,I n a w->∃e a' w',Q e a' w'/\Arrives P (lone (b.at a (.code c:: .inLoop c::k)) cs w) b k cs e a' w':=by
  intro n
  induction n with
  |zero=>intro a w h;exact(h0 a w h).elim
  |succ n ih=>
   intro a w hI;obtain⟨e,a₁,w₁,hq,qJ⟩:=round n a w hI b (.inLoop c::k) cs
   cases e with
   |normal=>
    obtain⟨e₂,a₂,w₂,aqn,aqo⟩:=ih a₁ w₁ hq;exact⟨e₂,a₂,w₂,aqn,.of_steps (Steps.trans qJ (.one step_inLoop)) aqo⟩
   |exit id=>exact⟨_,a₁,w₁,hq,.pass (x:=.inLoop c) rfl (fun _ _=> .inl ai) qJ⟩
   |goto l=>exact⟨_,a₁,w₁,hq,.pass (x:=.inLoop c) rfl (fun _ _=> .inl ai) qJ⟩
   |ret=>exact⟨_,a₁,w₁,hq,.pass (x:=.inLoop c) rfl (fun _ _=> .inl ai) qJ⟩
   |panic ch=>exact⟨_,a₁,w₁,hq,.pass (x:=.inLoop c) rfl (fun _ _=> .inl ai) qJ⟩
   |outgrown=>exact⟨_,a₁,w₁,hq,.pass (x:=.inLoop c) rfl (fun _ _=> .inl ai) qJ⟩
 obtain⟨e,a',w',hq,qJ⟩:=key n a w h;exact⟨e,a',w',hq,.of_steps (.one step_loop) qJ⟩
theorem Rel.aeB (h:Rel N F M w0 st G H a w):Rel N F M w0 { st with L:=[] } G H a w:=
 ⟨h.sz,h.df,h.fr,h.hs,h.lo,fun i x hx=>h.tm i x (by
  unfold St.get at hx⊢;dsimp only at hx;split at hx
  ·exact hx
  ·simp[aI] at hx),h.bx,h.rw,h.ob,h.dj⟩
theorem aeC {c:Code}{ac:pB}(hk:jq P N c ac):∀{st:St} {G:Nat->Gh} {H:Nat->Value} {a:Act} {w:World} {Q:gM->St->Prop} {Q':Exit->Act->World->Prop},Rel N F M w0 st G H a w->aM ac Q st->
  (∀e st' G' H' a' w',Q e st'->Rel N F M w0 st' G' H' a' w'->Q' e.ex a' w')->c.wp P Q' a w:=by
 induction hk with
 |skip=>intro st G H a w Q Q' hR hs hQ;exact wp_skip (hQ .normal st G H a w hs hR)
 |ret=>intro st G H a w Q Q' hR hs hQ;exact wp_ret (hQ .ret st G H a w hs hR)
 |exit id=>intro st G H a w Q Q' hR hs hQ;exact wp_exit (hQ (.exit id) st G H a w hs hR)
 |seq hx hy yC yD=>
  intro st G H a w Q Q' hR hs hQ;refine wp_seq (yC hR hs fun e st' G' H' a' w' hq bM=> ?_)
  cases e with
  |normal=>exact yD bM hq hQ
  |exit id=>exact hQ _ _ _ _ _ _ hq bM
  |ret=>exact hQ _ _ _ _ _ _ hq bM
 |cond ht hx hy yC yD=>
  intro st G H a w Q Q' hR hs hQ;unfold aM at hs;split at hs
  ·rename_i hb;exact wp_cond_true (hR.sc ht hb).1 (yC hR hs hQ)
  ·rename_i hb;exact wp_cond_false (hR.sc ht hb).1 (yD hR hs hQ)
  ·exact hs.elim
 |block id h ih=>
  intro st G H a w Q Q' hR hs hQ;refine wp_block (ih hR hs fun e st' G' H' a' w' hq bM=> ?_)
  cases e with
  |normal=>exact hQ .normal _ _ _ _ _ hq bM
  |exit pD=>
   show Exit.inBlock id Q' (.exit pD) a' w'
   unfold mj at hq;unfold Exit.inBlock;dsimp only at hq⊢;split at hq
   ·rename_i he;rw[aq he];exact hQ .normal _ _ _ _ _ hq bM
   ·rename_i he;rw[af he];exact hQ (.exit pD) _ _ _ _ _ hq bM
  |ret=>exact hQ .ret _ _ _ _ _ hq bM
 |loop h ih=>
  intro st G H a w Q Q' hR hs hQ;obtain⟨n,hn⟩:=hs;refine aqm (fun n a w=>∃st G H,Rel N F M w0 st G H a w/\GJ (aM _) Q n st) (fun a w ⟨_,_,_,_,h⟩=>h) (fun n a w ⟨st,G,H,hR,hl⟩=> ?_) ⟨st,G,H,hR,hn⟩
  refine ih hR hl fun e st' G' H' a' w' hq bM=> ?_
  cases e with
  |normal=>exact⟨st',G',H',bM,hq⟩
  |exit id=>exact hQ _ _ _ _ _ _ hq bM
  |ret=>exact hQ _ _ _ _ _ _ hq bM
 |region id h=>intro st G H a w Q Q' hR hs hQ;exact aqf h hR.aeB hs (fun st' G' H' a' w' hq bM=>hQ .normal _ _ _ _ _ hq bM)
 |mi s h ih=>intro st G H a w Q Q' hR hs hQ;exact ih (hR.freeze s) hs hQ
 |pC b off s e k h ih=>intro st G H a w Q Q' hR hs hQ;obtain⟨H',bM⟩:=hR.mh b off s e k;exact ih bM hs hQ
 |tI id n t U h hm hB=>intro st G H a w Q Q' hR hs hQ;exact aqg n t U h hm hB hR.aeB hs (fun st' G' H' a' w' hq bM=>hQ .normal _ _ _ _ _ hq bM)
end
section
variable {P:Program} {N:Nat} {F M:Nat->Prop} {w0:kT} {w:World} {st:St} {G:Nat->Gh} {H:Nat->Value} {a:Act}
def St.fz (st:St):AC->Option AC
 | .own s g=>match st.slot s with
  | .row _ k g' es=>if g=g'/\0<k then some (.sl es) else none
  |_=>none
 | .v x=>some (.v x)
 | .sl es=>some (.sl es)
 | .fM f bZ=>some (.fM f bZ)
 |_=>none
def St.jQ (st:St):List AC->Option (List AC)
 |[]=>some []
 |x::l=>match st.fz x,st.jQ l with
  |some y,some r=>some (y::r)
  |_,_=>none
def St.qL (st:St):AW->Option AW
 | .c x=>(st.fz x).map .c
 | .agg cs=>(st.jQ cs).map .agg
theorem Rel.fz (h:Rel N F M w0 st G H a w){x y:AC}{u:Value}(hx:CR w (aV M st.slot G H) st.slot G H x u)(hf:st.fz x=some y):IR w M y u:=by
 have hA:∀b,b<w.heap.size->M b->aV M st.slot G H b:=fun b _ hm=> .inl hm
 cases x with
 |v x=>
  simp only[St.fz,aA] at hf;subst hf;exact IR.mono hx ax hA (fun _ _ _=>rfl)
 |sl es=>
  simp only[St.fz,aA] at hf;subst hf;exact IR.mono hx ax hA (fun _ _ _=>rfl)
 |fM f bZ=>
  simp only[St.fz,aA] at hf;subst hf;exact IR.mono hx ax hA (fun _ _ _=>rfl)
 |cP s g=>cases hf
 |part s g i=>cases hf
 |cls f bZ=>cases hf
 |own s g=>
  simp only[St.fz] at hf;split at hf
  case h_2=>cases hf
  rename_i e k g' es hs;split at hf
  case isFalse=>cases hf
  rename_i hg;obtain⟨rfl,aY⟩:=hg;simp only[aA] at hf;subst hf;obtain⟨_,_,hH⟩:=hx;have hu:=hH e k es hs;subst hu;obtain⟨hn,xs,how,lF⟩:=h.rw s e k g es hs;have hl:=how.1
  rcases how.2 with⟨e1,e2⟩|⟨gg,cap,cur,e1,_,Rv,nW,Cc,_,_⟩
  ·have h0:es=[]:=yh e2;subst h0;rw[e1];exact IR.sl 0 [] none 0 (fun _ _=>undef) ax ai (by intro i row h;simp at h) (by intro i row j x h;simp at h) (by intro i row j h;simp at h)
  ·rw[e1];have hcell:=how.cells (g:=gg) (by rw[e1];rfl)
   exact ND rfl (lF.map fun x u hx=>hx.mono ax hA (fun _ _ _=>rfl)) hl (hn gg (by rw[e1];rfl)).2 nW (by simp only[maxLen] at Cc;omega) (fun j u hj=>by
    have:=hcell j u hj
    rwa[Addr.add_mid,fu] at this)
theorem aeD {x y:AC}(h:st.fz x=some y):inl y=true:=by
 cases x with
 |v x=>simp only[St.fz,aA] at h;subst h;rfl
 |sl es=>simp only[St.fz,aA] at h;subst h;rfl
 |fM f bZ=>simp only[St.fz,aA] at h;subst h;rfl
 |cP s g=>cases h
 |part s g i=>cases h
 |cls f bZ=>cases h
 |own s g=>
  simp only[St.fz] at h;split at h
  ·split at h
   ·simp only[aA] at h;subst h;rfl
   ·cases h
  ·cases h
theorem Rel.jQ (h:Rel N F M w0 st G H a w):∀{cs r:List AC} {us:List Value},cE w (aV M st.slot G H) st.slot G H cs us->st.jQ cs=some r->r.all inl=true/\cE w M (fun _=> .dead 0) (fun _=>gh 0) (fun _=>undef) r us
 |[],r,us,hc,hr=>by
  simp only[St.jQ,aA] at hr;subst hr;exact⟨rfl,hc.1,fun j x u e=>by simp at e⟩
 |x::cs,r,us,hc,hr=>by
  unfold St.jQ at hr;split at hr
  case h_2=>cases hr
  rename_i y q h1 h2;simp only[aA] at hr;subst hr
  cases us with
  |nil=>have:=hc.1;simp at this
  |cons u us=>
   have hc':cE w (aV M st.slot G H) st.slot G H cs us:=⟨by have:=hc.1;simpa using this,fun j x u e1 e2=>hc.2 (j+1) x u (by simpa using e1) (by simpa using e2)⟩
   obtain⟨g1,g2⟩:=Rel.jQ h hc' h2;refine⟨by simp[aeD h1,g1],by have:=g2.1;simp[this],fun j z v e1 e2=> ?_⟩
   cases j with
   |zero=>
    simp at e1 e2;subst e1;subst e2;exact(h.fz (hc.2 0 x u rfl rfl) h1).tF
   |succ j=>exact g2.2 j z v (by simpa using e1) (by simpa using e2)
theorem Rel.qL (h:Rel N F M w0 st G H a w){x y:AW}{v:Value}(hx:WR w (aV M st.slot G H) st.slot G H x v)(hf:st.qL x=some y):WI w M y v:=by
 cases x with
 |c x=>
  simp only[St.qL,bO] at hf;obtain⟨z,hz,rfl⟩:=hf;exact⟨by simp[AW.inl,AW.cells,aeD hz],(h.fz hx hz).tF⟩
 |agg cs=>
  simp only[St.qL,bO] at hf;obtain⟨z,hz,rfl⟩:=hf;obtain⟨arr,e,hc⟩:=hx;obtain⟨g1,g2⟩:=h.jQ hc hz;exact⟨by simpa [AW.inl,AW.cells] using g1,arr,e,g2⟩
def Eg (P:Program)(st:St):ResultVar->Option AW
 | .tmp t=>match st.get t with
  |some (.w x)=>st.qL x
  |_=>none
 | .cell p ty=>match(P.info? ty).map (·.size),P.underlying ty with
  |some n,some d=>if d.isRow then(st.cells [] n (st.get p)).bind fun cs=>st.qL (.agg cs) else(st.cells [] 1 (st.get p)).bind fun cs=>match cs with
   |[c]=>st.qL (.c c)
   |_=>none
  |_,_=>none
def yE (P:Program)(st:St):List ResultVar->Option (List AW)
 |[]=>some []
 |r::l=>match Eg P st r,yE P st l with
  |some x,some q=>some (x::q)
  |_,_=>none
def ed (l:List AW):AV:=match l with
 |[x]=> .w x
 |l=> .bD l
def xd (tmps:Array Value):ResultVar->Sem Value
 | .tmp t=>pure (tmps.getD t undef)
 | .cell a t=>do loadVar t (<-asAddr (tmps.getD a undef))
theorem Rel.Eg (h:Rel N F M w0 st G H a w){r:ResultVar}{x:AW}(hr:Eg P st r=some x):∃v,(xd a.tmps r).run P w=.ok v w/\WI w M x v:=by
 cases r with
 |tmp t=>
  simp only[Ab.Eg] at hr;split at hr
  case h_2=>cases hr
  rename_i y hy;exact⟨_,rfl,h.qL (h.tm t _ hy) hr⟩
 |cell p ty=>
  simp only[Ab.Eg] at hr;split at hr
  case h_2=>cases hr
  rename_i n d hn hd;split at hr
  ·rename_i bl;rw[Option.bind_eq_some_iff] at hr;obtain⟨cs,hc,hf⟩:=hr
   cases hp:st.get p with
   |none=>rw[hp] at hc;simp[St.cells] at hc
   |some pv=>
    rw[hp] at hc;obtain⟨b,o,us,e1,hlt,_,yF,hcs,hl⟩:=h.cells (h.tm p pv hp) hc;refine⟨.agg us.toArray,?_,h.qL (x:=.agg cs) ⟨us,rfl,hcs⟩ hf⟩;simp only[xd,e1,asAddr,oZ,tw,rP];exact run_loadVar_mid w b o ty us d yF hd bl (by rw[hl];exact hn)
  ·rename_i bl;rw[Option.bind_eq_some_iff] at hr;obtain⟨cs,hc,hf⟩:=hr;split at hf
   case h_2=>cases hf
   rename_i c
   cases hp:st.get p with
   |none=>rw[hp] at hc;simp[St.cells] at hc
   |some pv=>
    rw[hp] at hc;obtain⟨b,o,us,e1,hlt,_,yF,hcs,hl⟩:=h.cells (h.tm p pv hp) hc
    obtain⟨u,rfl⟩:∃u,us=[u]:=by
     match us,hl with
     |[u],_=>exact⟨u,rfl⟩
    refine⟨u,?_,h.qL (x:=.c c) (hcs.2 0 c u rfl rfl) hf⟩;have hcell:=yF 0 u rfl;rw[qm] at hcell
    have yy:(isAgg ty).run P w=.ok false w:=by
     unfold isAgg;rw[oZ,lu hd]
     cases d<;>first|rfl|(exact absurd rfl bl)
    simp[xd,e1,asAddr,loadVar,yy,hcell]
theorem Rel.yE (h:Rel N F M w0 st G H a w):∀{rs:List ResultVar} {xs:List AW},yE P st rs=some xs->∃vs:List Value,(rs.mapM (xd a.tmps)).run P w=.ok vs w/\vs.length=xs.length/\∀(j:Nat) (x:AW) (v:Value),xs[j]? =some x->vs[j]? =some v->WI w M x v
 |[],xs,hr=>by
  simp only[Ab.yE,aA] at hr;subst hr;exact⟨[],ai,rfl,fun j x v e=>by simp at e⟩
 |r::rs,xs,hr=>by
  unfold Ab.yE at hr;split at hr
  case h_2=>cases hr
  rename_i x q h1 h2;simp only[aA] at hr;subst hr;obtain⟨v,e1,e2⟩:=h.Eg h1;obtain⟨vs,e3,e4,e5⟩:=Rel.yE h h2;refine⟨v::vs,by simp[Gf,e1,e3],by simp[e4],fun j y u g1 g2=> ?_⟩
  cases j with
  |zero=>simp at g1 g2;subst g1;subst g2;exact e2
  |succ j=>exact e5 j y u (by simpa using g1) (by simpa using g2)
theorem aeE {fn:Func}{tmps:Array Value}{vs:List Value}(h:(fn.results.toList.mapM (xd tmps)).run P w=.ok vs w):(results fn tmps).run P w=.ok (if h:vs.toArray.size=1 then vs.toArray[0] else .tuple vs.toArray) w:=by
 have:fn.results.mapM (xd tmps)=Functor.map List.toArray (fn.results.toList.mapM (xd tmps)):=by rw[Array.mapM_eq_mapM_toList]
 unfold results
 show Sem.run P ((fn.results.mapM (xd tmps))>>=fun vs=>pure (if h:vs.size=1 then vs[0] else .tuple vs)) w=_
 rw[this];simp[h]
theorem aqp {f:FuncId}{fn:Func}{c:Code}{ac:pB}(hf:P.funcs[f]? =some fn)(hb:fn.body=some c)(hk:jq P fn.ntmps c ac)(args:List AW)(Ce:args.length<=fn.ntmps)(V:List (Nat×AV))(S:List (Nat×Slot)){Q:AV->Prop}
  (hV:∀i x,aI V i=some x->x=.u\/∃y,args[i]? =some y/\x=.w y) (hS:∀s,(aI S s).getD (.dead 0)=.dead 0)
  (h:aM ac (fun e st=>(match e with | .exit _=>False|_=>True)/\∃xs,yE P st fn.results.toList=some xs/\Q (ed xs)) ⟨V,[],S⟩):aU P f args Q:=by
 intro M w vs hM hlen dz;refine calls_of_wp hf hb ?_
 have jP:(St.mk V [] S).slot=fun _=> .dead 0:=funext fun s=>hS s
 have hR:Rel fn.ntmps (fun b=>b<w.heap.size) M ⟨w,fun _=> .dead 0,fun _=>gh 0,fun _=>undef⟩ ⟨V,[],S⟩ (fun _=>gh 0) (fun _=>undef) { tmps:=vs.toArray++Array.replicate (fn.ntmps-vs.toArray.size) undef,defers:=[] } w:=by
  refine⟨by simp;omega,rfl,⟨rfl,rfl,rfl,cK _,fun _ _=>rfl⟩,⟨fun s=>(by rw[jP];exact cK _),fun s e k g es hs=>(by rw[jP] at hs;cases hs),fun s g cs hs=>(by rw[jP] at hs;cases hs),fun s g K hs=>(by rw[jP] at hs;cases hs)⟩,⟨fun b hb=>hb.elim id (hM.1 b),hM.2⟩,fun i x hx=> ?_,fun s g cs hs=>(by rw[jP] at hs;cases hs),fun s e k g es hs=>(by rw[jP] at hs;cases hs),fun s g K hs=>(by rw[jP] at hs;cases hs),fun s s' b hl=> ?_⟩
  ·have su:aI V i=some x:=by
    unfold St.get at hx;dsimp only at hx;split at hx
    ·rename_i v hv;rw[hv];exact hx
    ·simp[aI] at hx
   rcases hV i x su with rfl|⟨y,hy,rfl⟩
   ·trivial
   ·have hi:=(bK.1 hy).1;have hv:vs[i]? =some (vs[i]' ab):=cw ab;have hw:=dz i y _ hy hv
    have qF:(vs.toArray++Array.replicate (fn.ntmps-vs.toArray.size) undef).getD i undef=vs[i]' ab:=by
     simp[MT,Array.getElem?_append,show i<vs.length by omega]
    rw[qF]
    have hA:aV M (St.mk V [] S).slot (fun _=>gh 0) (fun _=>undef)=M:=by
     funext b;apply propext;refine⟨fun hh=> ?_,.inl⟩
     rcases hh with hm|⟨s,hl⟩
     ·exact hm
     ·rw[jP] at hl
      rcases hl with⟨g,cs,h1,_⟩|⟨e,k,g,es,h1,_⟩|⟨g,K,h1,_⟩<;>cases h1
    rw[hA];exact WR.any hw.2 hw.1
  ·rw[jP] at hl
   rcases hl with⟨g,cs,h1,_⟩|⟨e,k,g,es,h1,_⟩|⟨g,K,h1,_⟩<;>cases h1
 refine aeC hk hR h fun e st' G' H' a' w' hq bM=> ?_
 obtain⟨he,xs,cg,hQ⟩:=hq;obtain⟨us,e1,e2,e3⟩:=bM.yE cg;have hrun:=aeE (fn:=fn) e1
 have fin:a'.defers=[]/\∃v,(results fn a'.tmps).run P w'=.ok v w'/\∃v' r,Ending.returned v=.returned v'/\Q r/\VI w' M r v'/\Fr (fun b=>b<w.heap.size) w w':=by
  refine⟨bM.df,_,hrun,_,ed xs,rfl,hQ,?_,bM.fr⟩
  match xs,us,e2,e3 with
  |[x],[u],_,e3=>exact e3 0 x u rfl rfl
  |[],[],_,e3=>exact⟨[],rfl,rfl,fun j x u e=>by simp at e⟩
  |x::y::r,u::v::q,e2,e3=>
   have hne:¬(u::v::q).toArray.size=1:=ai;rw[dif_neg hne];exact⟨u::v::q,rfl,e2,e3⟩
 cases e with
 |normal=>exact fin
 |exit id=>exact he.elim
 |ret=>exact fin
end
end Ab
end Go.Proofs.YtkanpepkdcmpmaaGreatDoor
