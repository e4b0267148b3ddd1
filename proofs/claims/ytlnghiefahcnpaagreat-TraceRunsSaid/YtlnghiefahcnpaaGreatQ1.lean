import Derived.Test.YtlnghiefahcnpaaGreatQ0
import Derived.Laws.AppendOwnNone
import Derived.Deep.CutBlock
import Derived.Deep.Onto
import Derived.Deep.Upon
import Derived.Laws.MakeOwn
set_option maxHeartbeats 40000000
set_option maxRecDepth 100000
set_option linter.all false
namespace Go.Proofs.YtlnghiefahcnpaaGreat
section
open Go.RowKit
def ac (a:bf):List Value:=iv a.ints
theorem Flat.take {w:World}{k:Nat}{a:Option Addr}{n c m c':Nat}{xs:List Value}(h:Flat w k (.slice a m c) n xs){j:Nat}(hj:j<=n):Flat w k (.slice a j c') j (xs.take (j*k)):=by
 obtain⟨hl,hm,a',c2,hv,hr⟩:=h;simp at hv;obtain⟨rfl,rfl,rfl⟩:=hv;refine⟨?_,aa,_,_,rfl,fun i u hu=>hr i u ?_⟩
 ·rw[eo,hl];have:=pe k hj;omega
 ·rw[th] at hu;split at hu
  ·exact hu
  ·cases hu
theorem Flat.drop {w:World}{k:Nat}{b o n c m c':Nat}{xs:List Value}(h:Flat w k (.slice (some ⟨b,o,none⟩) m c) n xs){j:Nat}(hj:j<=n):Flat w k (.slice (some ⟨b,o+j*k,none⟩) (n-j) c') (n-j) (xs.drop (j*k)):=by
 obtain⟨hl,hm,a',c2,hv,hr⟩:=h;simp at hv;obtain⟨rfl,rfl,rfl⟩:=hv
 refine Flat.Bs ?_ aa fun i u hu=> ?_
 ·rw[lj,hl,Nat.sub_mul]
 ·rw[lW] at hu;obtain⟨b',o',e,hc⟩:=hr _ u hu;simp at e;obtain⟨rfl,rfl⟩:=e;rw[Nat.add_assoc];exact hc
end
section
open Go.RowKit
open aq (tJ tK np pN bp)
theorem XK {y x:Int}(hy: -2147483647<=y/\y<=2147483647)(hx: -2147483647<=x/\x<=2147483647): -9223372036854775808<=y*x/\y*x<=9223372036854775807:=by
 have h:(y*x).natAbs<=2147483647*2147483647:=by
  rw[Int.natAbs_mul];exact Nat.mul_le_mul aa aa
 omega
theorem XL {y x:Int}(hy: -2147483647<=y/\y<=2147483647): -9223372036854775808<=y.tdiv x/\y.tdiv x<=9223372036854775807:=by
 have h:(y.tdiv x).natAbs<=2147483647:=by
  rw[Int.natAbs_tdiv];exact Nat.le_trans (Nat.div_le_self _ _) aa
 omega
end
section
open Go.RowKit
open aq (dF jO kv)
def vc (a:dF):List Value:=iv [a.kind,a.a,a.b,a.c,a.d]
theorem alC (a:dF):(vc a).length=5:=rfl
def XM (w:World)(v:Value)(l:List dF):Prop:=Flat w 5 v l.length (l.flatMap vc)
theorem XM.at {w:World}{a:Option Addr}{n c:Nat}{l:List dF}(h:XM w (.slice a n c) l){i:Nat}{x:dF}(hi:l[i]? =some x):
  ∃b o,a=some ⟨b,o,none⟩/\w.cell? ⟨b,o+i*5,none⟩=some (I x.kind)/\w.cell? ⟨b,o+i*5+1,none⟩=some (I x.a)/\w.cell? ⟨b,o+i*5+2,none⟩=some (I x.b)/\
   w.cell? ⟨b,o+i*5+3,none⟩=some (I x.c)/\w.cell? ⟨b,o+i*5+4,none⟩=some (I x.d):=by
 obtain⟨b,o,ha,hc⟩:=Bt alC aa h hi;exact⟨b,o,ha,hc 0 _ rfl,hc 1 _ rfl,hc 2 _ rfl,hc 3 _ rfl,hc 4 _ rfl⟩
theorem EG {α:Type}{p:α->Bool}:∀{l:List α} {k:Nat} (_:k<=l.length),(∀j (h:j<l.length),j<k->p l[j]=true)->(∀(h:k<l.length),p l[k]=false)->l.takeWhile p=l.take k/\l.dropWhile p=l.drop k
 |[],k,hk,_,_=>by simp at hk;subst hk;simp
 |x::l,0,_,_,h=>by
  have:=h ae;simp at this;simp[this]
 |x::l,k+1,hk,h1,h2=>by
  have h0:=h1 0 ae aa;simp at h0;have ih:=EG (p:=p) (l:=l) (k:=k) (by simpa using hk) (fun j h hj=>by have:=h1 (j+1) (by simpa using h) aa;simpa using this) (fun h=>by have:=h2 (by simpa using h);simpa using this);simp[h0,ih.1,ih.2]
end
section
open Go.RowKit
open aq (gV qR)
def wc (p:Int×Int):List Value:=iv [p.1,p.2]
theorem alD (p:Int×Int):(wc p).length=2:=rfl
def XN (w:World)(v:Value)(l:List (Int×Int)):Prop:=Flat w 2 v l.length (l.flatMap wc)
theorem XN.at {w:World}{a:Option Addr}{n c:Nat}{l:List (Int×Int)}(h:XN w (.slice a n c) l){i:Nat}{x:Int×Int}(hi:l[i]? =some x):
  ∃b o,a=some ⟨b,o,none⟩/\w.cell? ⟨b,o+i*2,none⟩=some (I x.1)/\w.cell? ⟨b,o+i*2+1,none⟩=some (I x.2):=by
 obtain⟨b,o,ha,hc⟩:=Bt alD aa h hi;exact⟨b,o,ha,hc 0 _ rfl,hc 1 _ rfl⟩
end
section
open Go.RowKit
theorem alE {W:World}{g o n:Nat}{cs:Array Value}(h:az W g cs)(ho:o+n<=cs.size):W.there g o n:=fun j hj=>⟨by rw[h.cell];simp;omega,h.frozen _⟩
def yo (cs:Array Value)(o:Nat):List Value->Array Value
 |[]=>cs
 |v::l=>yo (cs.setIfInBounds o v) (o+1) l
theorem XO {g:Nat}:∀(l:List Value) {W:World} {cs:Array Value} (o:Nat),az W g cs->az (W.setCells g o l) g (yo cs o l)/\W.grownBy (W.setCells g o l) (some g)/\(W.setCells g o l).heap.size=W.heap.size
 |[],W,cs,o,h=>⟨h,⟨rfl,rfl,rfl,di _,fun _ _ _=>rfl⟩,rfl⟩
 |v::l,W,cs,o,h=>by
  obtain⟨h1,h2,h3⟩:=XO l (o+1) (h.set o v);refine⟨h1,?_,by rw[World.setCells,h3];simp⟩
  have hg:W.grownBy (W.setCell ⟨g,o,none⟩ v) (some g):=⟨rfl,rfl,rfl,ae,fun k _ hne=>Bk W _ _ _ (fun e=>hne (by rw[e]))⟩
  exact hg.trans h2
theorem alF (l:List Value):∀(cs:Array Value) (o:Nat),o+l.length<=cs.size->∀j,(yo cs o l)[j]? =if o<=j/\j<o+l.length then l[j-o]? else cs[j]? :=by
 induction l with
 |nil=>intro cs o _ j;rw[if_neg (by simp only[List.length_nil];omega)];rfl
 |cons v l ih=>
  intro cs o ho j;simp only[List.length_cons] at ho⊢;rw[yo,ih _ _ (by simp;omega)];by_cases h1:o+1<=j/\j<o+1+l.length
  ·rw[if_pos h1,if_pos aa,show j-o=(j-(o+1))+1 by omega,Hk]
  ·rw[if_neg h1];by_cases h2:j=o
   ·subst h2;rw[if_pos aa,Nat.sub_self,Bg,qq aa]
   ·rw[if_neg aa,oY aa]
theorem XP (w:World)(o:Obj)(row:Option Nat):w.grownBy (w.alloc o) row:=⟨rfl,rfl,rfl,ae,fun k hk _=>Below.heap_alloc w o k hk⟩
section
variable {P:Program} {ops:Array Oper} {Q:Exit->Act->World->Prop}
end
theorem Flat.off {w w':World}{k:Nat}{v:Value}{n:Nat}{xs:List Value}{g:Nat}(h:Flat w k v n xs)(hg:w.grownBy w' (some g))(hv:v.ownBlock≠some g):Flat w' k v n xs:=by
 obtain⟨hl,hm,a,c,rfl,hr⟩:=h;refine⟨hl,hm,a,c,rfl,fun j u hu=> ?_⟩;obtain⟨b,o,rfl,hc⟩:=hr j u hu;refine⟨b,o,rfl,?_⟩;have h2:=ic _ _ hc;rw[Bh (hg.block b h2 (fun e=>hv (by simpa [Value.ownBlock] using e)))];exact hc
theorem Ii {w w':World}{B k n g:Nat}{e:TypeId}{v:Value}{xs:List Value}(h:w.ownsRow B e k v n xs)(hg:w.grownBy w' (some g))(hv:v.ownBlock≠some g):w'.ownsRow B e k v n xs:=h.kept hg (.inr hv)
end
namespace Ab
open Go Go.RowKit
inductive AC where
 |v (x:Value)
 |sl (es:List (List AC))
 |own (s g:Nat)
 |ct (s g:Nat)
 |part (s g i:Nat)
 |dX (f:FuncId) (bK:List (List AC))
 |cls (f:FuncId) (bK:List (Nat×Nat))
inductive AW where
 |c (x:AC)
 |agg (cs:List AC)
inductive AV where
 |w (x:AW)
 |bQ (vs:List AW)
 |pb (s g off:Nat)
 |pr (s g i off:Nat)
 |pi (cs:List AC) (off:Nat)
 |u
structure Gh where
 b:Nat
 fp:List Nat
 hs:List Value
def gh (b:Nat):Gh:=⟨b,[],[]⟩
structure alG where
 rep:World->(Nat->Prop)->Value->Gh->Prop
 one:∀{w A v g},rep w A v g->v.oneCell'=true
 parts:∀{w A v g},rep w A v g->∀u∈g.hs,u.oneCell'=true
 lt:∀{w A v g},rep w A v g->∀b∈g.fp,b<w.heap.size
 mono:∀{w w':World} {A A':Nat->Prop} {v:Value} {g:Gh},rep w A v g->w.heap.size<=w'.heap.size->(∀b,b<w.heap.size->A' b->A b)->(∀b,b<w.heap.size->b∈g.fp\/¬A b->w'.heap[b]? =w.heap[b]?)->rep w' A' v g
inductive Slot where
 |dead (g:Nat)
 |box (g:Nat) (cs:List AC)
 |row (e k g:Nat) (es:List (List AC))
 |obj (g:Nat) (K:alG)
def Slot.gen:Slot->Nat
 | .dead g=>g
 | .box g _=>g
 | .row _ _ g _=>g
 | .obj g _=>g
structure St where
 V:List (Nat×AV)
 L:List (Nat×AV)
 S:List (Nat×Slot)
def aB {α:Type}:List (Nat×α)->Nat->Option α
 |[],_=>none
 |(i,x)::l,j=>if i=j then some x else aB l j
def mu {α:Type}:List (Nat×α)->Nat->α->List (Nat×α)
 |[],_,_=>[]
 |(i,x)::l,j,y=>if i=j then(i,y)::mu l j y else(i,x)::mu l j y
def St.get (st:St)(i:Nat):Option AV:=match aB st.V i with
 |some v=>some v
 |none=>aB st.L i
def St.slot (st:St)(s:Nat):Slot:=(aB st.S s).getD (.dead 0)
def St.put (st:St)(d:Nat)(v:AV):St:=if(aB st.V d).isSome then { st with V:=mu st.V d v } else { st with L:=(d,v)::st.L }
def St.bM (st:St)(s:Nat)(x:Slot):St:={ st with S:=mu st.S s x }
theorem ME {α:Type}(l:List (Nat×α))(j:Nat)(y:α)(i:Nat):aB (mu l j y) i=if i=j then(aB l i).map fun _=>y else aB l i:=by
 induction l with
 |nil=>simp[mu,aB]
 |cons p l ih=>
  obtain⟨a,x⟩:=p;by_cases h1:a=j
  ·subst h1;simp only[mu,lX,aB];by_cases h2:a=i
   ·subst h2;simp
   ·simp only[h2,pj,ih]
  ·simp only[mu,if_neg h1,aB];by_cases h2:a=i
   ·subst h2;simp[h1]
   ·simp only[h2,pj,ih]
theorem St.alH {st:St}{d:Nat}{v:AV}{i:Nat}{x:AV}(h:(st.put d v).get i=some x):(i=d/\x=v)\/(i≠d/\st.get i=some x):=by
 unfold St.put at h;split at h
 ·rename_i hd;simp only[St.get,ME] at h;by_cases hi:i=d
  ·subst hi;obtain⟨y,hy⟩:=Option.isSome_iff_exists.1 hd;simp[hy] at h;exact .inl ⟨rfl,h.symm⟩
  ·simp only[hi,pj] at h;exact .inr ⟨hi,h⟩
 ·rename_i hd
  have hn:aB st.V d=none:=by cases hv:aB st.V d with
   |none=>rfl
   |some y=>rw[hv] at hd;simp at hd
  simp only[St.get,aB] at h;by_cases hi:d=i
  ·subst hi;simp[hn] at h;exact .inl ⟨rfl,h.symm⟩
  ·simp only[hi,pj] at h;exact .inr ⟨fun e=>hi e.symm,h⟩
theorem St.jC (st:St)(s:Nat)(x:Slot)(i:Nat):(st.bM s x).slot i=if i=s/\(aB st.S i).isSome=true then x else st.slot i:=by
 unfold St.slot St.bM;simp only[ME];by_cases hi:i=s
 ·subst hi;cases h:aB st.S i<;>simp
 ·simp[hi]
def yp:Value->Bool
 | .int _ _=>true
 | .bool _=>true
 | .string _=>true
 | .slice none 0 0=>true
 | .func _ a b=>a.isEmpty && b.isEmpty
 |_=>false
theorem alI {x:Value}(h:yp x=true):x.oneCell'=true:=by cases x<;>first|rfl|cases h
inductive IR (w:World)(A:Nat->Prop):AC->Value->Prop where
 |v (x:Value) (h:yp x=true):IR w A (.v x) x
 |sl (k:Nat) (es:List (List AC)) (a:Option Addr) (c:Nat) (u:Nat->Nat->Value) (hn:es.length<=c) (hm:es.length<=9223372036854775807) (hk:∀(i:Nat) (row:List AC),es[i]? =some row->row.length=k)
   (hc:∀(i:Nat) (row:List AC) (j:Nat) (x:AC),es[i]? =some row->row[j]? =some x->IR w A x (u i j))
   (hl:∀(i:Nat) (row:List AC) (j:Nat),es[i]? =some row->j<row.length->∃b o,a=some ⟨b,o,none⟩/\¬A b/\w.cell? ⟨b,o+i*k+j,none⟩=some (u i j)):IR w A (.sl es) (.slice a es.length c)
 |dX (f:FuncId) (bK:List (List AC)) (at_:Nat->Nat×Nat) (u:Nat->Nat->Value)
   (hc:∀(i:Nat) (row:List AC) (j:Nat) (x:AC),bK[i]? =some row->row[j]? =some x->IR w A x (u i j))
   (hl:∀(i:Nat) (row:List AC),bK[i]? =some row->(at_ i).1<w.heap.size/\¬A (at_ i).1/\∀j,j<row.length->w.cell? ⟨(at_ i).1,(at_ i).2+j,none⟩=some (u i j)):
   IR w A (.dX f bK) (.func (.func f) #[] ((List.range bK.length).map fun i=> .pointer (some ⟨(at_ i).1,(at_ i).2,none⟩)).toArray)
theorem IR.one {w:World}{A:Nat->Prop}{x:AC}{v:Value}(h:IR w A x v):v.oneCell'=true:=by
 cases h with
 |v x h=>exact alI h
 |sl=>rfl
 |dX=>rfl
theorem IR.mono {w w':World}{A A':Nat->Prop}{x:AC}{v:Value}(h:IR w A x v)(hz:w.heap.size<=w'.heap.size)(hA:∀b,b<w.heap.size->A' b->A b)(hw:∀b,b<w.heap.size->¬A b->w'.heap[b]? =w.heap[b]?):IR w' A' x v:=by
 induction h with
 |v x h=>exact .v x h
 |sl k es a c u hn hm hk hc hl ih=>
  refine .sl k es a c u hn hm hk (fun i row j x h1 h2=>ih i row j x h1 h2) (fun i row j h1 h2=> ?_);obtain⟨b,o,ha,hb,hcell⟩:=hl i row j h1 h2;have hlt:=ic _ _ hcell;exact⟨b,o,ha,fun h=>hb (hA b hlt h),by rw[Bh (hw b hlt hb)];exact hcell⟩
 |dX f bK at_ u hc hl ih=>
  refine .dX f bK at_ u (fun i row j x h1 h2=>ih i row j x h1 h2) (fun i row h1=> ?_);obtain⟨hlt,hb,hcell⟩:=hl i row h1;exact⟨jm hlt hz,fun h=>hb (hA _ hlt h),fun j hj=>by rw[Bh (hw _ hlt hb)];exact hcell j hj⟩
def CR (w:World)(A:Nat->Prop)(S:Nat->Slot)(G:Nat->Gh)(H:Nat->Value):AC->Value->Prop
 | .own s g,u=>u.oneCell'=true/\g<=(S s).gen/\∀e k es,S s=.row e k g es->u=H s
 | .ct s g,u=>u.oneCell'=true/\g<=(S s).gen/\∀K,S s=.obj g K->u=H s
 | .part s g i,u=>u.oneCell'=true/\g<=(S s).gen/\∀K,S s=.obj g K->(G s).hs[i]? =some u
 | .cls f bK,u=>∃ps:List Value,u=.func (.func f) #[] ps.toArray/\ps.length=bK.length/\∀(i:Nat) (q:Nat×Nat) (p:Value),bK[i]? =some q->ps[i]? =some p->q.2<=(S q.1).gen/\∀cs,S q.1=.box q.2 cs->p=.pointer (some ⟨(G q.1).b,0,none⟩)
 | .v x,u=>IR w A (.v x) u
 | .sl es,u=>IR w A (.sl es) u
 | .dX f bK,u=>IR w A (.dX f bK) u
def bT (w:World)(A:Nat->Prop)(S:Nat->Slot)(G:Nat->Gh)(H:Nat->Value)(cs:List AC)(arr:List Value):Prop:=arr.length=cs.length/\∀(j:Nat) (x:AC) (u:Value),cs[j]? =some x->arr[j]? =some u->CR w A S G H x u
def WR (w:World)(A:Nat->Prop)(S:Nat->Slot)(G:Nat->Gh)(H:Nat->Value):AW->Value->Prop
 | .c x,v=>CR w A S G H x v
 | .agg cs,v=>∃arr:List Value,v=.agg arr.toArray/\bT w A S G H cs arr
def VR (w:World)(A:Nat->Prop)(S:Nat->Slot)(G:Nat->Gh)(H:Nat->Value):AV->Value->Prop
 | .w x,v=>WR w A S G H x v
 | .bQ vs,v=>∃arr:List Value,v=.tuple arr.toArray/\arr.length=vs.length/\∀(j:Nat) (x:AW) (u:Value),vs[j]? =some x->arr[j]? =some u->WR w A S G H x u
 | .pb s g off,v=>g<=(S s).gen/\∀cs,S s=.box g cs->v=.pointer (some ⟨(G s).b,off,none⟩)
 | .pr s g i off,v=>g<=(S s).gen/\∀e k es,S s=.row e k g es->∃b n c,H s=.slice (some ⟨b,0,none⟩) n c/\v=.pointer (some ⟨b,i*k+off,none⟩)
 | .pi cs off,v=>∃b o,v=.pointer (some ⟨b,o+off,none⟩)/\b<w.heap.size/\¬A b/\∃us:List Value,us.length=cs.length/\∀(j:Nat) (x:AC) (u:Value),cs[j]? =some x->us[j]? =some u->IR w A x u/\w.cell? ⟨b,o+j,none⟩=some u
 | .u,_=>True
theorem CR.one {w:World}{A:Nat->Prop}{S:Nat->Slot}{G:Nat->Gh}{H:Nat->Value}{x:AC}{v:Value}(h:CR w A S G H x v):v.oneCell'=true:=by
 cases x with
 |own s g=>exact h.1
 |ct s g=>exact h.1
 |part s g i=>exact h.1
 |cls f bK=>obtain⟨ps,rfl,_⟩:=h;rfl
 |v x=>exact IR.one h
 |sl es=>exact IR.one h
 |dX f bK=>exact IR.one h
structure Mv (w w':World)(A A':Nat->Prop)(S S':Nat->Slot)(G G':Nat->Gh)(H H':Nat->Value):Prop where
 size:w.heap.size<=w'.heap.size
 off:∀b,b<w.heap.size->A' b->A b
 kept:∀b,b<w.heap.size->¬A b->w'.heap[b]? =w.heap[b]?
 gen:∀s,(S s).gen<=(S' s).gen
 row:∀s e k g es,S' s=.row e k g es->g<=(S s).gen->(∃es,S s=.row e k g es)/\H' s=H s
 box:∀s g cs,S' s=.box g cs->g<=(S s).gen->(∃cs,S s=.box g cs)/\G' s=G s
 obj:∀s g K,S' s=.obj g K->g<=(S s).gen->(∃K,S s=.obj g K)/\G' s=G s/\H' s=H s
section
variable {w w':World} {A A':Nat->Prop} {S S':Nat->Slot} {G G':Nat->Gh} {H H':Nat->Value} (m:Mv w w' A A' S S' G G' H H')
include m
theorem IR.mv {x:AC}{v:Value}(h:IR w A x v):IR w' A' x v:=h.mono m.size m.off m.kept
theorem CR.mv {x:AC}{v:Value}(h:CR w A S G H x v):CR w' A' S' G' H' x v:=by
 cases x with
 |own s g=>
  obtain⟨h1,h2,h3⟩:=h;refine⟨h1,Nat.le_trans h2 (m.gen s),fun e k es hs=> ?_⟩;obtain⟨⟨EH,e1⟩,e2⟩:=m.row s e k g es hs h2;rw[e2];exact h3 e k EH e1
 |ct s g=>
  obtain⟨h1,h2,h3⟩:=h;refine⟨h1,Nat.le_trans h2 (m.gen s),fun K hs=> ?_⟩;obtain⟨⟨K0,e1⟩,_,e2⟩:=m.obj s g K hs h2;rw[e2];exact h3 K0 e1
 |part s g i=>
  obtain⟨h1,h2,h3⟩:=h;refine⟨h1,Nat.le_trans h2 (m.gen s),fun K hs=> ?_⟩;obtain⟨⟨K0,e1⟩,e2,_⟩:=m.obj s g K hs h2;rw[e2];exact h3 K0 e1
 |cls f bK=>
  obtain⟨ps,h1,h2,h3⟩:=h;refine⟨ps,h1,h2,fun i q p e1 e2=> ?_⟩;obtain⟨h4,h5⟩:=h3 i q p e1 e2;refine⟨Nat.le_trans h4 (m.gen q.1),fun cs hs=> ?_⟩;obtain⟨⟨c0,g1⟩,g2⟩:=m.box q.1 q.2 cs hs h4;rw[g2];exact h5 c0 g1
 |v x=>exact IR.mv m h
 |sl es=>exact IR.mv m h
 |dX f bK=>exact IR.mv m h
theorem bT.mv {cs:List AC}{arr:List Value}(h:bT w A S G H cs arr):bT w' A' S' G' H' cs arr:=⟨h.1,fun j x u h1 h2=>(h.2 j x u h1 h2).mv m⟩
theorem WR.mv {x:AW}{v:Value}(h:WR w A S G H x v):WR w' A' S' G' H' x v:=by
 cases x with
 |c x=>exact CR.mv m h
 |agg cs=>
  obtain⟨arr,e,h⟩:=h;exact⟨arr,e,bT.mv m h⟩
theorem VR.mv {x:AV}{v:Value}(h:VR w A S G H x v):VR w' A' S' G' H' x v:=by
 cases x with
 |w x=>exact WR.mv m h
 |bQ vs=>
  obtain⟨arr,e,hl,h⟩:=h;exact⟨arr,e,hl,fun j x u h1 h2=>(h j x u h1 h2).mv m⟩
 |pb s g off=>
  obtain⟨h1,h2⟩:=h;refine⟨Nat.le_trans h1 (m.gen s),fun cs hs=> ?_⟩;obtain⟨⟨c0,e1⟩,e2⟩:=m.box s g cs hs h1;rw[e2];exact h2 c0 e1
 |pr s g i off=>
  obtain⟨h1,h2⟩:=h;refine⟨Nat.le_trans h1 (m.gen s),fun e k es hs=> ?_⟩;obtain⟨⟨c0,e1⟩,e2⟩:=m.row s e k g es hs h1;rw[e2];exact h2 e k c0 e1
 |pi cs off=>
  obtain⟨b,o,e,hlt,hb,us,hl,h⟩:=h;refine⟨b,o,e,jm hlt m.size,fun hh=>hb (m.off b hlt hh),us,hl,fun j x u h1 h2=> ?_⟩;obtain⟨e1,e2⟩:=h j x u h1 h2;exact⟨IR.mv m e1,by rw[Bh (m.kept b hlt hb)];exact e2⟩
 |u=>trivial
end
structure Fr (F:Nat->Prop)(w0 w:World):Prop where
 os:w.os=w0.os
 tape:w.tape=w0.tape
 out:w.output=w0.output
 size:w0.heap.size<=w.heap.size
 block:∀b,F b->w.heap[b]? =w0.heap[b]?
def bj (S:Nat->Slot)(G:Nat->Gh)(H:Nat->Value)(s b:Nat):Prop:=(∃g cs,S s=.box g cs/\b=(G s).b)\/(∃e k g es,S s=.row e k g es/\(H s).ownBlock=some b)\/(∃g K,S s=.obj g K/\b∈(G s).fp)
def aW (M:Nat->Prop)(S:Nat->Slot)(G:Nat->Gh)(H:Nat->Value)(b:Nat):Prop:=M b\/∃s,bj S G H s b
def mz (w:World)(A:Nat->Prop)(k:Nat)(es:List (List AC))(xs:List Value):Prop:=
 (∀(i:Nat) (row:List AC),es[i]? =some row->row.length=k)/\∀(i:Nat) (row:List AC) (j:Nat) (x:AC) (u:Value),es[i]? =some row->row[j]? =some x->xs[i*k+j]? =some u->IR w A x u
structure iy where
 w:World
 S:Nat->Slot
 G:Nat->Gh
 H:Nat->Value
structure IU (w0:iy)(S:Nat->Slot)(G:Nat->Gh)(H:Nat->Value):Prop where
 gen:∀s,(w0.S s).gen<=(S s).gen
 row:∀s e k g es,S s=.row e k g es->g<=(w0.S s).gen->(∃es,w0.S s=.row e k g es)/\H s=w0.H s
 box:∀s g cs,S s=.box g cs->g<=(w0.S s).gen->(∃cs,w0.S s=.box g cs)/\G s=w0.G s
 obj:∀s g K,S s=.obj g K->g<=(w0.S s).gen->(∃K,w0.S s=.obj g K)/\G s=w0.G s/\H s=w0.H s
structure Rel (N:Nat)(F M:Nat->Prop)(w0:iy)(st:St)(G:Nat->Gh)(H:Nat->Value)(a:Act)(w:World):Prop where
 sz:a.tmps.size=N
 df:a.defers=[]
 fr:Fr F w0.w w
 hs:IU w0 st.slot G H
 lo:∀b,F b\/M b->b<w0.w.heap.size
 tm:∀i x,st.get i=some x->VR w (aW M st.slot G H) st.slot G H x (a.tmps.getD i undef)
 bx:∀s g cs,st.slot s=.box g cs->¬F (G s).b/\¬M (G s).b/\∃arr:List Value,az w (G s).b arr.toArray/\bT w (aW M st.slot G H) st.slot G H cs arr
 rw:∀s e k g es,st.slot s=.row e k g es->(∀b,(H s).ownBlock=some b->¬F b/\¬M b)/\∃xs,w.ownsRow 0 e k (H s) es.length xs/\mz w (aW M st.slot G H) k es xs
 ob:∀s g K,st.slot s=.obj g K->(∀b∈(G s).fp,¬F b/\¬M b)/\K.rep w (aW M st.slot G H) (H s) (G s)
 dj:∀s s' b,bj st.slot G H s b->bj st.slot G H s' b->s=s'
end Ab
namespace Ab
open Go Go.RowKit
theorem Act.alJ {a:Act}{d:Nat}{v:Value}(hd:d<a.tmps.size)(i:Nat):(a.put (some d) v).tmps.getD i undef=if i=d then v else a.tmps.getD i undef:=by
 simp only[Act.put,DN];by_cases h:i=d
 ·subst h;simp[qq hd]
 ·simp[h,oY (Ne.symm h)]
section
variable {N:Nat} {F M:Nat->Prop} {w0:iy} {w:World} {st:St} {G:Nat->Gh} {H:Nat->Value} {a:Act}
theorem Rel.put (h:Rel N F M w0 st G H a w){d:Nat}(hd:d<N){x:AV}{v:Value}(hv:VR w (aW M st.slot G H) st.slot G H x v):Rel N F M w0 (st.put d x) G H (a.put (some d) v) w:=by
 have hS:(st.put d x).S=st.S:=by unfold St.put;split<;>rfl
 have hs:(st.put d x).slot=st.slot:=by funext i;unfold St.slot;rw[hS]
 refine⟨by simpa [Act.put] using h.sz,h.df,h.fr,by rw[hs];exact h.hs,h.lo,?_,by rw[hs];exact h.bx,by rw[hs];exact h.rw,by rw[hs];exact h.ob,by rw[hs];exact h.dj⟩;intro i y hy;rw[hs,Act.alJ (by rw[h.sz];exact hd)]
 rcases St.alH hy with⟨h1,h2⟩|⟨h1,h2⟩
 ·rw[if_pos h1,h2];exact hv
 ·rw[if_neg h1];exact h.tm i y h2
theorem Rel.nD (h:Rel N F M w0 st G H a w){s b:Nat}(hl:bj st.slot G H s b):b<w.heap.size/\¬F b/\¬M b:=by
 rcases hl with⟨g,cs,h1,rfl⟩|⟨e,k,g,es,h1,h2⟩|⟨g,K,h1,h2⟩
 ·obtain⟨e1,e2,arr,e3,_⟩:=h.bx s g cs h1;exact⟨e3.lt,e1,e2⟩
 ·obtain⟨e1,xs,e3,_⟩:=h.rw s e k g es h1;exact⟨(e3.lt b h2).2,e1 b h2⟩
 ·obtain⟨e1,e2⟩:=h.ob s g K h1;exact⟨K.lt e2 b h2,e1 b h2⟩
theorem Rel.IV (h:Rel N F M w0 st G H a w)(s:Nat)(x:Slot)(hs:(aB st.S s).isSome=true){G':Nat->Gh}{H':Nat->Value}{w':World}(hG:∀i,i≠s->G' i=G i)(hH:∀i,i≠s->H' i=H i)
  (ho:w'.os=w.os) (ht:w'.tape=w.tape) (EI:w'.output=w.output) (hz:w.heap.size<=w'.heap.size) (hb:∀b,b<w.heap.size->¬bj st.slot G H s b->w'.heap[b]? =w.heap[b]?)
  (pQ:∀b,bj (st.bM s x).slot G' H' s b->bj st.slot G H s b\/w.heap.size<=b) (lF:(st.slot s).gen<=x.gen)
  (bD:∀e k g es,x=.row e k g es->g<=(st.slot s).gen->(∃es,st.slot s=.row e k g es)/\H' s=H s) (iY:∀g cs,x=.box g cs->g<=(st.slot s).gen->(∃cs,st.slot s=.box g cs)/\G' s=G s)
  (pR:∀g K,x=.obj g K->g<=(st.slot s).gen->(∃K,st.slot s=.obj g K)/\G' s=G s/\H' s=H s)
  (ya:Mv w w' (aW M st.slot G H) (aW M (st.bM s x).slot G' H') st.slot (st.bM s x).slot G G' H H'->∀g cs,x=.box g cs->∃arr:List Value,az w' (G' s).b arr.toArray/\bT w' (aW M (st.bM s x).slot G' H') (st.bM s x).slot G' H' cs arr)
  (EJ:Mv w w' (aW M st.slot G H) (aW M (st.bM s x).slot G' H') st.slot (st.bM s x).slot G G' H H'->∀e k g es,x=.row e k g es->∃xs,w'.ownsRow 0 e k (H' s) es.length xs/\mz w' (aW M (st.bM s x).slot G' H') k es xs)
  (mh:Mv w w' (aW M st.slot G H) (aW M (st.bM s x).slot G' H') st.slot (st.bM s x).slot G G' H H'->∀g K,x=.obj g K->K.rep w' (aW M (st.bM s x).slot G' H') (H' s) (G' s)):
  Rel N F M w0 (st.bM s x) G' H' a w':=by
 have e1:(st.bM s x).slot s=x:=by rw[St.jC,if_pos ⟨rfl,hs⟩]
 have e2:∀i,i≠s->(st.bM s x).slot i=st.slot i:=fun i hi=>by rw[St.jC,if_neg (fun hh=>hi hh.1)]
 have jP:∀i b,i≠s->(bj (st.bM s x).slot G' H' i b↔bj st.slot G H i b):=fun i b hi=>by unfold bj;rw[e2 i hi,hG i hi,hH i hi]
 have m:Mv w w' (aW M st.slot G H) (aW M (st.bM s x).slot G' H') st.slot (st.bM s x).slot G G' H H':=by
  refine⟨hz,fun b hlt wL=> ?_,fun b hlt wL=>hb b hlt (fun hl=>wL (.inr ⟨s,hl⟩)),fun i=> ?_,fun i e k g es h1 h2=> ?_,fun i g cs h1 h2=> ?_,fun i g K h1 h2=> ?_⟩
  ·rcases wL with hm|⟨i,hl⟩
   ·exact .inl hm
   ·by_cases hi:i=s
    ·subst hi
     rcases pQ b hl with h1|h1
     ·exact .inr ⟨i,h1⟩
     ·omega
    ·exact .inr ⟨i,(jP i b hi).1 hl⟩
  ·by_cases hi:i=s
   ·subst hi;rw[e1];exact lF
   ·rw[e2 i hi];exact di _
  ·by_cases hi:i=s
   ·subst hi;rw[e1] at h1;exact bD e k g es h1 h2
   ·rw[e2 i hi] at h1;exact⟨⟨es,h1⟩,hH i hi⟩
  ·by_cases hi:i=s
   ·subst hi;rw[e1] at h1;exact iY g cs h1 h2
   ·rw[e2 i hi] at h1;exact⟨⟨cs,h1⟩,hG i hi⟩
  ·by_cases hi:i=s
   ·subst hi;rw[e1] at h1;exact pR g K h1 h2
   ·rw[e2 i hi] at h1;exact⟨⟨K,h1⟩,hG i hi,hH i hi⟩
 have lG:∀i,(st.bM s x).get i=st.get i:=fun _=>rfl
 have hF:∀b,bj (st.bM s x).slot G' H' s b->¬F b/\¬M b:=fun b hl=>by
  rcases pQ b hl with h1|h1
  ·exact(h.nD h1).2
  ·have:=h.fr.size;exact⟨fun hf=>by have:=h.lo b (.inl hf);omega,fun hf=>by have:=h.lo b (.inr hf);omega⟩
 refine⟨h.sz,h.df,⟨ho.trans h.fr.os,ht.trans h.fr.tape,EI.trans h.fr.out,Nat.le_trans h.fr.size hz,fun b hf=> ?_⟩,⟨fun i=>Nat.le_trans (h.hs.gen i) (m.gen i),fun i e k g es h1 h2=> ?_,fun i g cs h1 h2=> ?_,fun i g K h1 h2=> ?_⟩,h.lo,fun i y hy=>VR.mv m (h.tm i y (by rw[<-lG];exact hy)),fun i g cs hi=> ?_,fun i e k g es hi=> ?_,fun i g K hi=> ?_,fun i j b h1 h2=> ?_⟩
 ·have hlt:=h.lo b (.inl hf);rw[hb b (jm hlt h.fr.size) (fun hl=>(h.nD hl).2.1 hf)];exact h.fr.block b hf
 ·obtain⟨⟨EH,e5⟩,e6⟩:=m.row i e k g es h1 (Nat.le_trans h2 (h.hs.gen i));rw[e6];exact h.hs.row i e k g EH e5 h2
 ·obtain⟨⟨c0,e5⟩,e6⟩:=m.box i g cs h1 (Nat.le_trans h2 (h.hs.gen i));rw[e6];exact h.hs.box i g c0 e5 h2
 ·obtain⟨⟨c0,e5⟩,e6,e7⟩:=m.obj i g K h1 (Nat.le_trans h2 (h.hs.gen i));rw[e6,e7];exact h.hs.obj i g c0 e5 h2
 ·by_cases cY:i=s
  ·subst cY;rw[e1] at hi;have:=hF (G' i).b (.inl ⟨g,cs,by rw[e1];exact hi,rfl⟩);exact⟨this.1,this.2,ya m g cs hi⟩
  ·rw[e2 i cY] at hi;obtain⟨f1,f2,arr,f3,f4⟩:=h.bx i g cs hi;rw[hG i cY];refine⟨f1,f2,arr,?_,bT.mv m f4⟩;obtain⟨t,ht⟩:=f3;refine⟨t,?_⟩;rw[hb (G i).b (az.lt ⟨t,ht⟩) (fun hl=>cY (h.dj i s (G i).b (.inl ⟨g,cs,hi,rfl⟩) hl))];exact ht
 ·by_cases cY:i=s
  ·subst cY;rw[e1] at hi;exact⟨fun b EK=>hF b (.inr (.inl ⟨e,k,g,es,by rw[e1];exact hi,EK⟩)),EJ m e k g es hi⟩
  ·rw[e2 i cY] at hi;obtain⟨f1,xs,f3,f4,f5⟩:=h.rw i e k g es hi;rw[hH i cY];refine⟨f1,xs,?_,f4,fun i' row j y u g1 g2 g3=>IR.mv m (f5 i' row j y u g1 g2 g3)⟩;obtain⟨q1,q2⟩:=f3;refine⟨q1,?_⟩
   rcases q2 with q2|⟨gg,cap,cur,q3,q4,q5,q6⟩
   ·exact .inl q2
   ·refine .inr ⟨gg,cap,cur,q3,q4,?_,q6⟩;have hl:bj st.slot G H i gg:=.inr (.inl ⟨e,k,g,es,hi,by rw[q3];rfl⟩);rw[hb gg (h.nD hl).1 (fun iK=>cY (h.dj i s gg hl iK))];exact q5
 ·by_cases cY:i=s
  ·subst cY;rw[e1] at hi;exact⟨fun b EK=>hF b (.inr (.inr ⟨g,K,by rw[e1];exact hi,EK⟩)),mh m g K hi⟩
  ·rw[e2 i cY] at hi;obtain⟨f1,f2⟩:=h.ob i g K hi;rw[hH i cY,hG i cY];refine⟨f1,K.mono f2 m.size m.off (fun b hlt zM=> ?_)⟩
   rcases zM with zM|zM
   ·exact hb b hlt (fun iK=>cY (h.dj i s b (.inr (.inr ⟨g,K,hi,zM⟩)) iK))
   ·exact m.kept b hlt zM
 ·by_cases cY:i=s
  ·by_cases Cl:j=s
   ·rw[cY,Cl]
   ·rw[cY] at h1;have XQ:=(jP j b Cl).1 h2
    rcases pQ b h1 with h3|h3
    ·exact absurd (h.dj s j b h3 XQ) (fun e=>Cl e.symm)
    ·have:=(h.nD XQ).1;omega
  ·have rL:=(jP i b cY).1 h1;by_cases Cl:j=s
   ·rw[Cl] at h2
    rcases pQ b h2 with h3|h3
    ·exact absurd (h.dj i s b rL h3) cY
    ·have:=(h.nD rL).1;omega
   ·exact h.dj i j b rL ((jP j b Cl).1 h2)
theorem Rel.grow (h:Rel N F M w0 st G H a w){w':World}(ho:w'.os=w.os)(ht:w'.tape=w.tape)(EI:w'.output=w.output)(hz:w.heap.size<=w'.heap.size)(hb:∀b,b<w.heap.size->w'.heap[b]? =w.heap[b]?):Rel N F M w0 st G H a w':=by
 have m:Mv w w' (aW M st.slot G H) (aW M st.slot G H) st.slot st.slot G G H H:=
  ⟨hz,fun _ _ h=>h,fun b hlt _=>hb b hlt,fun _=>di _,fun s e k g es h1 _=>⟨⟨es,h1⟩,rfl⟩,fun s g cs h1 _=>⟨⟨cs,h1⟩,rfl⟩,fun s g K h1 _=>⟨⟨K,h1⟩,rfl,rfl⟩⟩
 refine⟨h.sz,h.df,⟨ho.trans h.fr.os,ht.trans h.fr.tape,EI.trans h.fr.out,Nat.le_trans h.fr.size hz,fun b hf=> ?_⟩,h.hs,h.lo,fun i y hy=>VR.mv m (h.tm i y hy),fun i g cs hi=> ?_,fun i e k g es hi=> ?_,fun i g K hi=> ?_,h.dj⟩
 ·rw[hb b (jm (h.lo b (.inl hf)) h.fr.size)];exact h.fr.block b hf
 ·obtain⟨f1,f2,arr,f3,f4⟩:=h.bx i g cs hi;refine⟨f1,f2,arr,?_,bT.mv m f4⟩;obtain⟨t,ht⟩:=f3;exact⟨t,by rw[hb _ (az.lt ⟨t,ht⟩)];exact ht⟩
 ·obtain⟨f1,xs,f3,f4,f5⟩:=h.rw i e k g es hi;refine⟨f1,xs,?_,f4,fun i' row j y u g1 g2 g3=>IR.mv m (f5 i' row j y u g1 g2 g3)⟩;obtain⟨q1,q2⟩:=f3;refine⟨q1,?_⟩
  rcases q2 with q2|⟨gg,cap,cur,q3,q4,q5,q6⟩
  ·exact .inl q2
  ·have hl:bj st.slot G H i gg:=.inr (.inl ⟨e,k,g,es,hi,by rw[q3];rfl⟩);exact .inr ⟨gg,cap,cur,q3,q4,by rw[hb gg (h.nD hl).1];exact q5,q6⟩
 ·obtain⟨f1,f2⟩:=h.ob i g K hi;exact⟨f1,K.mono f2 hz (fun _ _ h=>h) (fun b hlt _=>hb b hlt)⟩
def cq (U:List Nat)(S:Nat->Slot)(G:Nat->Gh)(H:Nat->Value)(w w':World):Prop:=∀b,b<w.heap.size->(∀s∈U,¬bj S G H s b)->w'.heap[b]? =w.heap[b]?
def sy (U:Option (List Nat))(s:Nat):Prop:=match U with
 |none=>True
 |some l=>s∈l
def yq (U:Option (List Nat))(S:Nat->Slot)(G:Nat->Gh)(H:Nat->Value)(w:World)(S':Nat->Slot)(G':Nat->Gh)(H':Nat->Value)(w':World):Prop:=
 w.heap.size<=w'.heap.size/\∀l,U=some l->cq l S G H w w'/\∀s∈l,∀b,b<w.heap.size->bj S' G' H' s b->∃s0∈l,bj S G H s0 b
theorem EL {U:Option (List Nat)}{S:Nat->Slot}{w':World}(hz:w.heap.size<=w'.heap.size)(hb:∀b,b<w.heap.size->w'.heap[b]? =w.heap[b]?):yq U S G H w S G H w':=⟨hz,fun _ _=>⟨fun b hlt _=>hb b hlt,fun s hs _ _ h=>⟨s,hs,h⟩⟩⟩
theorem IW {U:Option (List Nat)}(s:Nat)(x:Slot){G':Nat->Gh}{H':Nat->Value}{w':World}(hG:∀i,i≠s->G' i=G i)(hH:∀i,i≠s->H' i=H i)(hz:w.heap.size<=w'.heap.size)(hb:∀b,b<w.heap.size->¬bj st.slot G H s b->w'.heap[b]? =w.heap[b]?)
  (pQ:∀b,bj (st.bM s x).slot G' H' s b->bj st.slot G H s b\/w.heap.size<=b) (hU:sy U s\/∀b,b<w.heap.size->w'.heap[b]? =w.heap[b]?):yq U st.slot G H w (st.bM s x).slot G' H' w':=by
 refine⟨hz,fun l hl=> ?_⟩;subst hl;refine⟨fun b hlt hn=> ?_,fun i hi b hlt jP=> ?_⟩
 ·rcases hU with hU|hU
  ·exact hb b hlt (hn s hU)
  ·exact hU b hlt
 ·by_cases cY:i=s
  ·subst cY
   rcases pQ b jP with h1|h1
   ·exact⟨i,hi,h1⟩
   ·omega
  ·refine⟨i,hi,?_⟩;unfold bj at jP⊢;rw[St.jC,if_neg (fun hh=>cY hh.1),hG i cY,hH i cY] at jP;exact jP
end
end Ab
namespace Ab
open Go Go.RowKit
inductive aw where
 |t (i:Nat)
 |k (x:AW)
inductive ROp where
 |mv (x:aw)
 |bin (op:BinOp) (x y:aw)
 |un (op:UnOp) (x:aw)
 |pick (c x y:aw)
 |len (x:aw)
 |mm (mx:Bool) (x y:aw)
 |sB (p:aw)
 |yr (n:Nat) (p:aw)
 |tT (p:aw) (off:Nat)
 |idx (k:Nat) (x i:aw)
 |yt (n k:Nat) (p i:aw)
 |nE (k:Nat) (x:aw) (lo hi:Option aw)
 |ext (x:aw) (i:Nat)
 |yu (x i:aw)
 |yv (zero:List Value) (parts:List (Nat×Nat×aw))
def St.arg (st:St):aw->Option AV
 | .t i=>st.get i
 | .k x=>some (.w x)
def zN:Option AV->Option Value
 |some (.w (.c (.v x)))=>some x
 |_=>none
def St.sc (st:St)(x:aw):Option Value:=zN (st.arg x)
def aY (op:BinOp):Value->Value->Option Value
 | .int k a,.int k' b=>if k=k' then match op with
   | .add=>if k.wrap (a+b)=a+b then some (.int k (a+b)) else none
   | .sub=>if k.wrap (a-b)=a-b then some (.int k (a-b)) else none
   | .mul=>if k.wrap (a*b)=a*b then some (.int k (a*b)) else none
   | .quo=>if b≠0/\k.wrap (a.tdiv b)=a.tdiv b then some (.int k (a.tdiv b)) else none
   | .rem=>if b≠0 then some (.int k (a.tmod b)) else none
   | .eql=>some (.bool (decide (a=b)))
   | .neq=>some (.bool (decide (a≠b)))
   | .lss=>some (.bool (decide (a<b)))
   | .leq=>some (.bool (decide (a<=b)))
   | .gtr=>some (.bool (decide (b<a)))
   | .geq=>some (.bool (decide (b<=a)))
   |_=>none
  else none
 | .string a,.string b=>match op with
   | .eql=>some (.bool (a.toList==b.toList))
   | .neq=>some (.bool (!(a.toList==b.toList)))
   |_=>none
 |_,_=>none
def zO (op:UnOp):Value->Option Value
 | .int k a=>match op with
   | .neg=>if k.wrap (0-a)= -a then some (.int k (-a)) else none
   |_=>none
 | .bool b=>match op with
   | .not=>some (.bool !b)
   |_=>none
 |_=>none
def zP (mx:Bool):Value->Value->Option Value
 | .int k a,.int k' b=>if k=k' then some (.int k (if mx then max a b else min a b)) else none
 |_,_=>none
def St.rows (st:St)(U:List Nat):Option AV->Option (List (List AC))
 |some (.w (.c (.sl es)))=>some es
 |some (.w (.c (.own s g)))=>match st.slot s with
  | .row _ _ g' es=>if g=g'/\s∉U then some es else none
  |_=>none
 |_=>none
def St.cells (st:St)(U:List Nat)(n:Nat):Option AV->Option (List AC)
 |some (.pb s g off)=>match st.slot s with
  | .box g' cs=>if g=g'/\s∉U/\off+n<=cs.length then some ((cs.drop off).take n) else none
  |_=>none
 |some (.pr s g i off)=>match st.slot s with
  | .row _ _ g' es=>if g=g'/\s∉U then match es[i]? with
    |some row=>if off+n<=row.length then some ((row.drop off).take n) else none
    |none=>none
   else none
  |_=>none
 |some (.pi cs off)=>if off+n<=cs.length then some ((cs.drop off).take n) else none
 |_=>none
section
variable {P:Program} {N:Nat} {F M:Nat->Prop} {w0:iy} {w:World} {st:St} {G:Nat->Gh} {H:Nat->Value} {a:Act}
def cJ (x:Operand)(y:aw):Prop:=match y with
 | .t i=>x=.tmp i
 | .k (.c (.v v))=>x=.const v/\yp v=true
 | .k (.c (.sl []))=>x=.const (.slice none 0 0)
 |_=>False
theorem Rel.arg (h:Rel N F M w0 st G H a w){x:Operand}{y:aw}(eV:cJ x y){v:AV}(hv:st.arg y=some v):VR w (aW M st.slot G H) st.slot G H v (a.eval x):=by
 cases y with
 |t i=>
  have hx:x=.tmp i:=eV;subst hx;exact h.tm i v hv
 |k q=>
  simp only[St.arg,ar] at hv;subst hv
  cases q with
  |c c=>
   cases c with
   |v u=>
    obtain⟨h1,h2⟩:=eV;subst h1;exact IR.v u h2
   |sl es=>
    cases es with
    |nil=>
     have hx:x=.const (.slice none 0 0):=eV;subst hx;exact IR.sl 0 [] none 0 (fun _ _=>undef) av ae (by intro i row h;simp at h) (by intro i row j x h;simp at h) (by intro i row j h;simp at h)
    |cons e es=>exact eV.elim
   |own s g=>exact eV.elim
   |ct s g=>exact eV.elim
   |part s g i=>exact eV.elim
   |dX f bK=>exact eV.elim
   |cls f bK=>exact eV.elim
  |agg cs=>exact eV.elim
theorem Rel.sc (h:Rel N F M w0 st G H a w){x:Operand}{y:aw}(eV:cJ x y){v:Value}(hv:st.sc y=some v):a.eval x=v/\yp v=true:=by
 unfold St.sc zN at hv;split at hv
 ·rename_i u hu;simp only[ar] at hv;subst hv;have:=h.arg eV hu
  cases this with
  |v _ h=>exact⟨rfl,h⟩
 ·cases hv
def gX (P:Program)(mem:Bool)(o:Oper)(ev:St->List Nat->Option AV):Prop:=
 ∀(N:Nat) (F M:Nat->Prop) (w0:iy) (w:World) (st:St) (G:Nat->Gh) (H:Nat->Value) (a:Act) (U:List Nat) (x:AV),Rel N F M w0 st G H a w->ev st U=some x->
  ∃v,VR w (aW M st.slot G H) st.slot G H x v/\∀w',(mem=true->cq U st.slot G H w w')->(execOp a.eval o).run P w'=.ok (.value v) w'
theorem alK {o:Oper}{x:Operand}{y:aw}(ho:o.op=.move x\/o.op=.assign x)(eV:cJ x y):gX P false o (fun st _=>st.arg y):=by
 intro N F M w0 w st G H a U r h hr;refine⟨a.eval x,h.arg eV hr,fun w' _=> ?_⟩;unfold execOp
 rcases ho with ho|ho<;>simp[ho]
theorem alL {o:Oper}{op:BinOp}{t t':TypeId}{x x':Operand}{y y':aw}(ho:o.op=.binOp op t x x' t')(hx:cJ x y)(mZ:cJ x' y'):
  gX P false o (fun st _=>match st.sc y,st.sc y' with |some u,some v=>(aY op u v).map fun r=> .w (.c (.v r))|_,_=>none):=by
 intro N F M w0 w st G H a U r h hr;dsimp only at hr;split at hr
 case h_2=>cases hr
 rename_i u v hu hv;obtain⟨e1,s1⟩:=h.sc hx hu;obtain⟨e2,s2⟩:=h.sc mZ hv;rw[bz] at hr;obtain⟨q,hq,rfl⟩:=hr
 have EM:yp q=true:=by
  unfold aY at hq
  repeat' split at hq
  all_goals first|(simp only[ar] at hq;subst hq;rfl)|cases hq
 refine⟨q,IR.v q EM,fun w' _=> ?_⟩;unfold execOp;simp only[ho,e1,e2];unfold aY at hq;split at hq
 ·split at hq
  ·rename_i k a b k' c hk;subst hk;cases op<;>dsimp only at hq<;>(try split at hq)
   all_goals first|(simp only[ar] at hq;subst hq)|cases hq
   all_goals
    first
     |(simp[eqGuard,binOp,Op.intArith,Op.intCmp, *];done)
     |(rename_i hw;simp[eqGuard,binOp,Op.intArith,Op.intDiv,hw];done)
     |(rename_i hw;simp[eqGuard,binOp,Op.intDiv,hw.1,hw.2];done)
     |(unfold eqGuard binOp Op.intCmp;simp;done)
     |(unfold eqGuard binOp Op.intCmp;simp;rfl)
  ·cases hq
 ·cases op<;>dsimp only at hq
  all_goals first|(simp only[ar] at hq;subst hq)|cases hq
  all_goals simp[eqGuard,binOp,Op.stringOp]
 ·cases hq
theorem alM {o:Oper}{op:UnOp}{t:TypeId}{x:Operand}{y:aw}(ho:o.op=.unOp op t x)(hx:cJ x y):gX P false o (fun st _=>match st.sc y with |some u=>(zO op u).map fun r=> .w (.c (.v r))|_=>none):=by
 intro N F M w0 w st G H a U r h hr;dsimp only at hr;split at hr
 case h_2=>cases hr
 rename_i u hu;obtain⟨e1,s1⟩:=h.sc hx hu;rw[bz] at hr;obtain⟨q,hq,rfl⟩:=hr
 have EM:yp q=true:=by
  unfold zO at hq
  repeat' split at hq
  all_goals first|(simp only[ar] at hq;subst hq;rfl)|cases hq
 refine⟨q,IR.v q EM,fun w' _=> ?_⟩;unfold execOp;simp only[ho,e1];unfold zO at hq
 repeat' split at hq
 all_goals first|(simp only[ar] at hq;subst hq)|cases hq
 ·rename_i hw;simp[Op.unary,Op.intArith,hw];simpa using hw
 ·simp[Op.unary]
theorem alN {o:Oper}{x1 x2 x3:Operand}{y1 y2 y3:aw}(ho:o.op=.pick x1 x2 x3)(h1:cJ x1 y1)(h2:cJ x2 y2)(h3:cJ x3 y3):
  gX P false o (fun st _=>match st.sc y1 with |some (.bool true)=>st.arg y2|some (.bool false)=>st.arg y3|_=>none):=by
 intro N F M w0 w st G H a U r h hr;dsimp only at hr;split at hr
 ·rename_i hu;obtain⟨e1,s1⟩:=h.sc h1 hu;exact⟨_,h.arg h2 hr,fun w' _=>by unfold execOp;simp[ho,e1,asBool]⟩
 ·rename_i hu;obtain⟨e1,s1⟩:=h.sc h1 hu;exact⟨_,h.arg h3 hr,fun w' _=>by unfold execOp;simp[ho,e1,asBool]⟩
 ·cases hr
theorem IR.zQ {A:Nat->Prop}{S:Nat->Slot}{G:Nat->Gh}{x:AC}{u:Value}(h:IR w A x u):CR w A S G H x u:=by cases h with
 |v _ hs=>exact IR.v _ hs
 |sl k es ad c us hn hm hk hc hl=>exact IR.sl k es ad c us hn hm hk hc hl
 |dX f bK at_ us hc hl=>exact IR.dX f bK at_ us hc hl
theorem Rel.rows (h:Rel N F M w0 st G H a w){x:Operand}{y:aw}(eV:cJ x y){U:List Nat}{es:List (List AC)}(hr:st.rows U (st.arg y)=some es):∃ad c,a.eval x=.slice ad es.length c/\es.length<=c/\es.length<=9223372036854775807:=by
 unfold St.rows at hr;split at hr
 ·rename_i es' hv;simp only[ar] at hr;subst hr;have:=h.arg eV hv;generalize a.eval x=q at this;have h3:IR w (aW M st.slot G H) (.sl es') q:=this
  cases h3 with
  |sl _ _ ad c u hn hm _ _ _=>exact⟨ad,c,rfl,hn,hm⟩
 ·rename_i s g hv;split at hr
  ·rename_i e k' g' es' hs;split at hr
   ·rename_i hg;simp only[ar] at hr;subst hr;obtain⟨rfl,_⟩:=hg;have h3:CR w (aW M st.slot G H) st.slot G H (.own s g) (a.eval x):=h.arg eV hv;obtain⟨_,_,hH⟩:=h3;rw[hH e k' es' hs];obtain⟨_,xs,ho,_⟩:=h.rw s e k' g es' hs
    rcases ho.2 with⟨e1,e2⟩|⟨gg,cap,cur,e1,_,_,e3,e4,_⟩
    ·rw[e1,e2];exact⟨none,0,rfl,aa,aa⟩
    ·rw[e1];exact⟨_,cap,rfl,e3,by simp only[maxLen] at e4;omega⟩
   ·cases hr
  ·cases hr
 ·cases hr
end
end Ab
namespace Ab
open Go Go.RowKit
section
variable {P:Program} {N:Nat} {F M:Nat->Prop} {w0:iy} {w:World} {st:St} {G:Nat->Gh} {H:Nat->Value} {a:Act}
theorem zR {α:Type}(l:List α)(off n j:Nat):((l.drop off).take n)[j]? =if j<n then l[off+j]? else none:=by
 rw[th];split
 ·rw[lW]
 ·rfl
theorem Rel.cells (h:Rel N F M w0 st G H a w){U:List Nat}{n:Nat}{p:AV}{v:Value}{cs:List AC}(hv:VR w (aW M st.slot G H) st.slot G H p v)(hc:st.cells U n (some p)=some cs):
  ∃b o us,v=.pointer (some ⟨b,o,none⟩)/\b<w.heap.size/\(∀s∈U,¬bj st.slot G H s b)/\w.rangeAt b o us/\bT w (aW M st.slot G H) st.slot G H cs us/\us.length=n:=by
 cases p with
 |w x=>simp[St.cells] at hc
 |bQ vs=>simp[St.cells] at hc
 |u=>simp[St.cells] at hc
 |pb s g off=>
  simp only[St.cells] at hc;split at hc
  case h_2=>cases hc
  rename_i g' cs' hs;split at hc
  case isFalse=>cases hc
  rename_i hg;obtain⟨rfl,hU,hlen⟩:=hg;simp only[ar] at hc;subst hc;obtain⟨_,hp⟩:=hv;obtain⟨_,_,arr,hb,hl,hr⟩:=h.bx s g cs' hs;refine⟨(G s).b,off,(arr.drop off).take n,hp cs' hs,hb.lt,fun s' cR iK=> ?_,fun j u hj=> ?_,⟨by simp;omega,fun j x u h1 h2=> ?_⟩,by simp;omega⟩
  ·have:=h.dj s s' _ (.inl ⟨g,cs',hs,rfl⟩) iK;subst this;exact hU cR
  ·rw[zR] at hj;split at hj
   ·rw[hb.cell];simpa using hj
   ·cases hj
  ·rw[zR] at h1 h2;split at h1
   ·rename_i hj;rw[if_pos hj] at h2;exact hr _ x u h1 h2
   ·cases h1
 |pr s g i off=>
  simp only[St.cells] at hc;split at hc
  case h_2=>cases hc
  rename_i e k g' es hs;split at hc
  case isFalse=>cases hc
  rename_i hg;obtain⟨rfl,hU⟩:=hg;split at hc
  case h_2=>cases hc
  rename_i row bD;split at hc
  case isFalse=>cases hc
  rename_i hlen;simp only[ar] at hc;subst hc;obtain⟨_,hp⟩:=hv;obtain⟨b,n',c',hH,rfl⟩:=hp e k es hs;obtain⟨_,xs,ho,hk,hx⟩:=h.rw s e k g es hs
  have bE:(H s).ownBlock=some b:=by rw[hH];rfl
  have hi:=(bk.1 bD).1;have nb:=ho.1;have kr:=hk i row bD;have hle:(i+1)*k<=es.length*k:=pe k hi;rw[tu,Nat.one_mul] at hle;refine⟨b,i*k+off,(xs.drop (i*k+off)).take n,rfl,(ho.lt b bE).2,fun s' cR iK=> ?_,fun j u hj=> ?_,⟨by simp;omega,fun j x u h1 h2=> ?_⟩,by simp;omega⟩
  ·have:=h.dj s s' _ (.inr (.inl ⟨e,k,g,es,hs,bE⟩)) iK;subst this;exact hU cR
  ·rw[zR] at hj;split at hj
   ·have:=ho.cells bE _ _ hj;rwa[Addr.add_mid,fK] at this
   ·cases hj
  ·rw[zR] at h1 h2;split at h1
   ·rename_i hj;rw[if_pos hj,Nat.add_assoc] at h2;exact(hx i row _ x u bD h1 h2).zQ
   ·cases h1
 |pi cs' off=>
  simp only[St.cells] at hc;split at hc
  case isFalse=>cases hc
  rename_i hlen;simp only[ar] at hc;subst hc;obtain⟨b,o,rfl,hlt,hA,us,hl,hx⟩:=hv;refine⟨b,o+off,(us.drop off).take n,rfl,hlt,fun s' _ iK=>hA (.inr ⟨s',iK⟩),fun j u hj=> ?_,⟨by simp;omega,fun j x u h1 h2=> ?_⟩,by simp;omega⟩
  ·rw[zR] at hj;split at hj
   ·rename_i tz;have cH:=(bk.1 hj).1;have:=hx (off+j) (cs'[off+j]' aa) u ae hj;rw[Nat.add_assoc];exact this.2
   ·cases hj
  ·rw[zR] at h1 h2;split at h1
   ·rename_i hj;rw[if_pos hj] at h2;exact(hx _ x u h1 h2).1.zQ
   ·cases h1
theorem XR {U:List Nat}{S:Nat->Slot}{w w':World}{b o:Nat}{us:List Value}(hw:cq U S G H w w')(hlt:b<w.heap.size)(hU:∀s∈U,¬bj S G H s b)(hr:w.rangeAt b o us):w'.rangeAt b o us:=fun j v hv=>by
 rw[Bh (hw b hlt hU)];exact hr j v hv
theorem alO {o:Oper}{t:TypeId}{x:Operand}{y:aw}{d:TypeDesc}(ho:o.op=.load t x)(hu:P.underlying t=some d)(hd:d.isRow=false)(hx:cJ x y):
  gX P true o (fun st U=>match st.cells U 1 (st.arg y) with |some (c::_)=>some (.w (.c c))|_=>none):=by
 intro N F M w0 w st G H a U r h hr;dsimp only at hr;split at hr
 case h_2=>cases hr
 rename_i c cs hc;simp only[ar] at hr;subst hr
 cases hp:st.arg y with
 |none=>rw[hp] at hc;simp[St.cells] at hc
 |some p=>
  rw[hp] at hc;obtain⟨b,off,us,e1,hlt,hU,hr,hcs,hl⟩:=h.cells (h.arg hx hp) hc
  obtain⟨u,rfl⟩:∃u,us=[u]:=by
   match us,hl with
   |[u],_=>exact⟨u,rfl⟩
  refine⟨u,hcs.2 0 c u rfl rfl,fun w' hw=> ?_⟩;have hcell:=XR (hw rfl) hlt hU hr 0 u rfl;rw[qB] at hcell;unfold execOp
  have rS:(isAgg t).run P w'=.ok false w':=by
   unfold isAgg;rw[lp,km hu]
   cases d<;>first|rfl|cases hd
  simp[ho,e1,Instr.loadAt,Instr.sureAddr,loadVar,rS,hcell]
theorem alP {o:Oper}{t:TypeId}{x:Operand}{y:aw}{d:TypeDesc}{n:Nat}(ho:o.op=.load t x)(hu:P.underlying t=some d)(hd:d.isRow=true)(hn:(P.info? t).map (·.size)=some n)(hx:cJ x y):
  gX P true o (fun st U=>match st.cells U n (st.arg y) with |some cs=>some (.w (.agg cs))|_=>none):=by
 intro N F M w0 w st G H a U r h hr;dsimp only at hr;split at hr
 case h_2=>cases hr
 rename_i cs hc;simp only[ar] at hr;subst hr
 cases hp:st.arg y with
 |none=>rw[hp] at hc;simp[St.cells] at hc
 |some p=>
  rw[hp] at hc;obtain⟨b,off,us,e1,hlt,hU,hr,hcs,hl⟩:=h.cells (h.arg hx hp) hc;refine⟨.agg us.toArray,⟨us,rfl,hcs⟩,fun w' hw=> ?_⟩;unfold execOp;simp[ho,e1,run_loadAt_mid w' b off t us d (XR (hw rfl) hlt hU hr) hu hd (by rw[hl];exact hn)]
def AV.shift (k:Nat):AV->AV
 | .pb s g off=> .pb s g (off+k)
 | .pr s g i off=> .pr s g i (off+k)
 | .pi cs off=> .pi cs (off+k)
 |x=>x
theorem VR.shift {A:Nat->Prop}{S:Nat->Slot}{p:AV}{b o k:Nat}(hp:∃c,st.cells [] 0 (some p)=some c)(hS:S=st.slot)(hv:VR w A S G H p (.pointer (some ⟨b,o,none⟩))):VR w A S G H (p.shift k) (.pointer (some ⟨b,o+k,none⟩)):=by
 subst hS;obtain⟨c,hp⟩:=hp
 cases p with
 |w x=>simp[St.cells] at hp
 |bQ vs=>simp[St.cells] at hp
 |u=>simp[St.cells] at hp
 |pb s g off=>
  refine⟨hv.1,fun cs hs=> ?_⟩;have:=hv.2 cs hs;simp only[Value.pointer.injEq,ar,Addr.mk.injEq] at this;obtain⟨rfl,rfl,_⟩:=this;rfl
 |pr s g i off=>
  refine⟨hv.1,fun e k' es hs=> ?_⟩;obtain⟨b',n,c,h1,h2⟩:=hv.2 e k' es hs;simp only[Value.pointer.injEq,ar,Addr.mk.injEq] at h2;obtain⟨rfl,rfl,_⟩:=h2;exact⟨b,n,c,h1,by rw[Nat.add_assoc]⟩
 |pi cs off=>
  obtain⟨b',o',h2,h3⟩:=hv;simp only[Value.pointer.injEq,ar,Addr.mk.injEq] at h2;obtain⟨rfl,rfl,_⟩:=h2;exact⟨b,o',by rw[Nat.add_assoc],h3⟩
theorem alQ {o:Oper}{t:TypeId}{x:Operand}{y:aw}{f:Nat}{fs:Array Field}{fd:Field}{z:Nat}(ho:o.op=.fieldAddr t x f)(hu:P.underlying t=some (.struct fs))(hf:fs[f]? =some fd)(hz:(P.info? fd.type).map (·.size)=some z)(jn:z≠0)(hx:cJ x y):
  gX P false o (fun st _=>match st.cells [] 0 (st.arg y),st.arg y with |some _,some p=>some (p.shift fd.offset)|_,_=>none):=by
 intro N F M w0 w st G H a U r h hr;dsimp only at hr;split at hr
 case h_2=>cases hr
 rename_i cs p hc hp;simp only[ar] at hr;subst hr;rw[hp] at hc;obtain⟨b,off,us,e1,hlt,hU,hr,hcs,hl⟩:=h.cells (h.arg hx hp) hc;have hv:=h.arg hx hp;rw[e1] at hv;refine⟨_,VR.shift ⟨cs,hc⟩ rfl hv,fun w' hw=> ?_⟩
 have hsz:(sizeOf fd.type).run P w'=.ok z w':=by
  cases hi:P.info? fd.type with
  |none=>simp[hi] at hz
  |some i=>simp[hi] at hz;simp[sizeOf,typeInfo,hi,hz]
 unfold execOp;simp[ho,e1,Instr.fieldAt,km hu,hf,Instr.sureAddr,fieldPlace,hsz,jn,Addr.add_mid]
end
end Ab
namespace Ab
open Go Go.RowKit
def Cm (k:Nat):Option (List (List AC))->Option AV->Option Value->Option AV
 |some es,some (.w (.c (.sl _))),some (.int _ n)=>if 0<=n/\n<es.length/\(es.getD n.toNat []).length=k then some (.pi (es.getD n.toNat []) 0) else none
 |some es,some (.w (.c (.own s g))),some (.int _ n)=>if 0<=n/\n<es.length/\(es.getD n.toNat []).length=k then some (.pr s g n.toNat 0) else none
 |_,_,_=>none
def IX (n k:Nat):Option (List AC)->Option AV->Option Value->Option AV
 |some _,some p,some (.int _ i)=>if 0<=i/\i<n then some (p.shift (i.toNat*k)) else none
 |_,_,_=>none
def EN:Option Value->Option Nat
 |some (.int _ n)=>if 0<=n then some n.toNat else none
 |_=>none
section
variable {P:Program} {N:Nat} {F M:Nat->Prop} {w0:iy} {w:World} {st:St} {G:Nat->Gh} {H:Nat->Value} {a:Act}
theorem zS {t:TypeId}{z:Nat}(hz:(P.info? t).map (·.size)=some z)(w':World):(sizeOf t).run P w'=.ok z w':=by
 cases hi:P.info? t with
 |none=>simp[hi] at hz
 |some i=>simp[hi] at hz;simp[sizeOf,typeInfo,hi,hz]
theorem XS {o:Oper}{mx:Bool}{x1 x2:Operand}{y1 y2:aw}{ts:Array TypeId}(ho:o.op=.call { callee:=.builtin (if mx then .max else .min),args:=#[x1,x2],argTypes:=ts })(h1:cJ x1 y1)(h2:cJ x2 y2):
  gX P false o (fun st _=>match st.sc y1,st.sc y2 with |some u,some v=>(zP mx u v).map fun r=> .w (.c (.v r))|_,_=>none):=by
 intro N F M w0 w st G H a U r h hr;dsimp only at hr;split at hr
 case h_2=>cases hr
 rename_i u v hu hv;obtain⟨e1,s1⟩:=h.sc h1 hu;obtain⟨e2,s2⟩:=h.sc h2 hv;rw[bz] at hr;obtain⟨q,hq,rfl⟩:=hr;unfold zP at hq;split at hq
 case h_2=>cases hq
 rename_i k x k' y;split at hq
 case isFalse=>cases hq
 rename_i hk;subst hk;simp only[ar] at hq;subst hq;refine⟨_,IR.v _ rfl,fun w' _=> ?_⟩;unfold execOp;cases mx
 ·have:min x y=if y<x then y else x:=aa;simp[ho,resolve,e1,e2,invoke,Go.builtin,Builtin.min_,Builtin.min2,this]
 ·have:max x y=if x<y then y else x:=aa;simp[ho,resolve,e1,e2,invoke,Go.builtin,Builtin.max_,Builtin.max2,this]
theorem alR {o:Oper}{t e:TypeId}{x z:Operand}{y q:aw}{k:Nat}(ho:o.op=.indexAddr t x z)(hu:P.underlying t=some (.slice e))(hk:(P.info? e).map (·.size)=some k)(bF:0<k)(hx:cJ x y)(hz:cJ z q):
  gX P false o (fun st _=>Cm k (st.rows [] (st.arg y)) (st.arg y) (st.sc q)):=by
 intro N F M w0 w st G H a U r h hr;dsimp only at hr
 have run:∀(w':World) (ad:Addr) (n c:Nat) (kk:IntKind) (i:Int),0<=i->i<n->a.eval x=.slice (some ad) n c->a.eval z=.int kk i->(execOp a.eval o).run P w'=.ok (.value (.pointer (some (ad.add (i.toNat*k))))) w':=by
  intro w' ad n c kk i h0 h1 e1 e2;unfold execOp;simp[ho,e1,e2,Instr.indexAt,asIntOf,km hu,zS hk,h0,h1]
 unfold Cm at hr;split at hr
 ·rename_i es es' kk n qY hv hn;split at hr
  case isFalse=>cases hr
  rename_i hb;obtain⟨h0,h1,h2⟩:=hb;simp only[ar] at hr;subst hr;obtain⟨e2,_⟩:=h.sc hz hn;have h3:IR w (aW M st.slot G H) (.sl es') (a.eval x):=h.arg hx hv;rw[hv] at qY;simp only[St.rows,ar] at qY;subst qY;generalize hq:a.eval x=qv at h3
  cases h3 with
  |sl k' _ ad c u nF hm eQ hc hl=>
   have sj:n.toNat<es'.length:=aa
   have bD:es'[n.toNat]? =some (es'.getD n.toNat []):=by rw[eu,List.getElem?_eq_getElem sj];rfl
   generalize es'.getD n.toNat []=row at bD h2;have fu:=eQ _ _ bD;rw[h2] at fu;subst fu;obtain⟨b,off,rfl,hA,hcell⟩:=hl n.toNat row 0 bD aa;have hlt:=ic _ _ hcell;refine⟨_,⟨b,off+n.toNat*k,rfl,hlt,hA,(List.range row.length).map (fun j=>u n.toNat j),ae,fun j x' u' g1 g2=> ?_⟩,fun w' _=> ?_⟩
   ·have hj:=(bk.1 g1).1;simp[hj] at g2;subst g2;refine⟨hc _ _ j x' bD g1,?_⟩;obtain⟨b',o',BF,_,alS⟩:=hl n.toNat row j bD hj;simp only[ar,Addr.mk.injEq] at BF;obtain⟨rfl,rfl,_⟩:=BF;exact alS
   ·rw[run w' _ _ _ _ _ h0 h1 hq e2,Addr.add_mid,qB]
 ·rename_i es s g kk n qY hv hn;split at hr
  case isFalse=>cases hr
  rename_i hb;obtain⟨h0,h1,h2⟩:=hb;simp only[ar] at hr;subst hr;obtain⟨e2,_⟩:=h.sc hz hn;have h3:CR w (aW M st.slot G H) st.slot G H (.own s g) (a.eval x):=h.arg hx hv;obtain⟨_,hg,hH⟩:=h3;rw[hv] at qY;simp only[St.rows] at qY;split at qY
  case h_2=>cases qY
  rename_i e' k' g' es' hs;split at qY
  case isFalse=>cases qY
  rename_i IY;obtain⟨rfl,_⟩:=IY;simp only[ar] at qY;subst qY;have yw:=hH e' k' es' hs;obtain⟨_,xs,how,iq,_⟩:=h.rw s e' k' g es' hs;obtain⟨b,cap,e3,_,_⟩:=how.form aa;have sj:n.toNat<es'.length:=aa
  have bD:es'[n.toNat]? =some (es'.getD n.toNat []):=by rw[eu,List.getElem?_eq_getElem sj];rfl
  have fu:=iq _ _ bD;rw[h2] at fu;subst fu;refine⟨_,⟨hg,fun e2 k2 dB gD=> ?_⟩,fun w' _=>run w' _ _ _ _ _ h0 h1 (by rw[yw];exact e3) e2⟩;rw[hs] at gD;cases gD;exact⟨b,es'.length,cap,e3,by rw[Addr.add_mid,fK];rfl⟩
 ·cases hr
theorem alT {o:Oper}{t e:TypeId}{x z:Operand}{y q:aw}{n k:Nat}(ho:o.op=.indexAddr t x z)(hu:P.underlying t=some (.array n e))(hk:(P.info? e).map (·.size)=some k)(hx:cJ x y)(hz:cJ z q):
  gX P false o (fun st _=>IX n k (st.cells [] 0 (st.arg y)) (st.arg y) (st.sc q)):=by
 intro N F M w0 w st G H a U r h hr;dsimp only at hr;unfold IX at hr;split at hr
 case h_2=>cases hr
 rename_i cs p kk i hc hp hi;split at hr
 case isFalse=>cases hr
 rename_i hb;simp only[ar] at hr;subst hr;rw[hp] at hc;obtain⟨e2,_⟩:=h.sc hz hi;obtain⟨b,off,us,e1,hlt,hU,hr,hcs,hl⟩:=h.cells (h.arg hx hp) hc;have hv:=h.arg hx hp;rw[e1] at hv;refine⟨_,VR.shift ⟨cs,hc⟩ rfl hv,fun w' hw=> ?_⟩;unfold execOp;simp[ho,e1,e2,Instr.indexAt,asIntOf,km hu,Instr.sureAddr,zS hk,hb.1,hb.2,Addr.add_mid]
theorem alU {o:Oper}{x:Operand}{y:aw}{i:Nat}(ho:o.op=.extract x i)(hx:cJ x y):gX P false o (fun st _=>match st.arg y with |some (.bQ vs)=>(vs[i]?).map .w|_=>none):=by
 intro N F M w0 w st G H a U r h hr;dsimp only at hr;split at hr
 case h_2=>cases hr
 rename_i vs hv;rw[bz] at hr;obtain⟨q,hq,rfl⟩:=hr;obtain⟨arr,e1,hl,hw⟩:=h.arg hx hv;have hi:=(bk.1 hq).1
 obtain⟨u,hu⟩:∃u,arr[i]? =some u:=⟨arr[i]' aa,ae⟩
 refine⟨u,hw i q u hq hu,fun w' _=> ?_⟩;unfold execOp;simp[ho,e1,Instr.extract,hu]
theorem alV {o:Oper}{t:TypeId}{x z:Operand}{y q:aw}(ho:o.op=.index t x z)(hu:P.underlying t=some .string)(hx:cJ x y)(hz:cJ z q):
  gX P false o (fun st _=>match st.sc y,st.sc q with |some (.string s),some (.int _ n)=>if h:0<=n/\n.toNat<s.size then some (.w (.c (.v (.int .u8 (s.get n.toNat h.2).toNat)))) else none|_,_=>none):=by
 intro N F M w0 w st G H a U r h hr;dsimp only at hr;split at hr
 case h_2=>cases hr
 rename_i s kk n hs hn;split at hr
 case isFalse=>cases hr
 rename_i hb;simp only[ar] at hr;subst hr;obtain⟨e1,_⟩:=h.sc hx hs;obtain⟨e2,_⟩:=h.sc hz hn;refine⟨_,IR.v _ rfl,fun w' _=> ?_⟩;unfold execOp;have h2:n<s.size:=aa;simp[ho,e1,e2,Instr.index,asIntOf,km hu,hb.1,h2];rfl
theorem MF (w:World)(n c l h:Nat)(lo hi:Option Value)(kL:(lo=none/\l=0)\/∃k,lo=some (.int k l))(fP:(hi=none/\h=n)\/∃k,hi=some (.int k h))(h1:l<=h)(h2:h<=n)(h3:n<=c):
  (Instr.sliceBounds true n c lo hi none).run P w=.ok (l,h,c) w:=by
 have e1:∀(k:IntKind) (code:BoundsCode),(Instr.sliceBound (.int k h) c code).run P w=.ok h w:=fun k code=>by rw[run_sliceBound w k h c code aa aa];simp
 have e2:∀(k:IntKind) (code:BoundsCode),(Instr.sliceBound (.int k l) h code).run P w=.ok l w:=fun k code=>by rw[run_sliceBound w k l h code aa aa];simp
 rcases kL with⟨rfl,rfl⟩|⟨k,rfl⟩<;>rcases fP with⟨rfl,rfl⟩|⟨k',rfl⟩<;>simp[Instr.sliceBounds,e1,e2]
end
end Ab
namespace Ab
open Go Go.RowKit
section
variable {P:Program} {N:Nat} {F M:Nat->Prop} {w0:iy} {w:World} {st:St} {G:Nat->Gh} {H:Nat->Value} {a:Act}
theorem alW {A:Nat->Prop}{es:List (List AC)}{ad:Option Addr}{n c l h k:Nat}(h1:l<=h)(h2:h<=es.length)(hk:∀(i:Nat) (row:List AC),es[i]? =some row->row.length=k)(hr:IR w A (.sl es) (.slice ad n c)):
  IR w A (.sl ((es.take h).drop l)) (.slice (if c=l then ad else ad.map (·.add (l*k))) (h-l) (c-l)):=by
 cases hr with
 |sl k' _ _ _ u hn hm eQ hc hl=>
  have hlen:((es.take h).drop l).length=h-l:=by simp;omega
  have lG:∀i row,((es.take h).drop l)[i]? =some row->es[l+i]? =some row/\i<h-l:=by
   intro i row hi;have:=(bk.1 hi).1;rw[lW,th] at hi;split at hi
   ·exact⟨hi,aa⟩
   ·cases hi
  rw[<-hlen];refine IR.sl k _ _ _ (fun i j=>u (l+i) j) aa aa (fun i row hi=>hk _ _ (lG i row hi).1) (fun i row j x hi hj=>hc _ row j x (lG i row hi).1 hj) (fun i row j hi hj=> ?_);obtain⟨hi',hlt⟩:=lG i row hi;have fu:=hk _ _ hi';have mY:=eQ _ _ hi';have MG:k'=k:=aa;subst MG;obtain⟨b,o,rfl,hA,hcell⟩:=hl _ row j hi' hj;refine⟨b,o+l*k',?_,hA,?_⟩
  ·rw[if_neg aa];simp[Addr.add_mid]
  ·rw[tu] at hcell;rw[show o+l*k'+i*k'+j=o+(l*k'+i*k')+j by omega];exact hcell
def yx (st:St):Option aw->Option Nat
 |none=>some 0
 |some y=>EN (st.sc y)
def qZ (st:St)(n:Nat):Option aw->Option Nat
 |none=>some n
 |some y=>EN (st.sc y)
def Cn:Option Operand->Option aw->Prop
 |none,none=>True
 |some x,some y=>cJ x y
 |_,_=>False
theorem Rel.bound (h:Rel N F M w0 st G H a w){x:Operand}{y:aw}(hx:cJ x y){n:Nat}(hb:EN (st.sc y)=some n):∃k,a.eval x=.int k n:=by
 unfold EN at hb;split at hb
 ·rename_i k i hi;split at hb
  ·rename_i h0;simp only[ar] at hb;obtain⟨e,_⟩:=h.sc hx hi;exact⟨k,by rw[e];congr 1;omega⟩
  ·cases hb
 ·cases hb
theorem alX {o:Oper}{t e:TypeId}{x:Operand}{y:aw}{lo hi:Option Operand}{mA hi':Option aw}{k:Nat}(ho:o.op=.slice t x lo hi none)(hu:P.underlying t=some (.slice e))(hk:(P.info? e).map (·.size)=some k)(hx:cJ x y)(kL:Cn lo mA)(fP:Cn hi hi'):
  gX P false o (fun st _=>match st.arg y with
   |some (.w (.c (.sl es)))=>match yx st mA,qZ st es.length hi' with
    |some l,some h=>if l<=h/\h<=es.length/\∀row∈es,row.length=k then some (.w (.c (.sl ((es.take h).drop l)))) else none
    |_,_=>none
   |_=>none):=by
 intro N F M w0 w st G H a U r h hr;dsimp only at hr;split at hr
 case h_2=>cases hr
 rename_i es hv;split at hr
 case h_2=>cases hr
 rename_i l hh cn sC;split at hr
 case isFalse=>cases hr
 rename_i hb;obtain⟨h1,h2,h3⟩:=hb;simp only[ar] at hr;subst hr;have XT:IR w (aW M st.slot G H) (.sl es) (a.eval x):=h.arg hx hv
 have eQ:∀(i:Nat) (row:List AC),es[i]? =some row->row.length=k:=fun i row hi=>h3 row (dJ hi)
 obtain⟨ad,c,e1,iI,_⟩:=h.rows (U:=[]) hx (es:=es) (by rw[hv];rfl);rw[e1] at XT;refine⟨_,alW h1 h2 eQ XT,fun w' _=> ?_⟩
 have MH:((lo.map a.eval)=none/\l=0)\/∃k,lo.map a.eval=some (.int k l):=by
  cases lo with
  |none=>cases mA with
   |none=>simp[yx] at cn;exact .inl ⟨rfl,cn.symm⟩
   |some=>exact kL.elim
  |some p=>cases mA with
   |none=>exact kL.elim
   |some q=>
    obtain⟨k,e⟩:=h.bound kL cn;exact .inr ⟨k,by simp[e]⟩
 have Co:((hi.map a.eval)=none/\hh=es.length)\/∃k,hi.map a.eval=some (.int k hh):=by
  cases hi with
  |none=>cases hi' with
   |none=>simp[qZ] at sC;exact .inl ⟨rfl,sC.symm⟩
   |some=>exact fP.elim
  |some p=>cases hi' with
   |none=>exact fP.elim
   |some q=>
    obtain⟨k,e⟩:=h.bound fP sC;exact .inr ⟨k,by simp[e]⟩
 unfold execOp;simp[ho,e1,Instr.sliceAt,Instr.slice,km hu,MF w' es.length c l hh _ _ MH Co h1 h2 iI,zS hk]
def AW.cells:AW->List AC
 | .c x=>[x]
 | .agg cs=>cs
def jQ:List AC->List (Nat×Nat×List AC)->Option (List AC)
 |z,[]=>some z
 |z,(off,size,cs)::r=>if cs.length=size/\off+size<=z.length then jQ (z.take off++cs++z.drop (off+size)) r else none
theorem XU (off:Nat):∀(l:List Value) (i:Nat) (cs:Array Value),(l.zipIdx i).foldl (fun(cs:Array Value) (p:Value×Nat)=>cs.setIfInBounds (off+p.2) p.1) cs=yo cs (off+i) l
 |[],i,cs=>rfl
 |v::l,i,cs=>by
  rw[List.zipIdx_cons,xD,yo,XU off l (i+1)];rfl
end
end Ab
namespace Ab
open Go Go.RowKit
section
variable {P:Program} {N:Nat} {F M:Nat->Prop} {w0:iy} {w:World} {st:St} {G:Nat->Gh} {H:Nat->Value} {a:Act}
theorem XV (l:List Value)(cs:Array Value)(o:Nat)(h:o+l.length<=cs.size):(yo cs o l).toList=cs.toList.take o++l++cs.toList.drop (o+l.length):=by
 apply rH;intro j;rw[Array.getElem?_toList,alF l cs o h];have hz:cs.toList.length=cs.size:=ae;by_cases h1:j<o
 ·rw[if_neg aa,List.append_assoc,kj (by rw[eo];omega),th,if_pos h1];simp
 ·by_cases h2:j<o+l.length
  ·rw[if_pos aa,kj (by rw[List.length_append,eo];omega),cD (by rw[eo];omega),eo,zw aa]
  ·rw[if_neg aa,cD (by rw[List.length_append,eo];omega),lW,List.length_append,eo,zw aa,
    show o+l.length+(j-(o+l.length))=j by omega]
   simp
theorem bT.app {A:Nat->Prop}{S:Nat->Slot}{c1 c2:List AC}{u1 u2:List Value}(h1:bT w A S G H c1 u1)(h2:bT w A S G H c2 u2):bT w A S G H (c1++c2) (u1++u2):=by
 refine⟨by rw[List.length_append,List.length_append,h1.1,h2.1],fun j x u e1 e2=> ?_⟩;by_cases hj:j<c1.length
 ·rw[kj hj] at e1;rw[kj (by rw[h1.1];exact hj)] at e2;exact h1.2 j x u e1 e2
 ·rw[cD aa] at e1;rw[cD (by rw[h1.1];omega),h1.1] at e2;exact h2.2 _ x u e1 e2
theorem bT.take {A:Nat->Prop}{S:Nat->Slot}{c:List AC}{u:List Value}(h:bT w A S G H c u)(n:Nat):bT w A S G H (c.take n) (u.take n):=by
 refine⟨by rw[eo,eo,h.1],fun j x v e1 e2=> ?_⟩;rw[th] at e1 e2;split at e1
 ·rename_i hj;rw[if_pos hj] at e2;exact h.2 j x v e1 e2
 ·cases e1
theorem bT.drop {A:Nat->Prop}{S:Nat->Slot}{c:List AC}{u:List Value}(h:bT w A S G H c u)(n:Nat):bT w A S G H (c.drop n) (u.drop n):=by
 refine⟨by rw[lj,lj,h.1],fun j x v e1 e2=> ?_⟩;rw[lW] at e1 e2;exact h.2 _ x v e1 e2
theorem WR.cells {A:Nat->Prop}{S:Nat->Slot}{x:AW}{v:Value}(h:WR w A S G H x v):bT w A S G H x.cells v.cells.toList:=by
 cases x with
 |c x=>
  have ho:=CR.one h
  have hv:v.cells=#[v]:=by cases v<;>first|rfl|cases ho
  rw[hv];refine⟨rfl,fun j y u e1 e2=> ?_⟩
  cases j with
  |zero=>
   have Cp:x=y:=tq e1;have MI:v=u:=tq e2;rw[<-Cp,<-MI];exact h
  |succ j=>simp[AW.cells] at e1
 |agg cs=>
  obtain⟨arr,rfl,h⟩:=h;exact h
theorem MJ (place:Nat->Option (Nat×Nat)){A:Nat->Prop}{S:Nat->Slot}:∀(parts:List (Nat×Value)) (pa:List (Nat×Nat×List AC)) (cells:Array Value) (z r:List AC),bT w A S G H z cells.toList->parts.length=pa.length->
  (∀(i:Nat) (p:Nat×Value) (q:Nat×Nat×List AC),parts[i]? =some p->pa[i]? =some q->place p.1=some (q.1,q.2.1)/\bT w A S G H q.2.2 p.2.cells.toList)->jQ z pa=some r->∃out,Instr.fill place cells parts=some out/\bT w A S G H r out.toList
 |[],[],cells,z,r,hz,_,_,hf=>by
  simp only[jQ,ar] at hf;subst hf;exact⟨cells,rfl,hz⟩
 |(i,v)::parts,(off,size,cs)::pa,cells,z,r,hz,hl,hp,hf=>by
  obtain⟨h1,h2⟩:=hp 0 _ _ rfl rfl;dsimp only at h1 h2;unfold jQ at hf;split at hf
  case isFalse=>cases hf
  rename_i hc
  have e1:v.cells.size=size:=by have:=h2.1;simp at this;omega
  have e2:z.length=cells.size:=by have:=hz.1;simp at this;omega
  have eK:(v.cells.zipIdx.foldl (fun cs (c,j)=>cs.setIfInBounds (off+j) c) cells).toList=cells.toList.take off++v.cells.toList++cells.toList.drop (off+size):=by
   have:=XU off v.cells.toList 0 cells;rw[<-Array.foldl_toList,Array.toList_zipIdx,this,qB,XV _ _ _ (by simp;omega)];simp[e1]
  have hn:bT w A S G H (z.take off++cs++z.drop (off+size)) (v.cells.zipIdx.foldl (fun cs (c,j)=>cs.setIfInBounds (off+j) c) cells).toList:=by
   rw[eK];exact((hz.take off).app h2).app (hz.drop _)
  obtain⟨out,e3,e4⟩:=MJ place parts pa _ _ r hn (by simpa using hl) (fun j p q g1 g2=>hp (j+1) p q g1 g2) hf;refine⟨out,?_,e4⟩;simp only[Instr.fill,h1,e1,ne_eq,not_true_eq_false,false_or];rw[if_neg (by simp;omega)];exact e3
 |[],_::_,_,_,_,_,hl,_,_=>by simp at hl
 |_::_,[],_,_,_,_,hl,_,_=>by simp at hl
def MK:Value->Option AC
 | .slice none 0 0=>some (.sl [])
 |v=>if yp v then some (.v v) else none
theorem alY {A:Nat->Prop}{S:Nat->Slot}{v:Value}{x:AC}(h:MK v=some x):CR w A S G H x v:=by
 unfold MK at h;split at h
 ·simp only[ar] at h;subst h;exact IR.sl 0 [] none 0 (fun _ _=>undef) av ae (by intro i row h;simp at h) (by intro i row j x h;simp at h) (by intro i row j h;simp at h)
 ·split at h
  ·rename_i hs;simp only[ar] at h;subst h;exact IR.v _ hs
  ·cases h
def ML:Value->Option AC
 | .slice none 0 0=>some (.v (.slice none 0 0))
 |_=>none
theorem alZ {A:Nat->Prop}{S:Nat->Slot}{v:Value}{x:AC}(h:ML v=some x):CR w A S G H x v:=by
 unfold ML at h;split at h
 ·simp only[ar] at h;subst h;exact IR.v _ rfl
 ·cases h
def wM (ns:List Nat):Nat->List Value->Option (List AC)
 |_,[]=>some []
 |i,v::l=>match(if ns.contains i then ML v else MK v),wM ns (i+1) l with
  |some x,some r=>some (x::r)
  |_,_=>none
abbrev yy (l:List Value):Option (List AC):=wM [] 0 l
theorem IZ {A:Nat->Prop}{S:Nat->Slot}{ns:List Nat}:∀{l:List Value} {i:Nat} {r:List AC},wM ns i l=some r->bT w A S G H r l
 |[],i,r,h=>by
  simp only[wM,ar] at h;subst h;exact⟨rfl,fun j x u e=>by simp at e⟩
 |v::l,i,r,h=>by
  unfold wM at h;split at h
  case h_2=>cases h
  rename_i x r' h1 h2;simp only[ar] at h;subst h
  have hx:CR w A S G H x v:=by
   split at h1
   ·exact alZ h1
   ·exact alY h1
  exact bT.app (c1:=[x]) (u1:=[v]) ⟨rfl,fun j y u e1 e2=>by
   cases j with
   |zero=>simp at e1 e2;subst e1;subst e2;exact hx
   |succ j=>simp at e1⟩ (IZ h2)
theorem MN {A:Nat->Prop}{S:Nat->Slot}{l:List Value}{r:List AC}(h:yy l=some r):bT w A S G H r l:=IZ h
def placesOf (P:Program)(t:TypeId):Option (Nat->Option (Nat×Nat)):=match P.underlying t with
 |some (.array _ e)=>(P.info? e).map fun ie=>fun i=>some (i*ie.size,ie.size)
 |some (.struct fields)=>(fields.toList.mapM (fun f=>(P.info? f.type).map fun i=>(f.offset,i.size))).map fun l=>fun i=>l.toArray[i]?
 |_=>none
def zeroOf (P:Program)(t:TypeId):Option (List Value):=(P.info? t).bind fun i=>i.zero.map fun z=>z.cells.toList
theorem ama {t:TypeId}{pl:Nat->Option (Nat×Nat)}{z:List Value}{parts:List (Nat×Value)}{out:Array Value}(h1:placesOf P t=some pl)(h2:zeroOf P t=some z)(h3:Instr.fill pl z.toArray parts=some out):P.built t parts=some out:=by
 unfold placesOf at h1;unfold zeroOf at h2;unfold Program.built
 cases hi:P.info? t with
 |none=>simp[hi] at h2
 |some it=>
  simp only[hi,Option.bind_some,bz] at h2;obtain⟨zv,hz,rfl⟩:=h2;split at h1
  ·rename_i n e hu;rw[bz] at h1;obtain⟨ie,zT,rfl⟩:=h1;simp only[hu,hz,zT];simpa using h3
  ·rename_i fields hu;rw[bz] at h1;obtain⟨l,hl,rfl⟩:=h1;simp only[hu,hz,hl];simpa using h3
  ·cases h1
def mB (st:St):List (Nat×Nat×aw)->Option (List (Nat×Nat×List AC))
 |[]=>some []
 |(off,size,y)::r=>match st.arg y,mB st r with
  |some (.w x),some q=>some ((off,size,x.cells)::q)
  |_,_=>none
def zU (pl:Nat->Option (Nat×Nat)):List (Nat×Operand)->List (Nat×Nat×aw)->Prop
 |[],[]=>True
 |(i,x)::r,(off,size,y)::q=>pl i=some (off,size)/\cJ x y/\zU pl r q
 |_,_=>False
theorem Rel.parts (h:Rel N F M w0 st G H a w)(pl:Nat->Option (Nat×Nat)):∀{ps:List (Nat×Operand)} {qs:List (Nat×Nat×aw)} {r:List (Nat×Nat×List AC)},zU pl ps qs->mB st qs=some r->
  ps.length=r.length/\∀(i:Nat) (p:Nat×Value) (q:Nat×Nat×List AC),(ps.map fun(i,x)=>(i,a.eval x))[i]? =some p->r[i]? =some q->pl p.1=some (q.1,q.2.1)/\bT w (aW M st.slot G H) st.slot G H q.2.2 p.2.cells.toList
 |[],[],r,_,hr=>by
  simp only[mB,ar] at hr;subst hr;exact⟨rfl,fun i p q e=>by simp at e⟩
 |(i,x)::ps,(off,size,y)::qs,r,hp,hr=>by
  obtain⟨h1,h2,h3⟩:=hp;unfold mB at hr;split at hr
  case h_2=>cases hr
  rename_i xw q hv hq;simp only[ar] at hr;subst hr;obtain⟨e1,e2⟩:=Rel.parts h pl h3 hq;refine⟨by simp[e1],fun j p q' g1 g2=> ?_⟩
  cases j with
  |zero=>
   simp at g1 g2;subst g1;subst g2;exact⟨h1,WR.cells (h.arg h2 hv)⟩
  |succ j=>exact e2 j p q' (by simpa using g1) (by simpa using g2)
 |[],_::_,_,hp,_=>hp.elim
 |_::_,[],_,hp,_=>hp.elim
theorem amb {o:Oper}{t:TypeId}{ps:Array (Nat×Operand)}{qs:List (Nat×Nat×aw)}{pl:Nat->Option (Nat×Nat)}{z:List Value}{za:List AC}{ns:List Nat}(ho:o.op=.build t ps)(h1:placesOf P t=some pl)(h2:zeroOf P t=some z)(h3:wM ns 0 z=some za)(hp:zU pl ps.toList qs):
  gX P false o (fun st _=>match mB st qs with |some r=>(jQ za r).map fun cs=> .w (.agg cs)|none=>none):=by
 intro N F M w0 w st G H a U r h hr;dsimp only at hr;split at hr
 case h_2=>cases hr
 rename_i r' yz;rw[bz] at hr;obtain⟨cs,hf,rfl⟩:=hr;obtain⟨e1,e2⟩:=h.parts pl hp yz;obtain⟨out,e3,e4⟩:=MJ (w:=w) (H:=H) (A:=aW M st.slot G H) (S:=st.slot) pl _ r' z.toArray za cs (by simpa using IZ h3) (by simpa using e1) e2 hf;have hb:=ama h1 h2 e3;refine⟨.agg out,⟨out.toList,ae,e4⟩,fun w' _=> ?_⟩;unfold execOp;simp only[ho,lp];rw[run_build w' t (ps.map fun(i,x)=>(i,a.eval x)) out (by simpa using hb)];rfl
end
end Ab
namespace Ab
open Go Go.RowKit
abbrev zV:=St->(AV->St->Prop)->Prop
def kO (P:Program)(U:Option (List Nat))(o:Oper)(rf:zV):Prop:=
 ∀(N:Nat) (F M:Nat->Prop) (w0:iy) (w:World) (st:St) (G:Nat->Gh) (H:Nat->Value) (a:Act) (X:AV->St->Prop),Rel N F M w0 st G H a w->rf st X->
  ∀(K:Act->World->Prop) (Q:Exit->Act->World->Prop),(∀x st' G' H' v w',X x st'->Rel N F M w0 st' G' H' a w'->yq U st.slot G H w st'.slot G' H' w'->VR w' (aW M st'.slot G' H') st'.slot G' H' x v->K (a.put o.dst v) w')->Oper.wp P o a w K Q
section
variable {P:Program} {N:Nat} {F M:Nat->Prop} {w0:iy} {w:World} {st:St} {G:Nat->Gh} {H:Nat->Value} {a:Act}
theorem XW {U:Option (List Nat)}{mem:Bool}{o:Oper}{ev:St->List Nat->Option AV}(h:gX P mem o ev):kO P U o (fun st X=>∃x,ev st []=some x/\X x st):=by
 intro N F M w0 w st G H a X hR hs K Q hK;obtain⟨x,hx,hX⟩:=hs;obtain⟨v,hv,hrun⟩:=h N F M w0 w st G H a [] x hR hx;unfold Oper.wp;rw[hrun w (fun _ b _ _=>rfl)];exact hK x st G H v w hX hR (EL av fun _ _=>rfl) hv
theorem amc (w:World)(b o:Nat)(ty:TypeId)(v:Value)(ht:w.there b o v.cells.size)(hi:(P.info? ty).map (·.size)=some v.cells.size)(h1:v.cells.toList.all Value.oneCell'=true):
  (storeVar ty ⟨b,o,none⟩ v).run P w=.ok () (w.setCells b o v.cells.toList):=by
 have:=run_storeCells_cells (P:=P) b o v.cells.toList 0 w (fun j hj=>by simpa using(ht j (by simpa using hj)).1) (fun j hj=>by simpa using(ht j (by simpa using hj)).2)
  (fun u hv=>dY.1 h1 u hv)
 simp only[qB] at this;simp[storeVar,zS hi,this]
def inl:AC->Bool
 | .v _=>true
 | .sl _=>true
 | .dX _ _=>true
 |_=>false
def St.store (st:St)(xs:List AC):Option AV->Option St
 |some (.pb s g off)=>match aB st.S s with
  |some (.box g' cs)=>if g=g'/\off+xs.length<=cs.length then some (st.bM s (.box g (cs.take off++xs++cs.drop (off+xs.length)))) else none
  |_=>none
 |some (.pr s g i off)=>match aB st.S s with
  |some (.row e k g' es)=>if g=g'/\xs.all inl=true then match es[i]? with
    |some row=>if off+xs.length<=row.length then some (st.bM s (.row e k g (es.set i (row.take off++xs++row.drop (off+xs.length))))) else none
    |none=>none
   else none
  |_=>none
 |_=>none
theorem Ja {s:Nat}{x:Slot}(h:aB st.S s=some x):st.slot s=x/\(aB st.S s).isSome=true:=by unfold St.slot;rw[h];exact⟨rfl,rfl⟩
theorem bT.all {A:Nat->Prop}{S:Nat->Slot}{cs:List AC}{us:List Value}(h:bT w A S G H cs us):us.all Value.oneCell'=true:=by
 rw[dY];intro u hu;obtain⟨j,hj⟩:=qu hu;have hl:=(bk.1 hj).1;exact CR.one (h.2 j (cs[j]'(by rw[<-h.1];exact hl)) u ae hj)
theorem CR.ir {A:Nat->Prop}{S:Nat->Slot}{x:AC}{u:Value}(h:CR w A S G H x u)(hi:inl x=true):IR w A x u:=by
 cases x with
 |own s g=>cases hi
 |ct s g=>cases hi
 |part s g i=>cases hi
 |cls f bK=>cases hi
 |v x=>exact h
 |sl es=>exact h
 |dX f bK=>exact h
def Jb (xs:List Value)(o:Nat):List Value->List Value
 |[]=>xs
 |v::r=>Jb (xs.set o v) (o+1) r
theorem amd (l:List Value):∀(xs:List Value) (o:Nat),o+l.length<=xs.length->∀j,(Jb xs o l)[j]? =if o<=j/\j<o+l.length then l[j-o]? else xs[j]? :=by
 induction l with
 |nil=>intro xs o _ j;rw[if_neg (by simp only[List.length_nil];omega)];rfl
 |cons v l ih=>
  intro xs o ho j;simp only[List.length_cons] at ho⊢;rw[Jb,ih _ _ (by rw[List.length_set];omega)];by_cases h1:o+1<=j/\j<o+1+l.length
  ·rw[if_pos h1,if_pos aa,show j-o=(j-(o+1))+1 by omega,Hk]
  ·rw[if_neg h1];by_cases h2:j=o
   ·subst h2;rw[if_pos aa,Nat.sub_self,Bg,vN aa]
   ·rw[if_neg aa,pd (Ne.symm h2)]
theorem XX {e k g n cap:Nat}:∀(l:List Value) {w:World} {xs:List Value} (o:Nat),w.ownsRow 0 e k (.slice (some ⟨g,0,none⟩) n cap) n xs->
  (w.setCells g o l).ownsRow 0 e k (.slice (some ⟨g,0,none⟩) n cap) n (Jb xs o l)/\w.grownBy (w.setCells g o l) (some g)
 |[],w,xs,o,h=>⟨h,⟨rfl,rfl,rfl,di _,fun _ _ _=>rfl⟩⟩
 |v::l,w,xs,o,h=>by
  obtain⟨h1,h2⟩:=h.stored o v;obtain⟨h3,h4⟩:=XX l (o+1) h1;exact⟨h3,h2.trans h4⟩
def EO:Option AV->Option Nat
 |some (.pb s _ _)=>some s
 |some (.pr s _ _ _)=>some s
 |_=>none
theorem XY {U:Option (List Nat)}{o:Oper}{t:TypeId}{x z:Operand}{y q:aw}{n:Nat}(ho:o.op=.store t x z)(hn:(P.info? t).map (·.size)=some n)(hx:cJ x y)(hz:cJ z q):
  kO P U o (fun st X=>∃xw st',st.arg q=some (.w xw)/\xw.cells.length=n/\st.store xw.cells (st.arg y)=some st'/\(∀s,EO (st.arg y)=some s->sy U s)/\X .u st'):=by
 intro N F M w0 w st G H a X hR hs K Q hK;obtain⟨xw,st',e1,e2,e3,bg,hX⟩:=hs;have hw:=WR.cells (hR.arg hz e1);generalize lH:a.eval z=v at hw
 have hsz:v.cells.size=n:=by have:=hw.1;simp at this;omega
 have fin:∀b off,a.eval x=.pointer (some ⟨b,off,none⟩)->w.there b off v.cells.size->(∃G' H',Rel N F M w0 st' G' H' a (w.setCells b off v.cells.toList)/\yq U st.slot G H w st'.slot G' H' (w.setCells b off v.cells.toList))->Oper.wp P o a w K Q:=by
  intro b off ep MO ⟨G',H',bC,hst⟩;unfold Oper.wp execOp;simp only[ho,lH,ep,Instr.storeAt,Instr.sureAddr,lp,qC,pf,amc w b off t v MO (by rw[hsz];exact hn) (bT.all hw)];exact hK .u st' G' H' _ _ hX bC hst trivial
 cases hp:st.arg y with
 |none=>rw[hp] at e3;simp[St.store] at e3
 |some p=>
  rw[hp] at e3 bg;have hv:=hR.arg hx hp
  cases p with
  |w x=>simp[St.store] at e3
  |bQ vs=>simp[St.store] at e3
  |u=>simp[St.store] at e3
  |pi cs off=>simp[St.store] at e3
  |pb s g off=>
   simp only[St.store] at e3;split at e3
   case h_2=>cases e3
   rename_i g' cs hs;split at e3
   case isFalse=>cases e3
   rename_i hc;obtain⟨rfl,hlen⟩:=hc;simp only[ar] at e3;subst e3;obtain⟨eC,gD⟩:=Ja hs;obtain⟨_,wA⟩:=hv;obtain⟨_,_,arr,hb,hcs⟩:=hR.bx s g cs eC;have zH:arr.length=cs.length:=hcs.1;refine fin (G s).b off (wA cs eC) (alE hb (by simp;omega)) ⟨G,H,?_⟩;obtain⟨f1,f2,f3⟩:=XO v.cells.toList off hb
   have EP:∀b,b<w.heap.size->¬bj st.slot G H s b->(w.setCells (G s).b off v.cells.toList).heap[b]? =w.heap[b]? :=(fun b hlt hl=>f2.block b hlt (fun e=>hl (by simp at e;subst e;exact .inl ⟨g,cs,eC,rfl⟩)))
   have ER:∀b,bj (st.bM s (.box g (cs.take off++xw.cells++cs.drop (off+xw.cells.length)))).slot G H s b->bj st.slot G H s b\/w.heap.size<=b:=fun b hl=>by
    rcases hl with⟨g2,lI,h1,h2⟩|⟨e,k,g2,es,h1,h2⟩|⟨g2,K2,h1,h2⟩
    ·exact .inl (.inl ⟨g,cs,eC,h2⟩)
    ·rw[St.jC,if_pos ⟨rfl,gD⟩] at h1;cases h1
    ·rw[St.jC,if_pos ⟨rfl,gD⟩] at h1;cases h1
   refine⟨?_,IW s _ (fun _ _=>rfl) (fun _ _=>rfl) f2.size EP ER (.inl (bg s rfl))⟩
   refine hR.IV s _ gD (fun _ _=>rfl) (fun _ _=>rfl) f2.os f2.tape f2.output f2.size EP ER (by rw[eC];exact di _)
    (fun e k g es h=>by cases h) (fun g2 lI h _=>by cases h;exact⟨⟨cs,eC⟩,rfl⟩) (fun g2 K2 h=>by cases h) (fun m g2 lI h=> ?_) (fun m e k g es h=>by cases h) (fun m g2 K2 h=>by cases h)
   ·cases h;refine⟨_,f1,?_⟩
    have eK:(yo arr.toArray off v.cells.toList).toList=arr.take off++v.cells.toList++arr.drop (off+xw.cells.length):=by
     rw[XV _ _ _ (by simp;omega)];simp[hsz,e2]
    have:=((bT.mv m (hcs.take off)).app (bT.mv m hw)).app (bT.mv m (hcs.drop (off+xw.cells.length)));rw[<-eK] at this;simpa using this
  |pr s g i off=>
   simp only[St.store] at e3;split at e3
   case h_2=>cases e3
   rename_i e k g' es hs;split at e3
   case isFalse=>cases e3
   rename_i hc;obtain⟨rfl,ame⟩:=hc;split at e3
   case h_2=>cases e3
   rename_i row bD;split at e3
   case isFalse=>cases e3
   rename_i hlen;simp only[ar] at e3;subst e3;obtain⟨eC,gD⟩:=Ja hs;obtain⟨_,wA⟩:=hv;obtain⟨b,n1,c1,hH,ep⟩:=wA e k es eC;obtain⟨hnF,xs,how,iq,Cq⟩:=hR.rw s e k g es eC
   have bE:(H s).ownBlock=some b:=by rw[hH];rfl
   have hi:=(bk.1 bD).1;have kr:=iq i row bD;have nb:=how.1;have hle:(i+1)*k<=es.length*k:=pe k hi;rw[tu,Nat.one_mul] at hle;obtain⟨b',cap,e4,_,_⟩:=how.form aa
   have zM:b'=b:=by rw[e4] at bE;simpa [Value.ownBlock] using bE
   subst zM;have Jc:=how;rw[e4] at Jc
   have MO:w.there b' (i*k+off) v.cells.size:=fun j hj=>by
    refine⟨?_,Jc.frozenAt _⟩;rw[Jc.cellAt _ aa];simp;omega
   refine fin b' (i*k+off) ep MO ⟨G,H,?_⟩;obtain⟨f1,f2⟩:=XX v.cells.toList (i*k+off) Jc;rw[<-e4] at f1
   have pF:v.cells.toList.length=xw.cells.length:=by simp;omega
   have EP:∀b,b<w.heap.size->¬bj st.slot G H s b->(w.setCells b' (i*k+off) v.cells.toList).heap[b]? =w.heap[b]? :=(fun b hlt hl=>f2.block b hlt (fun e'=>hl (by simp at e';subst e';exact .inr (.inl ⟨e,k,g,es,eC,bE⟩))))
   have ER:∀b,bj (st.bM s (.row e k g (es.set i (row.take off++xw.cells++row.drop (off+xw.cells.length))))).slot G H s b->bj st.slot G H s b\/w.heap.size<=b:=fun b hl=>by
    rcases hl with⟨g2,lI,h1,h2⟩|⟨e2,k2,g2,dB,h1,h2⟩|⟨g2,K2,h1,h2⟩
    ·rw[St.jC,if_pos ⟨rfl,gD⟩] at h1;cases h1
    ·exact .inl (.inr (.inl ⟨e,k,g,es,eC,h2⟩))
    ·rw[St.jC,if_pos ⟨rfl,gD⟩] at h1;cases h1
   refine⟨?_,IW s _ (fun _ _=>rfl) (fun _ _=>rfl) f2.size EP ER (.inl (bg s rfl))⟩
   refine hR.IV s _ gD (fun _ _=>rfl) (fun _ _=>rfl) f2.os f2.tape f2.output f2.size EP ER (by rw[eC];exact di _)
    (fun e2 k2 g2 dB h _=>by cases h;exact⟨⟨es,eC⟩,rfl⟩) (fun g2 lI h=>by cases h) (fun g2 K2 h=>by cases h) (fun m g2 lI h=>by cases h) (fun m e2 k2 g2 dB h=> ?_) (fun m g2 K2 h=>by cases h)
   ·cases h
    have amf:(row.take off++xw.cells++row.drop (off+xw.cells.length)).length=k:=by simp;omega
    refine⟨_,by rw[List.length_set];exact f1,fun i' row' hi'=> ?_,fun i' row' j x' u hi' hj hu=> ?_⟩
    ·rw[vR] at hi';split at hi'
     ·simp only[ar] at hi';rw[<-hi'];exact amf
     ·exact iq i' row' hi'
    ·rw[amd _ _ _ aa] at hu;rw[vR] at hi';split at hi'
     ·rename_i wj;subst wj;simp only[ar] at hi';subst hi';by_cases h1:j<off
      ·rw[if_neg aa] at hu;rw[List.append_assoc,kj (by simp;omega),th,if_pos h1] at hj;exact IR.mv m (Cq i row j x' u bD hj hu)
      ·by_cases h2:j<off+xw.cells.length
       ·rw[if_pos aa,show i*k+j-(i*k+off)=j-off by omega] at hu;rw[kj (by simp;omega),cD (by simp;omega),eo,zw aa] at hj;have bg:inl x'=true:=dY.1 ame x' (dJ hj);exact IR.mv m ((hw.2 _ x' u hj hu).ir bg)
       ·rw[if_neg aa] at hu;rw[cD (by simp;omega),lW] at hj;simp only[List.length_append,eo] at hj;rw[zw aa,show off+xw.cells.length+(j-(off+xw.cells.length))=j by omega] at hj;exact IR.mv m (Cq i row j x' u bD hj hu)
     ·rename_i wj
      have dx:j<k:=by
       have:=(bk.1 hj).1;rw[iq i' row' hi'] at this;exact this
      have EI:¬(i*k+off<=i'*k+j/\i'*k+j<i*k+off+v.cells.toList.length):=by
       rcases Nat.lt_or_ge i i' with hlt|pw
       ·have:=pe k hlt;rw[Nat.succ_mul] at this;omega
       ·have hlt:i'<i:=aa;have:=pe k hlt;rw[Nat.succ_mul] at this;omega
      rw[if_neg EI] at hu;exact IR.mv m (Cq i' row' j x' u hi' hj hu)
end
end Ab
namespace Ab
open Go Go.RowKit
section
variable {P:Program} {N:Nat} {F M:Nat->Prop} {w0:iy} {w:World} {st:St} {G:Nat->Gh} {H:Nat->Value} {a:Act}
theorem alloc_old (w:World)(o:Obj){b:Nat}(h:b<w.heap.size):(w.alloc o).heap[b]? =w.heap[b]? :=Below.heap_alloc w o b h
theorem Rel.XZ (h:Rel N F M w0 st G H a w)(s:Nat)(hs:(aB st.S s).isSome=true){cs:List AC}{arr:List Value}(t:TypeId)(hc:bT w (aW M st.slot G H) st.slot G H cs arr):
  Rel N F M w0 (st.bM s (.box ((st.slot s).gen+1) cs)) (fun i=>if i=s then gh w.heap.size else G i) H a (w.alloc (.cells arr.toArray t))/\
   ∀U,yq U st.slot G H w (st.bM s (.box ((st.slot s).gen+1) cs)).slot (fun i=>if i=s then gh w.heap.size else G i) H (w.alloc (.cells arr.toArray t)):=by
 have jb:∀b,bj (st.bM s (.box ((st.slot s).gen+1) cs)).slot (fun i=>if i=s then gh w.heap.size else G i) H s b->bj st.slot G H s b\/w.heap.size<=b:=fun b hl=>by
  rcases hl with⟨g,c,h1,h2⟩|⟨e,k,g,es,h1,h2⟩|⟨g,K,h1,h2⟩
  ·simp only[lX,gh] at h2;exact .inr aa
  ·rw[St.jC,if_pos ⟨rfl,hs⟩] at h1;cases h1
  ·rw[St.jC,if_pos ⟨rfl,hs⟩] at h1;cases h1
 refine⟨?_,fun U=>IW s _ (fun i hi=>by simp[hi]) (fun _ _=>rfl) ae (fun b hlt _=>alloc_old w _ hlt) jb (.inr fun b hlt=>alloc_old w _ hlt)⟩;refine h.IV s _ hs (fun i hi=>by simp[hi]) (fun _ _=>rfl) rfl rfl rfl ae (fun b hlt _=>alloc_old w _ hlt) jb (by simp[Slot.gen]) (fun e k g es h=>by cases h) (fun g c h hg=>by cases h;omega) (fun g K h=>by cases h) (fun m g c h=> ?_) (fun m e k g es h=>by cases h) (fun m g K h=>by cases h)
 ·cases h;simp only[lX,gh];exact⟨arr,az.new w _ _,bT.mv m hc⟩
theorem amg {U:Option (List Nat)}{o:Oper}{t:TypeId}{z:Operand}{q:aw}{s:Nat}(ho:o.op=.box t z)(hz:cJ z q):
  kO P U o (fun st X=>∃xw,st.arg q=some (.w xw)/\(aB st.S s).isSome=true/\X (.pb s ((st.slot s).gen+1) 0) (st.bM s (.box ((st.slot s).gen+1) xw.cells))):=by
 intro N F M w0 w st G H a X hR hs K Q hK;obtain⟨xw,e1,e2,hX⟩:=hs;have hw:=WR.cells (hR.arg hz e1);obtain⟨bC,hst⟩:=hR.XZ s e2 t hw;have hx:=hK _ _ _ _ (.pointer (some ⟨w.heap.size,0,none⟩)) _ hX bC (hst U) ⟨by rw[St.jC,if_pos ⟨rfl,e2⟩];exact di _,fun cs hc=>by simp[gh]⟩;unfold Oper.wp execOp;simp only[ho,Instr.box,newVar,newRow,lp,run_newObj,pf,qC];exact hx
theorem amh {U:Option (List Nat)}{o:Oper}{t:TypeId}{s:Nat}{z:List Value}{za:List AC}{ns:List Nat}(ho:o.op=.alloc t)(h2:zeroOf P t=some z)(h3:wM ns 0 z=some za):
  kO P U o (fun st X=>(aB st.S s).isSome=true/\X (.pb s ((st.slot s).gen+1) 0) (st.bM s (.box ((st.slot s).gen+1) za))):=by
 intro N F M w0 w st G H a X hR hs K Q hK;obtain⟨e2,hX⟩:=hs;obtain⟨bC,hst⟩:=hR.XZ s e2 t (IZ h3);have hx:=hK _ _ _ _ (.pointer (some ⟨w.heap.size,0,none⟩)) _ hX bC (hst U) ⟨by rw[St.jC,if_pos ⟨rfl,e2⟩];exact di _,fun cs hc=>by simp[gh]⟩;unfold zeroOf at h2
 cases hi:P.info? t with
 |none=>simp[hi] at h2
 |some it=>
  simp only[hi,Option.bind_some,bz] at h2;obtain⟨zv,hz,rfl⟩:=h2;unfold Oper.wp execOp;simp only[Array.toArray_toList] at hx;simp[ho,Instr.alloc,zeroValue,typeInfo,hi,hz,newVar,newRow];exact hx
def rowsOf (k n:Nat)(cs:List AC):List (List AC):=(List.range n).map fun i=>(cs.drop (i*k)).take k
theorem Ya {k n:Nat}{cs:List AC}{i:Nat}{row:List AC}(h:(rowsOf k n cs)[i]? =some row):i<n/\row=(cs.drop (i*k)).take k:=by
 unfold rowsOf at h;rw[ek,bz] at h;obtain⟨j,hj,rfl⟩:=h;have hlt:=(bk.1 hj).1;simp at hlt;rw[zo hlt] at hj;simp only[ar] at hj;subst hj;exact⟨hlt,rfl⟩
theorem MP {k n i j:Nat}(hi:i<n)(hj:j<k):i*k+j<n*k:=by
 have:=pe k hi;rw[Nat.succ_mul] at this;omega
theorem Jd {A:Nat->Prop}{S:Nat->Slot}{k n:Nat}{cs:List AC}{us:List Value}(hl:cs.length=n*k)(hc:bT w A S G H cs us)(hi:cs.all inl=true):mz w A k (rowsOf k n cs) us:=by
 refine⟨fun i row h=> ?_,fun i row j x u h1 h2 h3=> ?_⟩
 ·obtain⟨hlt,rfl⟩:=Ya h;have:=pe k hlt;rw[Nat.succ_mul] at this;simp;omega
 ·obtain⟨hlt,rfl⟩:=Ya h1;rw[zR] at h2;split at h2
  case isFalse=>cases h2
  exact(hc.2 _ x u h2 h3).ir (dY.1 hi x (dJ h2))
theorem ES {A:Nat->Prop}{k n b c:Nat}{es:List (List AC)}{us:List Value}(hn:es.length=n)(hr:mz w A k es us)(hl:us.length=n*k)(hA:¬A b)(hc:n<=c)(hm:n<=9223372036854775807)(hcell:∀j u,us[j]? =some u->w.cell? ⟨b,j,none⟩=some u):
  IR w A (.sl es) (.slice (some ⟨b,0,none⟩) n c):=by
 subst hn;refine IR.sl k es _ c (fun i j=>us.getD (i*k+j) undef) hc hm hr.1 (fun i row j x h1 h2=> ?_) (fun i row j h1 h2=> ?_)
 ·have hi:=(bk.1 h1).1;have hj:=(bk.1 h2).1;rw[hr.1 i row h1] at hj;have hb:=MP hi hj
  have hu:us[i*k+j]? =some (us.getD (i*k+j) undef):=by rw[eu,List.getElem?_eq_getElem aa];rfl
  exact hr.2 i row j x _ h1 h2 hu
 ·have hi:=(bk.1 h1).1;rw[hr.1 i row h1] at h2;have hb:=MP hi h2
  have hu:us[i*k+j]? =some (us.getD (i*k+j) undef):=by rw[eu,List.getElem?_eq_getElem aa];rfl
  exact⟨b,0,rfl,hA,by rw[fK];exact hcell _ _ hu⟩
def cp (k n:Nat)(za:List AC):List AC:=(List.range (n*k)).map fun j=>za.getD (j%k) (.v (.int .i64 0))
theorem MQ {A:Nat->Prop}{S:Nat->Slot}{k n:Nat}{za:List AC}{z:Array Value}(h:bT w A S G H za z.toList)(hk:z.size=k)(bF:0<k):bT w A S G H (cp k n za) ((Array.range (n*k)).map (z[·%z.size]!)).toList:=by
 have tU:za.length=k:=by have:=h.1;simp at this;omega
 refine⟨by simp[cp],fun j x u e1 e2=> ?_⟩;unfold cp at e1;rw[ek,bz] at e1;obtain⟨j',BH,rfl⟩:=e1;have hlt:=(bk.1 BH).1;simp at hlt;rw[zo hlt] at BH;simp only[ar] at BH;subst BH;have hm:=mN j bF
 have MI:u=z[j%k]' aa:=by
  subst hk;simp[hlt] at e2;rw[<-e2];exact getElem!_pos z (j%z.size) aa
 refine h.2 (j%k) _ u ?_ ?_
 ·rw[eu,List.getElem?_eq_getElem aa];rfl
 ·rw[MI];simp
theorem MR:∀(z:List AC) (l:List (Nat×Nat×List AC)) (r:List AC),jQ z l=some r->r.length=z.length
 |z,[],r,h=>by simp only[jQ,ar] at h;rw[h]
 |z,(off,size,cs)::l,r,h=>by
  unfold jQ at h;split at h
  ·rename_i hc;rw[MR _ l r h];simp;omega
  ·cases h
theorem Yb {t e:TypeId}{k n:Nat}{z:List Value}{za cs:List AC}{qs:List (Nat×Nat×aw)}{pr:List (Nat×Nat×List AC)}{ps:Array (Nat×Operand)}(hR:Rel N F M w0 st G H a w)(hu:P.underlying t=some (.slice e))(hk:(P.info? e).map (·.size)=some k)(bF:0<k)(tU:z.length=k)(hn:n*k<=16777216)
  (h2:zeroOf P e=some z) (h3:yy z=some za) (hp:zU (fun i=>some (i*k,k)) ps.toList qs) (e1:mB st qs=some pr) (e2:jQ (cp k n za) pr=some cs):
  ∃out:List Value,bT w (aW M st.slot G H) st.slot G H cs out/\(Instr.buildSlice t n (ps.map fun(i,x)=>(i,a.eval x))).run P w=.ok (.slice (some ⟨w.heap.size,0,none⟩) n n) (w.alloc (.cells out.toArray e)):=by
 obtain⟨f1,f2⟩:=hR.parts _ hp e1;have hz:=MN (w:=w) (G:=G) (H:=H) (A:=aW M st.slot G H) (S:=st.slot) h3;unfold zeroOf at h2
 cases hi:P.info? e with
 |none=>simp[hi] at h2
 |some it=>
  simp only[hi,Option.bind_some,bz] at h2;obtain⟨zv,MS,rfl⟩:=h2
  have hsz:it.size=k:=by simpa [hi] using hk
  have LM:zv.cells.size=k:=by simpa using tU
  obtain⟨out,f3,f4⟩:=MJ (w:=w) (G:=G) (H:=H) (A:=aW M st.slot G H) (S:=st.slot) (fun i=>some (i*k,k)) (ps.toList.map fun(i,x)=>(i,a.eval x)) pr ((Array.range (n*k)).map (zv.cells[·%zv.cells.size]!)) (cp k n za) cs (MQ hz LM bF) (by simpa using f1) f2 e2;refine⟨out.toList,f4,?_⟩;unfold Instr.buildSlice
  have Yc:∀w',(sizeOf e).run P w'=.ok k w':=fun w'=>zS hk w'
  by_cases h0:n*k=0
  ·have MT:n=0:=by
    rcases Nat.mul_eq_zero.1 h0 with h|h
    ·exact h
    ·omega
   subst MT
   have h00:∀f:Nat->Value,(Array.range 0).map f=#[]:=fun f=>Array.eq_empty_of_size_eq_zero ae
   have MU:Instr.fill (fun i=>some (i*k,k)) #[] (ps.toList.map fun(i,x)=>(i,a.eval x))=some out:=by
    rw[Nat.zero_mul,h00] at f3;exact f3
   simp[km hu,Yc,newRow,h00,MU]
  ·have hlt:¬16777216<n*k:=aa;simp[km hu,Yc,zeroValue,typeInfo,hi,MS,h0,hlt,newRow,run_newObj];have MU:Instr.fill (fun i=>some (i*k,k)) ((Array.range (n*k)).map fun x=>zv.cells[x%zv.cells.size]!) (ps.toList.map fun(i,x)=>(i,a.eval x))=some out:=f3;simp[MU]
end
end Ab
namespace Ab
open Go Go.RowKit
section
variable {P:Program} {N:Nat} {F M:Nat->Prop} {w0:iy} {w:World} {st:St} {G:Nat->Gh} {H:Nat->Value} {a:Act}
theorem Rel.alloc (h:Rel N F M w0 st G H a w)(o:Obj):Rel N F M w0 st G H a (w.alloc o):=h.grow rfl rfl rfl ae (fun b hb=>alloc_old w o hb)
theorem Rel.Ye (h:Rel N F M w0 st G H a w):¬aW M st.slot G H w.heap.size:=fun hh=>by
 rcases hh with hm|⟨s,hl⟩
 ·have:=h.lo _ (.inr hm);have:=h.fr.size;omega
 ·have:=(h.nD hl).1;omega
theorem Yf (o:Obj):Mv w (w.alloc o) (aW M st.slot G H) (aW M st.slot G H) st.slot st.slot G G H H:=
 ⟨ae,fun _ _ h=>h,fun b hlt _=>alloc_old w o hlt,fun _=>di _,fun s e k g es h1 _=>⟨⟨es,h1⟩,rfl⟩,fun s g cs h1 _=>⟨⟨cs,h1⟩,rfl⟩,fun s g K h1 _=>⟨⟨K,h1⟩,rfl,rfl⟩⟩
theorem Rel.newRow (h:Rel N F M w0 st G H a w)(s:Nat)(hs:(aB st.S s).isSome=true){e k n:Nat}{es:List (List AC)}{v:Value}{w':World}{xs:List Value}(hn:es.length=n)(ho:w'.ownsRow 0 e k v n xs)(hg:w.grownBy w' v.ownBlock\/∃r,w.grownBy w' r/\∀b,r=some b->bj st.slot G H s b)
  (hb:∀b,v.ownBlock=some b->bj st.slot G H s b\/w.heap.size<=b) (hr:∀w2 A2,(∀x u,IR w (aW M st.slot G H) x u->IR w2 A2 x u)->mz w2 A2 k es xs):
  Rel N F M w0 (st.bM s (.row e k ((st.slot s).gen+1) es)) G (fun i=>if i=s then v else H i) a w'/\
   ∀U,(sy U s\/∀b,b<w.heap.size->w'.heap[b]? =w.heap[b]?)->yq U st.slot G H w (st.bM s (.row e k ((st.slot s).gen+1) es)).slot G (fun i=>if i=s then v else H i) w':=by
 have lY:w'.os=w.os/\w'.tape=w.tape/\w'.output=w.output/\w.heap.size<=w'.heap.size/\∀b,b<w.heap.size->¬bj st.slot G H s b->w'.heap[b]? =w.heap[b]? :=by
  rcases hg with hg|⟨r,hg,hr⟩
  ·refine⟨hg.os,hg.tape,hg.output,hg.size,fun b hlt hl=>hg.block b hlt (fun e=> ?_)⟩
   rcases hb b e.symm with h1|h1
   ·exact hl h1
   ·omega
  ·exact⟨hg.os,hg.tape,hg.output,hg.size,fun b hlt hl=>hg.block b hlt (fun e=>hl (hr b e.symm))⟩
 obtain⟨h1,h2,h3,h4,h5⟩:=lY;subst hn
 have jb:∀b,bj (st.bM s (.row e k ((st.slot s).gen+1) es)).slot G (fun i=>if i=s then v else H i) s b->bj st.slot G H s b\/w.heap.size<=b:=fun b hl=>by
  rcases hl with⟨g,c,q1,q2⟩|⟨e2,k2,g2,dB,q1,q2⟩|⟨g2,K2,q1,q2⟩
  ·rw[St.jC,if_pos ⟨rfl,hs⟩] at q1;cases q1
  ·simp only[lX] at q2;exact hb b q2
  ·rw[St.jC,if_pos ⟨rfl,hs⟩] at q1;cases q1
 refine⟨?_,fun U hU=>IW s _ (fun _ _=>rfl) (fun i hi=>by simp[hi]) h4 h5 jb hU⟩;refine h.IV s _ hs (fun _ _=>rfl) (fun i hi=>by simp[hi]) h1 h2 h3 h4 h5 jb (by simp[Slot.gen]) (fun e k g es h hg=>by cases h;omega) (fun g c h=>by cases h) (fun g K h=>by cases h) (fun m g c h=>by cases h) (fun m e2 k2 g2 dB h=> ?_) (fun m g K h=>by cases h)
 ·cases h;simp only[lX];exact⟨xs,ho,hr _ _ (fun x u hx=>IR.mv m hx)⟩
theorem mz.map {A A2:Nat->Prop}{w2:World}{k:Nat}{es:List (List AC)}{xs:List Value}(h:mz w A k es xs)(hm:∀x u,IR w A x u->IR w2 A2 x u):mz w2 A2 k es xs:=⟨h.1,fun i row j x u h1 h2 h3=>hm x u (h.2 i row j x u h1 h2 h3)⟩
theorem ami {U:Option (List Nat)}{o:Oper}{t e:TypeId}{k n:Nat}{z:List Value}{za:List AC}{qs:List (Nat×Nat×aw)}{ps:Array (Nat×Operand)}(ho:o.op=.buildSlice t n ps)(hu:P.underlying t=some (.slice e))(hk:(P.info? e).map (·.size)=some k)(bF:0<k)(tU:z.length=k)(hn:n*k<=16777216)
  (h2:zeroOf P e=some z) (h3:yy z=some za) (hp:zU (fun i=>some (i*k,k)) ps.toList qs):
  kO P U o (fun st X=>∃pr cs,mB st qs=some pr/\jQ (cp k n za) pr=some cs/\cs.all inl=true/\X (.w (.c (.sl (rowsOf k n cs)))) st):=by
 intro N F M w0 w st G H a X hR hs K Q hK;obtain⟨pr,cs,e1,e2,e3,hX⟩:=hs;obtain⟨out,f1,f2⟩:=Yb hR hu hk bF tU hn h2 h3 hp e1 e2
 have hl:cs.length=n*k:=by rw[MR _ _ _ e2];simp[cp]
 have sj:n<=n*k:=Nat.le_mul_of_pos_right n bF;have m:=Yf (w:=w) (M:=M) (st:=st) (G:=G) (H:=H) (.cells out.toArray e);have bD:=(Jd hl f1 e3).map (fun x u hx=>IR.mv m hx)
 have hx:=hK _ _ _ _ (.slice (some ⟨w.heap.size,0,none⟩) n n) _ hX (hR.alloc (.cells out.toArray e)) (EL ae fun b hlt=>alloc_old w _ hlt)
  (ES (by simp[rowsOf]) bD (by rw[f1.1,hl]) hR.Ye av aa (fun j u hu=>by rw[(az.new w out.toArray e).cell];simpa using hu))
 unfold Oper.wp execOp;simp only[ho,lp,f2,pf,qC];exact hx
theorem amj {U:Option (List Nat)}{o:Oper}{t e:TypeId}{k n s:Nat}{z:List Value}{za:List AC}{qs:List (Nat×Nat×aw)}{ps:Array (Nat×Operand)}(ho:o.op=.buildSlice t n ps)(hu:P.underlying t=some (.slice e))(hk:(P.info? e).map (·.size)=some k)(bF:0<k)(tU:z.length=k)(hn:n*k<=16777216)
  (h2:zeroOf P e=some z) (h3:yy z=some za) (hp:zU (fun i=>some (i*k,k)) ps.toList qs):
  kO P U o (fun st X=>∃pr cs,mB st qs=some pr/\jQ (cp k n za) pr=some cs/\cs.all inl=true/\(aB st.S s).isSome=true/\X (.w (.c (.own s ((st.slot s).gen+1)))) (st.bM s (.row e k ((st.slot s).gen+1) (rowsOf k n cs)))):=by
 intro N F M w0 w st G H a X hR hs K Q hK;obtain⟨pr,cs,e1,e2,e3,cA,hX⟩:=hs;obtain⟨out,f1,f2⟩:=Yb hR hu hk bF tU hn h2 h3 hp e1 e2
 have hl:cs.length=n*k:=by rw[MR _ _ _ e2];simp[cp]
 have sj:n<=n*k:=Nat.le_mul_of_pos_right n bF
 have how:(w.alloc (.cells out.toArray e)).ownsRow 0 e k (.slice (some ⟨w.heap.size,0,none⟩) n n) n out:=by
  have:=World.ownsRow_lit (base:=w.heap.size) (e:=e) (size:=k) w out.toArray n av (by simp only[maxLen];omega) (by simp;rw[f1.1,hl]);exact(by simpa using this:(w.alloc (.cells out.toArray e)).ownsRow w.heap.size e k _ n out).mono (Nat.zero_le _)
 obtain⟨bC,hst⟩:=hR.newRow (w':=w.alloc (.cells out.toArray e)) s cA (e:=e) (k:=k) (es:=rowsOf k n cs) (by simp[rowsOf]) how (.inl (XP w _ _)) (fun b hb=> .inr (by simp[Value.ownBlock] at hb;omega)) (fun w2 A2 hm=>(Jd hl f1 e3).map hm);have hx:=hK _ _ _ _ (.slice (some ⟨w.heap.size,0,none⟩) n n) _ hX bC (hst U (.inr fun b hlt=>alloc_old w _ hlt)) ⟨rfl,by rw[St.jC,if_pos ⟨rfl,cA⟩];exact di _,fun _ _ _ _=>ae⟩;unfold Oper.wp execOp;simp only[ho,lp,f2,pf,qC];exact hx
theorem amk {U:Option (List Nat)}{o:Oper}{e k s:Nat}(ho:o.op=.assign (.const (.slice none 0 0))\/o.op=.move (.const (.slice none 0 0))):kO P U o (fun st X=>(aB st.S s).isSome=true/\X (.w (.c (.own s ((st.slot s).gen+1)))) (st.bM s (.row e k ((st.slot s).gen+1) []))):=by
 intro N F M w0 w st G H a X hR hs K Q hK;obtain⟨cA,hX⟩:=hs;obtain⟨bC,hst⟩:=hR.newRow (w':=w) s cA (e:=e) (k:=k) (es:=[]) rfl (lf w 0 e k) (.inl ⟨rfl,rfl,rfl,di _,fun _ _ _=>rfl⟩) (fun b hb=>by simp[Value.ownBlock] at hb) (fun w2 A2 hm=>⟨fun i row h=>by simp at h,fun i row j x u h=>by simp at h⟩);have hx:=hK _ _ _ _ (.slice none 0 0) _ hX bC (hst U (.inr fun _ _=>rfl)) ⟨rfl,by rw[St.jC,if_pos ⟨rfl,cA⟩];exact di _,fun _ _ _ _=>ae⟩;unfold Oper.wp execOp
 rcases ho with ho|ho<;>(simp only[ho,qC];exact hx)
end
end Ab
namespace Ab
open Go Go.RowKit
section
variable {P:Program} {N:Nat} {F M:Nat->Prop} {w0:iy} {w:World} {st:St} {G:Nat->Gh} {H:Nat->Value} {a:Act}
theorem Rel.flat (h:Rel N F M w0 st G H a w){x:Operand}{y:aw}(eV:cJ x y){U:List Nat}{es:List (List AC)}{k:Nat}(bF:0<k)(hr:st.rows U (st.arg y)=some es)(hk:∀row∈es,row.length=k):
  ∃ad c,∃us:List Value,a.eval x=.slice ad es.length c/\us.length=es.length*k/\mz w (aW M st.slot G H) k es us/\(∀j u,us[j]? =some u->∃b o,ad=some ⟨b,o,none⟩/\w.cell? ⟨b,o+j,none⟩=some u)/\(∀u∈us,u.oneCell'=true):=by
 have eQ:∀(i:Nat) (row:List AC),es[i]? =some row->row.length=k:=fun i row hi=>hk row (dJ hi)
 unfold St.rows at hr;split at hr
 ·rename_i es' hv;simp only[ar] at hr;subst hr;have h3:IR w (aW M st.slot G H) (.sl es') (a.eval x):=h.arg eV hv;generalize a.eval x=q at h3
  cases h3 with
  |sl k' _ ad c u hn hm mY hc hl=>
   have Yg:∀p,p<es'.length*k->p/k<es'.length/\p%k<k/\p/k*k+p%k=p:=fun p hp=>⟨(Nat.div_lt_iff_lt_mul bF).2 hp,mN _ bF,by rw[Nat.mul_comm];exact Nat.div_add_mod p k⟩
   have xY:∀i j,j<k->(i*k+j)/k=i/\(i*k+j)%k=j:=fun i j hj=>by
    constructor
    ·rw[Nat.mul_comm,Nat.mul_add_div bF,Nat.div_eq_of_lt hj,qB]
    ·rw[Nat.mul_comm,Nat.mul_add_mod,Nat.mod_eq_of_lt hj]
   have lG:∀p v,((List.range (es'.length*k)).map fun p=>u (p/k) (p%k))[p]? =some v->p<es'.length*k/\v=u (p/k) (p%k):=by
    intro p v hp;rw[ek,bz] at hp;obtain⟨q,hq,rfl⟩:=hp;have hlt:=(bk.1 hq).1;simp at hlt;rw[zo hlt] at hq;simp only[ar] at hq;subst hq;exact⟨hlt,rfl⟩
   refine⟨ad,c,(List.range (es'.length*k)).map fun p=>u (p/k) (p%k),rfl,ae,⟨eQ,fun i row j x' v h1 h2 h3=> ?_⟩,fun p v hp=> ?_,fun v hv=> ?_⟩
   ·have hj:=(bk.1 h2).1;rw[eQ i row h1] at hj;obtain⟨_,rfl⟩:=lG _ _ h3;rw[(xY i j hj).1,(xY i j hj).2];exact hc i row j x' h1 h2
   ·obtain⟨hlt,rfl⟩:=lG _ _ hp;obtain⟨g1,g2,g3⟩:=Yg p hlt;have bD:es'[p/k]? =some es'[p/k]:=List.getElem?_eq_getElem g1;have iq:=eQ _ _ bD;obtain⟨b,o,e1,_,e2⟩:=hl _ _ (p%k) bD aa;have tw:=mY _ _ bD;rw[show k'=k by omega] at e2;exact⟨b,o,e1,by rw[<-e2,Nat.add_assoc,g3]⟩
   ·obtain⟨p,hp⟩:=qu hv;obtain⟨hlt,rfl⟩:=lG _ _ hp;obtain⟨g1,g2,g3⟩:=Yg p hlt;have bD:es'[p/k]? =some es'[p/k]:=List.getElem?_eq_getElem g1;have iq:=eQ _ _ bD;exact(hc _ _ (p%k) ((es'[p/k])[p%k]' aa) bD ae).one
 ·rename_i s g hv;split at hr
  case h_2=>cases hr
  rename_i e k' g' es' hs;split at hr
  case isFalse=>cases hr
  rename_i hg;obtain⟨rfl,_⟩:=hg;simp only[ar] at hr;subst hr;have h3:CR w (aW M st.slot G H) st.slot G H (.own s g) (a.eval x):=h.arg eV hv;obtain⟨_,_,hH⟩:=h3;obtain⟨_,xs,how,iq,Cq⟩:=h.rw s e k' g es' hs;rw[hH e k' es' hs];by_cases h0:es'=[]
  ·subst h0;have Cr:xs=[]:=tf (by have:=how.1;simpa using this);subst Cr
   rcases how.2 with⟨e1,_⟩|⟨gg,cap,cur,e1,_⟩
   ·exact⟨none,0,[],e1,ae,⟨eQ,fun i row j x' v h1=>by simp at h1⟩,fun j u hj=>by simp at hj,fun u hu=>by simp at hu⟩
   ·exact⟨_,cap,[],e1,ae,⟨eQ,fun i row j x' v h1=>by simp at h1⟩,fun j u hj=>by simp at hj,fun u hu=>by simp at hu⟩
  ·have Br:0<es'.length:=HF.2 h0;have bD:es'[0]? =some es'[0]:=List.getElem?_eq_getElem Br
   have MG:k'=k:=by rw[<-iq _ _ bD];exact eQ _ _ bD
   subst MG;obtain⟨b,cap,e1,_,_⟩:=how.form Br;have hcell:=how.cells (g:=b) (by rw[e1];rfl);refine⟨_,cap,xs,e1,how.1,⟨iq,Cq⟩,fun j u hj=>⟨b,0,rfl,?_⟩,fun u hu=> ?_⟩
   ·have:=hcell j u hj;rwa[Addr.add_mid] at this
   ·obtain⟨p,hp⟩:=qu hu;have hlt:=(bk.1 hp).1;rw[how.1] at hlt;have g1:p/k'<es'.length:=(Nat.div_lt_iff_lt_mul bF).2 hlt;have g2:=mN p bF
    have g3:p/k'*k'+p%k'=p:=by rw[Nat.mul_comm];exact Nat.div_add_mod p k'
    have bD:es'[p/k']? =some es'[p/k']:=List.getElem?_eq_getElem g1;have awL:=iq _ _ bD;exact(Cq _ _ (p%k') ((es'[p/k'])[p%k']' aa) u bD ae (by rw[g3];exact hp)).one
 ·cases hr
theorem mz.app {A:Nat->Prop}{k:Nat}{es ys:List (List AC)}{xs us:List Value}(h1:mz w A k es xs)(h2:mz w A k ys us)(hx:xs.length=es.length*k):mz w A k (es++ys) (xs++us):=by
 refine⟨fun i row h=> ?_,fun i row j x u e1 e2 e3=> ?_⟩
 ·rcases fA.1 (dJ h) with hm|hm
  ·obtain⟨j,hj⟩:=qu hm;exact h1.1 j row hj
  ·obtain⟨j,hj⟩:=qu hm;exact h2.1 j row hj
 ·by_cases hi:i<es.length
  ·rw[kj hi] at e1;have hj:=(bk.1 e2).1;rw[h1.1 i row e1] at hj;rw[kj (by rw[hx];exact MP hi hj)] at e3;exact h1.2 i row j x u e1 e2 e3
  ·rw[cD aa] at e1;have hle:es.length*k<=i*k:=pe k aa;rw[cD aa,hx] at e3;refine h2.2 _ row j x u e1 e2 ?_;rw[Nat.sub_mul,show i*k-es.length*k+j=i*k+j-es.length*k by omega];exact e3
theorem aml {U:Option (List Nat)}{o:Oper}{t e:TypeId}{k bytes:Nat}{zv:Value}{x z:Operand}{y q:aw}(ho:o.op=.call { callee:=.builtin .append,args:=#[x,z],argTypes:=#[t,t] })(hu:P.underlying t=some (.slice e))(mO:(P.info? e).map (fun i=>(i.zero,i.size,i.bytes))=some (some zv,k,bytes))(po:zv.cells.size=k)(bF:0<k)(kq:bytes<=1000)(hx:cJ x y)(hz:cJ z q):
  kO P U o (fun st X=>∃s g es ys,st.arg y=some (.w (.c (.own s g)))/\aB st.S s=some (.row e k g es)/\st.rows [s] (st.arg q)=some ys/\(∀row∈ys,row.length=k)/\es.length+ys.length<=100000000/\sy U s/\X (.w (.c (.own s (g+1)))) (st.bM s (.row e k (g+1) (es++ys)))):=by
 intro N F M w0 w st G H a X hR hs K Q hK;obtain⟨s,g,es,ys,e1,e2,e3,e4,e5,bg,hX⟩:=hs;obtain⟨eC,gD⟩:=Ja e2;have h3:CR w (aW M st.slot G H) st.slot G H (.own s g) (a.eval x):=hR.arg hx e1;obtain⟨_,_,hH⟩:=h3;have yw:=hH e k es eC;obtain⟨_,xs,how,tV⟩:=hR.rw s e k g es eC;obtain⟨ad,c,us,f1,f2,f3,f4,f5⟩:=hR.flat hz bF e3 e4;obtain⟨it,hi,jn,ij,kF⟩:=info_parts mO
 have lF:(st.slot s).gen=g:=by rw[eC];rfl
 have key:∀v' w',w'.ownsRow 0 e k v' (es.length+ys.length) (xs++us)->w.grownBy w' (H s).ownBlock->(v'.ownBlock=(H s).ownBlock\/v'.ownBlock=some w.heap.size)->K (a.put o.dst v') w':=by
  intro v' w' g1 g2 g3
  have hl:∀b,(H s).ownBlock=some b->bj st.slot G H s b:=fun b hb=> .inr (.inl ⟨e,k,g,es,eC,hb⟩)
  have⟨bC,hst⟩:=hR.newRow (w':=w') s gD (e:=e) (k:=k) (es:=es++ys) (n:=es.length+ys.length) ae g1 (.inr ⟨_,g2,hl⟩) (fun b hb=>by
   rcases g3 with g3|g3
   ·rw[g3] at hb;exact .inl (hl b hb)
   ·rw[g3] at hb;right;simp at hb;omega) (fun w2 A2 hm=>(mz.app tV f3 how.1).map hm)
  rw[lF] at bC hst;exact hK _ _ _ _ v' _ hX bC (hst U (.inl bg)) ⟨by rcases g1.2 with⟨rfl,_⟩|⟨gg,cap,cur,rfl,_⟩<;>rfl,by rw[St.jC,if_pos ⟨rfl,gD⟩];exact di _,fun _ _ _ _=>ae⟩
 unfold Oper.wp execOp;simp only[ho,resolve,invoke,builtin,lp,qC,pf,List.map_toArray,ey,vU,yw,f1]
 cases ad with
 |none=>
  have hy0:ys=[]:=by
   cases ys with
   |nil=>rfl
   |cons row r=>
    have hl:0<us.length:=by rw[f2];exact Nat.mul_pos ae bF
    obtain⟨b,o,hb,_⟩:=f4 0 us[0] (by simp[hl]);cases hb
  subst hy0;have hu0:us=[]:=tf (by rw[f2];simp);subst hu0
  have hrun:(Builtin.append_ #[t,t] o.type #[H s,.slice none 0 c]).run P w=.ok (H s) w:=by
   rcases how.2 with⟨h1,_⟩|⟨gg,cap,cur,h1,_,_,nF,_⟩
   ·rw[h1];simp[Builtin.append_,km hu,sizeOf,typeInfo,hi,Builtin.lenOf,Builtin.firstCells]
   ·rw[h1];simp[Builtin.append_,km hu,sizeOf,typeInfo,hi,Builtin.lenOf,Builtin.firstCells,nF,storeCells]
  simp only[List.length_nil,hrun,pf];exact key (H s) w (by simpa using how) ⟨rfl,rfl,rfl,di _,fun _ _ _=>rfl⟩ (.inl rfl)
 |some ad=>
  obtain⟨v',w',g1,g2,g3,_,g5⟩:=run_append_own_at (P:=P) w 0 t o.type e it zv k bytes hu hi jn ij kF po bF (H s) es.length xs how ad ys.length c us f2 (fun j u hj=>by
   obtain⟨b,o',hb,hc⟩:=f4 j u hj;simp only[ar] at hb;subst hb;rw[Addr.add_mid]
   exact hc) f5 (by unfold maxLen;omega) (Nat.le_trans (Nat.mul_le_mul e5 kq) aa) (Nat.zero_le _)
  simp only[g1,pf];exact key v' w' g2 g3 g5
end
end Ab
namespace Ab
open Go Go.RowKit
section
variable {P:Program} {N:Nat} {F M:Nat->Prop} {w0:iy} {w:World} {st:St} {G:Nat->Gh} {H:Nat->Value} {a:Act}
theorem amm {e k n h g cap:Nat}{xs:List Value}(ho:w.ownsRow 0 e k (.slice (some ⟨g,0,none⟩) n cap) n xs)(hh:h<=n):w.ownsRow 0 e k (.slice (some ⟨g,0,none⟩) h cap) h (xs.take (h*k)):=by
 have hle:h*k<=n*k:=pe k hh
 rcases ho.2 with⟨h',_⟩|⟨g',cap',cur,h',hb,hg,hn,hc,hs,amn⟩
 ·cases h'
 ·simp only[Value.slice.injEq,ar,Addr.mk.injEq,and_true,true_and] at h';obtain⟨rfl,rfl⟩:=h';refine⟨by have:=ho.1;simp;omega,.inr ⟨g,cap,cur,rfl,hb,hg,Nat.le_trans hh hn,hc,hs,?_⟩⟩;rw[<-amn,List.take_take,zw hle]
theorem amo {U:Option (List Nat)}{o:Oper}{t e':TypeId}{x:Operand}{y:aw}{hi:Option Operand}{hi':Option aw}{k':Nat}(ho:o.op=.slice t x none hi none)(hu:P.underlying t=some (.slice e'))(hk:(P.info? e').map (·.size)=some k')(hx:cJ x y)(fP:Cn hi hi'):
  kO P U o (fun st X=>∃s g e k es h,st.arg y=some (.w (.c (.own s g)))/\aB st.S s=some (.row e k g es)/\qZ st es.length hi'=some h/\h<=es.length/\X (.w (.c (.own s (g+1)))) (st.bM s (.row e k (g+1) (es.take h)))):=by
 intro N F M w0 w st G H a X hR hs K Q hK;obtain⟨s,g,e,k,es,h,e1,e2,sC,h2,hX⟩:=hs;obtain⟨eC,gD⟩:=Ja e2;have h3:CR w (aW M st.slot G H) st.slot G H (.own s g) (a.eval x):=hR.arg hx e1;obtain⟨_,_,hH⟩:=h3;have yw:=hH e k es eC;obtain⟨_,xs,how,tV⟩:=hR.rw s e k g es eC
 have lF:(st.slot s).gen=g:=by rw[eC];rfl
 have amp:∀(w2:World) (A2:Nat->Prop),(∀x u,IR w (aW M st.slot G H) x u->IR w2 A2 x u)->mz w2 A2 k (es.take h) (xs.take (h*k)):=fun w2 A2 hm=>by
  refine⟨fun i row h1=> ?_,fun i row j x' u h1 h4 h5=> ?_⟩
  ·rw[th] at h1;split at h1
   ·exact tV.1 i row h1
   ·cases h1
  ·rw[th] at h1 h5;split at h1
   case isFalse=>cases h1
   split at h5
   ·exact hm _ _ (tV.2 i row j x' u h1 h4 h5)
   ·cases h5
 have Co:((hi.map a.eval)=none/\h=es.length)\/∃k,hi.map a.eval=some (.int k h):=by
  cases hi with
  |none=>cases hi' with
   |none=>simp[qZ] at sC;exact .inl ⟨rfl,sC.symm⟩
   |some=>exact fP.elim
  |some p=>cases hi' with
   |none=>exact fP.elim
   |some q=>
    obtain⟨k,e⟩:=hR.bound fP sC;exact .inr ⟨k,by simp[e]⟩
 have key:∀(v':Value),v'.ownBlock=(H s).ownBlock->v'.oneCell'=true->w.ownsRow 0 e k v' h (xs.take (h*k))->K (a.put o.dst v') w:=by
  intro v' g1 g0 g2
  have hl:∀b,(H s).ownBlock=some b->bj st.slot G H s b:=fun b hb=> .inr (.inl ⟨e,k,g,es,eC,hb⟩)
  have⟨bC,hst⟩:=hR.newRow (w':=w) s gD (e:=e) (k:=k) (es:=es.take h) (n:=h) (by simp;omega) g2 (.inl ⟨rfl,rfl,rfl,di _,fun _ _ _=>rfl⟩) (fun b hb=> .inl (hl b (by rw[<-g1];exact hb))) amp;rw[lF] at bC hst;exact hK _ _ _ _ v' _ hX bC (hst U (.inr fun _ _=>rfl)) ⟨g0,by rw[St.jC,if_pos ⟨rfl,gD⟩];exact di _,fun _ _ _ _=>ae⟩
 unfold Oper.wp execOp
 rcases how.2 with⟨h5,h6⟩|⟨gg,cap,cur,h5,_,_,nF,_⟩
 ·have h0:h=0:=aa;subst h0;have hb:=MF (P:=P) w es.length 0 0 0 none (hi.map a.eval) (.inl ⟨rfl,rfl⟩) Co av (Nat.zero_le _) aa;rw[h6] at hb;simp[ho,yw,h5,Instr.sliceAt,Instr.slice,km hu,hb,zS hk];exact key _ (by rw[h5]) rfl ⟨ae,.inl ⟨rfl,rfl⟩⟩
 ·have hb:=MF (P:=P) w es.length cap 0 h none (hi.map a.eval) (.inl ⟨rfl,rfl⟩) Co (Nat.zero_le _) h2 nF;rw[h5] at how;have lq:(⟨gg,0,none⟩:Addr).add 0=⟨gg,0,none⟩:=Addr.add_mid gg 0 0;simp[ho,yw,h5,Instr.sliceAt,Instr.slice,km hu,hb,zS hk,lq];exact key _ (by rw[h5];rfl) rfl (amm how h2)
def AW.inl (x:AW):Bool:=x.cells.all Ab.inl
def WI (w:World)(A:Nat->Prop)(x:AW)(v:Value):Prop:=x.inl=true/\WR w A (fun _=> .dead 0) (fun _=>gh 0) (fun _=>undef) x v
def VI (w:World)(A:Nat->Prop):AV->Value->Prop
 | .w x,v=>WI w A x v
 | .bQ vs,v=>∃arr:List Value,v=.tuple arr.toArray/\arr.length=vs.length/\∀(j:Nat) (x:AW) (u:Value),vs[j]? =some x->arr[j]? =some u->WI w A x u
 |_,_=>False
def bt (P:Program)(f:FuncId)(args:List AW)(Q:AV->Prop):Prop:=
 ∀(M:Nat->Prop) (w:World) (vs:List Value),(∀b,M b->b<w.heap.size)->vs.length=args.length->(∀(i:Nat) (x:AW) (v:Value),args[i]? =some x->vs[i]? =some v->WI w M x v)->
  Calls P f vs.toArray w fun e w'=>∃v r,e=.returned v/\Q r/\VI w' M r v/\Fr (fun b=>b<w.heap.size) w w'
theorem CR.any {A:Nat->Prop}{S S':Nat->Slot}{G G':Nat->Gh}{H H':Nat->Value}{x:AC}{u:Value}(h:CR w A S G H x u)(hi:Ab.inl x=true):CR w A S' G' H' x u:=(h.ir hi).zQ
theorem bT.any {A:Nat->Prop}{S S':Nat->Slot}{G G':Nat->Gh}{H H':Nat->Value}{cs:List AC}{us:List Value}(h:bT w A S G H cs us)(hi:cs.all Ab.inl=true):bT w A S' G' H' cs us:=
 ⟨h.1,fun j x u h1 h2=>(h.2 j x u h1 h2).any (dY.1 hi x (dJ h1))⟩
theorem WR.any {A:Nat->Prop}{S S':Nat->Slot}{G G':Nat->Gh}{H H':Nat->Value}{x:AW}{v:Value}(h:WR w A S G H x v)(hi:x.inl=true):WR w A S' G' H' x v:=by
 cases x with
 |c x=>exact CR.any h (by simpa [AW.inl,AW.cells] using hi)
 |agg cs=>
  obtain⟨arr,e,h⟩:=h;exact⟨arr,e,h.any (by simpa [AW.inl,AW.cells] using hi)⟩
theorem VI.vr {A:Nat->Prop}{S:Nat->Slot}{x:AV}{v:Value}(h:VI w A x v):VR w A S G H x v:=by
 cases x with
 |w x=>exact WR.any h.2 h.1
 |bQ vs=>
  obtain⟨arr,e,hl,h⟩:=h;exact⟨arr,e,hl,fun j x u h1 h2=>WR.any (h j x u h1 h2).2 (h j x u h1 h2).1⟩
 |pb s g off=>exact h.elim
 |pr s g i off=>exact h.elim
 |pi cs off=>exact h.elim
 |u=>exact h.elim
def kP (st:St):List aw->Option (List AW)
 |[]=>some []
 |y::r=>match st.arg y,kP st r with
  |some (.w x),some q=>if x.inl then some (x::q) else none
  |_,_=>none
def Cs:List Operand->List aw->Prop
 |[],[]=>True
 |x::r,y::q=>cJ x y/\Cs r q
 |_,_=>False
theorem Rel.args (h:Rel N F M w0 st G H a w):∀{xs:List Operand} {ys:List aw} {r:List AW},Cs xs ys->kP st ys=some r->
  xs.length=r.length/\∀(i:Nat) (p:AW) (v:Value),r[i]? =some p->(xs.map a.eval)[i]? =some v->WI w (aW M st.slot G H) p v
 |[],[],r,_,hr=>by
  simp only[kP,ar] at hr;subst hr;exact⟨rfl,fun i p q e=>by simp at e⟩
 |x::xs,y::ys,r,hp,hr=>by
  obtain⟨h1,h2⟩:=hp;unfold kP at hr;split at hr
  case h_2=>cases hr
  rename_i xw q hv hq;split at hr
  case isFalse=>cases hr
  rename_i hi;simp only[ar] at hr;subst hr;obtain⟨e1,e2⟩:=Rel.args h h2 hq;refine⟨by simp[e1],fun j p v g1 g2=> ?_⟩
  cases j with
  |zero=>
   simp at g1 g2;subst g1;subst g2;exact⟨hi,WR.any (h.arg h1 hv) hi⟩
  |succ j=>exact e2 j p v (by simpa using g1) (by simpa using g2)
 |[],_::_,_,hp,_=>hp.elim
 |_::_,[],_,hp,_=>hp.elim
theorem Yh {U:Option (List Nat)}{o:Oper}{f:FuncId}{fn:Func}{xs:Array Operand}{ys:List aw}{ts:Array TypeId}(ho:o.op=.call { callee:=.value (.func f),args:=xs,argTypes:=ts })(hf:P.funcs[f]? =some fn)(hn:(fn.name== "runtime.NumGoroutine")=false)(hb:fn.body.isNone=false)(hx:Cs xs.toList ys):
  kO P U o (fun st X=>∃ws R,kP st ys=some ws/\bt P f ws R/\∀r,R r->X r st):=by
 intro N F M w0 w st G H a X hR hs K Q hK;obtain⟨ws,R,e1,hC,hX⟩:=hs;obtain⟨f1,f2⟩:=hR.args hx e1
 have hM:∀b,aW M st.slot G H b->b<w.heap.size:=fun b hb=>by
  rcases hb with hm|⟨s,hl⟩
  ·exact jm (hR.lo b (.inr hm)) hR.fr.size
  ·exact(hR.nD hl).1
 have MV:=hC (aW M st.slot G H) w (xs.toList.map a.eval) hM (by simpa using f1) f2;unfold Oper.wp execOp;simp only[ho,resolve,Act.eval,Deferred.ofValue,invoke,callFunc,hf,hn,hb,lp,qC,pf,program,Sem.run]
 have mC:(#[]++xs.map a.eval++#[]:Array Value)=(xs.toList.map a.eval).toArray:=by
  apply Array.ext';simp
 simp only[tg,pj,Sem.run]
 show Oper.upon P o a K Q (.ok (.enter f (#[]++xs.map a.eval++#[])) w)
 rw[mC,Oper.upon_enter]
 refine MV.mono fun e w' he=> ?_
 obtain⟨v,r,rfl,hr,hv,dK⟩:=he;have bC:=hR.grow dK.os dK.tape dK.out dK.size dK.block;exact hK r st G H v w' (hX r hr) bC (EL dK.size dK.block) hv.vr
end
end Ab
namespace Ab
open Go Go.RowKit
structure ET (M:Nat->Prop)(S:Nat->Slot)(G:Nat->Gh)(H:Nat->Value)(w:World):Prop where
 bx:∀s g cs,S s=.box g cs->¬M (G s).b/\∃arr:List Value,az w (G s).b arr.toArray/\bT w (aW M S G H) S G H cs arr
 rw:∀s e k g es,S s=.row e k g es->(∀b,(H s).ownBlock=some b->¬M b)/\∃xs,w.ownsRow 0 e k (H s) es.length xs/\mz w (aW M S G H) k es xs
 ob:∀s g K,S s=.obj g K->(∀b∈(G s).fp,¬M b)/\K.rep w (aW M S G H) (H s) (G s)
 dj:∀s s' b,bj S G H s b->bj S G H s' b->s=s'
def fx (T:List (Nat×Slot))(s:Nat):Slot:=(aB T s).getD (.dead 0)
def fQ (P:Program)(f:FuncId)(args:List AV)(T:List (Nat×Slot))(Q:AV->(Nat->Slot)->Prop):Prop:=
 ∀(M:Nat->Prop) (w:World) (G:Nat->Gh) (H:Nat->Value) (vs:List Value),ET M (fx T) G H w->(∀b,M b->b<w.heap.size)->vs.length=args.length->
  (∀(i:Nat) (x:AV) (v:Value),args[i]? =some x->vs[i]? =some v->VR w (aW M (fx T) G H) (fx T) G H x v)->
  Calls P f vs.toArray w fun e w'=>∃v r S' G' H',e=.returned v/\Q r S'/\VR w' (aW M S' G' H') S' G' H' r v/\ET M S' G' H' w'/\IU ⟨w,fx T,G,H⟩ S' G' H'/\
   Fr (fun b=>b<w.heap.size/\∀s,¬bj (fx T) G H s b) w w'/\(∀s b,bj S' G' H' s b->(∃s0,bj (fx T) G H s0 b)\/w.heap.size<=b)/\∀s,aB T s=none->S' s=.dead 0
def iP (D:List Nat):AC->Bool
 | .own s _=>D.contains s
 | .ct s _=>D.contains s
 | .part s _ _=>D.contains s
 | .cls _ bK=>bK.all fun q=>D.contains q.1
 |_=>true
def tW (D:List Nat)(x:AW):Bool:=x.cells.all (iP D)
def gI (D:List Nat):AV->Bool
 | .w x=>tW D x
 | .bQ vs=>vs.all (tW D)
 | .pb s _ _=>D.contains s
 | .pr s _ _ _=>D.contains s
 |_=>true
def eE (D:List Nat):Slot->Bool
 | .box _ cs=>cs.all (iP D)
 |_=>true
section
variable {P:Program} {N:Nat} {F M:Nat->Prop} {w0:iy} {w:World} {st:St} {G:Nat->Gh} {H:Nat->Value} {a:Act}
structure zW (D:List Nat)(S S':Nat->Slot)(G G':Nat->Gh)(H H':Nat->Value):Prop where
 s:∀s∈D,S' s=S s
 g:∀s∈D,G' s=G s
 h:∀s∈D,H' s=H s
theorem CR.same {D:List Nat}{A:Nat->Prop}{S S':Nat->Slot}{G G':Nat->Gh}{H H':Nat->Value}(m:zW D S S' G G' H H'){x:AC}{u:Value}(hc:iP D x=true)(h:CR w A S G H x u):CR w A S' G' H' x u:=by
 cases x with
 |own s g=>
  have hs:s∈D:=by simpa [iP] using hc
  obtain⟨h1,h2,h3⟩:=h;exact⟨h1,by rw[m.s s hs];exact h2,fun e k es he=>by rw[m.s s hs] at he;rw[m.h s hs];exact h3 e k es he⟩
 |ct s g=>
  have hs:s∈D:=by simpa [iP] using hc
  obtain⟨h1,h2,h3⟩:=h;exact⟨h1,by rw[m.s s hs];exact h2,fun K he=>by rw[m.s s hs] at he;rw[m.h s hs];exact h3 K he⟩
 |part s g i=>
  have hs:s∈D:=by simpa [iP] using hc
  obtain⟨h1,h2,h3⟩:=h;exact⟨h1,by rw[m.s s hs];exact h2,fun K he=>by rw[m.s s hs] at he;rw[m.g s hs];exact h3 K he⟩
 |cls f bK=>
  obtain⟨ps,h1,h2,h3⟩:=h;refine⟨ps,h1,h2,fun i q p e1 e2=> ?_⟩
  have hs:q.1∈D:=by
   have h4:bK.all (fun q=>D.contains q.1)=true:=hc;have:=dY.1 h4 q (dJ e1);simpa using this
  obtain⟨h4,h5⟩:=h3 i q p e1 e2;exact⟨by rw[m.s _ hs];exact h4,fun cs he=>by rw[m.s _ hs] at he;rw[m.g _ hs];exact h5 cs he⟩
 |v x=>exact h
 |sl es=>exact h
 |dX f bK=>exact h
theorem bT.same {D:List Nat}{A:Nat->Prop}{S S':Nat->Slot}{G G':Nat->Gh}{H H':Nat->Value}(m:zW D S S' G G' H H'){cs:List AC}{us:List Value}(hc:cs.all (iP D)=true)(h:bT w A S G H cs us):bT w A S' G' H' cs us:=
 ⟨h.1,fun j x u h1 h2=>(h.2 j x u h1 h2).same m (dY.1 hc x (dJ h1))⟩
theorem WR.same {D:List Nat}{A:Nat->Prop}{S S':Nat->Slot}{G G':Nat->Gh}{H H':Nat->Value}(m:zW D S S' G G' H H'){x:AW}{v:Value}(hc:tW D x=true)(h:WR w A S G H x v):WR w A S' G' H' x v:=by
 cases x with
 |c x=>exact CR.same m (by simpa [tW,AW.cells] using hc) h
 |agg cs=>
  obtain⟨arr,e,h⟩:=h;exact⟨arr,e,h.same m hc⟩
theorem VR.same {D:List Nat}{A:Nat->Prop}{S S':Nat->Slot}{G G':Nat->Gh}{H H':Nat->Value}(m:zW D S S' G G' H H'){x:AV}{v:Value}(hc:gI D x=true)(h:VR w A S G H x v):VR w A S' G' H' x v:=by
 cases x with
 |w x=>exact WR.same m hc h
 |bQ vs=>
  obtain⟨arr,e,hl,h⟩:=h;exact⟨arr,e,hl,fun j x u h1 h2=>(h j x u h1 h2).same m (dY.1 hc x (dJ h1))⟩
 |pb s g off=>
  have hs:s∈D:=by simpa [gI] using hc
  exact⟨by rw[m.s s hs];exact h.1,fun cs he=>by rw[m.s s hs] at he;rw[m.g s hs];exact h.2 cs he⟩
 |pr s g i off=>
  have hs:s∈D:=by simpa [gI] using hc
  exact⟨by rw[m.s s hs];exact h.1,fun e k es he=>by rw[m.s s hs] at he;rw[m.h s hs];exact h.2 e k es he⟩
 |pi cs off=>exact h
 |u=>trivial
def kA (st:St):List aw->Option (List AV)
 |[]=>some []
 |y::r=>match st.arg y,kA st r with
  |some x,some q=>some (x::q)
  |_,_=>none
theorem Rel.kA (h:Rel N F M w0 st G H a w):∀{xs:List Operand} {ys:List aw} {r:List AV},Cs xs ys->kA st ys=some r->
  xs.length=r.length/\∀(i:Nat) (p:AV) (v:Value),r[i]? =some p->(xs.map a.eval)[i]? =some v->VR w (aW M st.slot G H) st.slot G H p v
 |[],[],r,_,hr=>by
  simp only[Ab.kA,ar] at hr;subst hr;exact⟨rfl,fun i p q e=>by simp at e⟩
 |x::xs,y::ys,r,hp,hr=>by
  obtain⟨h1,h2⟩:=hp;unfold Ab.kA at hr;split at hr
  case h_2=>cases hr
  rename_i xv q hv hq;simp only[ar] at hr;subst hr;obtain⟨e1,e2⟩:=Rel.kA h h2 hq;refine⟨by simp[e1],fun j p v g1 g2=> ?_⟩
  cases j with
  |zero=>
   simp at g1 g2;subst g1;subst g2;exact h.arg h1 hv
  |succ j=>exact e2 j p v (by simpa using g1) (by simpa using g2)
 |[],_::_,_,hp,_=>hp.elim
 |_::_,[],_,hp,_=>hp.elim
def eW (st:St)(D:List Nat):List (Nat×Slot):=D.map fun s=>(s,st.slot s)
theorem Je (st:St):∀(D:List Nat) (s:Nat),aB (eW st D) s=if s∈D then some (st.slot s) else none
 |[],s=>by simp[eW,aB]
 |d::D,s=>by
  have ih:=Je st D s;unfold eW at ih⊢;simp only[ey,aB,ih];by_cases h:d=s
  ·subst h;simp
  ·have h':¬s=d:=fun e=>h e.symm
   simp[h,h']
def jD (D:List Nat)(S':Nat->Slot)(st:St):St:={ st with S:=st.S.map fun p=>if D.contains p.1 then(p.1,S' p.1) else p }
theorem Yi (D:List Nat)(S':Nat->Slot):∀(l:List (Nat×Slot)) (s:Nat),aB (l.map fun p=>if D.contains p.1 then(p.1,S' p.1) else p) s=if s∈D then(aB l s).map fun _=>S' s else aB l s
 |[],s=>by simp[aB]
 |(i,x)::l,s=>by
  have ih:=Yi D S' l s;simp only[ey];by_cases hi:i∈D
  ·have:D.contains i=true:=by simpa using hi
   simp only[this,lX,aB,ih];by_cases h:i=s
   ·subst h;simp[hi]
   ·simp[h]
  ·have:D.contains i=false:=by simpa using hi
   simp only[this,tg,pj,aB,ih];by_cases h:i=s
   ·subst h;simp[hi]
   ·simp[h]
theorem MW {D:List Nat}{S':Nat->Slot}(hD:∀s∈D,(aB st.S s).isSome=true)(s:Nat):(jD D S' st).slot s=if s∈D then S' s else st.slot s:=by
 unfold St.slot jD;dsimp only;rw[Yi];by_cases h:s∈D
 ·obtain⟨x,hx⟩:=Option.isSome_iff_exists.1 (hD s h);simp[h,hx]
 ·simp[h]
def Yj (P:Program)(U:Option (List Nat))(f:FuncId)(ys:List aw)(D:List Nat):zV:=fun st X=>∃ws Q,kA st ys=some ws/\ws.all (gI D)=true/\(∀s∈D,(aB st.S s).isSome=true/\eE D (st.slot s)=true)/\(∀s∈D,sy U s)/\
 fQ P f ws (eW st D) Q/\∀r S',Q r S'->(gI D r=true/\∀s∈D,eE D (S' s)=true)/\X r (jD D S' st)
end
end Ab
namespace Ab
open Go Go.RowKit
section
variable {P:Program} {N:Nat} {F M:Nat->Prop} {w0:iy} {w:World} {st:St} {G:Nat->Gh} {H:Nat->Value} {a:Act}
theorem Rel.bh (hR:Rel N F M w0 st G H a w){D:List Nat}{w':World}{S':Nat->Slot}{G':Nat->Gh}{H':Nat->Value}(hD:∀s∈D,(aB st.S s).isSome=true)
  (cA:ET (fun b=>M b\/∃s,s∉D/\bj st.slot G H s b) S' G' H' w') (hh:IU ⟨w,fx (eW st D),G,H⟩ S' G' H') (dK:Fr (fun b=>b<w.heap.size/\∀s,¬bj (fx (eW st D)) G H s b) w w')
  (pQ:∀s b,bj S' G' H' s b->(∃s0,bj (fx (eW st D)) G H s0 b)\/w.heap.size<=b) (MX:∀s,aB (eW st D) s=none->S' s=.dead 0) (kQ:∀s∈D,eE D (S' s)=true):
  Rel N F M w0 (jD D S' st) (fun s=>if s∈D then G' s else G s) (fun s=>if s∈D then H' s else H s) a w'/\aW M (jD D S' st).slot (fun s=>if s∈D then G' s else G s) (fun s=>if s∈D then H' s else H s)=aW (fun b=>M b\/∃s,s∉D/\bj st.slot G H s b) S' G' H'/\
   (∀s∈D,∀b,b<w.heap.size->bj (jD D S' st).slot (fun s=>if s∈D then G' s else G s) (fun s=>if s∈D then H' s else H s) s b->∃s0∈D,bj st.slot G H s0 b):=by
 have tS:∀s,fx (eW st D) s=if s∈D then st.slot s else .dead 0:=fun s=>by
  unfold fx;rw[Je];by_cases h:s∈D<;>simp[h]
 have tL:∀s b,bj (fx (eW st D)) G H s b↔s∈D/\bj st.slot G H s b:=fun s b=>by
  unfold bj;rw[tS];by_cases h:s∈D
  ·simp[h]
  ·simp[h]
 have uS:∀s,(jD D S' st).slot s=if s∈D then S' s else st.slot s:=MW hD
 have sD:∀s b,bj S' G' H' s b->s∈D:=fun s b hl=>by
  by_cases h:s∈D
  ·exact h
  ·have:=MX s (by rw[Je];simp[h])
   rcases hl with⟨g,cs,h1,_⟩|⟨e,k,g,es,h1,_⟩|⟨g,K,h1,_⟩<;>(rw[this] at h1;cases h1)
 have uL:∀s b,bj (jD D S' st).slot (fun s=>if s∈D then G' s else G s) (fun s=>if s∈D then H' s else H s) s b↔(s∈D/\bj S' G' H' s b)\/(s∉D/\bj st.slot G H s b):=fun s b=>by
  unfold bj;rw[uS];by_cases h:s∈D<;>simp[h]
 have hA:aW M (jD D S' st).slot (fun s=>if s∈D then G' s else G s) (fun s=>if s∈D then H' s else H s)=aW (fun b=>M b\/∃s,s∉D/\bj st.slot G H s b) S' G' H':=by
  funext b;apply propext;constructor
  ·rintro(hm|⟨s,hl⟩)
   ·exact .inl (.inl hm)
   ·rcases(uL s b).1 hl with⟨_,h2⟩|⟨h1,h2⟩
    ·exact .inr ⟨s,h2⟩
    ·exact .inl (.inr ⟨s,h1,h2⟩)
  ·rintro((hm|⟨s,h1,h2⟩)|⟨s,hl⟩)
   ·exact .inl hm
   ·exact .inr ⟨s,(uL s b).2 (.inr ⟨h1,h2⟩)⟩
   ·exact .inr ⟨s,(uL s b).2 (.inl ⟨sD s b hl,hl⟩)⟩
 have hold:∀s∈D,∀b,b<w.heap.size->bj S' G' H' s b->∃s0∈D,bj st.slot G H s0 b:=fun s _ b hlt hl=>by
  rcases pQ s b hl with⟨s0,h0⟩|h0
  ·obtain⟨h1,h2⟩:=(tL s0 b).1 h0;exact⟨s0,h1,h2⟩
  ·omega
 have EU:∀b,b<w.heap.size->(∀s∈D,¬bj st.slot G H s b)->w'.heap[b]? =w.heap[b]? :=fun b hlt hn=>dK.block b ⟨hlt,fun s hl=>by obtain⟨h1,h2⟩:=(tL s b).1 hl;exact hn s h1 h2⟩
 have m:Mv w w' (aW M st.slot G H) (aW M (jD D S' st).slot (fun s=>if s∈D then G' s else G s) (fun s=>if s∈D then H' s else H s)) st.slot (jD D S' st).slot G (fun s=>if s∈D then G' s else G s) H (fun s=>if s∈D then H' s else H s):=by
  refine⟨dK.size,fun b hlt hb=> ?_,fun b hlt hb=>EU b hlt (fun s _ hl=>hb (.inr ⟨s,hl⟩)),fun s=> ?_,fun s e k g es h1 h2=> ?_,fun s g cs h1 h2=> ?_,fun s g K h1 h2=> ?_⟩
  ·rcases hb with hm|⟨s,hl⟩
   ·exact .inl hm
   ·rcases(uL s b).1 hl with⟨h1,h2⟩|⟨_,h2⟩
    ·obtain⟨s0,_,h3⟩:=hold s h1 b hlt h2;exact .inr ⟨s0,h3⟩
    ·exact .inr ⟨s,h2⟩
  ·rw[uS];by_cases h:s∈D
   ·have:=hh.gen s;dsimp only at this;rw[tS,if_pos h] at this;rw[if_pos h];exact this
   ·rw[if_neg h];exact di _
  ·rw[uS] at h1;by_cases h:s∈D
   ·rw[if_pos h] at h1;have:=hh.row s e k g es h1;dsimp only at this;rw[tS,if_pos h] at this;rw[if_pos h];exact this h2
   ·rw[if_neg h] at h1;rw[if_neg h];exact⟨⟨es,h1⟩,rfl⟩
  ·rw[uS] at h1;by_cases h:s∈D
   ·rw[if_pos h] at h1;have:=hh.box s g cs h1;dsimp only at this;rw[tS,if_pos h] at this;rw[if_pos h];exact this h2
   ·rw[if_neg h] at h1;rw[if_neg h];exact⟨⟨cs,h1⟩,rfl⟩
  ·rw[uS] at h1;by_cases h:s∈D
   ·rw[if_pos h] at h1;have:=hh.obj s g K h1;dsimp only at this;rw[tS,if_pos h] at this;rw[if_pos h,if_pos h];exact this h2
   ·rw[if_neg h] at h1;rw[if_neg h,if_neg h];exact⟨⟨K,h1⟩,rfl,rfl⟩
 have sm:zW D S' (jD D S' st).slot G' (fun s=>if s∈D then G' s else G s) H' (fun s=>if s∈D then H' s else H s):=⟨fun s hs=>by rw[uS,if_pos hs],fun s hs=>by simp[hs],fun s hs=>by simp[hs]⟩
 have hF:∀s b,bj S' G' H' s b->¬F b:=fun s b hl hf=>by
  rcases pQ s b hl with⟨s0,h0⟩|h0
  ·exact(hR.nD ((tL s0 b).1 h0).2).2.1 hf
  ·have:=hR.lo b (.inl hf);have:=hR.fr.size;omega
 refine⟨⟨hR.sz,hR.df,⟨dK.os.trans hR.fr.os,dK.tape.trans hR.fr.tape,dK.out.trans hR.fr.out,Nat.le_trans hR.fr.size dK.size,fun b hf=> ?_⟩,⟨fun i=>Nat.le_trans (hR.hs.gen i) (m.gen i),fun i e k g es h1 h2=> ?_,fun i g cs h1 h2=> ?_,fun i g K h1 h2=> ?_⟩,hR.lo,fun i y hy=>VR.mv m (hR.tm i y hy),fun s g cs hs=> ?_,fun s e k g es hs=> ?_,fun s g K hs=> ?_,fun s s' b h1 h2=> ?_⟩,hA,fun s hs b hlt hl=> ?_⟩
 ·rw[EU b (jm (hR.lo b (.inl hf)) hR.fr.size) (fun s _ hl=>(hR.nD hl).2.1 hf)];exact hR.fr.block b hf
 ·obtain⟨⟨EH,e5⟩,e6⟩:=m.row i e k g es h1 (Nat.le_trans h2 (hR.hs.gen i));rw[e6];exact hR.hs.row i e k g EH e5 h2
 ·obtain⟨⟨c0,e5⟩,e6⟩:=m.box i g cs h1 (Nat.le_trans h2 (hR.hs.gen i));rw[e6];exact hR.hs.box i g c0 e5 h2
 ·obtain⟨⟨c0,e5⟩,e6,e7⟩:=m.obj i g K h1 (Nat.le_trans h2 (hR.hs.gen i));rw[e6,e7];exact hR.hs.obj i g c0 e5 h2
 ·rw[uS] at hs;by_cases h:s∈D
  ·rw[if_pos h] at hs;obtain⟨f1,arr,f2,f3⟩:=cA.bx s g cs hs;have hc:=kQ s h;rw[hs] at hc;rw[if_pos h,hA];exact⟨hF s _ (.inl ⟨g,cs,hs,rfl⟩),fun hm=>f1 (.inl hm),arr,f2,f3.same sm hc⟩
  ·rw[if_neg h] at hs;obtain⟨f1,f2,arr,f3,f4⟩:=hR.bx s g cs hs;rw[if_neg h];refine⟨f1,f2,arr,?_,bT.mv m f4⟩;obtain⟨t,ht⟩:=f3;exact⟨t,by rw[EU _ (az.lt ⟨t,ht⟩) (fun s0 h0 hl=>h (by rw[hR.dj s s0 _ (.inl ⟨g,cs,hs,rfl⟩) hl];exact h0))];exact ht⟩
 ·rw[uS] at hs;by_cases h:s∈D
  ·rw[if_pos h] at hs;obtain⟨f1,xs,f2,f3⟩:=cA.rw s e k g es hs;rw[if_pos h,hA];exact⟨fun b hb=>⟨hF s b (.inr (.inl ⟨e,k,g,es,hs,hb⟩)),fun hm=>f1 b hb (.inl hm)⟩,xs,f2,f3⟩
  ·rw[if_neg h] at hs;obtain⟨f1,xs,f2,f3⟩:=hR.rw s e k g es hs;rw[if_neg h];refine⟨f1,xs,?_,f3.map fun x u hx=>IR.mv m hx⟩;obtain⟨q1,q2⟩:=f2;refine⟨q1,?_⟩
   rcases q2 with q2|⟨gg,cap,cur,q3,q4,q5,q6⟩
   ·exact .inl q2
   ·have hl:bj st.slot G H s gg:=.inr (.inl ⟨e,k,g,es,hs,by rw[q3];rfl⟩);exact .inr ⟨gg,cap,cur,q3,q4,by rw[EU gg (hR.nD hl).1 (fun s0 h0 iK=>h (by rw[hR.dj s s0 _ hl iK];exact h0))];exact q5,q6⟩
 ·rw[uS] at hs;by_cases h:s∈D
  ·rw[if_pos h] at hs;obtain⟨f1,f2⟩:=cA.ob s g K hs;rw[if_pos h,if_pos h,hA];exact⟨fun b hb=>⟨hF s b (.inr (.inr ⟨g,K,hs,hb⟩)),fun hm=>f1 b hb (.inl hm)⟩,f2⟩
  ·rw[if_neg h] at hs;obtain⟨f1,f2⟩:=hR.ob s g K hs;rw[if_neg h,if_neg h];refine⟨f1,K.mono f2 m.size m.off (fun b hlt hb=> ?_)⟩
   rcases hb with hb|hb
   ·exact EU b hlt (fun s0 h0 iK=>h (by rw[hR.dj s s0 b (.inr (.inr ⟨g,K,hs,hb⟩)) iK];exact h0))
   ·exact m.kept b hlt hb
 ·rcases(uL s b).1 h1 with⟨d1,l1⟩|⟨d1,l1⟩<;>rcases(uL s' b).1 h2 with⟨d2,l2⟩|⟨d2,l2⟩
  ·exact cA.dj s s' b l1 l2
  ·obtain⟨s0,h0,l0⟩:=hold s d1 b (hR.nD l2).1 l1;exact absurd (by rw[hR.dj s' s0 b l2 l0];exact h0) d2
  ·obtain⟨s0,h0,l0⟩:=hold s' d2 b (hR.nD l1).1 l2;exact absurd (by rw[hR.dj s s0 b l1 l0];exact h0) d1
  ·exact hR.dj s s' b l1 l2
 ·rcases(uL s b).1 hl with⟨_,l1⟩|⟨d1,_⟩
  ·exact hold s hs b hlt l1
  ·exact absurd hs d1
theorem amq {U:Option (List Nat)}{o:Oper}{f:FuncId}{fn:Func}{xs:Array Operand}{ys:List aw}{ts:Array TypeId}{D:List Nat}(ho:o.op=.call { callee:=.value (.func f),args:=xs,argTypes:=ts })(hf:P.funcs[f]? =some fn)(hn:(fn.name== "runtime.NumGoroutine")=false)(hb:fn.body.isNone=false)(hx:Cs xs.toList ys):
  kO P U o (Yj P U f ys D):=by
 intro N F M w0 w st G H a X hR hs K Q hK;obtain⟨ws,R,e1,e2,hD,hU,hC,hX⟩:=hs;obtain⟨f1,f2⟩:=hR.kA hx e1
 have tS:∀s,fx (eW st D) s=if s∈D then st.slot s else .dead 0:=fun s=>by
  unfold fx;rw[Je];by_cases h:s∈D<;>simp[h]
 have tL:∀s b,bj (fx (eW st D)) G H s b↔s∈D/\bj st.slot G H s b:=fun s b=>by
  unfold bj;rw[tS];by_cases h:s∈D
  ·simp[h]
  ·simp[h]
 have sm:zW D st.slot (fx (eW st D)) G G H H:=⟨fun s hs=>by rw[tS,if_pos hs],fun _ _=>rfl,fun _ _=>rfl⟩
 have hA:aW (fun b=>M b\/∃s,s∉D/\bj st.slot G H s b) (fx (eW st D)) G H=aW M st.slot G H:=by
  funext b;apply propext;constructor
  ·rintro((hm|⟨s,_,h2⟩)|⟨s,hl⟩)
   ·exact .inl hm
   ·exact .inr ⟨s,h2⟩
   ·exact .inr ⟨s,((tL s b).1 hl).2⟩
  ·rintro(hm|⟨s,hl⟩)
   ·exact .inl (.inl hm)
   ·by_cases h:s∈D
    ·exact .inr ⟨s,(tL s b).2 ⟨h,hl⟩⟩
    ·exact .inl (.inr ⟨s,h,hl⟩)
 have hM:∀b,(M b\/∃s,s∉D/\bj st.slot G H s b)->b<w.heap.size:=fun b hb=>by
  rcases hb with hm|⟨s,_,hl⟩
  ·exact jm (hR.lo b (.inr hm)) hR.fr.size
  ·exact(hR.nD hl).1
 have cA:ET (fun b=>M b\/∃s,s∉D/\bj st.slot G H s b) (fx (eW st D)) G H w:=by
  refine⟨fun s g cs hs=> ?_,fun s e k g es hs=> ?_,fun s g K hs=> ?_,fun s s' b h1 h2=>hR.dj s s' b ((tL s b).1 h1).2 ((tL s' b).1 h2).2⟩
  ·have cR:=hs;rw[tS] at cR;split at cR
   ·rename_i h;obtain⟨_,g2,arr,g3,g4⟩:=hR.bx s g cs cR;have hc:=(hD s h).2;rw[cR] at hc;rw[hA];exact⟨fun hm=>hm.elim g2 (fun⟨s0,h0,hl⟩=>h0 (by rw[hR.dj s0 s _ hl (.inl ⟨g,cs,cR,rfl⟩)];exact h)),arr,g3,g4.same sm hc⟩
   ·cases cR
  ·have cR:=hs;rw[tS] at cR;split at cR
   ·rename_i h;obtain⟨g1,xs,g3,g4⟩:=hR.rw s e k g es cR;rw[hA];exact⟨fun b hb hm=>hm.elim (g1 b hb).2 (fun⟨s0,h0,hl⟩=>h0 (by rw[hR.dj s0 s _ hl (.inr (.inl ⟨e,k,g,es,cR,hb⟩))];exact h)),xs,g3,g4⟩
   ·cases cR
  ·have cR:=hs;rw[tS] at cR;split at cR
   ·rename_i h;obtain⟨g1,g2⟩:=hR.ob s g K cR;rw[hA];exact⟨fun b hb hm=>hm.elim (g1 b hb).2 (fun⟨s0,h0,hl⟩=>h0 (by rw[hR.dj s0 s _ hl (.inr (.inr ⟨g,K,cR,hb⟩))];exact h)),g2⟩
   ·cases cR
 have MV:=hC (fun b=>M b\/∃s,s∉D/\bj st.slot G H s b) w G H (xs.toList.map a.eval) cA hM (by simpa using f1) (fun i x v h1 h2=>by
  rw[hA]
  exact(f2 i x v h1 h2).same sm (dY.1 e2 x (dJ h1)))
 unfold Oper.wp execOp;simp only[ho,resolve,Act.eval,Deferred.ofValue,invoke,callFunc,hf,hn,hb,lp,qC,pf,program,Sem.run]
 have mC:(#[]++xs.map a.eval++#[]:Array Value)=(xs.toList.map a.eval).toArray:=by
  apply Array.ext';simp
 simp only[tg,pj,Sem.run]
 show Oper.upon P o a K Q (.ok (.enter f (#[]++xs.map a.eval++#[])) w)
 rw[mC,Oper.upon_enter]
 refine MV.mono fun e w' he=> ?_
 obtain⟨v,r,S',G',H',rfl,hr,hv,amr,hh,dK,pQ,MX⟩:=he;obtain⟨⟨mR,hcs⟩,hXr⟩:=hX r S' hr;obtain⟨bC,hA',hL'⟩:=hR.bh (fun s hs=>(hD s hs).1) amr hh dK pQ MX hcs
 have sm':zW D S' (jD D S' st).slot G' (fun s=>if s∈D then G' s else G s) H' (fun s=>if s∈D then H' s else H s):=⟨fun s hs=>by rw[MW (fun s hs=>(hD s hs).1),if_pos hs],fun s hs=>by simp[hs],fun s hs=>by simp[hs]⟩
 refine hK r _ _ _ v w' hXr bC ⟨dK.size,fun l hl=> ?_⟩ (by rw[hA'];exact hv.same sm' mR);subst hl;refine⟨fun b hlt hn=>dK.block b ⟨hlt,fun s hl=> ?_⟩,fun s hs b hlt hl=> ?_⟩
 ·obtain⟨h1,h2⟩:=(tL s b).1 hl;exact hn s (hU s h1) h2
 ·by_cases h:s∈D
  ·obtain⟨s0,h0,l0⟩:=hL' s h b hlt hl;exact⟨s0,hU s0 h0,l0⟩
  ·refine⟨s,hs,?_⟩;unfold bj at hl⊢;rw[MW (fun s hs=>(hD s hs).1),if_neg h] at hl;simpa [h] using hl
end
end Ab
namespace Ab
open Go Go.RowKit
structure AO where
 dst:Option Nat
 guard:Option (Nat×Bool)
 rf:Option (List Nat)->zV
 ev:Option (Bool×(St->List Nat->Option AV))
def St.jc (st:St)(ao:AO)(x:AV):St:=match ao.dst with
 |some d=>st.put d x
 |none=>st
def jd (x:Option AV)(want:Bool):Option Bool:=match x with
 |some (.w (.c (.v (.bool b))))=>some (b==want)
 |some (.bQ [])=>some false
 |_=>none
def nG (U:Option (List Nat))(ao:AO)(K:St->Prop)(st:St):Prop:=match ao.guard with
 |none=>ao.rf U st fun x st'=>K (st'.jc ao x)
 |some (t,want)=>match jd (st.arg (.t t)) want with
  |some true=>ao.rf U st fun x st'=>K (st'.jc ao x)
  |some false=>K (st.jc ao (.bQ []))
  |none=>False
def bo (U:Option (List Nat)):List AO->(St->Prop)->St->Prop
 |[],K,st=>K st
 |ao::r,K,st=>nG U ao (bo U r K) st
structure Ct (P:Program)(N:Nat)(ops:Array Oper)(o:Oper)(ao:AO):Prop where
 rf:∀U,kO P U o (ao.rf U)
 dst:o.dst=ao.dst
 lt:∀d,ao.dst=some d->d<N
 guard:match o.guard,ao.guard with
  |none,none=>True
  |some (j,want),some (t,Jf)=>want=Jf/\(ops[j]?).bind (·.dst)=some t
  |_,_=>False
 ev:∀m e,ao.ev=some (m,e)->gX P m o e
section
variable {P:Program} {N:Nat} {F M:Nat->Prop} {w0:iy} {w:World} {st:St} {G:Nat->Gh} {H:Nat->Value} {a:Act}
theorem Rel.jc (h:Rel N F M w0 st G H a w){ops:Array Oper}{o:Oper}{ao:AO}(hk:Ct P N ops o ao){x:AV}{v:Value}(hv:VR w (aW M st.slot G H) st.slot G H x v):Rel N F M w0 (st.jc ao x) G H (a.put o.dst v) w:=by
 rw[hk.dst];unfold St.jc
 cases hd:ao.dst with
 |none=>exact h
 |some d=>exact h.put (hk.lt d hd) hv
theorem Cu (st:St)(ao:AO)(x:AV):(st.jc ao x).slot=st.slot:=by
 unfold St.jc;split
 ·have hS:∀d,(st.put d x).S=st.S:=fun d=>by unfold St.put;split<;>rfl
  funext i;unfold St.slot;rw[hS]
 ·rfl
theorem Yk {ops:Array Oper}{o:Oper}{ao:AO}(hk:Ct P N ops o ao)(hR:Rel N F M w0 st G H a w):
  (ao.guard=none->Region.wanted o (yielded ops a.tmps)=true)/\∀t want b,ao.guard=some (t,want)->jd (st.arg (.t t)) want=some b->Region.wanted o (yielded ops a.tmps)=b:=by
 have hg:=hk.guard;unfold Region.wanted;refine⟨fun h0=> ?_,fun t want b h0 hb=> ?_⟩
 ·rw[h0] at hg
  cases Jg:o.guard with
  |none=>rfl
  |some p=>rw[Jg] at hg;exact hg.elim
 ·rw[h0] at hg
  cases Jg:o.guard with
  |none=>rw[Jg] at hg;exact hg.elim
  |some p=>
   obtain⟨j,Jf⟩:=p;rw[Jg] at hg;obtain⟨rfl,hj⟩:=hg
   show(yielded ops a.tmps j==some Jf)=b
   unfold jd at hb;split at hb
   ·rename_i c hc
    have EM:st.sc (.t t)=some (.bool c):=by unfold St.sc;rw[hc];rfl
    obtain⟨e1,_⟩:=hR.sc (x:=.tmp t) (y:=.t t) rfl EM
    have ht:a.tmps[t]? =some (.bool c):=by
     simp only[Act.eval,DN] at e1
     cases h:a.tmps[t]? with
     |none=>rw[h] at e1;simp[undef] at e1
     |some u=>rw[h] at e1;simp at e1;rw[e1]
    have hy:yielded ops a.tmps j=some c:=by
     unfold yielded;rw[hj];simp[ht]
    rw[hy];simp only[ar] at hb;subst hb;cases c<;>cases Jf<;>rfl
   ·rename_i hc;simp only[ar] at hb;subst hb;obtain⟨arr,e1,e2,_⟩:=hR.arg (x:=.tmp t) (y:=.t t) rfl hc;have mC:arr=[]:=tf e2;subst mC
    have hy:yielded ops a.tmps j=none:=by
     unfold yielded;rw[hj];simp only[Act.eval,DN] at e1
     cases h:a.tmps[t]? with
     |none=>simp[h]
     |some u=>rw[h] at e1;simp at e1;simp[h,e1]
    rw[hy];rfl
   ·cases hb
theorem zX {U:Option (List Nat)}{ops:Array Oper}{o:Oper}{ao:AO}(hk:Ct P N ops o ao)(hR:Rel N F M w0 st G H a w){X:St->Prop}(hs:nG U ao X st){K:Act->World->Prop}{Q:Exit->Act->World->Prop}
  (hK:∀st' G' H' a' w',X st'->Rel N F M w0 st' G' H' a' w'->yq U st.slot G H w st'.slot G' H' w'->K a' w'):if Region.wanted o (yielded ops a.tmps)=true then Oper.wp P o a w K Q else K (a.put o.dst undef) w:=by
 obtain⟨pG,oz⟩:=Yk hk hR
 have go:ao.rf U st (fun x st'=>X (st'.jc ao x))->Oper.wp P o a w K Q:=fun ams=>
  hk.rf U N F M w0 w st G H a _ hR ams K Q fun x st' G' H' v w' hX bC hst hv=>hK _ G' H' _ w' hX (bC.jc hk hv) (by rw[Cu];exact hst)
 have stay:X (st.jc ao (.bQ []))->K (a.put o.dst undef) w:=fun hX=>hK _ G H _ w hX (hR.jc hk (x:=.bQ []) ⟨[],rfl,rfl,fun j x u h=>by simp at h⟩) (by rw[Cu];exact EL av fun _ _=>rfl)
 unfold nG at hs;split at hs
 ·rename_i hg;rw[if_pos (pG hg)];exact go hs
 ·rename_i t want hg;split at hs
  ·rename_i hb;rw[oz t want _ hg hb,if_pos rfl];exact go hs
  ·rename_i hb;rw[oz t want _ hg hb,if_neg ae];exact stay hs
  ·exact hs.elim
inductive nH (P:Program)(N:Nat)(ops:Array Oper):List Oper->List AO->Prop where
 |nil:nH P N ops [] []
 |cons {o:Oper} {ao:AO} {os:List Oper} {cj:List AO} (h:Ct P N ops o ao) (r:nH P N ops os cj):nH P N ops (o::os) (ao::cj)
theorem Yl {ops:Array Oper}{Q:Exit->Act->World->Prop}{os:List Oper}{cj:List AO}(hk:nH P N ops os cj):∀{st:St} {G:Nat->Gh} {H:Nat->Value} {a:Act} {w:World} {K:St->Prop},Rel N F M w0 st G H a w->bo none cj K st->
  (∀st' G' H' a' w',K st'->Rel N F M w0 st' G' H' a' w'->Q .normal a' w')->wpList P ops Q os a w:=by
 induction hk with
 |nil=>intro st G H a w K hR hs hQ;exact hQ st G H a w hs hR
 |cons h r ih=>
  intro st G H a w K hR hs hQ;have:=zX (Q:=Q) h hR hs (K:=wpList P ops Q _) (fun st' G' H' a' w' hX bC _=>ih bC hX hQ);unfold wpList;split
  ·rename_i hw;rw[if_pos hw] at this;exact .inl this
  ·rename_i hw;rw[if_neg hw] at this;exact this
theorem amt {id:Nat}{ops:Array Oper}{Q:Exit->Act->World->Prop}{cj:List AO}(hk:nH P N ops ops.toList cj){K:St->Prop}(hR:Rel N F M w0 st G H a w)(hs:bo none cj K st)
  (hQ:∀st' G' H' a' w',K st'->Rel N F M w0 st' G' H' a' w'->Q .normal a' w'):(Code.region id ops false).wp P Q a w:=wp_region_list (Yl hk hR hs hQ)
def aU (U:List Nat)(cj tl:List AO)(K:St->Prop):OT->Bool->St->Prop
 | .nil,_,st=>bo none tl K st
 | .take i t,bh,st=>match cj[i]? with
  |none=>False
  |some ao=>match ao.ev with
   |none=>False
   |some (mem,ev)=>(mem=true->bh=false)/\match ao.guard with
    |none=>∃x,ev st U=some x/\aU U cj tl K t bh (st.jc ao x)
    |some (g,want)=>match jd (st.arg (.t g)) want with
     |some true=>∃x,ev st U=some x/\aU U cj tl K t bh (st.jc ao x)
     |some false=>aU U cj tl K t bh (st.jc ao (.bQ []))
     |none=>False
 | .move i t,_,st=>match cj[i]? with
  |none=>False
  |some ao=>nG (some U) ao (aU U cj tl K t true) st
 | .fork i j ti tj,_,st=>(match cj[i]? with
  |none=>False
  |some ao=>nG (some U) ao (aU U cj tl K ti true) st)/\match cj[j]? with
  |none=>False
  |some ao=>nG (some U) ao (aU U cj tl K tj true) st
 | .qH i j k ti tj tk,_,st=>(match cj[i]? with
  |none=>False
  |some ao=>nG (some U) ao (aU U cj tl K ti true) st)/\(match cj[j]? with
  |none=>False
  |some ao=>nG (some U) ao (aU U cj tl K tj true) st)/\match cj[k]? with
  |none=>False
  |some ao=>nG (some U) ao (aU U cj tl K tk true) st
theorem nH.get {ops:Array Oper}{os:List Oper}{cj:List AO}(hk:nH P N ops os cj):∀{i:Nat} {ao:AO},cj[i]? =some ao->∃o,os[i]? =some o/\Ct P N ops o ao:=by
 induction hk with
 |nil=>intro i ao h;simp at h
 |cons h r ih=>
  intro i ao hi
  cases i with
  |zero=>simp at hi;subst hi;exact⟨_,rfl,h⟩
  |succ i=>exact ih (by simpa using hi)
theorem nH.drop {ops:Array Oper}{os:List Oper}{cj:List AO}(hk:nH P N ops os cj):∀n,nH P N ops (os.drop n) (cj.drop n):=by
 induction hk with
 |nil=>intro n;simp;exact .nil
 |cons h r ih=>
  intro n
  cases n with
  |zero=>exact .cons h r
  |succ n=>exact ih n
theorem Cv {U:List Nat}{S0 S S':Nat->Slot}{G0 G':Nat->Gh}{H0 H':Nat->Value}{wr w':World}(hz:wr.heap.size<=w.heap.size)(hA:cq U S0 G0 H0 wr w)(hL:∀s∈U,∀b,b<wr.heap.size->bj S G H s b->∃s0∈U,bj S0 G0 H0 s0 b)
  (hst:yq (some U) S G H w S' G' H' w'):wr.heap.size<=w'.heap.size/\cq U S0 G0 H0 wr w'/\∀s∈U,∀b,b<wr.heap.size->bj S' G' H' s b->∃s0∈U,bj S0 G0 H0 s0 b:=by
 obtain⟨h1,h2⟩:=hst.2 U rfl
 refine⟨Nat.le_trans hz hst.1,fun b hlt hn=> ?_,fun s hs b hlt hl=>by
  obtain⟨s1,eC,cn⟩:=h2 s hs b (jm hlt hz) hl
  exact hL s1 eC b hlt cn⟩
 rw[h1 b (jm hlt hz) (fun s hs hl=>by
  obtain⟨s1,eC,cn⟩:=hL s hs b hlt hl
  exact hn s1 eC cn)]
 exact hA b hlt hn
theorem Cw {o:Oper}{ops:Array Oper}{Q:Exit->Act->World->Prop}{S:World->Prop}{K:Act->World->Prop}(h:if Region.wanted o (yielded ops a.tmps)=true then Oper.wp P o a w (fun a' w'=>S w'/\K a' w') Q else S w/\K (a.put o.dst undef) w):
  if Region.wanted o (yielded ops a.tmps)=true then Oper.wp P o a w (fun a' w'=>S w'/\K a' w') Q else S w/\K (a.put o.dst undef) w:=h
theorem wN {l:List Oper}{Q:Exit->Act->World->Prop}{cj:List AO}{n:Nat}(hk:nH P N l.toArray l cj){U:List Nat}{K:St->Prop}{S0:Nat->Slot}{G0:Nat->Gh}{H0:Nat->Value}{wr:World}
  (hQ:∀st' G' H' a' w',K st'->Rel N F M w0 st' G' H' a' w'->Q .normal a' w'):∀(t:OT) (bh:Bool) {st:St} {G:Nat->Gh} {H:Nat->Value} {a:Act} {w:World},Rel N F M w0 st G H a w->aU U cj (cj.drop n) K t bh st->
   wr.heap.size<=w.heap.size->cq U S0 G0 H0 wr w->(∀s∈U,∀b,b<wr.heap.size->bj st.slot G H s b->∃s0∈U,bj S0 G0 H0 s0 b)->(bh=false->w=wr/\st.slot=S0/\G=G0/\H=H0)->
   gy P l.toArray Q (fun w'=>wr.heap.size<=w'.heap.size/\cq U S0 G0 H0 wr w') (wpList P l.toArray Q (l.drop n)) l t a w
 | .nil,bh,st,G,H,a,w,hR,hs,hz,hA,hL,h0=>Yl (hk.drop n) hR hs hQ
 | .take i t,bh,st,G,H,a,w,hR,hs,hz,hA,hL,h0=>by
  unfold aU at hs;split at hs
  ·exact hs.elim
  rename_i ao pS;split at hs
  ·exact hs.elim
  rename_i mem ev lH;obtain⟨qN,hs⟩:=hs;obtain⟨o,ho,eg⟩:=hk.get pS;obtain⟨pG,oz⟩:=Yk eg hR;have oI:=eg.ev mem ev lH
  have yes:Region.wanted o (yielded l.toArray a.tmps)=true->(∃x,ev st U=some x/\aU U cj (cj.drop n) K t bh (st.jc ao x))->
    gy P l.toArray Q (fun w'=>wr.heap.size<=w'.heap.size/\cq U S0 G0 H0 wr w') (wpList P l.toArray Q (l.drop n)) l (.take i t) a w:=by
   rintro hw ⟨x,hx,hs⟩;obtain⟨v,hv,hrun⟩:=oI N F M w0 w st G H a U x hR hx;refine⟨o,v,ho,.inl ⟨hw,fun w' hw'=>hrun w' fun hm=> ?_⟩,wN hk hQ t bh (hR.jc eg hv) hs hz hA (by rw[Cu];exact hL) (fun hm=>by rw[Cu];exact h0 hm)⟩;obtain⟨rfl,e1,rfl,rfl⟩:=h0 (qN hm);rw[e1];exact hw'.2
  have no:Region.wanted o (yielded l.toArray a.tmps)=false->aU U cj (cj.drop n) K t bh (st.jc ao (.bQ []))->
    gy P l.toArray Q (fun w'=>wr.heap.size<=w'.heap.size/\cq U S0 G0 H0 wr w') (wpList P l.toArray Q (l.drop n)) l (.take i t) a w:=by
   intro hw hs;exact⟨o,undef,ho,.inr ⟨hw,rfl⟩,wN hk hQ t bh (hR.jc eg (x:=.bQ []) ⟨[],rfl,rfl,fun j x u h=>by simp at h⟩) hs hz hA (by rw[Cu];exact hL) (fun hm=>by rw[Cu];exact h0 hm)⟩
  split at hs
  ·rename_i hg;exact yes (pG hg) hs
  ·rename_i g want hg;split at hs
   ·rename_i hb;exact yes (oz g want _ hg hb) hs
   ·rename_i hb;exact no (oz g want _ hg hb) hs
   ·exact hs.elim
 | .move i t,bh,st,G,H,a,w,hR,hs,hz,hA,hL,h0=>by
  unfold aU at hs;split at hs
  ·exact hs.elim
  rename_i ao pS;obtain⟨o,ho,eg⟩:=hk.get pS
  exact⟨o,ho,zX (Q:=Q) eg hR hs (K:=fun a' w'=>(wr.heap.size<=w'.heap.size/\cq U S0 G0 H0 wr w')/\gy P l.toArray Q (fun w'=>wr.heap.size<=w'.heap.size/\cq U S0 G0 H0 wr w') (wpList P l.toArray Q (l.drop n)) l t a' w') (fun st' G' H' a' w' hX bC hst=>by
   obtain⟨g1,g2,g3⟩:=Cv hz hA hL hst
   exact⟨⟨g1,g2⟩,wN hk hQ t true bC hX g1 g2 g3 (fun h=>by cases h)⟩)|>Cw⟩
 | .fork i j ti tj,bh,st,G,H,a,w,hR,hs,hz,hA,hL,h0=>by
  unfold aU at hs;obtain⟨h1,h2⟩:=hs;refine⟨?_,?_⟩
  ·split at h1
   ·exact h1.elim
   rename_i ao pS;obtain⟨o,ho,eg⟩:=hk.get pS
   exact⟨o,ho,zX (Q:=Q) eg hR h1 (K:=fun a' w'=>(wr.heap.size<=w'.heap.size/\cq U S0 G0 H0 wr w')/\gy P l.toArray Q (fun w'=>wr.heap.size<=w'.heap.size/\cq U S0 G0 H0 wr w') (wpList P l.toArray Q (l.drop n)) l ti a' w') (fun st' G' H' a' w' hX bC hst=>by
    obtain⟨g1,g2,g3⟩:=Cv hz hA hL hst
    exact⟨⟨g1,g2⟩,wN hk hQ ti true bC hX g1 g2 g3 (fun h=>by cases h)⟩)|>Cw⟩
  ·split at h2
   ·exact h2.elim
   rename_i ao pS;obtain⟨o,ho,eg⟩:=hk.get pS
   exact⟨o,ho,zX (Q:=Q) eg hR h2 (K:=fun a' w'=>(wr.heap.size<=w'.heap.size/\cq U S0 G0 H0 wr w')/\gy P l.toArray Q (fun w'=>wr.heap.size<=w'.heap.size/\cq U S0 G0 H0 wr w') (wpList P l.toArray Q (l.drop n)) l tj a' w') (fun st' G' H' a' w' hX bC hst=>by
    obtain⟨g1,g2,g3⟩:=Cv hz hA hL hst
    exact⟨⟨g1,g2⟩,wN hk hQ tj true bC hX g1 g2 g3 (fun h=>by cases h)⟩)|>Cw⟩
 | .qH i j k ti tj tk,bh,st,G,H,a,w,hR,hs,hz,hA,hL,h0=>by
  unfold aU at hs;obtain⟨h1,h2,h3⟩:=hs;refine⟨?_,?_,?_⟩
  ·split at h1
   ·exact h1.elim
   rename_i ao pS;obtain⟨o,ho,eg⟩:=hk.get pS
   exact⟨o,ho,zX (Q:=Q) eg hR h1 (K:=fun a' w'=>(wr.heap.size<=w'.heap.size/\cq U S0 G0 H0 wr w')/\gy P l.toArray Q (fun w'=>wr.heap.size<=w'.heap.size/\cq U S0 G0 H0 wr w') (wpList P l.toArray Q (l.drop n)) l ti a' w') (fun st' G' H' a' w' hX bC hst=>by
    obtain⟨g1,g2,g3⟩:=Cv hz hA hL hst
    exact⟨⟨g1,g2⟩,wN hk hQ ti true bC hX g1 g2 g3 (fun h=>by cases h)⟩)|>Cw⟩
  ·split at h2
   ·exact h2.elim
   rename_i ao pS;obtain⟨o,ho,eg⟩:=hk.get pS
   exact⟨o,ho,zX (Q:=Q) eg hR h2 (K:=fun a' w'=>(wr.heap.size<=w'.heap.size/\cq U S0 G0 H0 wr w')/\gy P l.toArray Q (fun w'=>wr.heap.size<=w'.heap.size/\cq U S0 G0 H0 wr w') (wpList P l.toArray Q (l.drop n)) l tj a' w') (fun st' G' H' a' w' hX bC hst=>by
    obtain⟨g1,g2,g3⟩:=Cv hz hA hL hst
    exact⟨⟨g1,g2⟩,wN hk hQ tj true bC hX g1 g2 g3 (fun h=>by cases h)⟩)|>Cw⟩
  ·split at h3
   ·exact h3.elim
   rename_i ao pS;obtain⟨o,ho,eg⟩:=hk.get pS
   exact⟨o,ho,zX (Q:=Q) eg hR h3 (K:=fun a' w'=>(wr.heap.size<=w'.heap.size/\cq U S0 G0 H0 wr w')/\gy P l.toArray Q (fun w'=>wr.heap.size<=w'.heap.size/\cq U S0 G0 H0 wr w') (wpList P l.toArray Q (l.drop n)) l tk a' w') (fun st' G' H' a' w' hX bC hst=>by
    obtain⟨g1,g2,g3⟩:=Cv hz hA hL hst
    exact⟨⟨g1,g2⟩,wN hk hQ tk true bC hX g1 g2 g3 (fun h=>by cases h)⟩)|>Cw⟩
theorem amu {id:Nat}{l:List Oper}{Q:Exit->Act->World->Prop}{cj:List AO}(n:Nat)(t:OT)(U:List Nat)(hk:nH P N l.toArray l cj)(hm:P.follows .mixedOrders=true)(hB:(Region.noSelect l.toArray && mU .any l.toArray n && lu .any l.toArray n t n (Array.replicate l.toArray.size false))=true)
  {K:St->Prop} (hR:Rel N F M w0 st G H a w) (hs:aU U cj (cj.drop n) K t false st) (hQ:∀st' G' H' a' w',K st'->Rel N F M w0 st' G' H' a' w'->Q .normal a' w'):(Code.region id l.toArray true).wp P Q a w:=by
 have bC:Rel N F M w0 st G H a w.drew:=hR.grow rfl rfl rfl av (fun _ _=>rfl);refine Uj n t (fun w'=>w.drew.heap.size<=w'.heap.size/\cq U st.slot G H w.drew w') hm rfl hB ⟨di _,fun _ _ _=>rfl⟩ ?_;exact wN (Q:=NoPanic Q) hk (fun st' G' H' a' w' hK hR=>NoPanic.normal (hQ st' G' H' a' w' hK hR)) t false bC hs av (fun _ _ _=>rfl) (fun s hs _ _ h=>⟨s,hs,h⟩) (fun _=>⟨rfl,rfl,rfl,rfl⟩)
end
end Ab
namespace Ab
open Go Go.RowKit
def je (s g:Nat)(es:List (List AC)):AC->AC
 | .own s' g'=>if s'=s/\g'=g then .sl es else .own s' g'
 |x=>x
def Jh (s g:Nat)(es:List (List AC)):AW->AW
 | .c x=> .c (je s g es x)
 | .agg cs=> .agg (cs.map (je s g es))
def sE (s g:Nat)(es:List (List AC)):AV->AV
 | .w x=> .w (Jh s g es x)
 | .bQ vs=> .bQ (vs.map (Jh s g es))
 |x=>x
def lJ (s g:Nat)(es:List (List AC)):Slot->Slot
 | .box g' cs=> .box g' (cs.map (je s g es))
 |x=>x
def mapA {α:Type}(f:Nat->α->α)(l:List (Nat×α)):List (Nat×α):=l.map fun p=>(p.1,f p.1 p.2)
theorem EW {α:Type}(f:Nat->α->α):∀(l:List (Nat×α)) (i:Nat),aB (mapA f l) i=(aB l i).map (f i)
 |[],i=>rfl
 |(j,x)::l,i=>by
  have ih:=EW f l i;unfold mapA at ih⊢;simp only[ey,aB,ih];by_cases h:j=i
  ·subst h;simp
  ·simp[h]
def St.freeze (st:St)(s:Nat):St:=match st.slot s with
 | .row _ k g es=>if 0<k then⟨mapA (fun _=>sE s g es) st.V,mapA (fun _=>sE s g es) st.L,mapA (fun i x=>if i=s then .dead g else lJ s g es x) st.S⟩ else st
 |_=>st
section
variable {P:Program} {N:Nat} {F M:Nat->Prop} {w0:iy} {w:World} {st:St} {G:Nat->Gh} {H:Nat->Value} {a:Act}
theorem Rel.freeze (h:Rel N F M w0 st G H a w)(s:Nat):Rel N F M w0 (st.freeze s) G H a w:=by
 unfold St.freeze;split
 case h_2=>exact h
 rename_i e k g es hs;split
 case isFalse=>exact h
 rename_i bF
 have cA:∀i,(St.mk (mapA (fun _=>sE s g es) st.V) (mapA (fun _=>sE s g es) st.L) (mapA (fun i x=>if i=s then .dead g else lJ s g es x) st.S)).slot i=if i=s then .dead g else lJ s g es (st.slot i):=by
  intro i;unfold St.slot;dsimp only;rw[EW]
  cases hi:aB st.S i with
  |some x=>rfl
  |none=>
   by_cases cY:i=s
   ·subst cY;unfold St.slot at hs;rw[hi] at hs;cases hs
   ·simp[cY,lJ]
 generalize hst:(St.mk (mapA (fun _=>sE s g es) st.V) (mapA (fun _=>sE s g es) st.L) (mapA (fun i x=>if i=s then .dead g else lJ s g es x) st.S))=st' at cA⊢
 have lF:∀i,(st'.slot i).gen=(st.slot i).gen:=fun i=>by
  rw[cA];by_cases cY:i=s
  ·subst cY;rw[if_pos rfl,hs];rfl
  ·rw[if_neg cY];cases st.slot i<;>rfl
 have bD:∀i e2 k2 g2 dB,st'.slot i=.row e2 k2 g2 dB↔i≠s/\st.slot i=.row e2 k2 g2 dB:=fun i e2 k2 g2 dB=>by
  rw[cA];by_cases cY:i=s
  ·simp[cY]
  ·rw[if_neg cY];cases st.slot i<;>simp[lJ,cY]
 have iY:∀i g2 lI,st'.slot i=.box g2 lI↔∃cs,st.slot i=.box g2 cs/\lI=cs.map (je s g es):=fun i g2 lI=>by
  rw[cA];by_cases cY:i=s
  ·subst cY;rw[if_pos rfl,hs];simp
  ·rw[if_neg cY]
   cases hq:st.slot i with
   |dead g=>simp[lJ]
   |row e k g es=>simp[lJ]
   |obj g K=>simp[lJ]
   |box g3 cs3=>
    simp only[lJ,Slot.box.injEq];constructor
    ·rintro⟨rfl,rfl⟩;exact⟨cs3,⟨rfl,rfl⟩,rfl⟩
    ·rintro⟨cs,⟨rfl,rfl⟩,rfl⟩;exact⟨rfl,rfl⟩
 have pR:∀i g2 K2,st'.slot i=.obj g2 K2↔i≠s/\st.slot i=.obj g2 K2:=fun i g2 K2=>by
  rw[cA];by_cases cY:i=s
  ·simp[cY]
  ·rw[if_neg cY];cases st.slot i<;>simp[lJ,cY]
 have jP:∀i b,bj st'.slot G H i b->i≠s/\bj st.slot G H i b:=fun i b hl=>by
  rcases hl with⟨g2,lI,h1,h2⟩|⟨e2,k2,g2,dB,h1,h2⟩|⟨g2,K2,h1,h2⟩
  ·obtain⟨cs,h3,_⟩:=(iY i g2 lI).1 h1;refine⟨fun e=> ?_,.inl ⟨g2,cs,h3,h2⟩⟩;subst e;rw[hs] at h3;cases h3
  ·obtain⟨h3,h4⟩:=(bD i e2 k2 g2 dB).1 h1;exact⟨h3,.inr (.inl ⟨e2,k2,g2,dB,h4,h2⟩)⟩
  ·obtain⟨h3,h4⟩:=(pR i g2 K2).1 h1;exact⟨h3,.inr (.inr ⟨g2,K2,h4,h2⟩)⟩
 have wL:∀b,aW M st'.slot G H b->aW M st.slot G H b:=fun b hb=>by
  rcases hb with hm|⟨i,hl⟩
  ·exact .inl hm
  ·exact .inr ⟨i,(jP i b hl).2⟩
 have mD:∀{z:AC} {v:Value},IR w (aW M st.slot G H) z v->IR w (aW M st'.slot G H) z v:=fun hz=>hz.mono av (fun b _ hb=>wL b hb) (fun _ _ _=>rfl)
 have amv:IR w (aW M st'.slot G H) (.sl es) (H s):=by
  obtain⟨hn,xs,how,tV⟩:=h.rw s e k g es hs;have hl:=how.1
  rcases how.2 with⟨e1,e2⟩|⟨gg,cap,cur,e1,_,IY,nF,yA,_,_⟩
  ·have h0:es=[]:=tf e2;subst h0;rw[e1];exact IR.sl 0 [] none 0 (fun _ _=>undef) av ae (by intro i row h;simp at h) (by intro i row j x h;simp at h) (by intro i row j h;simp at h)
  ·rw[e1];have hcell:=how.cells (g:=gg) (by rw[e1];rfl)
   have bE:(H s).ownBlock=some gg:=by rw[e1];rfl
   have MY:¬aW M st'.slot G H gg:=fun hh=>by
    rcases hh with hm|⟨i,iK⟩
    ·exact(hn gg bE).2 hm
    ·obtain⟨d1,l1⟩:=jP i gg iK;exact d1 (h.dj i s gg l1 (.inr (.inl ⟨e,k,g,es,hs,bE⟩)))
   exact ES rfl (tV.map fun x u hx=>mD hx) hl MY nF (by simp only[maxLen] at yA;omega) (fun j u hj=>by
    have:=hcell j u hj
    rwa[Addr.add_mid,fK] at this)
 have hC:∀{x:AC} {u:Value},CR w (aW M st.slot G H) st.slot G H x u->CR w (aW M st'.slot G H) st'.slot G H (je s g es x) u:=by
  intro x u hx
  cases x with
  |v x=>exact mD hx
  |sl es=>exact mD hx
  |dX f bK=>exact mD hx
  |ct s' g'=>
   obtain⟨h1,h2,h3⟩:=hx;exact⟨h1,by rw[lF];exact h2,fun K he=>h3 K ((pR s' g' K).1 he).2⟩
  |part s' g' i'=>
   obtain⟨h1,h2,h3⟩:=hx;exact⟨h1,by rw[lF];exact h2,fun K he=>h3 K ((pR s' g' K).1 he).2⟩
  |cls f bK=>
   obtain⟨ps,h1,h2,h3⟩:=hx;refine⟨ps,h1,h2,fun i q p e1 e2=> ?_⟩;obtain⟨h4,h5⟩:=h3 i q p e1 e2;exact⟨by rw[lF];exact h4,fun cs he=>by obtain⟨cs',g1,_⟩:=(iY q.1 q.2 cs).1 he;exact h5 cs' g1⟩
  |own s' g'=>
   obtain⟨h1,h2,h3⟩:=hx;unfold je;dsimp only;split
   ·rename_i hh;obtain⟨rfl,rfl⟩:=hh;rw[h3 e k es hs];exact amv
   ·exact⟨h1,by rw[lF];exact h2,fun e2 k2 dB he=>h3 e2 k2 dB ((bD s' e2 k2 g' dB).1 he).2⟩
 have Ym:∀{cs:List AC} {us:List Value},bT w (aW M st.slot G H) st.slot G H cs us->bT w (aW M st'.slot G H) st'.slot G H (cs.map (je s g es)) us:=fun hc=>
  ⟨by rw[List.length_map];exact hc.1,fun j x u e1 e2=>by
   rw[ek,bz] at e1;obtain⟨y,hy,rfl⟩:=e1
   exact hC (hc.2 j y u hy e2)⟩
 have hW:∀{x:AW} {v:Value},WR w (aW M st.slot G H) st.slot G H x v->WR w (aW M st'.slot G H) st'.slot G H (Jh s g es x) v:=by
  intro x v hx
  cases x with
  |c x=>exact hC hx
  |agg cs=>
   obtain⟨arr,e,hc⟩:=hx;exact⟨arr,e,Ym hc⟩
 have hV:∀{x:AV} {v:Value},VR w (aW M st.slot G H) st.slot G H x v->VR w (aW M st'.slot G H) st'.slot G H (sE s g es x) v:=by
  intro x v hx
  cases x with
  |w x=>exact hW hx
  |bQ vs=>
   obtain⟨arr,e,hl,hc⟩:=hx
   exact⟨arr,e,by rw[List.length_map];exact hl,fun j x u e1 e2=>by
    rw[ek,bz] at e1;obtain⟨y,hy,rfl⟩:=e1
    exact hW (hc j y u hy e2)⟩
  |pb s' g' off=>exact⟨by rw[lF];exact hx.1,fun cs he=>by obtain⟨cs',h1,_⟩:=(iY s' g' cs).1 he;exact hx.2 cs' h1⟩
  |pr s' g' i off=>exact⟨by rw[lF];exact hx.1,fun e2 k2 dB he=>hx.2 e2 k2 dB ((bD s' e2 k2 g' dB).1 he).2⟩
  |pi cs off=>
   obtain⟨b,o,e1,hlt,hA,us,hl,hc⟩:=hx;exact⟨b,o,e1,hlt,fun hb=>hA (wL b hb),us,hl,fun j x u h1 h2=>⟨mD (hc j x u h1 h2).1,(hc j x u h1 h2).2⟩⟩
  |u=>trivial
 refine⟨h.sz,h.df,h.fr,⟨fun i=>by rw[lF];exact h.hs.gen i,fun i e2 k2 g2 dB h1 h2=>h.hs.row i e2 k2 g2 dB ((bD i e2 k2 g2 dB).1 h1).2 h2,fun i g2 lI h1 h2=> ?_,fun i g2 K2 h1 h2=>h.hs.obj i g2 K2 ((pR i g2 K2).1 h1).2 h2⟩,h.lo,fun i x hx=> ?_,fun i g2 lI hi=> ?_,fun i e2 k2 g2 dB hi=> ?_,fun i g2 K2 hi=> ?_,fun i j b h1 h2=>h.dj i j b (jP i b h1).2 (jP j b h2).2⟩
 ·obtain⟨cs,h3,_⟩:=(iY i g2 lI).1 h1;exact h.hs.box i g2 cs h3 h2
 ·have:∃y,st.get i=some y/\x=sE s g es y:=by
   subst hst;unfold St.get at hx⊢;dsimp only at hx;rw[EW,EW] at hx
   cases h1:aB st.V i with
   |some y=>rw[h1] at hx;simp at hx;exact⟨y,rfl,hx.symm⟩
   |none=>
    rw[h1] at hx;dsimp only[Option.map_none] at hx;rw[bz] at hx;obtain⟨y,hy,rfl⟩:=hx;exact⟨y,hy,rfl⟩
  obtain⟨y,hy,rfl⟩:=this;exact hV (h.tm i y hy)
 ·obtain⟨cs,h3,rfl⟩:=(iY i g2 lI).1 hi;obtain⟨f1,f2,arr,f3,f4⟩:=h.bx i g2 cs h3;exact⟨f1,f2,arr,f3,Ym f4⟩
 ·obtain⟨_,h3⟩:=(bD i e2 k2 g2 dB).1 hi;obtain⟨f1,xs,f2,f3⟩:=h.rw i e2 k2 g2 dB h3;exact⟨f1,xs,f2,f3.map fun x u hx=>mD hx⟩
 ·obtain⟨_,h3⟩:=(pR i g2 K2).1 hi;obtain⟨f1,f2⟩:=h.ob i g2 K2 h3;exact⟨f1,K2.mono f2 av (fun b _ hb=>wL b hb) (fun _ _ _=>rfl)⟩
theorem Rel.amw {s i b:Nat}(hl:bj (st.freeze s).slot G H i b):bj st.slot G H i b:=by
 unfold St.freeze at hl;split at hl
 case h_2=>exact hl
 rename_i e k g es hs;split at hl
 case isFalse=>exact hl
 have cA:∀i,(St.mk (mapA (fun _=>sE s g es) st.V) (mapA (fun _=>sE s g es) st.L) (mapA (fun i x=>if i=s then .dead g else lJ s g es x) st.S)).slot i=if i=s then .dead g else lJ s g es (st.slot i):=by
  intro i;unfold St.slot;dsimp only;rw[EW]
  cases hi:aB st.S i with
  |some x=>rfl
  |none=>
   by_cases cY:i=s
   ·subst cY;unfold St.slot at hs;rw[hi] at hs;cases hs
   ·simp[cY,lJ]
 have key:∀x,lJ s g es x=x\/∃g' cs cs',x=.box g' cs/\lJ s g es x=.box g' cs':=fun x=>by
  cases x with
  |dead g=>exact .inl rfl
  |row e k g es=>exact .inl rfl
  |obj g K=>exact .inl rfl
  |box g' cs=>exact .inr ⟨g',cs,_,rfl,rfl⟩
 rcases hl with⟨g2,lI,h1,h2⟩|⟨e2,k2,g2,dB,h1,h2⟩|⟨g2,K2,h1,h2⟩
 ·rw[cA] at h1;split at h1
  ·cases h1
  ·rcases key (st.slot i) with hk|⟨g',cs,cs',hk,mY⟩
   ·rw[hk] at h1;exact .inl ⟨g2,lI,h1,h2⟩
   ·rw[mY] at h1;cases h1;exact .inl ⟨_,cs,hk,h2⟩
 ·rw[cA] at h1;split at h1
  ·cases h1
  ·rcases key (st.slot i) with hk|⟨g',cs,cs',hk,mY⟩
   ·rw[hk] at h1;exact .inr (.inl ⟨e2,k2,g2,dB,h1,h2⟩)
   ·rw[mY] at h1;cases h1
 ·rw[cA] at h1;split at h1
  ·cases h1
  ·rcases key (st.slot i) with hk|⟨g',cs,cs',hk,mY⟩
   ·rw[hk] at h1;exact .inr (.inr ⟨g2,K2,h1,h2⟩)
   ·rw[mY] at h1;cases h1
end
def lK:List Nat->St->St
 |[],st=>st
 |s::r,st=>lK r (st.freeze s)
section
variable {P:Program} {N:Nat} {F M:Nat->Prop} {w0:iy} {w:World} {G:Nat->Gh} {H:Nat->Value} {a:Act}
theorem Rel.lK:∀(D:List Nat) {st:St},Rel N F M w0 st G H a w->Rel N F M w0 (Ab.lK D st) G H a w
 |[],_,h=>h
 |s::r,_,h=>Rel.lK r (h.freeze s)
theorem MZ:∀(D:List Nat) {st:St} {i b:Nat},bj (Ab.lK D st).slot G H i b->bj st.slot G H i b
 |[],_,_,_,h=>h
 |s::r,_,_,_,h=>Rel.amw (MZ r h)
theorem amx {U:Option (List Nat)}{o:Oper}{rf:zV}(D:List Nat)(h:kO P U o rf):kO P U o (fun st X=>rf (Ab.lK D st) X):=by
 intro N F M w0 w st G H a X hR hs K Q hK;refine h N F M w0 w (Ab.lK D st) G H a X (hR.lK D) hs K Q (fun x st' G' H' v w' hX bC hst hv=>hK x st' G' H' v w' hX bC ⟨hst.1,fun l hl=>⟨fun b hlt hn=>(hst.2 l hl).1 b hlt fun s hs hh=>hn s hs (MZ D hh),fun s hs b hlt jP=> ?_⟩⟩ hv);obtain⟨s0,h0,l0⟩:=(hst.2 l hl).2 s hs b hlt jP;exact⟨s0,h0,MZ D l0⟩
end
end Ab
namespace Ab
open Go Go.RowKit
def St.iz (st:St)(b off s e k:Nat):St:=match st.slot b,aB st.S s with
 | .box g cs,some _=>match cs[off]? with
  |some (.v (.slice none 0 0))=>if b=s then st else(st.bM s (.row e k ((st.slot s).gen+1) [])).bM b (.box g (cs.set off (.own s ((st.slot s).gen+1))))
  |_=>st
 |_,_=>st
section
variable {P:Program} {N:Nat} {F M:Nat->Prop} {w0:iy} {w:World} {st:St} {G:Nat->Gh} {H:Nat->Value} {a:Act}
theorem Rel.iz (h:Rel N F M w0 st G H a w)(b off s e k:Nat):∃H',Rel N F M w0 (st.iz b off s e k) G H' a w:=by
 unfold St.iz;split
 case h_2=>exact⟨H,h⟩
 rename_i g cs y hb hs;split
 case h_2=>exact⟨H,h⟩
 rename_i Yn;split
 ·exact⟨H,h⟩
 rename_i Yo
 have cA:(aB st.S s).isSome=true:=by rw[hs];rfl
 have fC:(aB st.S b).isSome=true:=by
  unfold St.slot at hb
  cases hq:aB st.S b with
  |some y=>rfl
  |none=>rw[hq] at hb;cases hb
 obtain⟨h1,-⟩:=h.newRow (w':=w) s cA (e:=e) (k:=k) (es:=[]) rfl (lf w 0 e k) (.inl ⟨rfl,rfl,rfl,di _,fun _ _ _=>rfl⟩) (fun b hb=>by simp[Value.ownBlock] at hb) (fun w2 A2 hm=>⟨fun i row h=>by simp at h,fun i row j x u h=>by simp at h⟩);refine⟨fun i=>if i=s then(.slice none 0 0:Value) else H i,?_⟩;generalize hH:(fun i=>if i=s then(.slice none 0 0:Value) else H i)=H' at h1⊢
 have yw:H' s=.slice none 0 0:=by subst hH;simp
 generalize hst:st.bM s (.row e k ((st.slot s).gen+1) [])=mE at h1⊢
 have bH:mE.slot b=.box g cs:=by subst hst;rw[St.jC,if_neg (by simp[Yo])];exact hb
 have eC:mE.slot s=.row e k ((st.slot s).gen+1) []:=by subst hst;rw[St.jC,if_pos ⟨rfl,cA⟩]
 have Mh:(aB mE.S b).isSome=true:=by
  subst hst;unfold St.bM;dsimp only;rw[ME,if_neg Yo];exact fC
 obtain⟨f1,f2,arr,f3,f4⟩:=h1.bx b g cs bH;have wL:=(bk.1 Yn).1;have hlen:arr.length=cs.length:=f4.1
 have mC:arr[off]? =some (.slice none 0 0):=by
  obtain⟨q,hq⟩:∃q,arr[off]? =some q:=⟨arr[off]' aa,List.getElem?_eq_getElem aa⟩
  have:=f4.2 off _ _ Yn hq;rw[hq];cases this;rfl
 have gJ:∀i,(mE.bM b (.box g (cs.set off (.own s ((st.slot s).gen+1))))).slot i=if i=b then .box g (cs.set off (.own s ((st.slot s).gen+1))) else mE.slot i:=fun i=>by
  rw[St.jC];by_cases hi:i=b
  ·subst hi;rw[if_pos ⟨rfl,Mh⟩,if_pos rfl]
  ·rw[if_neg (by simp[hi]),if_neg hi]
 generalize amy:mE.bM b (.box g (cs.set off (.own s ((st.slot s).gen+1))))=dP at gJ⊢
 have lF:∀i,(dP.slot i).gen=(mE.slot i).gen:=fun i=>by
  rw[gJ];by_cases hi:i=b
  ·subst hi;rw[if_pos rfl,bH];rfl
  ·rw[if_neg hi]
 have bD:∀i e2 k2 g2 dB,dP.slot i=.row e2 k2 g2 dB↔mE.slot i=.row e2 k2 g2 dB:=fun i e2 k2 g2 dB=>by
  rw[gJ];by_cases hi:i=b
  ·subst hi;rw[if_pos rfl,bH];simp
  ·rw[if_neg hi]
 have pR:∀i g2 K2,dP.slot i=.obj g2 K2↔mE.slot i=.obj g2 K2:=fun i g2 K2=>by
  rw[gJ];by_cases hi:i=b
  ·subst hi;rw[if_pos rfl,bH];simp
  ·rw[if_neg hi]
 have Ji:∀i g2,(∃c2,dP.slot i=.box g2 c2)↔∃c2,mE.slot i=.box g2 c2:=fun i g2=>by
  rw[gJ];by_cases hi:i=b
  ·subst hi;rw[if_pos rfl,bH];simp
  ·rw[if_neg hi]
 have jP:∀i q,bj dP.slot G H' i q↔bj mE.slot G H' i q:=fun i q=>by
  unfold bj;constructor
  ·rintro(⟨g2,c2,q1,q2⟩|⟨e2,k2,g2,dB,q1,q2⟩|⟨g2,K2,q1,q2⟩)
   ·obtain⟨c3,q3⟩:=(Ji i g2).1 ⟨c2,q1⟩;exact .inl ⟨g2,c3,q3,q2⟩
   ·exact .inr (.inl ⟨e2,k2,g2,dB,(bD ..).1 q1,q2⟩)
   ·exact .inr (.inr ⟨g2,K2,(pR ..).1 q1,q2⟩)
  ·rintro(⟨g2,c2,q1,q2⟩|⟨e2,k2,g2,dB,q1,q2⟩|⟨g2,K2,q1,q2⟩)
   ·obtain⟨c3,q3⟩:=(Ji i g2).2 ⟨c2,q1⟩;exact .inl ⟨g2,c3,q3,q2⟩
   ·exact .inr (.inl ⟨e2,k2,g2,dB,(bD ..).2 q1,q2⟩)
   ·exact .inr (.inr ⟨g2,K2,(pR ..).2 q1,q2⟩)
 have amz:aW M dP.slot G H'=aW M mE.slot G H':=by
  funext q;unfold aW;simp only[jP]
 have m:Mv w w (aW M mE.slot G H') (aW M dP.slot G H') mE.slot dP.slot G G H' H':=
  ⟨di _,fun q _ hq=>by rw[amz] at hq;exact hq,fun _ _ _=>rfl,fun i=>by rw[lF];exact di _,fun i e2 k2 g2 dB q _=>⟨⟨dB,(bD ..).1 q⟩,rfl⟩,fun i g2 c2 q _=>⟨(Ji i g2).1 ⟨c2,q⟩,rfl⟩,fun i g2 K2 q _=>⟨⟨K2,(pR ..).1 q⟩,rfl,rfl⟩⟩
 refine⟨h1.sz,h1.df,h1.fr,⟨fun i=>by rw[lF];exact h1.hs.gen i,fun i e2 k2 g2 dB q1 q2=>h1.hs.row i e2 k2 g2 dB ((bD ..).1 q1) q2,fun i g2 c2 q1 q2=>by
   obtain⟨c3,q3⟩:=(Ji i g2).1 ⟨c2,q1⟩
   exact h1.hs.box i g2 c3 q3 q2,fun i g2 K2 q1 q2=>h1.hs.obj i g2 K2 ((pR ..).1 q1) q2⟩,h1.lo,fun i x hx=> ?_,fun i g2 c2 q=> ?_,fun i e2 k2 g2 dB q=> ?_,fun i g2 K2 q=> ?_,fun i j q q1 q2=>h1.dj i j q ((jP i q).1 q1) ((jP j q).1 q2)⟩
 ·refine VR.mv m (h1.tm i x ?_);subst amy;exact hx
 ·rw[gJ] at q;by_cases hi:i=b
  ·subst hi;rw[if_pos rfl] at q;cases q;refine⟨f1,f2,arr,f3,by rw[List.length_set];exact f4.1,fun j x u e1 e2=> ?_⟩;rw[vR] at e1;split at e1
   ·rename_i hj;subst hj
    try rw[if_pos wL] at e1
    cases e1;rw[mC] at e2;cases e2;exact⟨rfl,by rw[lF,eC];exact di _,fun _ _ _ _=>yw.symm⟩
   ·exact CR.mv m (f4.2 j x u e1 e2)
  ·rw[if_neg hi] at q;obtain⟨p1,p2,amA,p3,p4⟩:=h1.bx i g2 c2 q;exact⟨p1,p2,amA,p3,bT.mv m p4⟩
 ·obtain⟨p1,xs,p2,p3⟩:=h1.rw i e2 k2 g2 dB ((bD ..).1 q);exact⟨p1,xs,p2,p3.map fun x u hx=>IR.mv m hx⟩
 ·obtain⟨p1,p2⟩:=h1.ob i g2 K2 ((pR ..).1 q);exact⟨p1,K2.mono p2 m.size m.off (fun _ _ _=>rfl)⟩
theorem amB {U:Option (List Nat)}{o:Oper}{t e:TypeId}{k:Nat}{it:TypeInfo}{zv:Value}{za:List AC}{x:Operand}{q:aw}(ho:o.op=.makeSlice t x x)(hu:P.underlying t=some (.slice e))(hi:P.info? e=some it)(hz:it.zero=some zv)(hs:it.size=k)(bF:0<k)(tU:zv.cells.size=k)(kq:it.bytes<=1000)
  (h3:yy zv.cells.toList=some za) (hx:cJ x q):
  kO P U o (fun st X=>∃n:Nat,st.sc q=some (.int .i64 n)/\n<=1000000/\(cp k n za).all inl=true/\X (.w (.c (.sl (rowsOf k n (cp k n za))))) st):=by
 intro N F M w0 w st G H a X hR hsm K Q hK;obtain⟨n,e1,e2,e3,hX⟩:=hsm;obtain⟨lH,-⟩:=hR.sc hx e1
 have hrun:=run_make (P:=P) w t e it zv hu hi hz .i64 .i64 (n:Int) (n:Int) aa aa (by
  have:it.bytes*n<=1000*1000000:=Nat.mul_le_mul kq e2;have:((it.bytes*n:Nat):Int)<=281474976710656:=aa
  rwa[Int.natCast_mul] at this) aa
 simp only[iT,hs] at hrun;have hcs:bT w (aW M st.slot G H) st.slot G H (cp k n za) (madeCells zv.cells (n*k)).toList:=MQ (MN h3) tU bF
 have hl:(cp k n za).length=n*k:=by simp[cp]
 have sj:n<=n*k:=Nat.le_mul_of_pos_right n bF;have m:=Yf (w:=w) (M:=M) (st:=st) (G:=G) (H:=H) (.cells (madeCells zv.cells (n*k)) e);have bD:=(Jd hl hcs e3).map (fun x u hx=>IR.mv m hx)
 have hx:=hK _ _ _ _ (.slice (some ⟨w.heap.size,0,none⟩) n n) _ hX (hR.alloc (.cells (madeCells zv.cells (n*k)) e)) (EL ae fun b hlt=>alloc_old w _ hlt)
  (ES (by simp[rowsOf]) bD (by simp[madeCells]) hR.Ye av aa (fun j u hu=>by rw[(az.new w (madeCells zv.cells (n*k)) e).cell];simpa using hu))
 unfold Oper.wp execOp;simp only[ho,lp,lH,hrun,pf,qC];exact hx
end
end Ab
namespace Ab
open Go Go.RowKit
inductive dQ where
 |normal
 |exit (id:Nat)
 |ret
def dQ.ex:dQ->Exit
 | .normal=> .normal
 | .exit id=> .exit id
 | .ret=> .ret
inductive lL where
 |skip
 |ret
 |exit (id:Nat)
 |seq (x y:lL)
 |cond (t:aw) (x y:lL)
 |block (id:Nat) (c:lL)
 |loop (c:lL)
 |region (cj:List AO)
 |oJ (cj:List AO) (n:Nat) (t:OT) (U:List Nat)
 |jf (s:Nat) (c:lL)
 |lM (b off s e k:Nat) (c:lL)
def aM (K:St->Prop)(Q:dQ->St->Prop):dQ->St->Prop
 | .normal,st=>K st
 |e,st=>Q e st
def aJ (id:Nat)(Q:dQ->St->Prop):dQ->St->Prop
 | .exit lN,st=>if lN=id then Q .normal st else Q (.exit lN) st
 |e,st=>Q e st
def zY (body:(dQ->St->Prop)->St->Prop)(Q:dQ->St->Prop):Nat->St->Prop
 |0,_=>False
 |n+1,st=>body (aM (zY body Q n) Q) st
def aC:lL->(dQ->St->Prop)->St->Prop
 | .skip,Q,st=>Q .normal st
 | .ret,Q,st=>Q .ret st
 | .exit id,Q,st=>Q (.exit id) st
 | .seq x y,Q,st=>aC x (aM (aC y Q) Q) st
 | .cond t x y,Q,st=>match st.sc t with
  |some (.bool true)=>aC x Q st
  |some (.bool false)=>aC y Q st
  |_=>False
 | .block id c,Q,st=>aC c (aJ id Q) st
 | .loop c,Q,st=>∃n,zY (aC c) Q n st
 | .region cj,Q,st=>bo none cj (Q .normal) { st with L:=[] }
 | .oJ cj n t U,Q,st=>aU U cj (cj.drop n) (Q .normal) t false { st with L:=[] }
 | .jf s c,Q,st=>aC c Q (st.freeze s)
 | .lM b off s e k c,Q,st=>aC c Q (st.iz b off s e k)
inductive fR (P:Program)(N:Nat):Code->lL->Prop where
 |skip:fR P N .skip .skip
 |ret:fR P N .ret .ret
 |exit (id:Nat):fR P N (.exit id) (.exit id)
 |seq {x y:Code} {x' y':lL} (hx:fR P N x x') (hy:fR P N y y'):fR P N (.seq x y) (.seq x' y')
 |cond {t:Operand} {t':aw} {x y:Code} {x' y':lL} (ht:cJ t t') (hx:fR P N x x') (hy:fR P N y y'):fR P N (.cond t x y) (.cond t' x' y')
 |block (id:Nat) {c:Code} {c':lL} (h:fR P N c c'):fR P N (.block id c) (.block id c')
 |loop {c:Code} {c':lL} (h:fR P N c c'):fR P N (.loop c) (.loop c')
 |region (id:Nat) {ops:Array Oper} {cj:List AO} (h:nH P N ops ops.toList cj):fR P N (.region id ops false) (.region cj)
 |oJ (id:Nat) {l:List Oper} {cj:List AO} (n:Nat) (t:OT) (U:List Nat) (h:nH P N l.toArray l cj) (hm:P.follows .mixedOrders=true) (hB:(Region.noSelect l.toArray && mU .any l.toArray n && lu .any l.toArray n t n (Array.replicate l.toArray.size false))=true):fR P N (.region id l.toArray true) (.oJ cj n t U)
 |jf (s:Nat) {c:Code} {c':lL} (h:fR P N c c'):fR P N c (.jf s c')
 |lM (b off s e k:Nat) {c:Code} {c':lL} (h:fR P N c c'):fR P N c (.lM b off s e k c')
section
variable {P:Program} {N:Nat} {F M:Nat->Prop} {w0:iy} {w:World} {st:St} {G:Nat->Gh} {H:Nat->Value} {a:Act}
theorem amC {Q:Exit->Act->World->Prop}{c:Code}(I:Nat->Act->World->Prop)(h0:∀a w,¬I 0 a w)(round:∀n a w,I (n+1) a w->c.wp P (Exit.then (I n) Q) a w){n:Nat}{a:Act}{w:World}(h:I n a w):(Code.loop c).wp P Q a w:=by
 intro b k cs
 have key:∀n a w,I n a w->∃e a' w',Q e a' w'/\Arrives P (lone (b.at a (.code c:: .inLoop c::k)) cs w) b k cs e a' w':=by
  intro n
  induction n with
  |zero=>intro a w h;exact(h0 a w h).elim
  |succ n ih=>
   intro a w hI;obtain⟨e,a₁,w₁,hq,mC⟩:=round n a w hI b (.inLoop c::k) cs
   cases e with
   |normal=>
    obtain⟨e₂,a₂,w₂,amD,amE⟩:=ih a₁ w₁ hq;exact⟨e₂,a₂,w₂,amD,.of_steps (Steps.trans mC (.one step_inLoop)) amE⟩
   |exit id=>exact⟨_,a₁,w₁,hq,.pass (x:=.inLoop c) rfl (fun _ _=> .inl ae) mC⟩
   |goto l=>exact⟨_,a₁,w₁,hq,.pass (x:=.inLoop c) rfl (fun _ _=> .inl ae) mC⟩
   |ret=>exact⟨_,a₁,w₁,hq,.pass (x:=.inLoop c) rfl (fun _ _=> .inl ae) mC⟩
   |panic ch=>exact⟨_,a₁,w₁,hq,.pass (x:=.inLoop c) rfl (fun _ _=> .inl ae) mC⟩
   |outgrown=>exact⟨_,a₁,w₁,hq,.pass (x:=.inLoop c) rfl (fun _ _=> .inl ae) mC⟩
 obtain⟨e,a',w',hq,mC⟩:=key n a w h;exact⟨e,a',w',hq,.of_steps (.one step_loop) mC⟩
theorem Rel.Yp (h:Rel N F M w0 st G H a w):Rel N F M w0 { st with L:=[] } G H a w:=
 ⟨h.sz,h.df,h.fr,h.hs,h.lo,fun i x hx=>h.tm i x (by
  unfold St.get at hx⊢;dsimp only at hx;split at hx
  ·exact hx
  ·simp[aB] at hx),h.bx,h.rw,h.ob,h.dj⟩
theorem Yq {c:Code}{ac:lL}(hk:fR P N c ac):∀{st:St} {G:Nat->Gh} {H:Nat->Value} {a:Act} {w:World} {Q:dQ->St->Prop} {Q':Exit->Act->World->Prop},Rel N F M w0 st G H a w->aC ac Q st->
  (∀e st' G' H' a' w',Q e st'->Rel N F M w0 st' G' H' a' w'->Q' e.ex a' w')->c.wp P Q' a w:=by
 induction hk with
 |skip=>intro st G H a w Q Q' hR hs hQ;exact wp_skip (hQ .normal st G H a w hs hR)
 |ret=>intro st G H a w Q Q' hR hs hQ;exact wp_ret (hQ .ret st G H a w hs hR)
 |exit id=>intro st G H a w Q Q' hR hs hQ;exact wp_exit (hQ (.exit id) st G H a w hs hR)
 |seq hx hy sF sG=>
  intro st G H a w Q Q' hR hs hQ;refine wp_seq (sF hR hs fun e st' G' H' a' w' hq bC=> ?_)
  cases e with
  |normal=>exact sG bC hq hQ
  |exit id=>exact hQ _ _ _ _ _ _ hq bC
  |ret=>exact hQ _ _ _ _ _ _ hq bC
 |cond ht hx hy sF sG=>
  intro st G H a w Q Q' hR hs hQ;unfold aC at hs;split at hs
  ·rename_i hb;exact wp_cond_true (hR.sc ht hb).1 (sF hR hs hQ)
  ·rename_i hb;exact wp_cond_false (hR.sc ht hb).1 (sG hR hs hQ)
  ·exact hs.elim
 |block id h ih=>
  intro st G H a w Q Q' hR hs hQ;refine wp_block (ih hR hs fun e st' G' H' a' w' hq bC=> ?_)
  cases e with
  |normal=>exact hQ .normal _ _ _ _ _ hq bC
  |exit lN=>
   show Exit.inBlock id Q' (.exit lN) a' w'
   unfold aJ at hq;unfold Exit.inBlock;dsimp only at hq⊢;split at hq
   ·rename_i he;rw[if_pos he];exact hQ .normal _ _ _ _ _ hq bC
   ·rename_i he;rw[if_neg he];exact hQ (.exit lN) _ _ _ _ _ hq bC
  |ret=>exact hQ .ret _ _ _ _ _ hq bC
 |loop h ih=>
  intro st G H a w Q Q' hR hs hQ;obtain⟨n,hn⟩:=hs;refine amC (fun n a w=>∃st G H,Rel N F M w0 st G H a w/\zY (aC _) Q n st) (fun a w ⟨_,_,_,_,h⟩=>h) (fun n a w ⟨st,G,H,hR,hl⟩=> ?_) ⟨st,G,H,hR,hn⟩
  refine ih hR hl fun e st' G' H' a' w' hq bC=> ?_
  cases e with
  |normal=>exact⟨st',G',H',bC,hq⟩
  |exit id=>exact hQ _ _ _ _ _ _ hq bC
  |ret=>exact hQ _ _ _ _ _ _ hq bC
 |region id h=>intro st G H a w Q Q' hR hs hQ;exact amt h hR.Yp hs (fun st' G' H' a' w' hq bC=>hQ .normal _ _ _ _ _ hq bC)
 |jf s h ih=>intro st G H a w Q Q' hR hs hQ;exact ih (hR.freeze s) hs hQ
 |lM b off s e k h ih=>intro st G H a w Q Q' hR hs hQ;obtain⟨H',bC⟩:=hR.iz b off s e k;exact ih bC hs hQ
 |oJ id n t U h hm hB=>intro st G H a w Q Q' hR hs hQ;exact amu n t U h hm hB hR.Yp hs (fun st' G' H' a' w' hq bC=>hQ .normal _ _ _ _ _ hq bC)
end
end Ab
namespace Ab
open Go Go.RowKit
section
variable {P:Program} {N:Nat} {F M:Nat->Prop} {w0:iy} {w:World} {st:St} {G:Nat->Gh} {H:Nat->Value} {a:Act}
def St.fz (st:St):AC->Option AC
 | .own s g=>match st.slot s with
  | .row _ k g' es=>if g=g'/\0<k then some (.sl es) else none
  |_=>none
 | .v x=>some (.v x)
 | .sl es=>some (.sl es)
 | .dX f bK=>some (.dX f bK)
 |_=>none
def St.gK (st:St):List AC->Option (List AC)
 |[]=>some []
 |x::l=>match st.fz x,st.gK l with
  |some y,some r=>some (y::r)
  |_,_=>none
def St.mF (st:St):AW->Option AW
 | .c x=>(st.fz x).map .c
 | .agg cs=>(st.gK cs).map .agg
theorem Rel.fz (h:Rel N F M w0 st G H a w){x y:AC}{u:Value}(hx:CR w (aW M st.slot G H) st.slot G H x u)(hf:st.fz x=some y):IR w M y u:=by
 have hA:∀b,b<w.heap.size->M b->aW M st.slot G H b:=fun b _ hm=> .inl hm
 cases x with
 |v x=>
  simp only[St.fz,ar] at hf;subst hf;exact IR.mono hx av hA (fun _ _ _=>rfl)
 |sl es=>
  simp only[St.fz,ar] at hf;subst hf;exact IR.mono hx av hA (fun _ _ _=>rfl)
 |dX f bK=>
  simp only[St.fz,ar] at hf;subst hf;exact IR.mono hx av hA (fun _ _ _=>rfl)
 |ct s g=>cases hf
 |part s g i=>cases hf
 |cls f bK=>cases hf
 |own s g=>
  simp only[St.fz] at hf;split at hf
  case h_2=>cases hf
  rename_i e k g' es hs;split at hf
  case isFalse=>cases hf
  rename_i hg;obtain⟨rfl,bF⟩:=hg;simp only[ar] at hf;subst hf;obtain⟨_,_,hH⟩:=hx;have hu:=hH e k es hs;subst hu;obtain⟨hn,xs,how,tV⟩:=h.rw s e k g es hs;have hl:=how.1
  rcases how.2 with⟨e1,e2⟩|⟨gg,cap,cur,e1,_,IY,nF,yA,_,_⟩
  ·have h0:es=[]:=tf e2;subst h0;rw[e1];exact IR.sl 0 [] none 0 (fun _ _=>undef) av ae (by intro i row h;simp at h) (by intro i row j x h;simp at h) (by intro i row j h;simp at h)
  ·rw[e1];have hcell:=how.cells (g:=gg) (by rw[e1];rfl)
   exact ES rfl (tV.map fun x u hx=>hx.mono av hA (fun _ _ _=>rfl)) hl (hn gg (by rw[e1];rfl)).2 nF (by simp only[maxLen] at yA;omega) (fun j u hj=>by
    have:=hcell j u hj
    rwa[Addr.add_mid,fK] at this)
theorem Yr {x y:AC}(h:st.fz x=some y):inl y=true:=by
 cases x with
 |v x=>simp only[St.fz,ar] at h;subst h;rfl
 |sl es=>simp only[St.fz,ar] at h;subst h;rfl
 |dX f bK=>simp only[St.fz,ar] at h;subst h;rfl
 |ct s g=>cases h
 |part s g i=>cases h
 |cls f bK=>cases h
 |own s g=>
  simp only[St.fz] at h;split at h
  ·split at h
   ·simp only[ar] at h;subst h;rfl
   ·cases h
  ·cases h
theorem Rel.gK (h:Rel N F M w0 st G H a w):∀{cs r:List AC} {us:List Value},bT w (aW M st.slot G H) st.slot G H cs us->st.gK cs=some r->r.all inl=true/\bT w M (fun _=> .dead 0) (fun _=>gh 0) (fun _=>undef) r us
 |[],r,us,hc,hr=>by
  simp only[St.gK,ar] at hr;subst hr;exact⟨rfl,hc.1,fun j x u e=>by simp at e⟩
 |x::cs,r,us,hc,hr=>by
  unfold St.gK at hr;split at hr
  case h_2=>cases hr
  rename_i y q h1 h2;simp only[ar] at hr;subst hr
  cases us with
  |nil=>have:=hc.1;simp at this
  |cons u us=>
   have hc':bT w (aW M st.slot G H) st.slot G H cs us:=⟨by have:=hc.1;simpa using this,fun j x u e1 e2=>hc.2 (j+1) x u (by simpa using e1) (by simpa using e2)⟩
   obtain⟨g1,g2⟩:=Rel.gK h hc' h2;refine⟨by simp[Yr h1,g1],by have:=g2.1;simp[this],fun j z v e1 e2=> ?_⟩
   cases j with
   |zero=>
    simp at e1 e2;subst e1;subst e2;exact(h.fz (hc.2 0 x u rfl rfl) h1).zQ
   |succ j=>exact g2.2 j z v (by simpa using e1) (by simpa using e2)
theorem Rel.mF (h:Rel N F M w0 st G H a w){x y:AW}{v:Value}(hx:WR w (aW M st.slot G H) st.slot G H x v)(hf:st.mF x=some y):WI w M y v:=by
 cases x with
 |c x=>
  simp only[St.mF,bz] at hf;obtain⟨z,hz,rfl⟩:=hf;exact⟨by simp[AW.inl,AW.cells,Yr hz],(h.fz hx hz).zQ⟩
 |agg cs=>
  simp only[St.mF,bz] at hf;obtain⟨z,hz,rfl⟩:=hf;obtain⟨arr,e,hc⟩:=hx;obtain⟨g1,g2⟩:=h.gK hc hz;exact⟨by simpa [AW.inl,AW.cells] using g1,arr,e,g2⟩
def yB (P:Program)(st:St):ResultVar->Option AW
 | .tmp t=>match st.get t with
  |some (.w x)=>st.mF x
  |_=>none
 | .cell p ty=>match(P.info? ty).map (·.size),P.underlying ty with
  |some n,some d=>if d.isRow then(st.cells [] n (st.get p)).bind fun cs=>st.mF (.agg cs) else(st.cells [] 1 (st.get p)).bind fun cs=>match cs with
   |[c]=>st.mF (.c c)
   |_=>none
  |_,_=>none
def sH (P:Program)(st:St):List ResultVar->Option (List AW)
 |[]=>some []
 |r::l=>match yB P st r,sH P st l with
  |some x,some q=>some (x::q)
  |_,_=>none
def cZ (l:List AW):AV:=match l with
 |[x]=> .w x
 |l=> .bQ l
def rh (tmps:Array Value):ResultVar->Sem Value
 | .tmp t=>pure (tmps.getD t undef)
 | .cell a t=>do loadVar t (<-asAddr (tmps.getD a undef))
theorem Rel.yB (h:Rel N F M w0 st G H a w){r:ResultVar}{x:AW}(hr:yB P st r=some x):∃v,(rh a.tmps r).run P w=.ok v w/\WI w M x v:=by
 cases r with
 |tmp t=>
  simp only[Ab.yB] at hr;split at hr
  case h_2=>cases hr
  rename_i y hy;exact⟨_,rfl,h.mF (h.tm t _ hy) hr⟩
 |cell p ty=>
  simp only[Ab.yB] at hr;split at hr
  case h_2=>cases hr
  rename_i n d hn hd;split at hr
  ·rename_i bD;rw[Option.bind_eq_some_iff] at hr;obtain⟨cs,hc,hf⟩:=hr
   cases hp:st.get p with
   |none=>rw[hp] at hc;simp[St.cells] at hc
   |some pv=>
    rw[hp] at hc;obtain⟨b,o,us,e1,hlt,_,zZ,hcs,hl⟩:=h.cells (h.tm p pv hp) hc;refine⟨.agg us.toArray,?_,h.mF (x:=.agg cs) ⟨us,rfl,hcs⟩ hf⟩;simp only[rh,e1,asAddr,lp,qC,pf];exact run_loadVar_mid w b o ty us d zZ hd bD (by rw[hl];exact hn)
  ·rename_i bD;rw[Option.bind_eq_some_iff] at hr;obtain⟨cs,hc,hf⟩:=hr;split at hf
   case h_2=>cases hf
   rename_i c
   cases hp:st.get p with
   |none=>rw[hp] at hc;simp[St.cells] at hc
   |some pv=>
    rw[hp] at hc;obtain⟨b,o,us,e1,hlt,_,zZ,hcs,hl⟩:=h.cells (h.tm p pv hp) hc
    obtain⟨u,rfl⟩:∃u,us=[u]:=by
     match us,hl with
     |[u],_=>exact⟨u,rfl⟩
    refine⟨u,?_,h.mF (x:=.c c) (hcs.2 0 c u rfl rfl) hf⟩;have hcell:=zZ 0 u rfl;rw[qB] at hcell
    have rS:(isAgg ty).run P w=.ok false w:=by
     unfold isAgg;rw[lp,km hd]
     cases d<;>first|rfl|(exact absurd rfl bD)
    simp[rh,e1,asAddr,loadVar,rS,hcell]
theorem Rel.sH (h:Rel N F M w0 st G H a w):∀{rs:List ResultVar} {xs:List AW},sH P st rs=some xs->∃vs:List Value,(rs.mapM (rh a.tmps)).run P w=.ok vs w/\vs.length=xs.length/\∀(j:Nat) (x:AW) (v:Value),xs[j]? =some x->vs[j]? =some v->WI w M x v
 |[],xs,hr=>by
  simp only[Ab.sH,ar] at hr;subst hr;exact⟨[],ae,rfl,fun j x v e=>by simp at e⟩
 |r::rs,xs,hr=>by
  unfold Ab.sH at hr;split at hr
  case h_2=>cases hr
  rename_i x q h1 h2;simp only[ar] at hr;subst hr;obtain⟨v,e1,e2⟩:=h.yB h1;obtain⟨vs,e3,e4,e5⟩:=Rel.sH h h2;refine⟨v::vs,by simp[List.mapM_cons,e1,e3],by simp[e4],fun j y u g1 g2=> ?_⟩
  cases j with
  |zero=>simp at g1 g2;subst g1;subst g2;exact e2
  |succ j=>exact e5 j y u (by simpa using g1) (by simpa using g2)
theorem Yt {fn:Func}{tmps:Array Value}{vs:List Value}(h:(fn.results.toList.mapM (rh tmps)).run P w=.ok vs w):(results fn tmps).run P w=.ok (if h:vs.toArray.size=1 then vs.toArray[0] else .tuple vs.toArray) w:=by
 have:fn.results.mapM (rh tmps)=Functor.map List.toArray (fn.results.toList.mapM (rh tmps)):=by rw[Array.mapM_eq_mapM_toList]
 unfold results
 show Sem.run P ((fn.results.mapM (rh tmps))>>=fun vs=>pure (if h:vs.size=1 then vs[0] else .tuple vs)) w=_
 rw[this];simp[h]
theorem amF {f:FuncId}{fn:Func}{c:Code}{ac:lL}(hf:P.funcs[f]? =some fn)(hb:fn.body=some c)(hk:fR P fn.ntmps c ac)(args:List AW)(Aa:args.length<=fn.ntmps)(V:List (Nat×AV))(S:List (Nat×Slot)){Q:AV->Prop}
  (hV:∀i x,aB V i=some x->x=.u\/∃y,args[i]? =some y/\x=.w y) (hS:∀s,(aB S s).getD (.dead 0)=.dead 0)
  (h:aC ac (fun e st=>(match e with | .exit _=>False|_=>True)/\∃xs,sH P st fn.results.toList=some xs/\Q (cZ xs)) ⟨V,[],S⟩):bt P f args Q:=by
 intro M w vs hM hlen dk;refine calls_of_wp hf hb ?_
 have gJ:(St.mk V [] S).slot=fun _=> .dead 0:=funext fun s=>hS s
 have hR:Rel fn.ntmps (fun b=>b<w.heap.size) M ⟨w,fun _=> .dead 0,fun _=>gh 0,fun _=>undef⟩ ⟨V,[],S⟩ (fun _=>gh 0) (fun _=>undef) { tmps:=vs.toArray++Array.replicate (fn.ntmps-vs.toArray.size) undef,defers:=[] } w:=by
  refine⟨by simp;omega,rfl,⟨rfl,rfl,rfl,di _,fun _ _=>rfl⟩,⟨fun s=>(by rw[gJ];exact di _),fun s e k g es hs=>(by rw[gJ] at hs;cases hs),fun s g cs hs=>(by rw[gJ] at hs;cases hs),fun s g K hs=>(by rw[gJ] at hs;cases hs)⟩,fun b hb=>hb.elim id (hM b),fun i x hx=> ?_,fun s g cs hs=>(by rw[gJ] at hs;cases hs),fun s e k g es hs=>(by rw[gJ] at hs;cases hs),fun s g K hs=>(by rw[gJ] at hs;cases hs),fun s s' b hl=> ?_⟩
  ·have mZ:aB V i=some x:=by
    unfold St.get at hx;dsimp only at hx;split at hx
    ·rename_i v hv;rw[hv];exact hx
    ·simp[aB] at hx
   rcases hV i x mZ with rfl|⟨y,hy,rfl⟩
   ·trivial
   ·have hi:=(bk.1 hy).1;have hv:vs[i]? =some (vs[i]' aa):=List.getElem?_eq_getElem aa;have hw:=dk i y _ hy hv
    have lG:(vs.toArray++Array.replicate (fn.ntmps-vs.toArray.size) undef).getD i undef=vs[i]' aa:=by
     simp[DN,Array.getElem?_append,show i<vs.length by omega]
    rw[lG]
    have hA:aW M (St.mk V [] S).slot (fun _=>gh 0) (fun _=>undef)=M:=by
     funext b;apply propext;refine⟨fun hh=> ?_,.inl⟩
     rcases hh with hm|⟨s,hl⟩
     ·exact hm
     ·rw[gJ] at hl
      rcases hl with⟨g,cs,h1,_⟩|⟨e,k,g,es,h1,_⟩|⟨g,K,h1,_⟩<;>cases h1
    rw[hA];exact WR.any hw.2 hw.1
  ·rw[gJ] at hl
   rcases hl with⟨g,cs,h1,_⟩|⟨e,k,g,es,h1,_⟩|⟨g,K,h1,_⟩<;>cases h1
 refine Yq hk hR h fun e st' G' H' a' w' hq bC=> ?_
 obtain⟨he,xs,rZ,hQ⟩:=hq;obtain⟨us,e1,e2,e3⟩:=bC.sH rZ;have hrun:=Yt (fn:=fn) e1
 have fin:a'.defers=[]/\∃v,(results fn a'.tmps).run P w'=.ok v w'/\∃v' r,Ending.returned v=.returned v'/\Q r/\VI w' M r v'/\Fr (fun b=>b<w.heap.size) w w':=by
  refine⟨bC.df,_,hrun,_,cZ xs,rfl,hQ,?_,bC.fr⟩
  match xs,us,e2,e3 with
  |[x],[u],_,e3=>exact e3 0 x u rfl rfl
  |[],[],_,e3=>exact⟨[],rfl,rfl,fun j x u e=>by simp at e⟩
  |x::y::r,u::v::q,e2,e3=>
   have hne:¬(u::v::q).toArray.size=1:=ae;rw[dif_neg hne];exact⟨u::v::q,rfl,e2,e3⟩
 cases e with
 |normal=>exact fin
 |exit id=>exact he.elim
 |ret=>exact fin
end
end Ab
namespace Ab
open Go Go.RowKit
def nI (P:Program)(t:TypeId)(n:Nat):Prop:=∀(x y:Operand) (xs ys:List Int) (w:World),xs.length=n->ys.length=n->
 ((do eqGuard .eql t x y (.agg (iv xs).toArray) (.agg (iv ys).toArray);binOp .eql t (.agg (iv xs).toArray) (.agg (iv ys).toArray)):Sem Value).run P w=.ok (.bool (decide (xs=ys))) w/\
 ((do eqGuard .neq t x y (.agg (iv xs).toArray) (.agg (iv ys).toArray);binOp .neq t (.agg (iv xs).toArray) (.agg (iv ys).toArray)):Sem Value).run P w=.ok (.bool (decide (xs≠ys))) w
def Jj:AC->Option Int
 | .v (.int .i64 n)=>some n
 |_=>none
def Ac:List AC->Option (List Int)
 |[]=>some []
 |x::l=>match Jj x,Ac l with
  |some n,some r=>some (n::r)
  |_,_=>none
section
variable {P:Program} {w:World}
theorem amG {A:Nat->Prop}{S:Nat->Slot}{G:Nat->Gh}{H:Nat->Value}{x:AC}{n:Int}{u:Value}(h:Jj x=some n)(hc:CR w A S G H x u):u=I n:=by
 unfold Jj at h;split at h
 ·simp only[ar] at h;subst h;have h2:IR w A (.v (.int .i64 _)) u:=hc;cases h2;rfl
 ·cases h
theorem Na {A:Nat->Prop}{S:Nat->Slot}{G:Nat->Gh}{H:Nat->Value}:∀{cs:List AC} {l:List Int} {us:List Value},Ac cs=some l->bT w A S G H cs us->us=iv l
 |[],l,us,h,hc=>by
  simp only[Ac,ar] at h;subst h;exact tf hc.1
 |x::cs,l,us,h,hc=>by
  unfold Ac at h;split at h
  case h_2=>cases h
  rename_i n r h1 h2;simp only[ar] at h;subst h
  cases us with
  |nil=>have:=hc.1;simp at this
  |cons u us=>
   have hc':bT w A S G H cs us:=⟨by have:=hc.1;simpa using this,fun j x u e1 e2=>hc.2 (j+1) x u (by simpa using e1) (by simpa using e2)⟩
   rw[Na h2 hc',amG h1 (hc.2 0 x u rfl rfl)];rfl
def Jk (neg:Bool)(n:Nat):Option AV->Option AV->Option AV
 |some (.w (.agg cs)),some (.w (.agg ds))=>match Ac cs,Ac ds with
  |some xs,some ys=>if xs.length=n/\ys.length=n then some (.w (.c (.v (.bool (if neg then decide (xs≠ys) else decide (xs=ys)))))) else none
  |_,_=>none
 |_,_=>none
theorem Yu {o:Oper}{neg:Bool}{t t':TypeId}{n:Nat}{x x':Operand}{y y':aw}(ho:o.op=.binOp (if neg then .neq else .eql) t x x' t')(hE:nI P t n)(hx:cJ x y)(mZ:cJ x' y'):gX P false o (fun st _=>Jk neg n (st.arg y) (st.arg y')):=by
 intro N F M w0 w st G H a U r h hr;dsimp only at hr;unfold Jk at hr;split at hr
 case h_2=>cases hr
 rename_i cs ds h1 h2;split at hr
 case h_2=>cases hr
 rename_i xs ys h3 h4;split at hr
 case isFalse=>cases hr
 rename_i hl;simp only[ar] at hr;subst hr;obtain⟨us,e1,c1⟩:=h.arg hx h1;obtain⟨vs,e2,c2⟩:=h.arg mZ h2;have i1:=Na h3 c1;have i2:=Na h4 c2;subst i1;subst i2;refine⟨_,IR.v _ rfl,fun w' _=> ?_⟩;have hq:=hE x x' xs ys w' hl.1 hl.2;unfold execOp;cases neg
 ·have h5:=hq.1;simp only[tg,pj] at ho⊢;simp only[ho,e1,e2];rw[lp,h5];rfl
 ·have h5:=hq.2;simp only[lX] at ho⊢;simp only[ho,e1,e2];rw[lp,h5];rfl
end
theorem amH:nI Tryz.prog 59 3:=by
 intro x y xs ys w hx hy
 match xs,ys,hx,hy with
 |[a0,a1,a2],[b0,b1,b2],_,_=>
  constructor
  ·simp only[iv,List.map];go_simp;simp[cP]
  ·simp only[iv,List.map];go_simp;simp[cP]
theorem amI:nI Tryz.prog 61 5:=by
 intro x y xs ys w hx hy
 match xs,ys,hx,hy with
 |[a0,a1,a2,a3,a4],[b0,b1,b2,b3,b4],_,_=>
  constructor
  ·simp only[iv,List.map];go_simp;simp[cP]
  ·simp only[iv,List.map];go_simp;simp[cP]
theorem amJ:nI Tryz.prog 63 8:=by
 intro x y xs ys w hx hy
 match xs,ys,hx,hy with
 |[a0,a1,a2,a3,a4,a5,a6,a7],[b0,b1,b2,b3,b4,b5,b6,b7],_,_=>
  constructor
  ·simp only[iv,List.map];go_simp;simp[cP]
  ·simp only[iv,List.map];go_simp;simp[cP]
theorem amK:nI Tryz.prog 98 5:=by
 intro x y xs ys w hx hy
 match xs,ys,hx,hy with
 |[a0,a1,a2,a3,a4],[b0,b1,b2,b3,b4],_,_=>
  constructor
  ·simp only[iv,List.map];go_simp;simp[cP]
  ·simp only[iv,List.map];go_simp;simp[cP]
theorem amL:nI Tryz.prog 146 2:=by
 intro x y xs ys w hx hy
 match xs,ys,hx,hy with
 |[a0,a1],[b0,b1],_,_=>
  constructor
  ·simp only[iv,List.map];go_simp;by_cases h0:a0=b0<;>by_cases h1:a1=b1<;>simp[h0,h1]
  ·simp only[iv,List.map];go_simp;by_cases h0:a0=b0<;>by_cases h1:a1=b1<;>simp[h0,h1]
def aR:List (Nat×Nat):=[(59,3),(61,5),(63,8),(98,5),(146,2)]
theorem aG:∀p∈aR,nI Tryz.prog p.1 p.2:=by
 intro p hp;simp only[aR,eM,qz,qD] at hp
 rcases hp with rfl|rfl|rfl|rfl|rfl
 ·exact amH
 ·exact amI
 ·exact amJ
 ·exact amK
 ·exact amL
end Ab
namespace Ab
open Go Go.RowKit
section
variable {P:Program}
theorem amM {o:Oper}{t:TypeId}{x:Operand}{y:aw}(ho:o.op=.call { callee:=.builtin .len,args:=#[x],argTypes:=#[t] })(ht:P.underlying t=some .string)(hx:cJ x y):
  gX P false o (fun st _=>match st.sc y with |some (.string s)=>some (.w (.c (.v (.int .i64 s.size))))|_=>none):=by
 intro N F M w0 w st G H a U r h hr;dsimp only at hr;split at hr
 case h_2=>cases hr
 rename_i s hs;simp only[ar] at hr;subst hr;obtain⟨e1,_⟩:=h.sc hx hs;refine⟨_,IR.v _ rfl,fun w' _=> ?_⟩;unfold execOp;simp[ho,resolve,e1,invoke,Go.builtin,Builtin.len_,km ht,goInt]
theorem amN (w:World)(n l h:Nat)(lo hi:Option Value)(kL:(lo=none/\l=0)\/∃k,lo=some (.int k l))(fP:(hi=none/\h=n)\/∃k,hi=some (.int k h))(h1:l<=h)(h2:h<=n):
  (Instr.sliceBounds false n n lo hi none).run P w=.ok (l,h,n) w:=by
 have e1:∀(k:IntKind) (code:BoundsCode),(Instr.sliceBound (.int k h) n code).run P w=.ok h w:=fun k code=>by rw[run_sliceBound w k h n code aa aa];simp
 have e2:∀(k:IntKind) (code:BoundsCode),(Instr.sliceBound (.int k l) h code).run P w=.ok l w:=fun k code=>by rw[run_sliceBound w k l h code aa aa];simp
 rcases kL with⟨rfl,rfl⟩|⟨k,rfl⟩<;>rcases fP with⟨rfl,rfl⟩|⟨k',rfl⟩<;>simp[Instr.sliceBounds,e1,e2]
theorem amO {o:Oper}{t:TypeId}{x:Operand}{y:aw}{lo hi:Option Operand}{mA hi':Option aw}(ho:o.op=.slice t x lo hi none)(hu:P.underlying t=some .string)(hx:cJ x y)(kL:Cn lo mA)(fP:Cn hi hi'):
  gX P false o (fun st _=>match st.sc y with
   |some (.string s)=>match yx st mA,qZ st s.size hi' with
    |some l,some h=>if l<=h/\h<=s.size then some (.w (.c (.v (.string (s.extract l h))))) else none
    |_,_=>none
   |_=>none):=by
 intro N F M w0 w st G H a U r h hr;dsimp only at hr;split at hr
 case h_2=>cases hr
 rename_i s hs;split at hr
 case h_2=>cases hr
 rename_i l hh cn sC;split at hr
 case isFalse=>cases hr
 rename_i hb;obtain⟨h1,h2⟩:=hb;simp only[ar] at hr;subst hr;obtain⟨e1,_⟩:=h.sc hx hs;refine⟨_,IR.v _ rfl,fun w' _=> ?_⟩
 have MH:((lo.map a.eval)=none/\l=0)\/∃k,lo.map a.eval=some (.int k l):=by
  cases lo with
  |none=>cases mA with
   |none=>simp[yx] at cn;exact .inl ⟨rfl,cn.symm⟩
   |some=>exact kL.elim
  |some p=>cases mA with
   |none=>exact kL.elim
   |some q=>
    obtain⟨k,e⟩:=h.bound kL cn;exact .inr ⟨k,by simp[e]⟩
 have Co:((hi.map a.eval)=none/\hh=s.size)\/∃k,hi.map a.eval=some (.int k hh):=by
  cases hi with
  |none=>cases hi' with
   |none=>simp[qZ] at sC;exact .inl ⟨rfl,sC.symm⟩
   |some=>exact fP.elim
  |some p=>cases hi' with
   |none=>exact fP.elim
   |some q=>
    obtain⟨k,e⟩:=h.bound fP sC;exact .inr ⟨k,by simp[e]⟩
 unfold execOp;simp[ho,e1,Instr.sliceAt,Instr.slice,km hu,amN w' s.size l hh _ _ MH Co h1 h2]
theorem amP {o:Oper}{t t':TypeId}{x:Operand}{y:aw}{k':IntKind}(ho:o.op=.convert t t' x)(hs:(P.underlying t).isSome=true)(hd:P.underlying t'=some (.int k'))(hx:cJ x y):
  gX P false o (fun st _=>match st.sc y with |some (.int _ n)=>if k'.wrap n=n then some (.w (.c (.v (.int k' n)))) else none|_=>none):=by
 intro N F M w0 w st G H a U r h hr;dsimp only at hr;split at hr
 case h_2=>cases hr
 rename_i k n hn;split at hr
 case isFalse=>cases hr
 rename_i hw;simp only[ar] at hr;subst hr;obtain⟨e1,_⟩:=h.sc hx hn;refine⟨_,IR.v _ rfl,fun w' _=> ?_⟩;obtain⟨d,sb⟩:=Option.isSome_iff_exists.mp hs;unfold execOp;simp[ho,e1,convert,km hd,km sb,Conv.intToInt,hw]
theorem amQ {o:Oper}{x1 x2 x3:Operand}{y1 y2 y3:aw}{ts:Array TypeId}(ho:o.op=.call { callee:=.builtin .max,args:=#[x1,x2,x3],argTypes:=ts })(h1:cJ x1 y1)(h2:cJ x2 y2)(h3:cJ x3 y3):
  gX P false o (fun st _=>match st.sc y1,st.sc y2,st.sc y3 with |some (.int .i64 a),some (.int .i64 b),some (.int .i64 c)=>some (.w (.c (.v (.int .i64 (max (max a b) c)))))|_,_,_=>none):=by
 intro N F M w0 w st G H a U r h hr;dsimp only at hr;split at hr
 case h_2=>cases hr
 rename_i x y z hu hv hw;obtain⟨e1,s1⟩:=h.sc h1 hu;obtain⟨e2,s2⟩:=h.sc h2 hv;obtain⟨e3,s3⟩:=h.sc h3 hw;simp only[ar] at hr;subst hr;refine⟨_,IR.v _ rfl,fun w' _=> ?_⟩;unfold execOp;have q1:max x y=if x<y then y else x:=aa;have q2:max (max x y) z=if(if x<y then y else x)<z then z else if x<y then y else x:=aa;simp[ho,resolve,e1,e2,e3,invoke,Go.builtin,Builtin.max_,Builtin.max2,q2]
theorem amR {o:Oper}{x:Operand}{y:aw}(ho:o.op=.nilCheck x)(hx:cJ x y):
  gX P false o (fun st _=>match st.cells [] 0 (st.arg y),st.arg y with |some _,some p=>some p|_,_=>none):=by
 intro N F M w0 w st G H a U r h hr;dsimp only at hr;split at hr
 case h_2=>cases hr
 rename_i cs p hc hp;simp only[ar] at hr;subst hr;rw[hp] at hc;obtain⟨b,off,us,e1,hlt,hU,hr,hcs,hl⟩:=h.cells (h.arg hx hp) hc;refine⟨_,h.arg hx hp,fun w' _=> ?_⟩;unfold execOp;simp[ho,e1]
end
end Ab
end Go.Proofs.YtlnghiefahcnpaaGreat
