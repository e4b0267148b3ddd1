import Derived.Sort.Grow
import Derived.Sort.Statements
import Derived.Test.YtkanpepkdcmpmaaGreatDoorY0
import Derived.Deep.DeepMust
import Derived.Laws.Bits64b
import Derived.Lib.SliceRun
import Derived.Deep.CutRange
import Derived.Laws.ResultCell
set_option maxHeartbeats 40000000
set_option maxRecDepth 100000
set_option linter.all false
namespace Go.Proofs.YtkanpepkdcmpmaaGreatDoor
section
open Go.RowKit
variable {X w:World} {cs ds:Array Value} {x y:Qn}
def kI (w w':World):Prop:=∃q os,w'=Sort.grow (w.drewN q) os
theorem kI.refl(w:World):kI w w:=⟨0,#[],by simp[World.drewN_zero]⟩
theorem kI.trans{Y:World}(h:kI w X)(h2:kI X Y):kI w Y:=by
 obtain⟨q,os,rfl⟩:=h;obtain⟨q2,os2,rfl⟩:=h2;exact⟨q+q2,os++os2,by rw[<-Sort.grow_grow];show Sort.grow (Sort.grow ((w.drewN q).drewN q2) os) os2=_;rw[World.drewN_drewN]⟩
theorem kI.drewN(h:kI w X)(n:Nat):kI w (X.drewN n):=h.trans ⟨n,#[],ai⟩
theorem kI.drew(h:kI w X):kI w X.drew:=h.drewN 1
theorem kI.alloc(h:kI w X)(o:Obj):kI w (X.alloc o):=h.trans ⟨0,#[o],by rw[World.drewN_zero,Sort.alloc_eq_grow]⟩
theorem Quiet.aae(h:Quiet w X):kI w X:=by
 obtain⟨n,rfl⟩:=h;exact(kI.refl w).drewN n
theorem kI.below(h:kI w X):aw w X:=by
 obtain⟨q,os,rfl⟩:=h;exact⟨rfl,rfl,rfl,by simp[Sort.grow],fun k hk=>by show(w.heap++os)[k]? =_;exact Wm hk⟩
theorem LM:∀a b:List Int,aK b a= - aK a b
 |[],[]=>rfl
 |[],_::_=>rfl
 |_::_,[]=>rfl
 |a::l,b::m=>by
  rw[jJ,jJ,LM l m];unfold ic;by_cases h1:a<b
  ·have h2:¬b<a:=ab;simp[h1,h2]
  ·by_cases h2:b<a
   ·simp[h1,h2]
   ·simp[h1,h2]
theorem Tw:∀a b:List Int,aK a b=0->a=b
 |[],[],_=>rfl
 |[],_::_,h=>by simp[aK] at h
 |_::_,[],h=>by simp[aK] at h
 |a::l,b::m,h=>by
  rw[jJ] at h;unfold ic at h;by_cases h1:a<b
  ·simp[h1] at h
  ·by_cases h2:b<a
   ·simp[h1,h2] at h
   ·have:a=b:=ab;subst this;simp at h;rw[Tw l m h]
theorem Tx:∀a b c:List Int,aK a b<0->aK b c<0->aK a c<0
 |[],b,[],h1,h2=>by
  cases b with
  |nil=>simp[aK] at h1
  |cons b m=>simp[aK] at h2
 |[],b,c::n,_,_=>by simp[aK]
 |a::l,[],c,h1,_=>by simp[aK] at h1
 |a::l,b::m,[],_,h2=>by simp[aK] at h2
 |a::l,b::m,c::n,h1,h2=>by
  rw[jJ] at h1 h2⊢;have ih:=Tx l m n;unfold ic at*;by_cases x1:a<b
  ·by_cases x2:b<c
   ·have:a<c:=ab;simp[this]
   ·by_cases x3:c<b
    ·simp[x2,x3] at h2
    ·have:b=c:=ab;subst this;simp[x1]
  ·by_cases x2:b<a
   ·simp[x1,x2] at h1
   ·have:a=b:=ab;subst this;simp at h1;by_cases x3:a<c
    ·simp[x3]
    ·by_cases x4:c<a
     ·simp[x3,x4] at h2
     ·have:a=c:=ab;subst this;simp at h2⊢;exact ih h1 h2
theorem awm(a0 a1 a2 b0 b1 b2:Int)(w:World):Calls Tryz.prog 142 #[.agg #[I a0,I a1,I a2],.agg #[I b0,I b1,I b2]] w fun e w'=>e=.returned (I (aK [a0,a1,a2] [b0,b1,b2]))/\kI w w':=by
 have hr:=ae (show aK [a0,a1,a2] [b0,b1,b2]=jI [a0,b0,a1,b1,a2,b2] by simp only[jI];rw[jJ,jJ,jJ];rfl);go_enter Tryz.func142,Tryz.ntmps142;go_wp2_with fail;refine(Ko [a0,b0,a1,b1,a2,b2] _ _ (br.of_heap (Kr w _ _ _) rfl rfl ai) ai).mono ?_;rintro e w1 ⟨rfl,hQ⟩;go_wp2_with fail;go_ret;exact⟨ly hr.out.symm,((((kI.refl w).alloc _).alloc _).alloc _).trans hQ.aae⟩
def jz (w:World)(cs ds:Array Value)(X:World):Prop:=bL w cs ds X/\kI w X
theorem jz.S(h:jz w cs ds X):(∀j,X.cell? ⟨w.heap.size,j,none⟩=cs[j]?)/\(∀j,X.cell? ⟨w.heap.size+1,j,none⟩=ds[j]?):=h.1.S
theorem jz.drew(h:jz w cs ds X):jz w cs ds X.drew:=⟨h.1.drew,h.2.drew⟩
theorem jz.alloc(h:jz w cs ds X)(o:Obj):jz w cs ds (X.alloc o):=⟨h.1.alloc o,h.2.alloc o⟩
theorem jz.call{w1:World}(h:jz w cs ds X)(hB:kI X w1):jz w cs ds w1:=⟨h.1.call hB.below,h.2.trans hB⟩
theorem jz.start(w:World)(cs ds:Array Value)(t:TypeId):jz w cs ds ((w.alloc (.cells cs t)).alloc (.cells ds t)):=⟨bL.start w cs ds t,((kI.refl w).alloc _).alloc _⟩
theorem awn(a0 a1 a2 a3 a4 b0 b1 b2 b3 b4:Int)(w:World):Calls Tryz.prog 94 #[.agg #[I a0,I a1,I a2,I a3,I a4],.agg #[I b0,I b1,I b2,I b3,I b4]] w fun e w'=>e=.returned (I (aK [a0,a1,a2,a3,a4] [b0,b1,b2,b3,b4]))/\kI w w':=by
 have hr:=ae (show aK [a0,a1,a2,a3,a4] [b0,b1,b2,b3,b4]=nr [aK [a0,a1,a2] [b0,b1,b2],jI [a3,b3,a4,b4]] by
  rw[show aK [a0,a1,a2,a3,a4] [b0,b1,b2,b3,b4]=aK ([a0,a1,a2]++[a3,a4]) ([b0,b1,b2]++[b3,b4]) from rfl,Gq [a0,a1,a2] [b0,b1,b2] [a3,a4] [b3,b4] rfl,jJ a3,jJ a4];simp only[nr,jI]
  repeat' split
  all_goals simp_all[aK])
 have aY:=jz.start w #[I a0,I a1,I a2,I a3,I a4] #[I b0,I b1,I b2,I b3,I b4] 76;have mH:=aY.1.1.cell;have Ks:=aY.1.2.1.cell;go_enter Tryz.func94,Tryz.ntmps94;go_wp2_with fail
 go_region_held3 (fun w'=>(∀j,w'.cell? ⟨w.heap.size,j,none⟩=(#[I a0,I a1,I a2,I a3,I a4]:Array Value)[j]?)/\(∀j,w'.cell? ⟨w.heap.size+1,j,none⟩=(#[I b0,I b1,I b2,I b3,I b4]:Array Value)[j]?))
  ((first|exact jz.S aY|exact jz.S aY.drew|exact jz.S (aY.alloc _).drew|exact jz.S gJ|exact jz.S (gJ.alloc _)|exact jz.S jK|exact jz.S (jK.alloc _)))
  (first
   |(go_at_call 142;refine(awm a0 a1 a2 b0 b1 b2 _).mono ?_;rintro e w1 ⟨rfl,aC⟩
     have gJ:jz w #[I a0,I a1,I a2,I a3,I a4] #[I b0,I b1,I b2,I b3,I b4] w1:=by first|exact jz.call aY.drew aC|exact jz.call (aY.alloc _).drew aC)
   |(go_at_call 140;refine(Ko [a3,b3,a4,b4] _ _ (by first|exact br.of_heap (dV w1 _) rfl rfl ai|exact br.of_heap ((aC.below.block _ (by simp only[oE,World.size_alloc];omega)).trans (Kr w _ _ _)) rfl rfl ai) ai).mono ?_;rintro e w2 ⟨rfl,DV⟩
     have jK:jz w #[I a0,I a1,I a2,I a3,I a4] #[I b0,I b1,I b2,I b3,I b4] w2:=by first|exact jz.call gJ (DV.aae)|exact jz.call (gJ.alloc _) (DV.aae))
   |(go_at_call 93;refine(Ns [aK [a0,a1,a2] [b0,b1,b2],jI [a3,b3,a4,b4]] _ _ (br.of_heap (dV w2 _) rfl rfl ai)).mono ?_;rintro e w3 ⟨rfl,rfl⟩))
 all_goals
  go_wp2_with fail;go_ret;exact⟨ly hr.out.symm,(jK.alloc _).2⟩
def Qn.cmp (x y:Qn):Int:=aK x.ints y.ints
theorem aie(a:List Int):aK a a=0:=by have:=LM a a;omega
theorem awo(a b c:List Int)(h1:aK a b<=0)(h2:aK b c<=0):aK a c<=0:=by
 by_cases e1:aK a b=0
 ·rw[Tw _ _ e1];exact h2
 ·by_cases e2:aK b c=0
  ·rw[<-Tw _ _ e2];exact h1
  ·have:=Tx a b c ab ab;omega
theorem awq:Sort.SWO (fun x y=>decide (Qn.cmp x y<0)) where
 irrefl x:=by simp[Qn.cmp,aie]
 trans x y z h1 h2:=by
  exact ft (Tx _ _ _ (ni h1) (ni h2))
 ntrans x y z h1 h2:=by
  have b1:¬aK x.ints y.ints<0:=of_decide_eq_false h1;have b2:¬aK y.ints z.ints<0:=of_decide_eq_false h2;refine jk (p:=aK x.ints z.ints<0) ?_;have a1:=LM x.ints y.ints;have a2:=LM y.ints z.ints;have a3:=LM x.ints z.ints;have:=awo z.ints y.ints x.ints ab ab;omega
theorem Qn.aif(h:x.cmp y=0):x=y:=Qn.DL.1 (Tw _ _ h)
theorem Qn.aaf(x y:Qn):y.cmp x= - x.cmp y:=LM _ _
theorem Qn.aih{z:Qn}(h1:x.cmp y<0)(h2:y.cmp z<0):x.cmp z<0:=Tx _ _ _ h1 h2
theorem Qn.awr(x:Qn):x.cmp x=0:=aie _
end
section
variable {l r:List aL} {x y:Qn}
def IG (l r:List aL):Prop:=r.Pairwise (fun a b=>a.q.cmp b.q<0)/\∀a,a∈r↔(a.n=eO l a.q/\0<a.n)
theorem aws(h:x.cmp y<0):¬y.cmp x<0:=by have:=Qn.aaf x y;omega
theorem Ty(h:x.cmp y<0):x≠y:=by
 rintro rfl;have:=Qn.awr x;omega
theorem aii:∀r s:List aL,r.Pairwise (fun a b=>a.q.cmp b.q<0)->s.Pairwise (fun a b=>a.q.cmp b.q<0)->(∀a,a∈r↔a∈s)->r=s
 |[],[],_,_,_=>rfl
 |[],b::s,_,_,h=>absurd ((h b).2 ai) ai
 |a::r,[],_,_,h=>absurd ((h a).1 ai) ai
 |a::r,b::s,h1,h2,h=>by
  rw[BF] at h1 h2
  have e:a=b:=by
   rcases cz.1 ((h a).1 ai) with e|e
   ·exact e
   ·rcases cz.1 ((h b).2 ai) with e2|e2
    ·exact e2.symm
    ·exact absurd (h1.1 b e2) (aws (h2.1 a e))
  subst e;rw[aii r s h1.2 h2.2 fun x=> ?_];constructor
  ·intro hx
   rcases cz.1 ((h x).1 (jC _ hx)) with e|e
   ·exact absurd (e▸h1.1 x hx) (fun h=>Ty h rfl)
   ·exact e
  ·intro hx
   rcases cz.1 ((h x).2 (jC _ hx)) with e|e
   ·exact absurd (e▸h2.1 x hx) (fun h=>Ty h rfl)
   ·exact e
theorem IG.unique{s:List aL}(h1:IG l r)(h2:IG l s):r=s:=aii r s h1.1 h2.1 fun a=>by rw[h1.2,h2.2]
def IH:List aL->aL->List aL
 |[],a=>[a]
 |b::l,a=>if b.q.cmp a.q<0 then b::IH l a else if b.q=a.q then b::l else a::b::l
theorem aij:∀(r:List aL) (a:aL),r.Pairwise (fun a b=>a.q.cmp b.q<0)->(IH r a).Pairwise (fun a b=>a.q.cmp b.q<0)/\∀x,x∈IH r a↔(x∈r\/(x=a/\∀b∈r,b.q≠a.q))
 |[],a,_=>by simp[IH]
 |b::l,a,h=>by
  rw[BF] at h;obtain⟨i1,i2⟩:=aij l a h.2;unfold IH;by_cases h1:b.q.cmp a.q<0
  ·rw[aq h1];refine⟨BF.2 ⟨fun x hx=> ?_,i1⟩,fun x=> ?_⟩
   ·rcases(i2 x).1 hx with hx|⟨rfl,_⟩
    ·exact h.1 x hx
    ·exact h1
   ·rw[cz,i2 x,cz];constructor
    ·rintro(e|e|⟨e,e2⟩)
     ·exact .inl (.inl e)
     ·exact .inl (.inr e)
     ·exact .inr ⟨e,fun c hc=>by
       rcases cz.1 hc with rfl|hc
       ·exact Ty h1
       ·exact e2 c hc⟩
    ·rintro((e|e)|⟨e,e2⟩)
     ·exact .inl e
     ·exact .inr (.inl e)
     ·exact .inr (.inr ⟨e,fun c hc=>e2 c (jC _ hc)⟩)
  ·rw[af h1];by_cases h2:b.q=a.q
   ·rw[aq h2];refine⟨BF.2 h,fun x=>⟨.inl,?_⟩⟩;rintro(e|⟨e,e2⟩)
    ·exact e
    ·exact absurd h2 (e2 b ai)
   ·rw[af h2]
    have h3:a.q.cmp b.q<0:=by
     have e1:=Qn.aaf a.q b.q;by_cases e:a.q.cmp b.q=0
     ·exact absurd (Qn.aif e).symm h2
     ·omega
    refine⟨BF.2 ⟨fun x hx=> ?_,BF.2 h⟩,fun x=> ?_⟩
    ·rcases cz.1 hx with rfl|hx
     ·exact h3
     ·exact Qn.aih h3 (h.1 x hx)
    ·rw[cz];constructor
     ·rintro(e|e)
      ·exact .inr ⟨e,fun c hc=>by
        rcases cz.1 hc with rfl|hc
        ·exact h2
        ·exact fun e3=>Ty (Qn.aih h3 (h.1 c hc)) e3.symm⟩
      ·exact .inl e
     ·rintro(e|⟨e,_⟩)
      ·exact .inr e
      ·exact .inl e
def AU (l p:List aL):List aL:=p.foldl (fun r a=>if 0<eO l a.q then IH r ⟨a.q,eO l a.q⟩ else r) []
theorem awt(l p:List aL)(a:aL):AU l (p++[a])=if 0<eO l a.q then IH (AU l p) ⟨a.q,eO l a.q⟩ else AU l p:=by simp[AU,zL]
def lP (l:List aL):List aL:=AU l l
theorem aik{α:Type}{P:List α->Prop}(h0:P [])(h1:∀l a,P l->P (l++[a]))(l:List α):P l:=by
 have key:∀m:List α,P m.reverse:=by
  intro m
  induction m with
  |nil=>simpa using h0
  |cons a m ih=>rw[wK];exact h1 _ _ ih
 simpa using key l.reverse
theorem awu(l p:List aL):(AU l p).Pairwise (fun a b=>a.q.cmp b.q<0)/\∀a,a∈AU l p↔(a.n=eO l a.q/\0<a.n/\∃b∈p,b.q=a.q):=by
 induction p using aik with
 |h0=>simp[AU]
 |h1 p a ih=>
  rw[awt];obtain⟨i1,i2⟩:=ih;by_cases h:0<eO l a.q
  ·rw[aq h];obtain⟨p1,p2⟩:=aij _ ⟨a.q,eO l a.q⟩ i1;refine⟨p1,fun x=> ?_⟩;rw[p2 x,i2 x];constructor
   ·rintro(⟨e1,e2,b,hb,e3⟩|⟨rfl,_⟩)
    ·exact⟨e1,e2,b,Gb _ hb,e3⟩
    ·exact⟨rfl,h,a,ai,rfl⟩
   ·rintro⟨e1,e2,b,hb,e3⟩
    rcases fL.1 hb with hb|hb
    ·exact .inl ⟨e1,e2,b,hb,e3⟩
    ·simp at hb;subst hb
     have hx:x=⟨b.q,eO l b.q⟩:=by cases x;simp at e1 e3;subst e3;simp[e1]
     by_cases hex:∃c∈AU l p,c.q=b.q
     ·obtain⟨c,hc,II⟩:=hex;have h3:=(i2 c).1 hc;obtain⟨_,_,d,hd,OO⟩:=h3;exact .inl ⟨e1,e2,d,hd,by rw[OO,II,e3]⟩
     ·exact .inr ⟨hx,fun c hc e=>hex ⟨c,hc,e⟩⟩
  ·rw[af h];refine⟨i1,fun x=> ?_⟩;rw[i2 x];constructor
   ·rintro⟨e1,e2,b,hb,e3⟩;exact⟨e1,e2,b,Gb _ hb,e3⟩
   ·rintro⟨e1,e2,b,hb,e3⟩
    rcases fL.1 hb with hb|hb
    ·exact⟨e1,e2,b,hb,e3⟩
    ·simp at hb;subst hb;rw[e3,<-e1] at h;exact absurd e2 h
theorem Tz{q:Qn}(h:0<eO l q):∃b∈l,b.q=q:=by
 induction l using aik with
 |h0=>simp[eO] at h
 |h1 l a ih=>
  rw[WG] at h;by_cases e:a.q=q
  ·exact⟨a,ai,e⟩
  ·rw[af e] at h;obtain⟨b,hb,e2⟩:=ih h;exact⟨b,Gb _ hb,e2⟩
theorem awv(l:List aL):IG l (lP l):=by
 obtain⟨h1,h2⟩:=awu l l;refine⟨h1,fun a=> ?_⟩
 show a∈AU l l↔_
 rw[h2 a];constructor
 ·rintro⟨e1,e2,_⟩;exact⟨e1,e2⟩
 ·rintro⟨e1,e2⟩;exact⟨e1,e2,Tz (e1▸e2)⟩
theorem IG.eq(h:IG l r):r=lP l:=h.unique (awv l)
theorem aww{ys:List Qn}(h1:ys.Pairwise fun a b=>a.cmp b<=0)(h2:ys.Nodup)(h3:∀q,q∈ys↔0<eO l q):IG l (ys.map fun q=>⟨q,eO l q⟩):=by
 constructor
 ·rw[List.pairwise_map]
  exact(h1.and h2).imp fun {a b} h=>by
   by_cases e:a.cmp b=0
   ·exact absurd (Qn.aif e) h.2
   ·have:=h.1;show a.cmp b<0;omega
 ·intro a;rw[dm];constructor
  ·rintro⟨q,hq,rfl⟩;exact⟨rfl,(h3 q).1 hq⟩
  ·rintro⟨e1,e2⟩;exact⟨a.q,(h3 _).2 (e1▸e2),by cases a;simp at e1⊢;exact e1.symm⟩
end
section
def TA (c:Int):Prop:=0<=c/\c<=255
def back (z:Nat):Int:=if z%2=1 then -((z/2:Nat):Int)-1 else((z/2:Nat):Int)
def EP:Nat->Nat->List Int->(List Int×Nat) ⊕ Int
 |_,_,[]=> .inr 7
 |i,m,c::b=>if(i=9/\1<c)\/(0<i/\c=0) then .inr 8 else if c<128 then .inl (b,m+(c%128).toNat*128^i) else EP (i+1) (m+(c%128).toNat*128^i) b
theorem awx {i:Nat}(h:i<=9):(i=0/\128^i=1)\/(i=1/\128^i=128)\/(i=2/\128^i=16384)\/(i=3/\128^i=2097152)\/(i=4/\128^i=268435456)\/(i=5/\128^i=34359738368)\/
  (i=6/\128^i=4398046511104)\/(i=7/\128^i=562949953421312)\/(i=8/\128^i=72057594037927936)\/(i=9/\128^i=9223372036854775808):=by
 have:i=0\/i=1\/i=2\/i=3\/i=4\/i=5\/i=6\/i=7\/i=8\/i=9:=ab
 rcases this with rfl|rfl|rfl|rfl|rfl|rfl|rfl|rfl|rfl|rfl<;>simp
theorem awy {i c:Nat}(hi:i<=9)(h:c<128)(h9:i=9->c<=1):c*128^i<18446744073709551616:=by
 have hp:=awx hi;have h10:c<=1\/i<=8:=ab;clear h9 hi;generalize 128^i=P at hp⊢
 rcases hp with⟨e1,e2⟩|⟨e1,e2⟩|⟨e1,e2⟩|⟨e1,e2⟩|⟨e1,e2⟩|⟨e1,e2⟩|⟨e1,e2⟩|⟨e1,e2⟩|⟨e1,e2⟩|⟨e1,e2⟩<;>subst e2<;>omega
inductive Rd where
 |ok (b:List Int)
 |bad (e:Int)
def Rd.awz:Rd->Prop
 | .ok b=>∀c∈b,TA c
 | .bad e=>e≠0/\bY e
def Rd.err:Rd->Int
 | .ok _=>0
 | .bad e=>e
def Rd.fail (s:Rd)(e:Int):Rd:=match s with
 | .ok _=> .bad e
 | .bad x=> .bad x
def Rd.stop:Rd->Int
 | .ok []=>0
 | .ok (_::_)=>8
 | .bad e=>e
def Rd.uint:Rd->Nat×Rd
 | .bad e=>(0,.bad e)
 | .ok b=>match EP 0 0 b with
  | .inl (r,n)=>(n,.ok r)
  | .inr e=>(0,.bad e)
def Rd.int (s:Rd):Int×Rd:=(back s.uint.1,s.uint.2)
def Rd.count (s:Rd)(most:Nat):Nat×Rd:=if most<s.uint.1 then(0,s.uint.2.fail 2) else s.uint
def Ev.ok (e:Ev):Prop:=∀n∈e.ints,bY n
end
section
open Go.RowKit
variable {B p:Nat} {v v':Value} {w w':World} {xs:List Int}
def bv (l:List Int):List Value:=l.map fun n=> .int .u8 n
theorem awA(a b:List Int):bv (a++b)=bv a++bv b:=by simp[bv]
structure Wr (p:Nat)(v v':Value)(w w':World):Prop where
 os:w'.os=w.os
 tape:w'.tape=w.tape
 output:w'.output=w.output
 size:w.heap.size<=w'.heap.size
 block:∀k,k<w.heap.size->k≠p->v.ownBlock≠some k->w'.heap[k]? =w.heap[k]?
 old:∀k,v'.ownBlock=some k->k<w.heap.size->v.ownBlock=some k
theorem Wr.refl(p:Nat)(v:Value)(w:World):Wr p v v w w:=⟨rfl,rfl,rfl,cK _,fun _ _ _ _=>rfl,fun _ h _=>h⟩
theorem Wr.trans{v'':Value}{Nl:World}(h:Wr p v v' w w')(g:Wr p v' v'' w' Nl):Wr p v v'' w Nl:=
 ⟨g.os.trans h.os,g.tape.trans h.tape,g.output.trans h.output,bj h.size g.size,
  fun k hk hp hv=>(g.block k (jj hk h.size) hp (fun e=>hv (h.old k e hk))).trans (h.block k hk hp hv),
  fun k hk hl=>h.old k (g.old k hk (jj hl h.size)) hl⟩
theorem Wr.set(v:Value)(w:World)(j:Nat)(u:Value):Wr p v v w (w.setCell ⟨p,j,none⟩ u):=⟨rfl,rfl,rfl,ai,fun k _ hp _=>uI w ⟨p,j,none⟩ k u (fun e=>hp e),fun _ h _=>h⟩
theorem Wr.below(h:Wr p v v' w w')(hp:B<=p)(hv:∀k,v.ownBlock=some k->B<=k)(hB:B<=w.heap.size):Below B w w':=
 ⟨h.os,h.tape,h.output,h.size,fun k hk=>h.block k ab ab (fun e=>by have:=hv k e;omega)⟩
theorem Flat.wr{k n b o m c:Nat}{xs:List Value}(h:Flat w k (.slice (some ⟨b,o,none⟩) m c) n xs)(hg:Wr p v v' w w')(hp:b≠p)(hv:v.ownBlock≠some b):Flat w' k (.slice (some ⟨b,o,none⟩) m c) n xs:=by
 obtain⟨hl,hm,a,c',hv',hr⟩:=h;refine⟨hl,hm,a,c',hv',fun j u hu=> ?_⟩;obtain⟨b',o',ha,hc⟩:=hr j u hu;simp at hv';obtain⟨rfl,_⟩:=hv';simp at ha;obtain⟨rfl,rfl⟩:=ha;refine⟨_,_,rfl,?_⟩;have h2:=iT _ _ hc;simp only[World.cell?] at hc⊢;rw[hg.block b h2 hp hv];exact hc
structure OP (w:World)(p B:Nat)(xs:List Int)(v:Value):Prop where
 dM:az w p #[v]
 own:w.ownsRow B 5 1 v xs.length (bv xs)
 sep:v.ownBlock≠some p
theorem OP.below(h:OP w p B xs v)(hb:aw w w'):OP w' p B xs v:=⟨h.dM.kept hb h.dM.lt,pj h.own hb,h.sep⟩
theorem OP.open(h:OP w p B xs v):∃k N c,v=.slice k N c/\N=xs.length/\w.ownsRow B 5 1 v N (bv xs):=by
 obtain⟨k,c,e,_⟩:=(Flat.eu h.own).open;exact⟨k,_,c,e,rfl,h.own⟩
theorem awB(c:Int)(h:TA c):bits .andNot .u8 c 128=c%128:=by
 have key:∀y:Fin 256,bits .andNot .u8 (y.val:Int) 128=(y.val:Int)%128:=by decide+kernel
 obtain⟨h0,h1⟩:=h;have:=key ⟨c.toNat,ab⟩;simp only[] at this;rwa[show((c.toNat:Nat):Int)=c by omega] at this
end
section
open Go.RowKit
variable {l:List Int} {v:Value} {w:World}
def ER (w:World)(v:Value)(l:List Int):Prop:=Flat w 1 v l.length (bv l)
theorem ER.kept{w':World}(h:ER w v l){B:Nat}(hb:Below B w w')(hB:w.heap.size<=B):ER w' v l:=Flat.kept h hb hB
theorem ER.open(h:ER w v l):∃a c,v=.slice a l.length c/\l.length<=9223372036854775807:=Flat.open h
theorem ER.at{a:Option Addr}{n c:Nat}(h:ER w (.slice a n c) l){i:Nat}{x:Int}(hi:l[i]? =some x):
  ∃b o,a=some ⟨b,o,none⟩/\w.cell? ⟨b,o+i,none⟩=some (.int .u8 x):=by
 have hlt:=(bK.1 hi).1;obtain⟨b,o,ha,hc⟩:=Flat.cells h (by simp[bv];omega);exact⟨b,o,ha,hc i _ (by simp[bv,hi])⟩
end
section
open Go.RowKit
variable {p:Nat} {w w':World}
def vS (w:World)(p:Nat):Rd->Prop
 | .ok b=>∃a c,az w p #[.slice a b.length c,I 0]/\ER w (.slice a b.length c) b/\b.length<=c/\∀x,a=some x->x.block<p
 | .bad e=>∃v,az w p #[v,I e]
theorem Flat.aag{k n m c:Nat}{a:Option Addr}{xs:List Value}{row:Option Nat}(h:Flat w k (.slice a m c) n xs)(hg:w.grownBy w' row)(hne:∀x,a=some x->row≠some x.block):Flat w' k (.slice a m c) n xs:=by
 obtain⟨hl,hm,a',c',hv,hr⟩:=h;refine⟨hl,hm,a',c',hv,fun j u hu=> ?_⟩;obtain⟨b',o',ha,hc⟩:=hr j u hu;simp at hv;obtain⟨rfl,_⟩:=hv;exact⟨_,_,ha,hg.cell hc (fun e=>hne _ ha e.symm)⟩
theorem vS.dM{s:Rd}(h:vS w p s):∃v,az w p #[v,I s.err]:=by
 cases s with
 |ok b=>obtain⟨a,c,h,_⟩:=h;exact⟨_,h⟩
 |bad e=>exact h
theorem vS.lt{s:Rd}(h:vS w p s):p<w.heap.size:=by
 obtain⟨v,h⟩:=h.dM;exact h.lt
theorem vS.below{s:Rd}(h:vS w p s)(hb:aw w w'):vS w' p s:=by
 cases s with
 |ok b=>obtain⟨a,c,h1,h2,h3,h4⟩:=h;exact⟨a,c,h1.kept hb h1.lt,h2.kept hb ax,h3,h4⟩
 |bad e=>obtain⟨v,h⟩:=h;exact⟨v,h.kept hb h.lt⟩
theorem vS.grown{s:Rd}(h:vS w p s){row:Option Nat}(hg:w.grownBy w' row)(hr:∀j,row=some j->p<j):vS w' p s:=by
 cases s with
 |ok b=>
  obtain⟨a,c,h1,h2,h3,h4⟩:=h;exact⟨a,c,h1.grown hg (fun e=>by have:=hr _ e;omega),Flat.aag h2 hg (fun x hx e=>by have:=hr _ e;have:=h4 x hx;omega),h3,h4⟩
 |bad e=>obtain⟨v,h⟩:=h;exact⟨v,h.grown hg (fun e=>by have:=hr _ e;omega)⟩
theorem vS.fail{s:Rd}(h:vS w p s)(e:Int)(h0:s.err=0)(hf:s.awz):vS (w.setCell ⟨p,1,none⟩ (I e)) p (s.fail e):=by
 cases s with
 |ok b=>
  obtain⟨a,c,h1,_⟩:=h;exact⟨_,h1.set 1 (I e)⟩
 |bad x=>exact absurd h0 hf.1
end
section
open Go.RowKit
variable {b b0:List Int} {k:Nat} {m x:Int}
theorem Rd.awC(b:List Int):(Rd.ok b).uint=match EP 0 0 b with | .inl (r,n)=>(n,.ok r)| .inr e=>(0,.bad e):=rfl
theorem ail(i m:Nat)(c:Int)(b:List Int):EP i m (c::b)=if(i=9/\1<c)\/(0<i/\c=0) then .inr 8 else if c<128 then .inl (b,m+(c%128).toNat*128^i) else EP (i+1) (m+(c%128).toNat*128^i) b:=rfl
def OQ (b0:List Int)(k:Nat)(m:Int):Rd->Prop
 | .ok b=>k<=9/\(∃m':Nat,m=m'/\m'<128^k/\EP k m' b=EP 0 0 b0)/\∀c∈b,TA c
 | .bad e=>EP 0 0 b0=.inr e/\e≠0
theorem pow_two(k:Nat):(2:Nat)^(7*k)=128^k:=by rw[Nat.pow_mul]
theorem aim(m k:Nat)(x:Int)(hx:TA x)(hk:k<=9)(h9:k=9->x<=1)(hm:m<128^k):
  bits .or .u64 (m:Int) (IntKind.u64.wrap (IntKind.u64.wrap (bits .andNot .u8 x 128)*2^(7*k)))=((m+(x%128).toNat*128^k:Nat):Int):=by
 obtain⟨h0,h1⟩:=hx;rw[awB x ⟨h0,h1⟩,IntKind.wrap_u64,IntKind.wrap_u64];have hc:(x%128).toNat*128^k<18446744073709551616:=awy hk ab (by intro e;have:=h9 e;omega);have e1:x%128%18446744073709551616=(((x%128).toNat:Nat):Int):=ab
 have e2:(((x%128).toNat:Nat):Int)*2^(7*k)=(((x%128).toNat*128^k:Nat):Int):=by
  rw[<-pow_two]
  push_cast
  rfl
 rw[e1,e2,Int.emod_eq_of_lt ab ab]
 have Aq:m<18446744073709551616:=by
  have:=Nat.pow_le_pow_right (n:=128) ab hk;have e9:128^9=9223372036854775808:=eD;omega
 rw[bits_or_u64_nat _ _ Aq hc];congr 1;have h3:=Nat.shiftLeft_add_eq_or_of_lt (b:=m) (i:=7*k) (by rw[pow_two];exact hm) (x%128).toNat;rw[Nat.shiftLeft_eq,pow_two] at h3;rw[Nat.or_comm,<-h3];omega
theorem OQ.last(h:OQ b0 k m (.ok (x::b)))(hb:¬((k=9/\1<x)\/(0<k/\x=0)))(hx:x<128):
  ∃v:Nat,bits .or .u64 m (IntKind.u64.wrap (IntKind.u64.wrap (bits .andNot .u8 x 128)*2^(7*k)))=v/\(Rd.ok b0).uint=(v,.ok b):=by
 obtain⟨h1,⟨m',rfl,hm,h2⟩,h3⟩:=h;rw[ail] at h2;rw[af hb,aq hx] at h2;refine⟨_,aim m' k x (h3 x ai) h1 (by intro e;omega) hm,?_⟩;rw[Rd.awC,<-h2]
theorem OQ.next(h:OQ b0 k m (.ok (x::b)))(hb:¬((k=9/\1<x)\/(0<k/\x=0)))(hx:¬x<128):
  OQ b0 (k+1) (bits .or .u64 m (IntKind.u64.wrap (IntKind.u64.wrap (bits .andNot .u8 x 128)*2^(7*k)))) (.ok b):=by
 obtain⟨h1,⟨m',rfl,hm,h2⟩,h3⟩:=h;rw[ail] at h2;rw[af hb,af hx] at h2;refine⟨ab,⟨_,aim m' k x (h3 x ai) h1 (by intro e;omega) hm,?_,h2⟩,fun c hc=>h3 c (by simp[hc])⟩;have h4:(x%128).toNat*128^k<=127*128^k:=uG _ ab;rw[Nat.pow_succ];omega
end
section
open Go.RowKit
structure xF (S:Nat->Prop)(w w':World):Prop where
 os:w'.os=w.os
 tape:w'.tape=w.tape
 output:w'.output=w.output
 size:w.heap.size<=w'.heap.size
 block:∀k,k<w.heap.size->¬S k->w'.heap[k]? =w.heap[k]?
theorem xF.refl (S:Nat->Prop)(w:World):xF S w w:=⟨rfl,rfl,rfl,cK _,fun _ _ _=>rfl⟩
theorem xF.then {S:Nat->Prop}{w w1 w2:World}(h:xF S w w1){row:Option Nat}(hg:w1.grownBy w2 row)(hr:∀j,row=some j->w.heap.size<=j\/S j):xF S w w2:=
 ⟨hg.os.trans h.os,hg.tape.trans h.tape,hg.output.trans h.output,bj h.size hg.size,fun k hk hs=>(hg.block k (jj hk h.size) (fun e=>by
  rcases hr k e.symm with h1|h1
  ·omega
  ·exact hs h1)).trans (h.block k hk hs)⟩
theorem xF.trans {S:Nat->Prop}{w w1 w2:World}(h:xF S w w1)(g:xF S w1 w2):xF S w w2:=
 ⟨g.os.trans h.os,g.tape.trans h.tape,g.output.trans h.output,bj h.size g.size,fun k hk hs=>(g.block k (jj hk h.size) hs).trans (h.block k hk hs)⟩
theorem xF.below {S:Nat->Prop}{w w':World}(h:xF S w w'){B:Nat}(hB:B<=w.heap.size)(hS:∀k,S k->B<=k):Below B w w':=
 ⟨h.os,h.tape,h.output,h.size,fun k hk=>h.block k ab (fun e=>by have:=hS k e;omega)⟩
end
end Go.Proofs.YtkanpepkdcmpmaaGreatDoor
