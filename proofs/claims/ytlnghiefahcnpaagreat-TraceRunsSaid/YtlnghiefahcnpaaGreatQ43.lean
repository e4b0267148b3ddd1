import Derived.Test.YtlnghiefahcnpaaGreatQ28
set_option maxHeartbeats 40000000
set_option maxRecDepth 100000
set_option linter.all false
namespace Go.Proofs.YtlnghiefahcnpaaGreat
section
theorem DC:∀a b:List Int,aQ b a= - aQ a b
 |[],[]=>rfl
 |[],_::_=>rfl
 |_::_,[]=>rfl
 |a::l,b::m=>by
  rw[lv,lv,DC l m];unfold fD;by_cases h1:a<b
  ·have h2:¬b<a:=aa;simp[h1,h2]
  ·by_cases h2:b<a
   ·simp[h1,h2]
   ·simp[h1,h2]
theorem Tp:∀a b:List Int,aQ a b=0->a=b
 |[],[],_=>rfl
 |[],_::_,h=>by simp[aQ] at h
 |_::_,[],h=>by simp[aQ] at h
 |a::l,b::m,h=>by
  rw[lv] at h;unfold fD at h;by_cases h1:a<b
  ·simp[h1] at h
  ·by_cases h2:b<a
   ·simp[h1,h2] at h
   ·have:a=b:=aa;subst this;simp at h;rw[Tp l m h]
theorem ahI:∀a b c:List Int,aQ a b<0->aQ b c<0->aQ a c<0
 |[],b,[],h1,h2=>by
  cases b with
  |nil=>simp[aQ] at h1
  |cons b m=>simp[aQ] at h2
 |[],b,c::n,_,_=>by simp[aQ]
 |a::l,[],c,h1,_=>by simp[aQ] at h1
 |a::l,b::m,[],_,h2=>by simp[aQ] at h2
 |a::l,b::m,c::n,h1,h2=>by
  rw[lv] at h1 h2⊢;have ih:=ahI l m n;unfold fD at*;by_cases x1:a<b
  ·by_cases x2:b<c
   ·have:a<c:=aa;simp[this]
   ·by_cases x3:c<b
    ·simp[x2,x3] at h2
    ·have:b=c:=aa;subst this;simp[x1]
  ·by_cases x2:b<a
   ·simp[x1,x2] at h1
   ·have:a=b:=aa;subst this;simp at h1;by_cases x3:a<c
    ·simp[x3]
    ·by_cases x4:c<a
     ·simp[x3,x4] at h2
     ·have:a=c:=aa;subst this;simp at h2⊢;exact ih h1 h2
theorem Tq (a b:af):bP a b=bP b a:=by
 unfold bP;rw[show(a.ev.node==b.ev.node)=(b.ev.node==a.ev.node) from Bool.beq_comm,Bool.and_comm a.ax b.ax,Bool.or_assoc,Bool.or_assoc,Bool.or_comm (bI a b)];simp only[Bool.or_assoc]
theorem avm {a b:af}(h:aQ a.key b.key=0):bP a b=true:=by
 have h1:=Tp _ _ h;have h2:a.ev.ints=b.ev.ints:=(List.append_inj h1 rfl).1;have h3:=Ev.rJ.1 h2;unfold bP;rw[h3];simp
def DF (l:List af)(p:Nat):Prop:=p<l.length/\∀(q:Nat) (a s:af),q<p->l[q]? =some a->l[p]? =some s->bP a s=false
def KP (l:List af)(p:Nat):Prop:=DF l p/\∀(q:Nat) (s t:af),DF l q->q≠p->l[p]? =some s->l[q]? =some t->aQ s.key t.key<0
inductive NF:List af->List af->Prop
 |nil:NF [] []
 |cons (l m:List af) (p:Nat) (s:af) (hs:l[p]? =some s) (hp:KP l p) (h:NF (l.eraseIdx p) m):NF l (s::m)
theorem NF.unique {l m:List af}(h:NF l m):∀{m':List af},NF l m'->m=m':=by
 induction h with
 |nil=>intro m' h';cases h' with
  |nil=>rfl
  |cons _ _ p s hs=>simp at hs
 |cons l m p s hs hp h ih=>
  intro m' h'
  cases h' with
  |nil=>simp at hs
  |cons _ m2 p' s' cR Gi h2=>
   have wA:p'=p:=by
    refine zk fun hne=> ?_
    have h3:=hp.2 p' s s' Gi.1 hne hs cR;have h4:=Gi.2 p s' s hp.1 (fun e=>hne e.symm) cR hs;rw[DC] at h4;omega
   subst wA;rw[hs] at cR;cases cR;rw[ih h2]
def Sw (l l':List af):Prop:=∃A x y B,l=A++x::y::B/\l'=A++y::x::B/\bP x y=false
theorem Sw.symm {l l':List af}(h:Sw l l'):Sw l' l:=by
 obtain⟨A,x,y,B,rfl,rfl,h⟩:=h;exact⟨A,y,x,B,rfl,rfl,by rw[Tq];exact h⟩
theorem Sw.length {l l':List af}(h:Sw l l'):l'.length=l.length:=by
 obtain⟨A,x,y,B,rfl,rfl,_⟩:=h;simp
theorem Sw.append {l l':List af}(h:Sw l l')(m:List af):Sw (l++m) (l'++m):=by
 obtain⟨A,x,y,B,rfl,rfl,h⟩:=h;exact⟨A,x,y,B++m,ae,ae,h⟩
def sig (i p:Nat):Nat:=if p=i then i+1 else if p=i+1 then i else p
theorem Tr (i p:Nat):sig i (sig i p)=p:=by
 unfold sig
 repeat' split
 all_goals omega
theorem Bd (A B:List af)(x y:af)(p:Nat):(A++y::x::B)[sig A.length p]? =(A++x::y::B)[p]? :=by
 unfold sig;by_cases h1:p=A.length
 ·rw[if_pos h1,h1];rw[cD aa,cD aa];simp
 ·rw[if_neg h1];by_cases h2:p=A.length+1
  ·rw[if_pos h2,h2];rw[cD aa,cD aa];simp
  ·rw[if_neg h2];by_cases h3:p<A.length
   ·rw[kj h3,kj h3]
   ·rw[cD aa,cD aa]
    obtain⟨d,hd⟩:∃d,p-A.length=d+2:=⟨p-A.length-2,aa⟩
    rw[hd];simp
theorem DF.swap {A B:List af}{x y:af}(eV:bP x y=false){p:Nat}(h:DF (A++x::y::B) p):DF (A++y::x::B) (sig A.length p):=by
 obtain⟨hl,hf⟩:=h;have hgs:(A++x::y::B)[p]? =some ((A++x::y::B)[p]):=List.getElem?_eq_getElem hl;refine⟨?_,fun q a s hq ha hs=> ?_⟩
 ·have:=Bd A B x y p;rw[hgs] at this;exact(bk.1 this).1
 ·rw[Bd] at hs
  have ha':(A++x::y::B)[sig A.length q]? =some a:=by
   have:=Bd A B x y (sig A.length q);rw[Tr] at this;rw[<-this];exact ha
  by_cases hlt:sig A.length q<p
  ·exact hf _ a s hlt ha' hs
  ·
   unfold sig at hq hlt ha'
   have h1:p=A.length/\q=A.length:=by
    by_cases e1:p=A.length
    ·rw[if_pos e1] at hq;by_cases e2:q=A.length
     ·exact⟨e1,e2⟩
     ·rw[if_neg e2] at hlt;by_cases e3:q=A.length+1
      ·omega
      ·rw[if_neg e3] at hlt;omega
    ·rw[if_neg e1] at hq;by_cases e4:p=A.length+1
     ·rw[if_pos e4] at hq;by_cases e2:q=A.length
      ·omega
      ·rw[if_neg e2] at hlt;by_cases e3:q=A.length+1
       ·omega
       ·rw[if_neg e3] at hlt;omega
     ·rw[if_neg e4] at hq;by_cases e2:q=A.length
      ·rw[if_pos e2] at hlt;omega
      ·rw[if_neg e2] at hlt;by_cases e3:q=A.length+1
       ·rw[if_pos e3] at hlt;omega
       ·rw[if_neg e3] at hlt;omega
   obtain⟨rfl,h2⟩:=h1;rw[h2,if_pos rfl] at ha';rw[cD aa] at ha' hs;simp at ha' hs;subst ha' hs;rw[Tq];exact eV
theorem KP.swap {A B:List af}{x y:af}(eV:bP x y=false){p:Nat}(h:KP (A++x::y::B) p):KP (A++y::x::B) (sig A.length p):=by
 refine⟨h.1.swap eV,fun q s t hq hne hs ht=> ?_⟩;have PT:=hq.swap (by rw[Tq];exact eV);refine h.2 (sig A.length q) s t PT (fun e=>hne (by rw[<-e,Tr])) (by rw[<-Bd];exact hs) ?_;rw[Bd];exact ht
theorem NF.swap {l m:List af}(h:NF l m):∀{l':List af},Sw l l'->NF l' m:=by
 induction h with
 |nil=>
  rintro l' ⟨A,x,y,B,h1,_⟩;simp at h1
 |cons l m p s hs hp h ih=>
  rintro l' ⟨A,x,y,B,rfl,rfl,eV⟩;refine NF.cons _ m (sig A.length p) s (by rw[Bd];exact hs) (hp.swap eV) ?_;have hl:=(bk.1 hs).1;by_cases h1:p<A.length
  ·have e:sig A.length p=p:=by unfold sig;rw[if_neg aa,if_neg aa]
   rw[e];refine ih ⟨A.eraseIdx p,x,y,B,?_,?_,eV⟩
   ·rw[List.eraseIdx_append_of_lt_length h1]
   ·rw[List.eraseIdx_append_of_lt_length h1]
  ·rw[He aa] at h ih;by_cases h2:p=A.length
   ·subst h2
    have e:sig A.length A.length=A.length+1:=by unfold sig;rw[if_pos rfl]
    rw[e,He aa];simpa using h
   ·by_cases h3:p=A.length+1
    ·subst h3
     have e:sig A.length (A.length+1)=A.length:=by unfold sig;rw[if_neg aa,if_pos rfl]
     rw[e,He aa];simpa using h
    ·have e:sig A.length p=p:=by unfold sig;rw[if_neg aa,if_neg aa]
     obtain⟨d,hd⟩:∃d,p-A.length=d+2:=⟨p-A.length-2,aa⟩
     rw[e,He aa,hd];refine ih ⟨A,x,y,B.eraseIdx d,?_,?_,eV⟩
     ·rw[hd];rfl
     ·rfl
def dV (run:List af)(d:List Nat):List Nat:=(List.range run.length).filter fun i=> !decide (i∈d)
theorem zg (run:List af)(d:List Nat)(i:Nat):i∈dV run d↔i<run.length/\i∉d:=by simp[dV]
theorem Ts (run:List af)(d:List Nat):(dV run d).Pairwise (·<·):=List.pairwise_lt_range.filter _
def GG (run:List af)(d:List Nat):Prop:=∀j∈d,∀k,fw run k j=true->k∈d
theorem ahJ (run:List af)(i k:Nat)(h1:i<k)(h2:k<run.length)(hd:ow run i k=true):fw run i k=true:=by
 rw[Ie,qy];exact⟨k,eF.2 h2,by simp[h1,hd]⟩
theorem ahK (run:List af)(d:List Nat)(hd:GG run d)(i:Nat):∀(m k:Nat),run.length<=k+m->k∉d->fw run k i=true->∃j,j∉d/\j<i/\i<run.length/\ow run j i=true
 |0,k,h,_,hl=>by
  have:=BG run run.length k i aa hl;omega
 |m+1,k,h,hk,hl=>by
  have vV:=BG run run.length k i aa hl;rw[Ie,qy] at hl;obtain⟨j,hj,hc⟩:=hl;simp only[bN,dv,og,xE] at hc;obtain⟨⟨h1,h2⟩,h3⟩:=hc
  rcases h3 with rfl|h3
  ·exact⟨k,hk,h1,eF.1 hj,h2⟩
  ·have EA:j∉d:=fun EA=>hk (hd j EA k (ahJ run k j h1 (eF.1 hj) h2))
   exact ahK run d hd i m j aa EA h3
theorem ahL (run:List af)(d:List Nat)(hd:GG run d)(i:Nat)(hi:i<run.length):jN run d i=true↔i∉d/\∀k∈dV run d,k<i->ow run k i=false:=by
 unfold jN Ca;simp only[bN,xC,lV,dY,eF,og,dv];constructor
 ·rintro⟨h1,h2⟩;refine⟨h1,fun k hk vV=> ?_⟩;rw[zg] at hk;rw[zt];intro hdp
  rcases h2 k hk.1 with h3|h3
  ·rw[ahJ run k i vV hi hdp] at h3;cases h3
  ·exact hk.2 h3
 ·rintro⟨h1,h2⟩;refine⟨h1,fun k hk=> ?_⟩;by_cases sg:k∈d
  ·exact .inr sg
  ·refine .inl ?_;rw[zt];intro hl;obtain⟨j,hj1,zC,hj3,Gf⟩:=ahK run d hd i run.length k aa sg hl;rw[h2 j ((zg run d j).2 ⟨aa,hj1⟩) zC] at Gf;cases Gf
theorem Tt (run:List af)(d:List Nat):∀(m b:Nat),gE run d m=some b->∀i<m,jN run d i=true->(i<b->aQ (jM run b) (jM run i)<0)/\¬aQ (jM run i) (jM run b)<0
 |0,_,h,_,_,_=>by cases h
 |m+1,b,h,i,hi,hf=>by
  rw[gE] at h
  have xe:∀x:List Int,¬aQ x x<0:=fun x=>by have:=DC x x;omega
  by_cases hc:(jN run d m && sf run m (gE run d m))=true
  ·rw[if_pos hc] at h;cases h;simp only[bN] at hc;by_cases e:i=m
   ·subst e;exact⟨fun h=>aa,xe _⟩
   ·have ID:i<m:=aa
    cases hp:gE run d m with
    |none=>
     rw[Mj run d m hp i ID] at hf;cases hf
    |some j=>
     have hb:=hc.2;rw[hp] at hb
     have hlt:aQ (jM run m) (jM run j)<0:=by simpa [sf] using hb
     have ih:=Tt run d m j hp i ID hf
     have key:aQ (jM run m) (jM run i)<0:=by
      by_cases e2:aQ (jM run j) (jM run i)<0
      ·exact ahI _ _ _ hlt e2
      ·have h3:=ih.2;have h4:=DC (jM run j) (jM run i);have h5:aQ (jM run j) (jM run i)=0:=aa;rw[<-Tp _ _ h5];exact hlt
     exact⟨fun _=>key,by have:=DC (jM run m) (jM run i);omega⟩
  ·rw[if_neg hc] at h;have hbm:=(Ez run d m b h).1;by_cases e:i=m
   ·subst e;refine⟨fun h'=>aa,fun hlt=>hc ?_⟩;rw[hf,h];simpa [sf] using hlt
   ·exact Tt run d m b h i aa hf
theorem avn (run:List af)(d:List Nat)(p b:Nat)(hp:(dV run d)[p]? =some b):dV run (d++[b])=(dV run d).eraseIdx p:=by
 have h1:dV run (d++[b])=(dV run d).filter fun i=> !decide (i=b):=by
  unfold dV;rw[List.filter_filter]
  refine List.filter_congr fun i _=> ?_
  by_cases e:i=b<;>simp[e]
 rw[h1];have hs:=Ts run d;obtain⟨fF,sM⟩:=bk.1 hp
 have Fu:dV run d=(dV run d).take p++b::(dV run d).drop (p+1):=by
  rw[<-sM,<-List.drop_eq_getElem_cons fF,List.take_append_drop]
 rw[List.eraseIdx_eq_take_drop_succ];generalize(dV run d).take p=A at*;generalize(dV run d).drop (p+1)=B at*;rw[Fu] at hs⊢;rw[List.pairwise_append] at hs;obtain⟨_,h3,h4⟩:=hs;rw[List.pairwise_cons] at h3;rw[fY,oe];simp only[decide_true,Bool.not_true,tg,pj];rw[List.filter_eq_self.2,List.filter_eq_self.2]
 ·intro x hx;have:=h3.1 x hx;simp;omega
 ·intro x hx;have:=h4 x hx b ae;simp;omega
theorem getD_map (run:List af)(l:List Nat)(h:∀i∈l,i<run.length)(p:Nat):(ff run l)[p]? =(l[p]?).bind fun i=>run[i]? :=by
 induction l generalizing p with
 |nil=>simp[ff]
 |cons a l ih=>
  have h1:=h a ae;have h2:=ih (fun i hi=>h i (by simp[hi]))
  have e:ff run (a::l)=run[a]::ff run l:=by simp[ff,h1]
  rw[e]
  cases p with
  |zero=>simp[h1]
  |succ p=>simpa using h2 p
theorem avo (run:List af)(l:List Nat)(h:∀i∈l,i<run.length)(p:Nat):ff run (l.eraseIdx p)=(ff run l).eraseIdx p:=by
 induction l generalizing p with
 |nil=>simp[ff]
 |cons a l ih=>
  have h1:=h a ae;have h2:=ih (fun i hi=>h i (by simp[hi]))
  have e:ff run (a::l)=run[a]::ff run l:=by simp[ff,h1]
  rw[e]
  cases p with
  |zero=>simp
  |succ p=>
   rw[List.eraseIdx_cons_succ,List.eraseIdx_cons_succ,<-h2 p];simp[ff,h1]
theorem ahM (run:List af)(d:List Nat)(hd:GG run d)(p i:Nat)(hp:(dV run d)[p]? =some i):DF (ff run (dV run d)) p↔jN run d i=true:=by
 have qN:=(zg run d i).1 (dJ hp)
 have gu:∀x∈dV run d,x<run.length:=fun x hx=>((zg run d x).1 hx).1
 rw[ahL run d hd i qN.1];have hs:=Ts run d;have fF:=(bk.1 hp).1
 have DG:(ff run (dV run d))[p]? =some run[i]:=by rw[getD_map run _ gu,hp];simp[qN.1]
 constructor
 ·rintro⟨_,h2⟩;refine⟨qN.2,fun k hk vV=> ?_⟩;obtain⟨q,hq⟩:=qu hk;have kr:=gu k hk
  have DI:q<p:=by
   refine zk fun hn=> ?_
   obtain⟨eY,mQ⟩:=bk.1 hq;obtain⟨_,sM⟩:=bk.1 hp;by_cases e:p=q
   ·subst e;rw[hp] at hq;cases hq;omega
   ·have:=List.pairwise_iff_getElem.1 hs p q fF eY aa;omega
  have:=h2 q run[k] run[i] DI (by rw[getD_map run _ gu,hq];simp[kr]) DG;rw[Ic kr qN.1];exact this
 ·rintro⟨_,h2⟩;refine⟨(bk.1 DG).1,fun q a s hq ha cR=> ?_⟩;rw[DG] at cR;cases cR;have eY:q<(dV run d).length:=aa;have mQ:(dV run d)[q]? =some (dV run d)[q]:=List.getElem?_eq_getElem eY;have eB:=gu _ (cT eY);rw[getD_map run _ gu,mQ] at ha;simp[eB] at ha;subst ha
  have hlt:(dV run d)[q]<i:=by
   have:=List.pairwise_iff_getElem.1 hs q p eY fF hq;obtain⟨_,sM⟩:=bk.1 hp;omega
  have:=h2 _ (cT eY) hlt;rw[Ic eB qN.1] at this;exact this
theorem ahN (run:List af):∀(f:Nat) (d:List Nat),f=run.length-d.length->d.length<=run.length->d.Nodup->(∀i∈d,i<run.length)->GG run d->∃t,wB run f d=d++t/\NF (ff run (dV run d)) (ff run t)
 |0,d,hf,hl,ct,hlt,hd=>by
  refine⟨[],by simp[wB],?_⟩
  have:dV run d=[]:=by
   rw[List.eq_nil_iff_forall_not_mem];intro i hi;obtain⟨h1,h2⟩:=(zg run d i).1 hi
   have ik:(i::d)⊆List.range run.length:=fun x hx=>by
    rcases eM.1 hx with rfl|hx
    ·exact eF.2 h1
    ·exact eF.2 (hlt x hx)
   have:=(List.nodup_cons.2 ⟨h2,ct⟩).length_le_of_subset ik;simp at this;omega
  rw[this];exact NF.nil
 |f+1,d,hf,hl,ct,hlt,hd=>by
  obtain⟨b,hb,fC,kE⟩:=Wn run d (Wo _ _ aa);have FZ:=(Ez run d _ b hb).2
  have gu:∀x∈dV run d,x<run.length:=fun x hx=>((zg run d x).1 hx).1
  obtain⟨p,hp⟩:=qu ((zg run d b).2 ⟨fC,kE⟩)
  have sb:GG run (d++[b]):=by
   intro j hj k hk
   rcases fA.1 hj with hj|hj
   ·exact DO _ (hd j hj k hk)
   ·simp at hj;subst hj;have kr:=BG run run.length k j aa hk;simp only[jN,Ca,bN,dY,eF,og,xC,dv] at FZ
    rcases FZ.2 k aa with h|h
    ·rw[hk] at h;cases h
    ·exact DO _ h
  obtain⟨t,ht,hn⟩:=ahN run f (d++[b]) (by rw[List.length_append];simp;omega) (by rw[List.length_append];simp;omega) (by
   rw[List.nodup_append]
   exact⟨ct,ae,fun x hx y hy e=>by simp at hy;subst hy;subst e;exact kE hx⟩) (fun i hi=>by
   rcases fA.1 hi with h|h
   ·exact hlt i h
   ·simp at h;omega) sb
  refine⟨b::t,by rw[Wp run d f b hb,ht];simp,?_⟩
  have DG:(ff run (dV run d))[p]? =some run[b]:=by rw[getD_map run _ gu,hp];simp[fC]
  have e1:ff run (b::t)=run[b]::ff run t:=by simp[ff,fC]
  rw[e1];refine NF.cons _ _ p _ DG ⟨(ahM run d hd p b hp).2 FZ,fun q s u hq DI hs hu=> ?_⟩ ?_
  ·rw[DG] at hs;cases hs
   have eY:q<(dV run d).length:=by
    have:=hq.1;rw[Ww run _ gu] at this;exact this
   have mQ:(dV run d)[q]? =some (dV run d)[q]:=List.getElem?_eq_getElem eY;have eB:=gu _ (cT eY);rw[getD_map run _ gu,mQ] at hu;simp[eB] at hu;subst hu;have GD:=(ahM run d hd q _ mQ).1 hq;have ou:=Tt run d _ b hb _ eB GD;rw[BZ eB,BZ fC] at ou;by_cases GH:(dV run d)[q]<b
   ·exact ou.1 GH
   ·refine zk fun hn2=> ?_
    have h4:=DC run[b].key run[(dV run d)[q]].key;have h5:aQ run[b].key run[(dV run d)[q]].key=0:=aa
    have hne:(dV run d)[q]≠b:=fun e=>by
     rw[e] at mQ;have fF:=(bk.1 hp).1;have avp:(dV run d).Nodup:=(Ts run d).imp (fun h=>aa);exact DI ((List.getElem?_inj eY avp).1 (mQ.trans hp.symm))
    have py:=avm h5;have h6:=((ahL run d hd _ eB).1 GD).2 b ((zg run d b).2 ⟨fC,kE⟩) aa;rw[Ic fC eB,py] at h6;cases h6
  ·rw[<-avo run _ gu,<-avn run d p b hp];exact hn
theorem KQ (run:List af):NF run (ix run):=by
 obtain⟨t,ht,hn⟩:=ahN run run.length [] ae ae List.nodup_nil ae (fun j hj=>by simp at hj)
 have e1:dV run []=List.range run.length:=by simp[dV]
 have e2:ff run (List.range run.length)=run:=by
  apply rH;intro p;rw[getD_map run _ (fun i hi=>eF.1 hi)];by_cases hp:p<run.length
  ·simp[hp]
  ·simp[hp]
 rw[e1,e2] at hn
 have e3:ix run=ff run t:=by
  unfold ix Ey;rw[ht];rfl
 rw[e3];exact hn
theorem avq {l l':List af}(h:Sw l l'):ix l'=ix l:=(KQ l').unique ((KQ l).swap h)
end
section
open Go.RowKit
inductive cr:List af->List af->Prop
 |refl (l:List af):cr l l
 |step {l m n:List af}:cr l m->Sw m n->cr l n
theorem cr.norm {l m:List af}(h:cr l m):ix m=ix l:=by
 induction h with
 |refl=>rfl
 |step _ h ih=>exact(avq h).trans ih
theorem cr.length {l m:List af}(h:cr l m):m.length=l.length:=by
 induction h with
 |refl=>rfl
 |step _ h ih=>exact h.length.trans ih
theorem cr.append {l m:List af}(h:cr l m)(n:List af):cr (l++n) (m++n):=by
 induction h with
 |refl=>exact cr.refl _
 |step _ h ih=>exact ih.step (h.append n)
theorem Sw.mem {l m:List af}(h:Sw l m)(s:af):s∈m↔s∈l:=by
 obtain⟨A,x,y,B,rfl,rfl,_⟩:=h;simp only[fA,eM];constructor
 ·rintro(h|h|h|h)
  ·exact .inl h
  ·exact .inr (.inr (.inl h))
  ·exact .inr (.inl h)
  ·exact .inr (.inr (.inr h))
 ·rintro(h|h|h|h)
  ·exact .inl h
  ·exact .inr (.inr (.inl h))
  ·exact .inr (.inl h)
  ·exact .inr (.inr (.inr h))
theorem cr.mem {l m:List af}(h:cr l m)(s:af):s∈m↔s∈l:=by
 induction h with
 |refl=>exact Iff.rfl
 |step _ h ih=>exact(h.mem s).trans ih
theorem cr.ok {l m:List af}(h:cr l m)(k:si l):si m:=
 ⟨by rw[h.length];exact k.len,fun s hs=>k.asks s ((h.mem s).1 hs),fun s hs=>k.sent s ((h.mem s).1 hs)⟩
theorem Sw.filter {l m:List af}(h:Sw l m)(p:af->Bool)(hp:∀x y,bP x y=false->p x=true->p y=false):m.filter p=l.filter p:=by
 obtain⟨A,x,y,B,rfl,rfl,hd⟩:=h;simp only[fY,oe];by_cases h1:p x=true
 ·have h2:=hp x y hd h1;simp[h1,h2]
 ·simp[h1]
theorem cr.filter {l m:List af}(h:cr l m)(p:af->Bool)(hp:∀x y,bP x y=false->p x=true->p y=false):m.filter p=l.filter p:=by
 induction h with
 |refl=>rfl
 |step _ h ih=>exact(h.filter p hp).trans ih
theorem avr (n:Int)(x y:af)(h:bP x y=false)(hx:(x.ev.node==n)=true):(y.ev.node==n)=false:=by
 have h1:(x.ev.node==y.ev.node)=false:=by
  unfold bP at h;simp only[Hv] at h;exact h.1.1.1
 rw[Bj] at h1⊢;rw[xE] at hx;omega
theorem avs (x y:af)(h:bP x y=false)(hx:x.ax=true):y.ax=false:=by
 unfold bP at h;simp only[Hv] at h;have:=h.1.1.2;rw[hx] at this;simpa using this
theorem cr.node {l m:List af}(h:cr l m)(n:Int):(m.filter fun s=>s.ev.node==n)=l.filter fun s=>s.ev.node==n:=h.filter _ fun x y=>avr n x y
theorem cr.ax {l m:List af}(h:cr l m):(m.filter fun s=>s.ax)=l.filter fun s=>s.ax:=h.filter _ avs
end
end Go.Proofs.YtlnghiefahcnpaaGreat
