import Derived.Test.YtngblilamkkikaaGreatDoorW36
import Derived.Test.YtngblilamkkikaaGreatDoorW42
set_option maxHeartbeats 40000000
set_option maxRecDepth 100000
set_option linter.all false
namespace Go.Proofs.YtngblilamkkikaaGreatDoor
section
open Go.RowKit
def mW (run:List az)(i:Nat):List Int:=(run[i]?.map az.key).getD []
theorem KY {run:List az}{i:Nat}(h:i<run.length):mW run i=run[i].key:=by simp[mW,h]
def KZ (run:List az)(done:List Nat)(i m:Nat):Bool:=(List.range m).all fun k=> !ed run k i||decide (k∈done)
def mX (run:List az)(done:List Nat)(i:Nat):Bool:=!decide (i∈done) && KZ run done i run.length
def xX (run:List az)(m:Nat):Option Nat->Bool
 |none=>true
 |some j=>decide (aK (mW run m) (mW run j)<0)
def jy (run:List az)(done:List Nat):Nat->Option Nat
 |0=>none
 |m+1=>if mX run done m && xX run m (jy run done m) then some m else jy run done m
def BR (run:List az):Nat->List Nat->List Nat
 |0,done=>done
 |f+1,done=>match jy run done run.length with
  |some b=>BR run f (done++[b])
  |none=>done
def OS (run:List az):List Nat:=BR run run.length []
def gT (run:List az)(l:List Nat):List az:=l.filterMap fun i=>run[i]?
def mY (run:List az):List az:=gT run (OS run)
theorem OU (run:List az)(done:List Nat):∀(m:Nat) (b:Nat),jy run done m=some b->b<m/\mX run done b=true
 |0,_,h=>by cases h
 |m+1,b,h=>by
  rw[jy] at h;by_cases hc:(mX run done m && xX run m (jy run done m))=true
  ·rw[aj hc] at h;cases h;simp only[bO] at hc;exact⟨ab,hc.1⟩
  ·rw[af hc] at h;have:=OU run done m b h;exact⟨ab,this.2⟩
theorem abw (run:List az)(done:List Nat):∀(m:Nat),jy run done m=none->∀i<m,mX run done i=false
 |0,_,i,hi=>ab
 |m+1,h,i,hi=>by
  rw[jy] at h;by_cases hc:(mX run done m && xX run m (jy run done m))=true
  ·rw[aj hc] at h;cases h
  ·by_cases Uf:i=m
   ·subst Uf;rw[Ls];intro hf;rw[af hc] at h;rw[h,hf] at hc;simp[xX] at hc
   ·rw[af hc] at h;exact abw run done m h i ab
theorem akG (run:List az)(done:List Nat):∀(m i:Nat),i<m->i<run.length->i∉done->∃j,j<run.length/\mX run done j=true
 |0,i,h,_,_=>ab
 |m+1,i,h,hi,hd=>by
  by_cases hx:∃j,j<i/\j∉done
  ·obtain⟨j,hj,OV⟩:=hx;exact akG run done m j ab ab OV
  ·refine⟨i,hi,?_⟩;simp only[mX,bO,Cj,EG];refine⟨hd,?_⟩;unfold KZ;rw[fg];intro k hk;by_cases hl:ed run k i=true
   ·have uU:=(Gp run run.length k i ab hl).1
    have:k∈done:=by
     by_cases rh:k∈done
     ·exact rh
     ·exact absurd ⟨k,uU,rh⟩ hx
    simp[this]
   ·simp[hl]
theorem akH (run:List az)(done:List Nat)(h:∃i,i<run.length/\i∉done):∃b,jy run done run.length=some b/\b<run.length/\b∉done:=by
 obtain⟨i,hi,hd⟩:=h
 cases hp:jy run done run.length with
 |none=>
  obtain⟨j,hj,hf⟩:=akG run done (i+1) i ab hi hd;rw[abw run done _ hp j hj] at hf;cases hf
 |some b=>
  have:=OU run done _ b hp;refine⟨b,rfl,this.1,?_⟩;have h2:=this.2;simp only[mX,bO,Cj,EG] at h2;exact h2.1
theorem akI (n:Nat)(l:List Nat)(h:l.length<n):∃i,i<n/\i∉l:=by
 refine EE fun hc=> ?_
 have kH:∀i,i<n->i∈l:=fun i hi=>EE fun h'=>hc ⟨i,hi,h'⟩
 have ki:List.range n⊆l:=fun i hi=>kH i (fK.1 hi)
 have:=(Lv (n:=n)).length_le_of_subset ki;simp at this;omega
theorem akJ (run:List az)(done:List Nat)(f:Nat)(b:Nat)(h:jy run done run.length=some b):BR run (f+1) done=BR run f (done++[b]):=by
 rw[BR,h]
theorem aAM (run:List az)(l:List Nat)(b:Nat)(h:b<run.length):gT run (l++[b])=gT run l++[run[b]]:=by
 simp[gT,h]
def Ug:Option Nat->Int|none=> -1|some b=>b
def fS (run:List az)(d:List Nat)(i:Nat):Nat:=((List.range run.length).filter fun k=>ed run k i && !decide (k∈d)).length
def sO (run:List az)(i m:Nat):Nat:=((List.range m).filter fun k=>ed run k i).length
theorem akK (p q:Nat->Bool)(b:Nat)(h1:p b=true)(h2:q b=false):∀n,b<n->(∀k<n,k≠b->p k=q k)->((List.range n).filter p).length=((List.range n).filter q).length+1
 |0,h,_=>ab
 |n+1,h,hk=>by
  rw[ng,qq,qq,List.length_append,List.length_append];by_cases e:b=n
  ·subst e
   have:(List.range b).filter p=(List.range b).filter q:=List.filter_congr fun k rS=>hk k (by have:=fK.1 rS;omega) (by have:=fK.1 rS;omega)
   rw[this];simp[h1,h2]
  ·rw[akK p q b h1 h2 n ab (fun k rS=>hk k ab)];have:=hk n ab (fun e'=>e e'.symm);simp only[List.filter_cons,List.filter_nil,this];omega
theorem akL (run:List az)(d:List Nat)(b i:Nat)(hb:b<run.length)(hd:b∉d):fS run d i=fS run (d++[b]) i+if ed run b i then 1 else 0:=by
 unfold fS;by_cases h:ed run b i=true
 ·rw[aj h]
  refine akK _ _ b (by simp[h,hd]) ai _ hb fun k _ Jz=> ?_
  simp[Jz]
 ·rw[af h,uP];congr 1
  refine List.filter_congr fun k _=> ?_
  by_cases e:k=b
  ·subst e;simp[h]
  ·simp[e]
theorem akM (run:List az)(i m:Nat):sO run i (m+1)=sO run i m+if ed run m i then 1 else 0:=by
 unfold sO;rw[ng,qq,List.length_append];by_cases h:ed run m i<;>simp[h]
theorem aAN (run:List az)(i:Nat)(hi:i<run.length):sO run i i=fS run [] i:=by
 have key:∀d,sO run i (i+d)=sO run i i:=fun d=>by
  induction d with
  |zero=>rfl
  |succ d ih=>
   rw[show i+(d+1)=(i+d)+1 by omega,akM,ih,ahP run (i+d) i ab];simp
 have:=key (run.length-i);rw[show i+(run.length-i)=run.length by omega] at this;rw[<-this];unfold sO fS;simp
theorem akN (run:List az)(d:List Nat)(i:Nat):fS run d i<=run.length:=by
 unfold fS;exact bh (nb _ _) (by rw[Aa];omega)
theorem aAO (run:List az)(i m:Nat):sO run i m<=m:=by
 unfold sO;exact bh (nb _ _) (by rw[Aa];omega)
theorem aAP (run:List az)(d:List Nat)(i:Nat):KZ run d i run.length=decide (fS run d i=0):=by
 rw[qy];unfold KZ fS;rw[cP,zV,List.filter_eq_nil_iff,fg];constructor
 ·intro h k hk;have:=h k hk;simp only[uN,Cj,cP] at this;simp only[bO,Cj,EG,not_and,Classical.not_not];intro h1
  rcases this with h2|h2
  ·rw[h1] at h2;cases h2
  ·exact h2
 ·intro h k hk;have:=h k hk;simp only[bO,Cj,EG,not_and,Classical.not_not] at this;simp only[uN,Cj,cP];by_cases hl:ed run k i=true
  ·exact .inr (this hl)
  ·exact .inl (by simpa using hl)
theorem akO (run:List az)(d:List Nat)(i:Nat):mX run d i=(!decide (i∈d) && decide (fS run d i=0)):=by rw[mX,aAP]
theorem akP (run:List az)(l:List Nat)(h:∀i∈l,i<run.length):(gT run l).length=l.length:=by
 induction l with
 |nil=>rfl
 |cons a l ih=>
  have h1:=h a ai;have h2:=ih (fun i hi=>h i (by simp[hi]));unfold gT at h2⊢;simp[h1,h2]
theorem akQ (run:List az)(d:List Nat)(m:Nat)(h1:mX run d m=true)(h2:xX run m (jy run d m)=true):jy run d (m+1)=some m:=by rw[jy,h1,h2];rfl
theorem abx (run:List az)(d:List Nat)(m:Nat)(h:mX run d m=false\/xX run m (jy run d m)=false):jy run d (m+1)=jy run d m:=by
 rw[jy]
 rcases h with h|h<;>simp[h]
end
section
variable {l l':List az}
theorem La:∀a b:List Int,aK b a= - aK a b
 |[],[]=>rfl
 |[],_::_=>rfl
 |_::_,[]=>rfl
 |a::l,b::m=>by
  rw[jj,jj,La l m];unfold gB;by_cases h1:a<b
  ·have h2:¬b<a:=ab;simp[h1,h2]
  ·by_cases h2:b<a
   ·simp[h1,h2]
   ·simp[h1,h2]
theorem aby:∀a b:List Int,aK a b=0->a=b
 |[],[],_=>rfl
 |[],_::_,h=>by simp[aK] at h
 |_::_,[],h=>by simp[aK] at h
 |a::l,b::m,h=>by
  rw[jj] at h;unfold gB at h;by_cases h1:a<b
  ·simp[h1] at h
  ·by_cases h2:b<a
   ·simp[h1,h2] at h
   ·have:a=b:=ab;subst this;simp at h;rw[aby l m h]
theorem akR:∀a b c:List Int,aK a b<0->aK b c<0->aK a c<0
 |[],b,[],h1,h2=>by
  cases b with
  |nil=>simp[aK] at h1
  |cons b m=>simp[aK] at h2
 |[],b,c::n,_,_=>by simp[aK]
 |a::l,[],c,h1,_=>by simp[aK] at h1
 |a::l,b::m,[],_,h2=>by simp[aK] at h2
 |a::l,b::m,c::n,h1,h2=>by
  rw[jj] at h1 h2⊢;have ih:=akR l m n;unfold gB at*;by_cases x1:a<b
  ·by_cases x2:b<c
   ·have:a<c:=ab;simp[this]
   ·by_cases x3:c<b
    ·simp[x2,x3] at h2
    ·have:b=c:=ab;subst this;simp[x1]
  ·by_cases x2:b<a
   ·simp[x1,x2] at h1
   ·have:a=b:=ab;subst this;simp at h1;by_cases x3:a<c
    ·simp[x3]
    ·by_cases x4:c<a
     ·simp[x3,x4] at h2
     ·have:a=c:=ab;subst this;simp at h2⊢;exact ih h1 h2
theorem aAQ(a b:az):gJ a b=gJ b a:=by
 unfold gJ;rw[show(a.ev.node==b.ev.node)=(b.ev.node==a.ev.node) from Bool.beq_comm,Bool.and_comm a.aX b.aX,Bool.or_assoc,Bool.or_assoc,Bool.or_comm (fk a b)];simp only[Bool.or_assoc]
theorem aAR{a b:az}(h:aK a.key b.key=0):gJ a b=true:=by
 have h1:=aby _ _ h;have h2:a.ev.ints=b.ev.ints:=(List.append_inj h1 rfl).1;have h3:=Ev.yk.1 h2;unfold gJ;rw[h3];simp
def abz (l:List az)(p:Nat):Prop:=p<l.length/\∀(q:Nat) (a s:az),q<p->l[q]? =some a->l[p]? =some s->gJ a s=false
def aAS (l:List az)(p:Nat):Prop:=abz l p/\∀(q:Nat) (s t:az),abz l q->q≠p->l[p]? =some s->l[q]? =some t->aK s.key t.key<0
inductive NF:List az->List az->Prop
 |nil:NF [] []
 |cons (l m:List az) (p:Nat) (s:az) (hs:l[p]? =some s) (hp:aAS l p) (h:NF (l.eraseIdx p) m):NF l (s::m)
theorem NF.unique{m:List az}(h:NF l m):∀{m':List az},NF l m'->m=m':=by
 induction h with
 |nil=>intro m' h';cases h' with
  |nil=>rfl
  |cons _ _ p s hs=>simp at hs
 |cons l m p s hs hp h ih=>
  intro m' h'
  cases h' with
  |nil=>simp at hs
  |cons _ m2 p' s' dm Nf h2=>
   have Aw:p'=p:=by
    refine EE fun hne=> ?_
    have h3:=hp.2 p' s s' Nf.1 hne hs dm;have h4:=Nf.2 p s' s hp.1 (fun e=>hne e.symm) dm hs;rw[La] at h4;omega
   subst Aw;rw[hs] at dm;cases dm;rw[ih h2]
def Sw (l l':List az):Prop:=∃A x y B,l=A++x::y::B/\l'=A++y::x::B/\gJ x y=false
theorem Sw.symm(h:Sw l l'):Sw l' l:=by
 obtain⟨A,x,y,B,rfl,rfl,h⟩:=h;exact⟨A,y,x,B,rfl,rfl,by rw[aAQ];exact h⟩
theorem Sw.length(h:Sw l l'):l'.length=l.length:=by
 obtain⟨A,x,y,B,rfl,rfl,_⟩:=h;simp
theorem Sw.append(h:Sw l l')(m:List az):Sw (l++m) (l'++m):=by
 obtain⟨A,x,y,B,rfl,rfl,h⟩:=h;exact⟨A,x,y,B++m,ai,ai,h⟩
def eX (run:List az)(d:List Nat):List Nat:=(List.range run.length).filter fun i=> !decide (i∈d)
theorem Es(run:List az)(d:List Nat)(i:Nat):i∈eX run d↔i<run.length/\i∉d:=by simp[eX]
theorem abA(run:List az)(d:List Nat):(eX run d).Pairwise (·<·):=List.pairwise_lt_range.filter _
def OW (run:List az)(d:List Nat):Prop:=∀j∈d,∀k,ed run k j=true->k∈d
theorem akS(run:List az)(i k:Nat)(h1:i<k)(h2:k<run.length)(hd:rQ run i k=true):ed run i k=true:=by
 rw[Sl,Ae];exact⟨k,fK.2 h2,by simp[h1,hd]⟩
theorem akT (run:List az)(d:List Nat)(hd:OW run d)(i:Nat):∀(m k:Nat),run.length<=k+m->k∉d->ed run k i=true->∃j,j∉d/\j<i/\i<run.length/\rQ run j i=true
 |0,k,h,_,hl=>by
  have:=Gp run run.length k i ab hl;omega
 |m+1,k,h,hk,hl=>by
  have uU:=Gp run run.length k i ab hl;rw[Sl,Ae] at hl;obtain⟨j,hj,hc⟩:=hl;simp only[bO,cP,uN,Cl] at hc;obtain⟨⟨h1,h2⟩,h3⟩:=hc
  rcases h3 with rfl|h3
  ·exact⟨k,hk,h1,fK.1 hj,h2⟩
  ·have OV:j∉d:=fun OV=>hk (hd j OV k (akS run k j h1 (fK.1 hj) h2))
   exact akT run d hd i m j ab OV h3
theorem akU(run:List az)(d:List Nat)(hd:OW run d)(i:Nat)(hi:i<run.length):mX run d i=true↔i∉d/\∀k∈eX run d,k<i->rQ run k i=false:=by
 unfold mX KZ;simp only[bO,Cj,EG,fg,fK,uN,cP];constructor
 ·rintro⟨h1,h2⟩;refine⟨h1,fun k hk uU=> ?_⟩;rw[Es] at hk;rw[Ls];intro hdp
  rcases h2 k hk.1 with h3|h3
  ·rw[akS run k i uU hi hdp] at h3;cases h3
  ·exact hk.2 h3
 ·rintro⟨h1,h2⟩;refine⟨h1,fun k hk=> ?_⟩;by_cases rh:k∈d
  ·exact .inr rh
  ·refine .inl ?_;rw[Ls];intro hl;obtain⟨j,OH,xr,hj3,hj4⟩:=akT run d hd i run.length k ab rh hl;rw[h2 j ((Es run d j).2 ⟨ab,OH⟩) xr] at hj4;cases hj4
theorem abB (run:List az)(d:List Nat):∀(m b:Nat),jy run d m=some b->∀i<m,mX run d i=true->(i<b->aK (mW run b) (mW run i)<0)/\¬aK (mW run i) (mW run b)<0
 |0,_,h,_,_,_=>by cases h
 |m+1,b,h,i,hi,hf=>by
  rw[jy] at h
  have AR:∀x:List Int,¬aK x x<0:=fun x=>by have:=La x x;omega
  by_cases hc:(mX run d m && xX run m (jy run d m))=true
  ·rw[aj hc] at h;cases h;simp only[bO] at hc;by_cases e:i=m
   ·subst e;exact⟨fun h=>ab,AR _⟩
   ·have Uf:i<m:=ab
    cases hp:jy run d m with
    |none=>
     rw[abw run d m hp i Uf] at hf;cases hf
    |some j=>
     have hb:=hc.2;rw[hp] at hb
     have hlt:aK (mW run m) (mW run j)<0:=by simpa [xX] using hb
     have ih:=abB run d m j hp i Uf hf
     have key:aK (mW run m) (mW run i)<0:=by
      by_cases e2:aK (mW run j) (mW run i)<0
      ·exact akR _ _ _ hlt e2
      ·have h3:=ih.2;have h4:=La (mW run j) (mW run i);have h5:aK (mW run j) (mW run i)=0:=ab;rw[<-aby _ _ h5];exact hlt
     exact⟨fun _=>key,by have:=La (mW run m) (mW run i);omega⟩
  ·rw[af hc] at h;have hbm:=(OU run d m b h).1;by_cases e:i=m
   ·subst e;refine⟨fun h'=>ab,fun hlt=>hc ?_⟩;rw[hf,h];simpa [xX] using hlt
   ·exact abB run d m b h i ab hf
theorem aAT(run:List az)(d:List Nat)(p b:Nat)(hp:(eX run d)[p]? =some b):eX run (d++[b])=(eX run d).eraseIdx p:=by
 have h1:eX run (d++[b])=(eX run d).filter fun i=> !decide (i=b):=by
  unfold eX;rw[List.filter_filter]
  refine List.filter_congr fun i _=> ?_
  by_cases e:i=b<;>simp[e]
 rw[h1];have hs:=abA run d;obtain⟨ig,gE⟩:=bG.1 hp
 have MG:eX run d=(eX run d).take p++b::(eX run d).drop (p+1):=by
  rw[<-gE,<-List.drop_eq_getElem_cons ig,List.take_append_drop]
 rw[List.eraseIdx_eq_take_drop_succ];generalize(eX run d).take p=A at*;generalize(eX run d).drop (p+1)=B at*;rw[MG] at hs⊢;rw[List.pairwise_append] at hs;obtain⟨_,h3,h4⟩:=hs;rw[zZ] at h3;rw[qq,List.filter_cons];simp only[decide_true,Bool.not_true,ye,nY];rw[List.filter_eq_self.2,List.filter_eq_self.2]
 ·intro x hx;have:=h3.1 x hx;simp;omega
 ·intro x hx;have:=h4 x hx b ai;simp;omega
theorem getD_map(run:List az)(l:List Nat)(h:∀i∈l,i<run.length)(p:Nat):(gT run l)[p]? =(l[p]?).bind fun i=>run[i]? :=by
 induction l generalizing p with
 |nil=>simp[gT]
 |cons a l ih=>
  have h1:=h a ai;have h2:=ih (fun i hi=>h i (by simp[hi]))
  have e:gT run (a::l)=run[a]::gT run l:=by simp[gT,h1]
  rw[e]
  cases p with
  |zero=>simp[h1]
  |succ p=>simpa using h2 p
theorem aAU(run:List az)(l:List Nat)(h:∀i∈l,i<run.length)(p:Nat):gT run (l.eraseIdx p)=(gT run l).eraseIdx p:=by
 induction l generalizing p with
 |nil=>simp[gT]
 |cons a l ih=>
  have h1:=h a ai;have h2:=ih (fun i hi=>h i (by simp[hi]))
  have e:gT run (a::l)=run[a]::gT run l:=by simp[gT,h1]
  rw[e]
  cases p with
  |zero=>simp
  |succ p=>
   rw[List.eraseIdx_cons_succ,List.eraseIdx_cons_succ,<-h2 p];simp[gT,h1]
theorem akV(run:List az)(d:List Nat)(hd:OW run d)(p i:Nat)(hp:(eX run d)[p]? =some i):abz (gT run (eX run d)) p↔mX run d i=true:=by
 have yB:=(Es run d i).1 (dD hp)
 have kH:∀x∈eX run d,x<run.length:=fun x hx=>((Es run d x).1 hx).1
 rw[akU run d hd i yB.1];have hs:=abA run d;have ig:=(bG.1 hp).1
 have Lb:(gT run (eX run d))[p]? =some run[i]:=by rw[getD_map run _ kH,hp];simp[yB.1]
 constructor
 ·rintro⟨_,h2⟩;refine⟨yB.2,fun k hk uU=> ?_⟩;obtain⟨q,hq⟩:=yb hk;have lW:=kH k hk
  have hqp:q<p:=by
   refine EE fun hn=> ?_
   obtain⟨fu,rf⟩:=bG.1 hq;obtain⟨_,gE⟩:=bG.1 hp;by_cases e:p=q
   ·subst e;rw[hp] at hq;cases hq;omega
   ·have:=List.pairwise_iff_getElem.1 hs p q ig fu ab;omega
  have:=h2 q run[k] run[i] hqp (by rw[getD_map run _ kH,hq];simp[lW]) Lb;rw[Sk lW yB.1];exact this
 ·rintro⟨_,h2⟩;refine⟨(bG.1 Lb).1,fun q a s hq ha dm=> ?_⟩;rw[Lb] at dm;cases dm;have fu:q<(eX run d).length:=ab;have rf:(eX run d)[q]? =some (eX run d)[q]:=cy fu;have fR:=kH _ (cA fu);rw[getD_map run _ kH,rf] at ha;simp[fR] at ha;subst ha
  have hlt:(eX run d)[q]<i:=by
   have:=List.pairwise_iff_getElem.1 hs q p fu ig hq;obtain⟨_,gE⟩:=bG.1 hp;omega
  have:=h2 _ (cA fu) hlt;rw[Sk fR yB.1] at this;exact this
theorem akW (run:List az):∀(f:Nat) (d:List Nat),f=run.length-d.length->d.length<=run.length->d.Nodup->(∀i∈d,i<run.length)->OW run d->∃t,BR run f d=d++t/\NF (gT run (eX run d)) (gT run t)
 |0,d,hf,hl,cB,hlt,hd=>by
  refine⟨[],by simp[BR],?_⟩
  have:eX run d=[]:=by
   rw[List.eq_nil_iff_forall_not_mem];intro i hi;obtain⟨h1,h2⟩:=(Es run d i).1 hi
   have ki:(i::d)⊆List.range run.length:=fun x hx=>by
    rcases bZ.1 hx with rfl|hx
    ·exact fK.2 h1
    ·exact fK.2 (hlt x hx)
   have:=(List.nodup_cons.2 ⟨h2,cB⟩).length_le_of_subset ki;simp at this;omega
  rw[this];exact NF.nil
 |f+1,d,hf,hl,cB,hlt,hd=>by
  obtain⟨b,hb,fB,jW⟩:=akH run d (akI _ _ ab);have kT:=(OU run d _ b hb).2
  have kH:∀x∈eX run d,x<run.length:=fun x hx=>((Es run d x).1 hx).1
  obtain⟨p,hp⟩:=yb ((Es run d b).2 ⟨fB,jW⟩)
  have Fq:OW run (d++[b]):=by
   intro j hj k hk
   rcases fJ.1 hj with hj|hj
   ·exact EK _ (hd j hj k hk)
   ·simp at hj;subst hj;have lW:=Gp run run.length k j ab hk;simp only[mX,KZ,bO,fg,fK,uN,Cj,cP] at kT
    rcases kT.2 k ab with h|h
    ·rw[hk] at h;cases h
    ·exact EK _ h
  obtain⟨t,ht,hn⟩:=akW run f (d++[b]) (by rw[List.length_append];simp;omega) (by rw[List.length_append];simp;omega) (by
   rw[Lr]
   exact⟨cB,ai,fun x hx y hy e=>by simp at hy;subst hy;subst e;exact jW hx⟩) (fun i hi=>by
   rcases fJ.1 hi with h|h
   ·exact hlt i h
   ·simp at h;omega) Fq
  refine⟨b::t,by rw[akJ run d f b hb,ht];simp,?_⟩
  have Lb:(gT run (eX run d))[p]? =some run[b]:=by rw[getD_map run _ kH,hp];simp[fB]
  have e1:gT run (b::t)=run[b]::gT run t:=by simp[gT,fB]
  rw[e1];refine NF.cons _ _ p _ Lb ⟨(akV run d hd p b hp).2 kT,fun q s u hq hqp hs hu=> ?_⟩ ?_
  ·rw[Lb] at hs;cases hs
   have fu:q<(eX run d).length:=by
    have:=hq.1;rw[akP run _ kH] at this;exact this
   have rf:(eX run d)[q]? =some (eX run d)[q]:=cy fu;have fR:=kH _ (cA fu);rw[getD_map run _ kH,rf] at hu;simp[fR] at hu;subst hu;have hqf:=(akV run d hd q _ rf).1 hq;have sg:=abB run d _ b hb _ fR hqf;rw[KY fR,KY fB] at sg;by_cases OX:(eX run d)[q]<b
   ·exact sg.1 OX
   ·refine EE fun xJ=> ?_
    have h4:=La run[b].key run[(eX run d)[q]].key;have h5:aK run[b].key run[(eX run d)[q]].key=0:=ab
    have hne:(eX run d)[q]≠b:=fun e=>by
     rw[e] at rf;have ig:=(bG.1 hp).1;have aAV:(eX run d).Nodup:=(abA run d).imp (fun h=>ab);exact hqp ((List.getElem?_inj fu aAV).1 (rf.trans hp.symm))
    have Sh:=aAR h5;have h6:=((akU run d hd _ fR).1 hqf).2 b ((Es run d b).2 ⟨fB,jW⟩) ab;rw[Sk fB fR,Sh] at h6;cases h6
  ·rw[<-aAU run _ kH,<-aAT run d p b hp];exact hn
theorem Uh(run:List az):NF run (mY run):=by
 obtain⟨t,ht,hn⟩:=akW run run.length [] ai ai List.nodup_nil ai (fun j hj=>by simp at hj)
 have e1:eX run []=List.range run.length:=by simp[eX]
 have e2:gT run (List.range run.length)=run:=by
  apply wm;intro p;rw[getD_map run _ (fun i hi=>fK.1 hi)];by_cases hp:p<run.length
  ·simp[hp]
  ·simp[hp]
 rw[e1,e2] at hn
 have e3:mY run=gT run t:=by
  unfold mY OS;rw[ht];rfl
 rw[e3];exact hn
end
section
open Go.RowKit
variable {l m:List az} {p:Nat×Nat}
def gY (a:Ask):aw:=[32,91]++mU a.qn++[32,61,32]++Lib.itoa a.n++[47]++Lib.itoa a.arity++[93]
def rK (l:List Ask)(k:Nat):aw:=(l.take k).flatMap gY
theorem aAW(l:List Ask)(k:Nat)(h:k<l.length):rK l (k+1)=rK l k++gY l[k]:=by
 unfold rK;rw[List.take_succ_eq_append_getElem h,nC];simp
def BS (i:Nat)(s:az):aw:=Lib.itoa i++[58,32]++lh s.ev
def qm (o:Bool):aw:=if o then [32,42] else []
def eY (bf:List Nat):aw:=if bf=[] then [] else [32,97,102,116,101,114,32]++bF 44 ((bf.map fun n:Nat=>(n:Int)).map Lib.itoa)
def Et (i:Nat)(s:az)(bf:List Nat):aw:=BS i s++rK s.asks s.asks.length++qm s.aX++eY bf++[10]
def mZ (l:List az)(F:Nat->List Nat)(m:Nat):aw:=(List.range m).flatMap fun i=>match l[i]? with
 |some s=>Et i s (F i)
 |none=>[]
theorem Ui(l:List az)(F:Nat->List Nat)(m:Nat)(h:m<l.length):mZ l F (m+1)=mZ l F m++Et m l[m] (F m):=by
 unfold mZ;rw[ng,nC];simp[h]
def mo (l:List az):List (Nat×Nat):=(eU (ed l) l.length l.length).map fun p=>(p.2,p.1)
def BU (l:List az):aw:=mZ l (fun i=>aR (mo l) i) l.length
theorem akX(h:NF l m):m.length=l.length:=by
 induction h with
 |nil=>rfl
 |cons l m p s hs _ _ ih=>
  have hp:=(bG.1 hs).1;rw[List.length_cons,ih,List.length_eraseIdx,aj hp];omega
theorem akY(h:NF l m):∀s∈m,s∈l:=by
 induction h with
 |nil=>intro s h;exact h
 |cons l m p s hs _ _ ih=>
  intro t ht
  rcases bZ.1 ht with rfl|h
  ·exact dD hs
  ·exact List.mem_of_mem_eraseIdx (ih t h)
theorem akZ(e:Ev)(h:∀x∈e.ints,dI x):(lh e).length<=200:=by
 by_cases hk:su e
 ·rw[<-akE hk];unfold HK;have h1:=ajZ e.kind.toNat;have h2:=mV e.node (h _ (by simp[Ev.ints]));have h3:=mV e.arg (h _ (by simp[Ev.ints]))
  have h4:(bF 46 (e.msg.ints.map Lib.itoa)).length<=21*5:=zN 46 20 _ (fun y hy=>by
   obtain⟨n,hn,rfl⟩:=dh.1 hy
   exact mV n (h n (by simp[Ev.ints,bQ.ints] at hn⊢;omega)))
  generalize dt.getD e.kind.toNat []=a at h1⊢;generalize Lib.itoa e.node=b at h2⊢;generalize Lib.itoa e.arg=c at h3⊢;generalize bF 46 (e.msg.ints.map Lib.itoa)=d at h4⊢;dsimp only;split
  ·simp;omega
  ·split
   ·simp;omega
   ·simp;omega
 ·have h1:lh e=[]:=by
   unfold lh;rw[af (fun hw=>hk ((KQ e).1 hw))]
  rw[h1];simp
theorem ala(q:Qn)(h:∀x∈q.ints,dI x):(mU q).length<=200:=by
 by_cases hk:Dj q
 ·rw[<-akF hk];unfold HU
  have h0:q.kind.toNat<4:=by
   obtain⟨h1,_⟩:=hk;omega
  have h1:=aka q.kind.toNat h0;have h2:=mV q.index (h _ (by simp[Qn.ints]))
  have h4:(bF 46 ([q.node,q.handler,q.count].map Lib.itoa)).length<=21*3:=zN 46 20 _ (fun y hy=>by
   obtain⟨n,hn,rfl⟩:=dh.1 hy
   exact mV n (h n (by simp[Qn.ints] at hn⊢;omega)))
  generalize dM.getD q.kind.toNat []=a at h1⊢;generalize Lib.itoa q.index=b at h2⊢;generalize bF 46 ([q.node,q.handler,q.count].map Lib.itoa)=d at h4⊢;simp;omega
 ·have h1:mU q=[]:=by
   unfold mU;rw[af (fun hw=>hk ((KR q).1 hw))]
  rw[h1];simp
def Eu (s:az):Prop:=(∀x∈s.ev.ints,dI x)/\(∀a∈s.asks,∀x∈a.ints,dI x)/\s.asks.length<=1000000
theorem alb{a:Ask}(h:∀x∈a.ints,dI x):∀x∈a.qn.ints,dI x:=fun x hx=>h x (by simp[Ask.qn,Qn.ints,Ask.ints] at hx⊢;omega)
theorem aAX(a:Ask)(h:∀x∈a.ints,dI x):(gY a).length<=300:=by
 have h1:=ala a.qn (alb h);have h2:=mV a.n (h _ (by simp[Ask.ints]));have h3:=mV a.arity (h _ (by simp[Ask.ints]));unfold gY;simp only[List.length_append,List.length_cons,List.length_nil];omega
theorem alc{α β:Type}(f:α->List β)(c:Nat)(l:List α)(h:∀a∈l,(f a).length<=c):(l.flatMap f).length<=c*l.length:=by
 have:=aaa f c l h;rwa[EP] at this
theorem ald(l:List Ask)(k:Nat)(h:∀a∈l,∀x∈a.ints,dI x)(hl:l.length<=1000000):(rK l k).length<=300000000:=by
 have h1:=alc gY 300 (l.take k) (fun a ha=>aAX a (h a (uH ha)))
 have h2:(l.take k).length<=1000000:=by rw[dS];omega
 unfold rK;omega
theorem Ew(n:Nat)(h:n<=1000000):dI (n:Int):=⟨ab,ab⟩
theorem aAY(i:Nat)(s:az)(hi:i<=64)(h:Eu s):(BS i s).length<=300:=by
 have h1:=mV (i:Int) (Ew i ab);have h2:=akZ s.ev h.1;unfold BS;simp only[List.length_append,List.length_cons,List.length_nil];omega
theorem aAZ(bf:List Nat)(hb:bf.length<=10000)(h:∀n∈bf,n<=64):(eY bf).length<=300000:=by
 unfold eY;split
 ·simp
 ·have:=zN 44 20 ((bf.map fun n:Nat=>(n:Int)).map Lib.itoa) (fun y hy=>by
   obtain⟨n,hn,rfl⟩:=dh.1 hy;obtain⟨m,hm,rfl⟩:=dh.1 hn
   exact mV _ (Ew m (by have:=h m hm;omega)))
  simp only[dy] at this;simp only[List.length_append,List.length_cons,List.length_nil];omega
theorem abC(o:Bool):(qm o).length<=2:=by cases o<;>decide
theorem aBa(i:Nat)(s:az)(bf:List Nat)(hi:i<=64)(h:Eu s)(hb:bf.length<=10000)(hn:∀n∈bf,n<=64):(Et i s bf).length<=301000000:=by
 have h1:=aAY i s hi h;have h2:=ald s.asks s.asks.length h.2.1 h.2.2;have h3:=abC s.aX;have h4:=aAZ bf hb hn;unfold Et;simp only[List.length_append,List.length_cons,List.length_nil];omega
theorem ale (l:List az)(F:Nat->List Nat)(hl:l.length<=64)(h:∀s∈l,Eu s)(hF:∀i,(F i).length<=10000/\∀n∈F i,n<=64):∀m,m<=l.length->(mZ l F m).length<=301000000*m
 |0,_=>by simp[mZ]
 |m+1,hm=>by
  have ih:=ale l F hl h hF m ab;rw[Ui l F m ab,List.length_append];have:=aBa m l[m] (F m) ab (h _ (cA _)) (hF m).1 (hF m).2;omega
theorem alf{f:Nat->Nat->Bool}{n m:Nat}(h:p∈eU f n m):p.1<m/\p.2<n:=by
 unfold eU at h;obtain⟨a,ha,hp⟩:=yh.1 h;unfold kW at hp;obtain⟨c,hc,rfl⟩:=dh.1 hp;exact⟨fK.1 ha,fK.1 (mq.1 hc).1⟩
theorem alg(l:List az)(hl:l.length<=64):(mo l).length<=4096:=by
 unfold mo;rw[dy];have h1:=aiy (ed l) l.length l.length;have h2:l.length*l.length<=64*64:=oY hl hl;omega
theorem aBb(h:p∈mo l):p.1<l.length/\p.2<l.length:=by
 unfold mo at h;obtain⟨q,hq,rfl⟩:=dh.1 h;have:=alf hq;exact⟨this.2,this.1⟩
theorem aBc(l:List az)(hl:l.length<=64)(i:Nat):(aR (mo l) i).length<=10000/\∀n∈aR (mo l) i,n<=64:=by
 constructor
 ·unfold aR;rw[dy];have h1:=nb (fun p:Nat×Nat=>p.1==i) (mo l);have h2:=alg l hl;omega
 ·intro n hn;unfold aR at hn;obtain⟨p,hp,rfl⟩:=dh.1 hn;have:=aBb (mq.1 hp).1;omega
end
section
open Go.RowKit
def Ex (f:Nat->Nat->Bool)(n i m:Nat):List Nat:=(List.range m).filter fun k=>vR f n k i
theorem aBd (f:Nat->Nat->Bool)(n i m:Nat):Ex f n i (m+1)=Ex f n i m++if vR f n m i then [m] else []:=by
 unfold Ex;rw[ng,qq];congr 1;cases h:vR f n m i<;>simp[h]
theorem aBe (f:Nat->Nat->Bool)(n i m:Nat):(Ex f n i m).length<=m:=bh (nb _ _) ai
theorem aBf (f:Nat->Nat->Bool)(n i m:Nat):∀x∈Ex f n i m,x<m:=fun _ hx=>fK.1 (mq.1 hx).1
end
section
open Go.RowKit
theorem alh (A B:List (Nat×Nat))(i:Nat):aR (A++B) i=aR A i++aR B i:=by
 unfold aR;rw[qq,cU]
theorem ali (f:Nat->Nat->Bool)(n a i:Nat):∀k,aR ((kW f n a k).map fun p=>(p.2,p.1)) i=if i<k/\vR f n a i=true then [a] else []
 |0=>by simp[kW,aR]
 |k+1=>by
  rw[aiv,cU,alh,ali f n a i k];by_cases Al:k=i
  ·subst Al;cases h:vR f n a k<;>simp[aR]
  ·by_cases hlt:i<k
   ·have h1:i<k+1:=ab;cases h:vR f n a k<;>simp[aR,hlt,h1,Al]
   ·have h1:¬i<k+1:=ab;cases h:vR f n a k<;>simp[aR,hlt,h1,Al]
theorem alj (f:Nat->Nat->Bool)(n i:Nat)(hi:i<n):∀m,aR ((eU f n m).map fun p=>(p.2,p.1)) i=Ex f n i m
 |0=>by simp[eU,Ex,aR]
 |m+1=>by
  rw[aix,cU,alh,alj f n i hi m,aBd,ali];congr 1;simp[hi]
theorem alk (l:List az)(i:Nat)(hi:i<l.length):aR (mo l) i=Ex (ed l) l.length i l.length:=alj (ed l) l.length i hi l.length
theorem alm (l:List az)(F:Nat->List Nat)(C:Nat)(h:∀i (hi:i<l.length),(Et i l[i] (F i)).length<=C):∀m,m<=l.length->(mZ l F m).length<=C*m
 |0,_=>by simp[mZ]
 |m+1,hm=>by
  have ih:=alm l F C h m ab;rw[Ui l F m ab,List.length_append];have:=h m ab;rw[Nat.mul_succ];omega
end
section
open Go.RowKit
variable {R r t w:aw} {c:UInt8} {k:Nat}
theorem aln (s:aw)(k:Nat):∀(cT:List aw) (a:Nat),k<=a->(∀p∈cT,∀j<k,Lib.occAt s p j=false)->
  k<=cT.foldl (fun a p=>if 0<=Lib.index s p then min a (Lib.index s p).toNat else a) a/\
  cT.foldl (fun a p=>if 0<=Lib.index s p then min a (Lib.index s p).toNat else a) a<=a/\
  (k<=s.length->(∃p∈cT,Lib.occAt s p k=true)->cT.foldl (fun a p=>if 0<=Lib.index s p then min a (Lib.index s p).toNat else a) a=k)
 |[],a,ha,_=>⟨ha,cI _,fun _ ⟨p,hp,_⟩=>by simp at hp⟩
 |p::cT,a,ha,hno=>by
  have hk:∀i:Nat,Lib.index s p=i->Lib.occAt s p i=true->k<=i:=fun i _ ho=>by
   rcases Ag i k with h|h
   ·rw[hno p ai i h] at ho;cases ho
   ·exact h
  rw[yi]
  have h1:k<=(if 0<=Lib.index s p then min a (Lib.index s p).toNat else a)/\(if 0<=Lib.index s p then min a (Lib.index s p).toNat else a)<=a/\(k<=s.length->Lib.occAt s p k=true->(if 0<=Lib.index s p then min a (Lib.index s p).toNat else a)=k):=by
   rcases Lib.index_spec s p with⟨e,hn⟩|⟨i,e,hi,ho,hn⟩
   ·rw[e,af ab];refine⟨ha,cI _,fun mR ho=> ?_⟩;rw[hn k mR] at ho;cases ho
   ·have:=hk i e ho;rw[e,aj ab,iZ];refine⟨ab,ab,fun _ ct=> ?_⟩
    have:¬k<i:=fun hlt=>by rw[hn k hlt] at ct;cases ct
    omega
  obtain⟨g1,g2,g3⟩:=aln s k cT _ h1.1 (fun q hq=>hno q (kA _ hq));refine⟨g1,bh g2 h1.2.1,fun mR ⟨q,hq,hoq⟩=> ?_⟩
  rcases bZ.1 hq with rfl|hq
  ·have:=h1.2.2 mR hoq;omega
  ·exact g3 mR ⟨q,hq,hoq⟩
theorem alo{cT:List aw}{s:aw}(hk:k<=s.length)(hno:∀p∈cT,∀j<k,Lib.occAt s p j=false)(GL:k=s.length\/∃p∈cT,Lib.occAt s p k=true):cutAt cT s=k:=by
 obtain⟨h1,h2,h3⟩:=aln s k cT s.length hk hno;unfold cutAt
 rcases GL with e|h
 ·omega
 ·exact h3 hk h
theorem alp{s:aw}{a b:UInt8}{j:Nat}(h:Lib.occAt s (a::b::r) j=true):s[j]? =some a/\s[j+1]? =some b:=by
 unfold Lib.occAt at h;have h2:=ED.1 h;obtain⟨t,ht⟩:=h2
 have e0:(s.drop j)[0]? =some a:=by rw[<-ht];rfl
 have e1:(s.drop j)[1]? =some b:=by rw[<-ht];rfl
 rw[nD] at e0 e1;exact⟨by simpa using e0,e1⟩
theorem alq(a p t:aw):Lib.occAt (a++(p++t)) p a.length=true:=by
 unfold Lib.occAt;rw[lM];exact ED.2 ⟨t,rfl⟩
def NS (t:aw):Prop:=∀j:Nat,t[j]? =some 32->∃y,t[j+1]? =some y/\48<=y.toNat/\y.toNat<=57
theorem NS.word(h:(32:UInt8)∉w):NS w:=fun _ hj=>absurd (dD hj) h
theorem NS.app(h:(32:UInt8)∉w)(ht:NS t){y:UInt8}(hy:t=y::r)(h1:48<=y.toNat)(h2:y.toNat<=57):NS (w++32::t):=fun j hj=>by
 by_cases hjw:j<w.length
 ·rw[lJ hjw] at hj;exact absurd (dD hj) h
 ·rw[jz ab] at hj⊢;by_cases h0:j=w.length
  ·subst h0;refine⟨y,?_,h1,h2⟩;rw[show w.length+1-w.length=1 by omega,hy];rfl
  ·obtain⟨k,hk⟩:∃k,j-w.length=k+1:=⟨j-w.length-1,ab⟩
   rw[hk,Iq] at hj;obtain⟨z,hz,g1,g2⟩:=ht k hj;refine⟨z,?_,g1,g2⟩;rw[show j+1-w.length=(k+1)+1 by omega,Iq];exact hz
theorem OY(n:Nat):∃y r,Lib.decDigits n=y::r/\48<=y.toNat/\y.toNat<=57:=by
 cases h:Lib.decDigits n with
 |nil=>exact absurd h (by simpa using JY n)
 |cons y r=>
  have:=Sg n y (by rw[h];simp);exact⟨y,r,rfl,this.1,this.2⟩
theorem aBg(n:Nat)(l:List Nat):∃y r,bF 46 ((n::l).map Lib.decDigits)=y::r/\48<=y.toNat/\y.toNat<=57:=by
 obtain⟨y,r,h,h1,h2⟩:=OY n
 cases l with
 |nil=>exact⟨y,r,h,h1,h2⟩
 |cons m l=>
  refine⟨y,r++46::bF 46 ((m::l).map Lib.decDigits),?_,h1,h2⟩;rw[cY,vW 46 _ ai,h];rfl
theorem mn.ns{e:Ev}{s:aw}(h:mn e s):NS s:=by
 cases h with
 |f1 k nd r hk hn hr=>
  obtain⟨y,t,h1,h2,h3⟩:=OY nd;obtain⟨y',t',g1,g2,g3⟩:=OY r;have hw:(32:UInt8)∉dt.getD k []:=(BQ ab).2;have hd:NS (Lib.decDigits nd++32::Lib.decDigits r):=NS.app (qk nd aq) (NS.word (qk r aq)) g1 g2 g3;exact NS.app hw hd (by rw[h1];rfl) h2 h3
 |f2 k nd a b c d x hk hn ha hb hc hd hx=>
  obtain⟨y,t,h1,h2,h3⟩:=OY nd;obtain⟨y',t',g1,g2,g3⟩:=aBg a [b,c,d,x];have hw:(32:UInt8)∉dt.getD k []:=(BQ ab).2;have hd:NS (Lib.decDigits nd++32::bF 46 ([a,b,c,d,x].map Lib.decDigits)):=NS.app (qk nd aq) (NS.word (TY _)) g1 g2 g3;exact NS.app hw hd (by rw[h1];rfl) h2 h3
 |f3 nd hn=>
  obtain⟨y,t,h1,h2,h3⟩:=OY nd;have hw:(32:UInt8)∉dt.getD 7 []:=(BQ ab).2;exact NS.app hw (NS.word (qk nd aq)) h1 h2 h3
def Tl (R:aw):Prop:=R=[]\/∃p∈ko,∃t,R=p++t
theorem aBh(ht:NS t)(hR:Tl R):cutAt ko (t++R)=t.length:=by
 refine alo ai ?_ ?_
 ·intro p hp j hj
  cases ho:Lib.occAt (t++R) p j with
  |false=>rfl
  |true=>
   exfalso
   have key:∃b r,p=32::b::r/\(b=91\/b=42\/b=97):=by
    simp only[ko,bZ,kB,lO] at hp
    rcases hp with rfl|rfl|rfl
    ·exact⟨91,[],rfl,.inl rfl⟩
    ·exact⟨42,[],rfl,.inr (.inl rfl)⟩
    ·exact⟨97,_,rfl,.inr (.inr rfl)⟩
   obtain⟨b,r,rfl,hb⟩:=key;obtain⟨e0,e1⟩:=alp ho;rw[lJ hj] at e0;obtain⟨y,hy,h1,h2⟩:=ht j e0;have xr:j+1<t.length:=(bG.1 hy).1;rw[lJ xr,hy] at e1;injection e1 with e1;subst e1
   rcases hb with rfl|rfl|rfl
   ·revert h2;decide
   ·revert h1;decide
   ·revert h2;decide
 ·rcases hR with rfl|⟨p,hp,u,rfl⟩
  ·exact .inl ai
  ·exact .inr ⟨p,hp,alq t p u⟩
theorem aBi(h:0<k/\k<4)(hc:c=61\/c=93):c∉dM.getD k []:=by
 have key:∀x:Fin 4,(61:UInt8)∉dM.getD x.val []/\(93:UInt8)∉dM.getD x.val []:=aq
 rcases hc with rfl|rfl
 ·exact(key ⟨k,h.2⟩).1
 ·exact(key ⟨k,h.2⟩).2
theorem Ey{n:Nat}(h:c.toNat<48\/57<c.toNat):c∉Lib.decDigits n:=fun hc=>by
 have:=Sg n c hc;omega
theorem alr{l:List Nat}(h:c.toNat<46\/57<c.toNat):c∉bF 46 (l.map Lib.decDigits):=by
 induction l with
 |nil=>simp[bF]
 |cons n l ih=>
  cases l with
  |nil=>exact Ey ab
  |cons m l=>
   rw[cY,vW 46 _ ai];intro hc
   rcases fJ.1 hc with hc|hc
   ·exact Ey ab hc
   ·rcases bZ.1 hc with rfl|hc
    ·revert h;decide
    ·exact ih hc
theorem nA.als{q:Qn}{s:aw}(h:nA q s)(hc:c=61\/c=93):c∉s:=by
 cases h with
 |f k a b d i hk ha hb hd hi=>
  have h1:c.toNat<46\/57<c.toNat:=by rcases hc with rfl|rfl<;>decide
  have h2:c≠32:=by rcases hc with rfl|rfl<;>decide
  unfold KT;rw[vW 32 _ ai,vW 32 _ ai];intro hm
  rcases fJ.1 hm with hm|hm
  ·exact aBi hk hc hm
  ·rcases bZ.1 hm with e|hm
   ·exact h2 e
   ·rcases fJ.1 hm with hm|hm
    ·exact alr h1 hm
    ·rcases bZ.1 hm with e|hm
     ·exact h2 e
     ·exact Ey ab hm
theorem aBj{q:aw}(h:(61:UInt8)∉q):cutAt [[32,61,32]] (q++([32,61,32]++R))=q.length:=by
 refine alo ai ?_ (.inr ⟨[32,61,32],ai,alq q _ R⟩);intro p hp j hj;simp only[rO] at hp;subst hp
 cases ho:Lib.occAt (q++([32,61,32]++R)) [32,61,32] j with
 |false=>rfl
 |true=>
  exfalso;obtain⟨_,e1⟩:=alp ho;by_cases xr:j+1<q.length
  ·rw[lJ xr] at e1;exact h (dD e1)
  ·have hj3:j+1-q.length=0:=ab;rw[jz ab,hj3] at e1;cases e1
def vY (a:Ask):aw:=mU a.qn++([32,61,32]++(Lib.itoa a.n++47::Lib.itoa a.arity))
theorem alu(a:Ask)(R:aw):gY a++R=[32,91]++(vY a++93::R):=by
 unfold gY vY;simp only[List.append_assoc,List.cons_append,List.nil_append]
theorem aBk{a:Ask}(h:xi a)(R:aw):(93:UInt8)∉vY a/\zM (vY a++93::R)=(fE a,true):=by
 obtain⟨hq,h0,h1,h2⟩:=h;obtain⟨s,hs⟩:=nA.xS hq;have ht:=hs.text;have h61:=hs.als (.inl rfl);have h93:=hs.als (.inr rfl)
 obtain⟨n,hn⟩:∃n:Nat,a.n=n:=⟨a.n.toNat,ab⟩
 obtain⟨m,hm⟩:∃m:Nat,a.arity=m:=⟨a.arity.toNat,ab⟩
 have ho:vY a=s++([32,61,32]++(Lib.decDigits n++47::Lib.decDigits m)):=by
  unfold vY;rw[ht,hn,hm,Lib.itoa_nonneg,Lib.itoa_nonneg]
 have hno:(93:UInt8)∉vY a:=by
  rw[ho];intro hc;simp only[fJ,bZ,kB,lO] at hc
  rcases hc with hc|hc|hc|hc|hc
  ·exact h93 hc
  ·revert hc;decide
  ·exact Ey (.inr aq) hc
  ·revert hc;decide
  ·exact Ey (.inr aq) hc
 refine⟨hno,?_⟩;unfold zM;simp only[];rw[uE hno,nW,ho,aBj h61,nW,lM,hs.ref];rw[show([32,61,32]++(Lib.decDigits n++47::Lib.decDigits m):aw).drop 3=Lib.decDigits n++47::Lib.decDigits m from rfl];rw[uE (Ey (.inl aq)),nW,lM,show(47::Lib.decDigits m:aw).drop 1=Lib.decDigits m from rfl,BP n ab,BP m ab];unfold fE;rw[hn];have e1:decide ((0:Int)<=(n:Int))=true:=fh ab;have e2:decide ((n:Int)<(m:Int))=true:=fh ab;rw[e1,e2];rfl
theorem alv:∀(l:List Ask) (f:Nat) (R:aw) (acc:List aI),(∀a∈l,xi a)->l.length<f->Lib.index R [32,91]≠0->
  uD f true (l.flatMap gY++R) acc=some (true,R,acc++l.map fE)
 |[],f,R,acc,_,hf,hR=>by
  cases f with
  |zero=>simp at hf
  |succ f=>simp[uD,hR]
 |a::l,f,R,acc,h,hf,hR=>by
  cases f with
  |zero=>simp at hf
  |succ f=>
   obtain⟨h1,h2⟩:=aBk (h a ai) (l.flatMap gY++R)
   have e0:(a::l).flatMap gY++R=[32,91]++(vY a++93::(l.flatMap gY++R)):=by
    rw[qu,List.append_assoc,alu]
   have e1:Lib.index ([32,91]++(vY a++93::(l.flatMap gY++R))) [32,91]=0:=(Eo _ _).2 (by unfold Lib.hasPrefix;exact ED.2 ⟨_,rfl⟩);have e2:([32,91]++(vY a++93::(l.flatMap gY++R)):aw).drop 2=vY a++93::(l.flatMap gY++R):=rfl;rw[e0];unfold uD;rw[aj ⟨rfl,e1⟩,e2,uE h1,lM,af ai,h2];rw[show(93::(l.flatMap gY++R):aw).drop 1=l.flatMap gY++R from rfl];rw[alv l f R _ (fun b hb=>h b (kA _ hb)) (by simp at hf;omega) hR];simp
end
section
open Go.RowKit
variable {a b p:aw} {bf:List Nat} {i:Nat}
theorem alw (i:Nat):∀(bf:List Nat) (last:Int),(∀x∈bf,x<i)->(∀x∈bf,last<(x:Int))->bf.Pairwise (·<·)->xU i last (bf.map fun n:Nat=>(n:Int))=true
 |[],_,_,_,_=>rfl
 |b::bf,last,h1,h2,h3=>by
  have hb:=h1 b ai;have hl:=h2 b ai;rw[cY];unfold xU;rw[alw i bf b (fun x hx=>h1 x (kA _ hx)) (fun x hx=>by have:=(zZ.1 h3).1 x hx;omega) (zZ.1 h3).2];rw[fh (show(0:Int)<=(b:Int) by omega),fh (show(b:Int)<(i:Int) by omega),fh hl];rfl
theorem aBl(l:List Nat)(h:l≠[])(hl:∀n∈l,n<=2147483647):qj 44 (bF 44 (l.map Lib.decDigits))=l.map fun n:Nat=>(n:Int):=by
 have hne:l.map Lib.decDigits≠[]:=fun e=>h (List.map_eq_nil_iff.1 e)
 unfold qj
 rw[af (akh hne (fun a ha=>by
  obtain⟨n,_,rfl⟩:=dh.1 ha
  exact JY n)),BN 44 _ hne (fun a ha=>by
  obtain⟨n,_,rfl⟩:=dh.1 ha
  exact Ey (.inl aq)),List.map_map]
 exact Ix (fun n hn=>BP n (hl n hn))
theorem abD{s:aw}(h:Lib.hasPrefix s p=false):Lib.index s p≠0:=fun e=>by
 rw[(Eo s p).1 e] at h;cases h
theorem alx{t:aw}:Lib.index (p++t) p=0:=(Eo _ _).2 (by unfold Lib.hasPrefix;exact ED.2 ⟨_,rfl⟩)
def Uj (i:Nat)(bf:List Nat):Prop:=(∀x∈bf,x<i/\x<=2147483647)/\bf.Pairwise (·<·)
theorem OZ(bf:List Nat):(bf=[]/\eY bf=[])\/(bf≠[]/\eY bf=[32,97,102,116,101,114,32]++bF 44 (bf.map Lib.decDigits)):=by
 by_cases h:bf=[]
 ·exact .inl ⟨h,by unfold eY;rw[aj h]⟩
 ·refine .inr ⟨h,?_⟩;unfold eY;rw[af h,List.map_map,show bf.map (Lib.itoa∘fun n:Nat=>(n:Int))=bf.map Lib.decDigits from Ix (fun n _=>Lib.itoa_nonneg n)]
theorem aly(h:Uj i bf):(if Lib.index (eY bf) [32,97,102,116,101,114,32]=0 then
  (true && TW i (qj 44 ((eY bf).drop 7)) (qj 44 ((eY bf).drop 7)).length) && (decide (0<(qj 44 ((eY bf).drop 7)).length)||(eY bf==[]))
 else true && (eY bf==[]))=true:=by
 rcases OZ bf with⟨rfl,e⟩|⟨hne,e⟩
 ·rw[e,af (OJ ai)]<;>rfl
 ·rw[e,aj alx];rw[show([32,97,102,116,101,114,32]++bF 44 (bf.map Lib.decDigits):aw).drop 7=bF 44 (bf.map Lib.decDigits) from rfl];rw[aBl bf hne (fun n hn=>(h.1 n hn).2),ako,alw i bf (-1) (fun x hx=>(h.1 x hx).1) (fun x _=>ab) h.2];have hl:0<bf.length:=Cf.2 hne;rw[dy,fh hl];rfl
theorem aBm(h:Uj i bf)(o:Bool):En i true (qm o++eY bf)=true:=by
 unfold En;simp only[]
 cases o with
 |true=>
  rw[show qm true++eY bf=[32,42]++eY bf from rfl,aj alx,show([32,42]++eY bf:aw).drop 2=eY bf from rfl];exact aly h
 |false=>
  have h1:Lib.index (qm false++eY bf) [32,42]≠0:=by
   rw[show qm false++eY bf=eY bf from rfl]
   rcases OZ bf with⟨_,e⟩|⟨_,e⟩
   ·rw[e];exact OJ ai
   ·rw[e];exact abD rfl
  rw[af h1];exact aly h
theorem aBn(o:Bool):Lib.index (qm o++eY bf) [32,91]≠0:=by
 cases o with
 |true=>exact abD rfl
 |false=>
  rw[show qm false++eY bf=eY bf from rfl]
  rcases OZ bf with⟨_,e⟩|⟨_,e⟩
  ·rw[e];exact OJ ai
  ·rw[e];exact abD rfl
theorem aBo(l:List Ask)(o:Bool)(bf:List Nat):Tl (l.flatMap gY++(qm o++eY bf)):=by
 cases l with
 |cons a l=>
  refine .inr ⟨[32,91],by simp[ko],vY a++93::(l.flatMap gY++(qm o++eY bf)),?_⟩;rw[qu,List.append_assoc,alu]
 |nil=>
  cases o with
  |true=>exact .inr ⟨[32,42],by simp[ko],eY bf,rfl⟩
  |false=>
   rcases OZ bf with⟨_,e⟩|⟨_,e⟩
   ·exact .inl (by rw[e]<;>rfl)
   ·exact .inr ⟨[32,97,102,116,101,114,32],by simp[ko],bF 44 (bf.map Lib.decDigits),by rw[e];rfl⟩
def Ia (i:Nat)(s:az)(bf:List Nat):Prop:=su s.ev/\(∀a∈s.asks,xi a)/\Uj i bf
def zR (i:Nat)(s:az)(bf:List Nat):aw:=BS i s++rK s.asks s.asks.length++qm s.aX++eY bf
theorem aBp(i:Nat)(s:az)(bf:List Nat):Et i s bf=zR i s bf++[10]:=rfl
theorem aBq{s:az}(h:Ia i s bf):line i (zR i s bf)=some (s.ev,s.asks.map fE):=by
 obtain⟨he,ha,hb⟩:=h;obtain⟨te,Lc⟩:=mn.xS he
 have e0:zR i s bf=head i++(te++(s.asks.flatMap gY++(qm s.aX++eY bf))):=by
  unfold zR BS head rK;rw[fx,Lib.itoa_nonneg,Lc.text];simp only[List.append_assoc]
 rw[<-aAF];unfold abc
 have e1:Lib.hasPrefix (zR i s bf) (head i)=true:=by
  rw[e0];unfold Lib.hasPrefix;exact ED.2 ⟨_,rfl⟩
 rw[aj e1,e0,lM];unfold abb;rw[aBh Lc.ns (aBo s.asks s.aX bf),nW,lM,Lc.ref]
 have hlen:s.asks.length<(te++(s.asks.flatMap gY++(qm s.aX++eY bf))).length+1:=by
  have:s.asks.length<=(s.asks.flatMap gY).length:=by
   clear e0 e1 ha
   induction s.asks with
   |nil=>simp
   |cons a l ih=>
    have h2:1<=(gY a).length:=by unfold gY;simp<;>omega
    rw[qu,List.length_append,List.length_cons];omega
  simp only[List.length_append];omega
 rw[alv s.asks _ _ [] ha hlen (aBn s.aX)];simp only[];rw[aj (aBm hb s.aX)];rfl
theorem abE(k:Nat)(h:k<8):(10:UInt8)∉dt.getD k []:=by
 have key:∀x:Fin 8,(10:UInt8)∉dt.getD x.val []:=aq;exact key ⟨k,h⟩
theorem aBr(k:Nat)(h:k<4):(10:UInt8)∉dM.getD k []:=by
 have key:∀x:Fin 4,(10:UInt8)∉dM.getD x.val []:=aq;exact key ⟨k,h⟩
theorem Ez{c:UInt8}(h1:(10:UInt8)∉a)(hc:(10:UInt8)≠c)(h2:(10:UInt8)∉b):(10:UInt8)∉a++c::b:=by
 intro h
 rcases fJ.1 h with h|h
 ·exact h1 h
 ·rcases bZ.1 h with h|h
  ·exact hc h
  ·exact h2 h
theorem vZ(h1:(10:UInt8)∉a)(h2:(10:UInt8)∉b):(10:UInt8)∉a++b:=by
 intro h
 rcases fJ.1 h with h|h
 ·exact h1 h
 ·exact h2 h
theorem zS(n:Nat):(10:UInt8)∉Lib.decDigits n:=Ey (.inl aq)
theorem alz(l:List Nat):(10:UInt8)∉bF 46 (l.map Lib.decDigits):=alr (.inl aq)
theorem mn.abF{e:Ev}{s:aw}(h:mn e s):(10:UInt8)∉s:=by
 cases h with
 |f1 k nd r hk hn hr=>exact Ez (abE k ab) aq (Ez (zS nd) aq (zS r))
 |f2 k nd a b c d x hk hn ha hb hc hd hx=>exact Ez (abE k ab) aq (Ez (zS nd) aq (alz _))
 |f3 nd hn=>exact Ez (abE 7 ab) aq (zS nd)
theorem nA.abF{q:Qn}{s:aw}(h:nA q s):(10:UInt8)∉s:=by
 cases h with
 |f k a b c i hk ha hb hc hi=>exact Ez (aBr k ab) aq (Ez (alz _) aq (zS i))
theorem aBs{a:Ask}(h:xi a):(10:UInt8)∉gY a:=by
 obtain⟨hq,h0,h1,h2⟩:=h;obtain⟨s,hs⟩:=nA.xS hq;unfold gY;rw[hs.text,OP h0,OP ab];exact vZ (vZ (vZ (vZ (vZ (vZ aq hs.abF) aq) (zS _)) aq) (zS _)) aq
theorem aBt{s:az}(h:Ia i s bf):(10:UInt8)∉zR i s bf:=by
 obtain⟨he,ha,hb⟩:=h;obtain⟨te,Lc⟩:=mn.xS he;unfold zR BS rK;rw[fx,Lib.itoa_nonneg,Lc.text];refine vZ (vZ (vZ (vZ (vZ (zS i) aq) Lc.abF) ?_) (by cases s.aX<;>decide)) ?_
 ·intro hc;obtain⟨a,h1,h2⟩:=yh.1 hc;exact aBs (ha a h1) h2
 ·rcases OZ bf with⟨_,e⟩|⟨hne,e⟩
  ·rw[e];simp
  ·rw[e];refine vZ aq ?_;clear e hb hne
   induction bf with
   |nil=>simp[bF]
   |cons b l ih=>
    cases l with
    |nil=>exact zS b
    |cons c l=>
     rw[cY,vW 44 _ ai];exact Ez (zS b) aq ih
def bodies (F:Nat->List Nat):Nat->List az->List aw
 |_,[]=>[]
 |k,s::l=>zR k s (F k)::bodies F (k+1) l
theorem alA (F:Nat->List Nat):∀(l:List az) (k:Nat),(bodies F k l).length=l.length
 |[],_=>rfl
 |_::l,k=>by simp[bodies,alA F l (k+1)]
theorem alB (F:Nat->List Nat)(x:az):∀(l:List az) (k:Nat),bodies F k (l++[x])=bodies F k l++[zR (k+l.length) x (F (k+l.length))]
 |[],k=>by simp[bodies]
 |s::l,k=>by
  rw[List.cons_append];unfold bodies;rw[alB F x l (k+1),List.cons_append,List.length_cons,show k+1+l.length=k+(l.length+1) by omega]
theorem alC (l:List az)(F:Nat->List Nat):∀m,m<=l.length->mZ l F m=(bodies F 0 (l.take m)).flatMap fun b=>b++[10]
 |0,_=>by simp[mZ,bodies]
 |m+1,hm=>by
  rw[Ui l F m ab,alC l F m ab,List.take_succ_eq_append_getElem ab,alB,nC,aBp]
  have:(l.take m).length=m:=by rw[dS];omega
  simp[this]
theorem alD:∀(bs:List aw),bs≠[]->(bs.flatMap fun b=>b++[10])=bF 10 bs++[10]
 |[],h=>absurd rfl h
 |[b],_=>by simp[bF]
 |b::c::bs,_=>by
  rw[qu,alD (c::bs) ai,vW 10 b ai];simp
theorem alE (F:Nat->List Nat):∀(l:List az) (k:Nat),(∀j (hj:j<l.length),Ia (k+j) l[j] (F (k+j)))->lines k (bodies F k l)=some (l.map az.ev,l.flatMap fun s=>s.asks.map fE)
 |[],_,_=>rfl
 |s::l,k,h=>by
  have h0:=h 0 ai;unfold bodies;rw[ajK,aBq (by simpa using h0)]
  rw[alE F l (k+1) (fun j hj=>by
   have:=h (j+1) (by simpa using hj);rw[show k+(j+1)=k+1+j by omega] at this
   simpa using this)]
  rfl
theorem alF:∀(bs:List aw),(∀b∈bs,(10:UInt8)∉b)->(bs.flatMap fun b=>b++[10]).count 10=bs.length
 |[],_=>rfl
 |b::bs,h=>by
  rw[qu,Ac,Ac,alF bs (fun c hc=>h c (kA _ hc)),List.count_eq_zero_of_not_mem (h b ai)];simp;omega
theorem alG (F:Nat->List Nat):∀(l:List az) (k:Nat),(∀j (hj:j<l.length),Ia (k+j) l[j] (F (k+j)))->∀b∈bodies F k l,(10:UInt8)∉b/\b≠[]
 |[],_,_,_,hb=>by simp[bodies] at hb
 |s::l,k,h,b,hb=>by
  unfold bodies at hb
  rcases bZ.1 hb with rfl|hb
  ·have h0:=h 0 ai;refine⟨aBt (by simpa using h0),?_⟩;unfold zR BS;simp
  ·exact alG F l (k+1) (fun j hj=>by
    have:=h (j+1) (by simpa using hj);rw[show k+(j+1)=k+1+j by omega] at this
    simpa using this) b hb
theorem aBu(l:List az)(F:Nat->List Nat)(m:Nat)(hm:m<=l.length)(yQ:m<=5000)(h:∀j (hj:j<l.length),Ia j l[j] (F j)):
  zu (mZ l F m)=.ok ((l.take m).map az.ev) ((l.take m).flatMap fun s=>s.asks.map fE):=by
 have hg:∀j (hj:j<(l.take m).length),Ia (0+j) (l.take m)[j] (F (0+j)):=fun j hj=>by
  rw[dS] at hj;have:=h j ab;rw[List.getElem_take,eM];exact this
 have hb:=alG F (l.take m) 0 hg;have OX:=alA F (l.take m) 0
 have mM:(l.take m).length=m:=by rw[dS];omega
 rw[alC l F m hm];unfold zu;have hc:=alF _ (fun b yy=>(hb b yy).1);rw[af (by rw[hc,OX];omega)];by_cases h0:bodies F 0 (l.take m)=[]
 ·have:l.take m=[]:=by
   rw[h0] at OX;exact zV.1 OX.symm
  rw[h0,this];rfl
 ·rw[alD _ h0,af ai,aj ai,List.dropLast_concat,BN 10 _ h0 (fun b yy=>(hb b yy).1),alE F (l.take m) 0 hg]
end
section
open Go.RowKit
theorem aBv (l:List az)(i:Nat)(hi:i<l.length)(hl:l.length<=64):Uj i (aR (mo l) i):=by
 rw[alk l i hi];constructor
 ·intro x hx;have vP:=(mq.1 hx).2;unfold vR at vP;rw[bO] at vP;have:=Gp l l.length x i ab vP.1;omega
 ·exact List.pairwise_lt_range.filter _
theorem aBw (l:List az)(hl:l.length<=64)(h:∀s∈l,su s.ev/\∀a∈s.asks,xi a):∀j (hj:j<l.length),Ia j l[j] (aR (mo l) j):=fun j hj=>
 ⟨(h l[j] (cA hj)).1,(h l[j] (cA hj)).2,aBv l j hj hl⟩
theorem aBx (l:List az)(hl:l.length<=64)(h:∀s∈l,su s.ev/\∀a∈s.asks,xi a):zu (BU l)=.ok (l.map az.ev) (l.flatMap fun s=>s.asks.map fE):=by
 have:=aBu l (fun i=>aR (mo l) i) l.length aA ab (aBw l hl h);rw[fx] at this;exact this
end
end Go.Proofs.YtngblilamkkikaaGreatDoor
