import Derived.Test.YtkanpepkdcmpmaaGreatDoorY11
import Derived.Test.YtkanpepkdcmpmaaGreatDoorY25
set_option maxHeartbeats 40000000
set_option maxRecDepth 100000
set_option linter.all false
namespace Go.Proofs.YtkanpepkdcmpmaaGreatDoor
section
open Go.RowKit
def nO (run:List ay)(i:Nat):List Int:=(run[i]?.map ay.key).getD []
theorem Bj {run:List ay}{i:Nat}(h:i<run.length):nO run i=run[i].key:=by simp[nO,h]
def xV (run:List ay)(done:List Nat)(i m:Nat):Bool:=(List.range m).all fun k=> !dc run k i||decide (k∈done)
def mA (run:List ay)(done:List Nat)(i:Nat):Bool:=!decide (i∈done) && xV run done i run.length
def wb (run:List ay)(m:Nat):Option Nat->Bool
 |none=>true
 |some j=>decide (aK (nO run m) (nO run j)<0)
def iQ (run:List ay)(done:List Nat):Nat->Option Nat
 |0=>none
 |m+1=>if mA run done m && wb run m (iQ run done m) then some m else iQ run done m
def Bk (run:List ay):Nat->List Nat->List Nat
 |0,done=>done
 |f+1,done=>match iQ run done run.length with
  |some b=>Bk run f (done++[b])
  |none=>done
def Jo (run:List ay):List Nat:=Bk run run.length []
def iq (run:List ay)(l:List Nat):List ay:=l.filterMap fun i=>run[i]?
def fS (run:List ay):List ay:=iq run (Jo run)
theorem Mt (run:List ay)(done:List Nat):∀(m:Nat) (b:Nat),iQ run done m=some b->b<m/\mA run done b=true
 |0,_,h=>by cases h
 |m+1,b,h=>by
  rw[iQ] at h;by_cases hc:(mA run done m && wb run m (iQ run done m))=true
  ·rw[aq hc] at h;cases h;simp only[bV] at hc;exact⟨ab,hc.1⟩
  ·rw[af hc] at h;have:=Mt run done m b h;exact⟨ab,this.2⟩
theorem abH (run:List ay)(done:List Nat):∀(m:Nat),iQ run done m=none->∀i<m,mA run done i=false
 |0,_,i,hi=>ab
 |m+1,h,i,hi=>by
  rw[iQ] at h;by_cases hc:(mA run done m && wb run m (iQ run done m))=true
  ·rw[aq hc] at h;cases h
  ·by_cases UE:i=m
   ·subst UE;rw[Gd];intro hf;rw[af hc] at h;rw[h,hf] at hc;simp[wb] at hc
   ·rw[af hc] at h;exact abH run done m h i ab
theorem akZ (run:List ay)(done:List Nat):∀(m i:Nat),i<m->i<run.length->i∉done->∃j,j<run.length/\mA run done j=true
 |0,i,h,_,_=>ab
 |m+1,i,h,hi,hd=>by
  by_cases hx:∃j,j<i/\j∉done
  ·obtain⟨j,hj,PH⟩:=hx;exact akZ run done m j ab ab PH
  ·refine⟨i,hi,?_⟩;simp only[mA,bV,DC,Dw];refine⟨hd,?_⟩;unfold xV;rw[fq];intro k hk;by_cases hl:dc run k i=true
   ·have lC:=(Il run run.length k i ab hl).1
    have:k∈done:=by
     by_cases nK:k∈done
     ·exact nK
     ·exact absurd ⟨k,lC,nK⟩ hx
    simp[this]
   ·simp[hl]
theorem abI (run:List ay)(done:List Nat)(h:∃i,i<run.length/\i∉done):∃b,iQ run done run.length=some b/\b<run.length/\b∉done:=by
 obtain⟨i,hi,hd⟩:=h
 cases hp:iQ run done run.length with
 |none=>
  obtain⟨j,hj,hf⟩:=akZ run done (i+1) i ab hi hd;rw[abH run done _ hp j hj] at hf;cases hf
 |some b=>
  have:=Mt run done _ b hp;refine⟨b,rfl,this.1,?_⟩;have h2:=this.2;simp only[mA,bV,DC,Dw] at h2;exact h2.1
theorem abJ (n:Nat)(l:List Nat)(h:l.length<n):∃i,i<n/\i∉l:=by
 refine JX fun hc=> ?_
 have lB:∀i,i<n->i∈l:=fun i hi=>JX fun h'=>hc ⟨i,hi,h'⟩
 have kY:List.range n⊆l:=fun i hi=>lB i (gy.1 hi)
 have:=(Na (n:=n)).length_le_of_subset kY;simp at this;omega
theorem abK (run:List ay)(done:List Nat)(f:Nat)(b:Nat)(h:iQ run done run.length=some b):Bk run (f+1) done=Bk run f (done++[b]):=by
 rw[Bk,h]
theorem ala (run:List ay)(l:List Nat)(b:Nat)(h:b<run.length):iq run (l++[b])=iq run l++[run[b]]:=by
 simp[iq,h]
def Fs:Option Nat->Int|none=> -1|some b=>b
def gR (run:List ay)(d:List Nat)(i:Nat):Nat:=((List.range run.length).filter fun k=>dc run k i && !decide (k∈d)).length
def ur (run:List ay)(i m:Nat):Nat:=((List.range m).filter fun k=>dc run k i).length
theorem alb (p q:Nat->Bool)(b:Nat)(h1:p b=true)(h2:q b=false):∀n,b<n->(∀k<n,k≠b->p k=q k)->((List.range n).filter p).length=((List.range n).filter q).length+1
 |0,h,_=>ab
 |n+1,h,hk=>by
  rw[lV,qk,qk,List.length_append,List.length_append];by_cases e:b=n
  ·subst e
   have:(List.range b).filter p=(List.range b).filter q:=List.filter_congr fun k tA=>hk k (by have:=gy.1 tA;omega) (by have:=gy.1 tA;omega)
   rw[this];simp[h1,h2]
  ·rw[alb p q b h1 h2 n ab (fun k tA=>hk k ab)];have:=hk n ab (fun e'=>e e'.symm);simp only[List.filter_cons,List.filter_nil,this];omega
theorem alc (run:List ay)(d:List Nat)(b i:Nat)(hb:b<run.length)(hd:b∉d):gR run d i=gR run (d++[b]) i+if dc run b i then 1 else 0:=by
 unfold gR;by_cases h:dc run b i=true
 ·rw[aq h]
  refine alb _ _ b (by simp[h,hd]) ai _ hb fun k _ xr=> ?_
  simp[xr]
 ·rw[af h,qm];congr 1
  refine List.filter_congr fun k _=> ?_
  by_cases e:k=b
  ·subst e;simp[h]
  ·simp[e]
theorem ald (run:List ay)(i m:Nat):ur run i (m+1)=ur run i m+if dc run m i then 1 else 0:=by
 unfold ur;rw[lV,qk,List.length_append];by_cases h:dc run m i<;>simp[h]
theorem aAm (run:List ay)(i:Nat)(hi:i<run.length):ur run i i=gR run [] i:=by
 have key:∀d,ur run i (i+d)=ur run i i:=fun d=>by
  induction d with
  |zero=>rfl
  |succ d ih=>
   rw[show i+(d+1)=(i+d)+1 by omega,ald,ih,Zi run (i+d) i ab];simp
 have:=key (run.length-i);rw[show i+(run.length-i)=run.length by omega] at this;rw[<-this];unfold ur gR;simp
theorem ale (run:List ay)(d:List Nat)(i:Nat):gR run d i<=run.length:=by
 unfold gR;exact bj (nQ _ _) (by rw[BG];omega)
theorem aAn (run:List ay)(i m:Nat):ur run i m<=m:=by
 unfold ur;exact bj (nQ _ _) (by rw[BG];omega)
theorem aAo (run:List ay)(d:List Nat)(i:Nat):xV run d i run.length=decide (gR run d i=0):=by
 rw[rR];unfold xV gR;rw[dh,BC,List.filter_eq_nil_iff,fq];constructor
 ·intro h k hk;have:=h k hk;simp only[uJ,DC,dh] at this;simp only[bV,DC,Dw,not_and,Classical.not_not];intro h1
  rcases this with h2|h2
  ·rw[h1] at h2;cases h2
  ·exact h2
 ·intro h k hk;have:=h k hk;simp only[bV,DC,Dw,not_and,Classical.not_not] at this;simp only[uJ,DC,dh];by_cases hl:dc run k i=true
  ·exact .inr (this hl)
  ·exact .inl (by simpa using hl)
theorem alf (run:List ay)(d:List Nat)(i:Nat):mA run d i=(!decide (i∈d) && decide (gR run d i=0)):=by rw[mA,aAo]
theorem abL (run:List ay)(l:List Nat)(h:∀i∈l,i<run.length):(iq run l).length=l.length:=by
 induction l with
 |nil=>rfl
 |cons a l ih=>
  have h1:=h a ai;have h2:=ih (fun i hi=>h i (by simp[hi]));unfold iq at h2⊢;simp[h1,h2]
theorem UF (run:List ay)(d:List Nat)(m:Nat)(h1:mA run d m=true)(h2:wb run m (iQ run d m)=true):iQ run d (m+1)=some m:=by rw[iQ,h1,h2];rfl
theorem PI (run:List ay)(d:List Nat)(m:Nat)(h:mA run d m=false\/wb run m (iQ run d m)=false):iQ run d (m+1)=iQ run d m:=by
 rw[iQ]
 rcases h with h|h<;>simp[h]
end
section
variable {l l':List ay}
theorem PJ:∀a b:List Int,aK b a= - aK a b
 |[],[]=>rfl
 |[],_::_=>rfl
 |_::_,[]=>rfl
 |a::l,b::m=>by
  rw[jJ,jJ,PJ l m];unfold ic;by_cases h1:a<b
  ·have h2:¬b<a:=ab;simp[h1,h2]
  ·by_cases h2:b<a
   ·simp[h1,h2]
   ·simp[h1,h2]
theorem abM:∀a b:List Int,aK a b=0->a=b
 |[],[],_=>rfl
 |[],_::_,h=>by simp[aK] at h
 |_::_,[],h=>by simp[aK] at h
 |a::l,b::m,h=>by
  rw[jJ] at h;unfold ic at h;by_cases h1:a<b
  ·simp[h1] at h
  ·by_cases h2:b<a
   ·simp[h1,h2] at h
   ·have:a=b:=ab;subst this;simp at h;rw[abM l m h]
theorem alg:∀a b c:List Int,aK a b<0->aK b c<0->aK a c<0
 |[],b,[],h1,h2=>by
  cases b with
  |nil=>simp[aK] at h1
  |cons b m=>simp[aK] at h2
 |[],b,c::n,_,_=>by simp[aK]
 |a::l,[],c,h1,_=>by simp[aK] at h1
 |a::l,b::m,[],_,h2=>by simp[aK] at h2
 |a::l,b::m,c::n,h1,h2=>by
  rw[jJ] at h1 h2⊢;have ih:=alg l m n;unfold ic at*;by_cases x1:a<b
  ·by_cases x2:b<c
   ·have:a<c:=ab;simp[this]
   ·by_cases x3:c<b
    ·simp[x2,x3] at h2
    ·have:b=c:=ab;subst this;simp[x1]
  ·by_cases x2:b<a
   ·simp[x1,x2] at h1
   ·have:a=b:=ab;subst this;simp at h1;by_cases x3:a<c
    ·simp[x3]
    ·by_cases x4:c<a
     ·simp[x3,x4] at h2
     ·have:a=c:=ab;subst this;simp at h2⊢;exact ih h1 h2
theorem aAp(a b:ay):dw a b=dw b a:=by
 unfold dw;rw[show(a.ev.node==b.ev.node)=(b.ev.node==a.ev.node) from Bool.beq_comm,Bool.and_comm a.aJ b.aJ,Bool.or_assoc,Bool.or_assoc,Bool.or_comm (cB a b)];simp only[Bool.or_assoc]
theorem aAq{a b:ay}(h:aK a.key b.key=0):dw a b=true:=by
 have h1:=abM _ _ h;have h2:a.ev.ints=b.ev.ints:=(List.append_inj h1 rfl).1;have h3:=Ev.DL.1 h2;unfold dw;rw[h3];simp
def abN (l:List ay)(p:Nat):Prop:=p<l.length/\∀(q:Nat) (a s:ay),q<p->l[q]? =some a->l[p]? =some s->dw a s=false
def aAr (l:List ay)(p:Nat):Prop:=abN l p/\∀(q:Nat) (s t:ay),abN l q->q≠p->l[p]? =some s->l[q]? =some t->aK s.key t.key<0
inductive NF:List ay->List ay->Prop
 |nil:NF [] []
 |cons (l m:List ay) (p:Nat) (s:ay) (hs:l[p]? =some s) (hp:aAr l p) (h:NF (l.eraseIdx p) m):NF l (s::m)
def Sw (l l':List ay):Prop:=∃A x y B,l=A++x::y::B/\l'=A++y::x::B/\dw x y=false
theorem Sw.symm(h:Sw l l'):Sw l' l:=by
 obtain⟨A,x,y,B,rfl,rfl,h⟩:=h;exact⟨A,y,x,B,rfl,rfl,by rw[aAp];exact h⟩
theorem Sw.length(h:Sw l l'):l'.length=l.length:=by
 obtain⟨A,x,y,B,rfl,rfl,_⟩:=h;simp
theorem Sw.append(h:Sw l l')(m:List ay):Sw (l++m) (l'++m):=by
 obtain⟨A,x,y,B,rfl,rfl,h⟩:=h;exact⟨A,x,y,B++m,ai,ai,h⟩
def fH (run:List ay)(d:List Nat):List Nat:=(List.range run.length).filter fun i=> !decide (i∈d)
theorem Ft(run:List ay)(d:List Nat)(i:Nat):i∈fH run d↔i<run.length/\i∉d:=by simp[fH]
theorem abO(run:List ay)(d:List Nat):(fH run d).Pairwise (·<·):=List.pairwise_lt_range.filter _
def PK (run:List ay)(d:List Nat):Prop:=∀j∈d,∀k,dc run k j=true->k∈d
theorem alh(run:List ay)(i k:Nat)(h1:i<k)(h2:k<run.length)(hd:qq run i k=true):dc run i k=true:=by
 rw[Oz,yk];exact⟨k,gy.2 h2,by simp[h1,hd]⟩
theorem ali (run:List ay)(d:List Nat)(hd:PK run d)(i:Nat):∀(m k:Nat),run.length<=k+m->k∉d->dc run k i=true->∃j,j∉d/\j<i/\i<run.length/\qq run j i=true
 |0,k,h,_,hl=>by
  have:=Il run run.length k i ab hl;omega
 |m+1,k,h,hk,hl=>by
  have lC:=Il run run.length k i ab hl;rw[Oz,yk] at hl;obtain⟨j,hj,hc⟩:=hl;simp only[bV,dh,uJ,DJ] at hc;obtain⟨⟨h1,h2⟩,h3⟩:=hc
  rcases h3 with rfl|h3
  ·exact⟨k,hk,h1,gy.1 hj,h2⟩
  ·have PH:j∉d:=fun PH=>hk (hd j PH k (alh run k j h1 (gy.1 hj) h2))
   exact ali run d hd i m j ab PH h3
theorem alj(run:List ay)(d:List Nat)(hd:PK run d)(i:Nat)(hi:i<run.length):mA run d i=true↔i∉d/\∀k∈fH run d,k<i->qq run k i=false:=by
 unfold mA xV;simp only[bV,DC,Dw,fq,gy,uJ,dh];constructor
 ·rintro⟨h1,h2⟩;refine⟨h1,fun k hk lC=> ?_⟩;rw[Ft] at hk;rw[Gd];intro hdp
  rcases h2 k hk.1 with h3|h3
  ·rw[alh run k i lC hi hdp] at h3;cases h3
  ·exact hk.2 h3
 ·rintro⟨h1,h2⟩;refine⟨h1,fun k hk=> ?_⟩;by_cases nK:k∈d
  ·exact .inr nK
  ·refine .inl ?_;rw[Gd];intro hl;obtain⟨j,Db,yU,Ux,hj4⟩:=ali run d hd i run.length k ab nK hl;rw[h2 j ((Ft run d j).2 ⟨ab,Db⟩) yU] at hj4;cases hj4
theorem abP (run:List ay)(d:List Nat):∀(m b:Nat),iQ run d m=some b->∀i<m,mA run d i=true->(i<b->aK (nO run b) (nO run i)<0)/\¬aK (nO run i) (nO run b)<0
 |0,_,h,_,_,_=>by cases h
 |m+1,b,h,i,hi,hf=>by
  rw[iQ] at h
  have Cp:∀x:List Int,¬aK x x<0:=fun x=>by have:=PJ x x;omega
  by_cases hc:(mA run d m && wb run m (iQ run d m))=true
  ·rw[aq hc] at h;cases h;simp only[bV] at hc;by_cases e:i=m
   ·subst e;exact⟨fun h=>ab,Cp _⟩
   ·have UE:i<m:=ab
    cases hp:iQ run d m with
    |none=>
     rw[abH run d m hp i UE] at hf;cases hf
    |some j=>
     have hb:=hc.2;rw[hp] at hb
     have hlt:aK (nO run m) (nO run j)<0:=by simpa [wb] using hb
     have ih:=abP run d m j hp i UE hf
     have key:aK (nO run m) (nO run i)<0:=by
      by_cases e2:aK (nO run j) (nO run i)<0
      ·exact alg _ _ _ hlt e2
      ·have h3:=ih.2;have h4:=PJ (nO run j) (nO run i);have h5:aK (nO run j) (nO run i)=0:=ab;rw[<-abM _ _ h5];exact hlt
     exact⟨fun _=>key,by have:=PJ (nO run m) (nO run i);omega⟩
  ·rw[af hc] at h;have hbm:=(Mt run d m b h).1;by_cases e:i=m
   ·subst e;refine⟨fun h'=>ab,fun hlt=>hc ?_⟩;rw[hf,h];simpa [wb] using hlt
   ·exact abP run d m b h i ab hf
theorem aAs(run:List ay)(d:List Nat)(p b:Nat)(hp:(fH run d)[p]? =some b):fH run (d++[b])=(fH run d).eraseIdx p:=by
 have h1:fH run (d++[b])=(fH run d).filter fun i=> !decide (i=b):=by
  unfold fH;rw[List.filter_filter]
  refine List.filter_congr fun i _=> ?_
  by_cases e:i=b<;>simp[e]
 rw[h1];have hs:=abO run d;obtain⟨iV,pG⟩:=bK.1 hp
 have Pg:fH run d=(fH run d).take p++b::(fH run d).drop (p+1):=by
  rw[<-pG,<-List.drop_eq_getElem_cons iV,List.take_append_drop]
 rw[List.eraseIdx_eq_take_drop_succ];generalize(fH run d).take p=A at*;generalize(fH run d).drop (p+1)=B at*;rw[Pg] at hs⊢;rw[List.pairwise_append] at hs;obtain⟨_,h3,h4⟩:=hs;rw[BF] at h3;rw[qk,List.filter_cons];simp only[decide_true,Bool.not_true,zJ,pd];rw[List.filter_eq_self.2,List.filter_eq_self.2]
 ·intro x hx;have:=h3.1 x hx;simp;omega
 ·intro x hx;have:=h4 x hx b ai;simp;omega
theorem getD_map(run:List ay)(l:List Nat)(h:∀i∈l,i<run.length)(p:Nat):(iq run l)[p]? =(l[p]?).bind fun i=>run[i]? :=by
 induction l generalizing p with
 |nil=>simp[iq]
 |cons a l ih=>
  have h1:=h a ai;have h2:=ih (fun i hi=>h i (by simp[hi]))
  have e:iq run (a::l)=run[a]::iq run l:=by simp[iq,h1]
  rw[e]
  cases p with
  |zero=>simp[h1]
  |succ p=>simpa using h2 p
theorem aAt(run:List ay)(l:List Nat)(h:∀i∈l,i<run.length)(p:Nat):iq run (l.eraseIdx p)=(iq run l).eraseIdx p:=by
 induction l generalizing p with
 |nil=>simp[iq]
 |cons a l ih=>
  have h1:=h a ai;have h2:=ih (fun i hi=>h i (by simp[hi]))
  have e:iq run (a::l)=run[a]::iq run l:=by simp[iq,h1]
  rw[e]
  cases p with
  |zero=>simp
  |succ p=>
   rw[List.eraseIdx_cons_succ,List.eraseIdx_cons_succ,<-h2 p];simp[iq,h1]
theorem alk(run:List ay)(d:List Nat)(hd:PK run d)(p i:Nat)(hp:(fH run d)[p]? =some i):abN (iq run (fH run d)) p↔mA run d i=true:=by
 have Af:=(Ft run d i).1 (eE hp)
 have lB:∀x∈fH run d,x<run.length:=fun x hx=>((Ft run d x).1 hx).1
 rw[alj run d hd i Af.1];have hs:=abO run d;have iV:=(bK.1 hp).1
 have Mu:(iq run (fH run d))[p]? =some run[i]:=by rw[getD_map run _ lB,hp];simp[Af.1]
 constructor
 ·rintro⟨_,h2⟩;refine⟨Af.2,fun k hk lC=> ?_⟩;obtain⟨q,hq⟩:=wH hk;have eb:=lB k hk
  have hqp:q<p:=by
   refine JX fun hn=> ?_
   obtain⟨fC,sK⟩:=bK.1 hq;obtain⟨_,pG⟩:=bK.1 hp;by_cases e:p=q
   ·subst e;rw[hp] at hq;cases hq;omega
   ·have:=List.pairwise_iff_getElem.1 hs p q iV fC ab;omega
  have:=h2 q run[k] run[i] hqp (by rw[getD_map run _ lB,hq];simp[eb]) Mu;rw[Oy eb Af.1];exact this
 ·rintro⟨_,h2⟩;refine⟨(bK.1 Mu).1,fun q a s hq ha eo=> ?_⟩;rw[Mu] at eo;cases eo;have fC:q<(fH run d).length:=ab;have sK:(fH run d)[q]? =some (fH run d)[q]:=cw fC;have gP:=lB _ (bP fC);rw[getD_map run _ lB,sK] at ha;simp[gP] at ha;subst ha
  have hlt:(fH run d)[q]<i:=by
   have:=List.pairwise_iff_getElem.1 hs q p fC iV hq;obtain⟨_,pG⟩:=bK.1 hp;omega
  have:=h2 _ (bP fC) hlt;rw[Oy gP Af.1] at this;exact this
theorem alm (run:List ay):∀(f:Nat) (d:List Nat),f=run.length-d.length->d.length<=run.length->d.Nodup->(∀i∈d,i<run.length)->PK run d->∃t,Bk run f d=d++t/\NF (iq run (fH run d)) (iq run t)
 |0,d,hf,hl,cP,hlt,hd=>by
  refine⟨[],by simp[Bk],?_⟩
  have:fH run d=[]:=by
   rw[List.eq_nil_iff_forall_not_mem];intro i hi;obtain⟨h1,h2⟩:=(Ft run d i).1 hi
   have kY:(i::d)⊆List.range run.length:=fun x hx=>by
    rcases cz.1 hx with rfl|hx
    ·exact gy.2 h1
    ·exact gy.2 (hlt x hx)
   have:=(List.nodup_cons.2 ⟨h2,cP⟩).length_le_of_subset kY;simp at this;omega
  rw[this];exact NF.nil
 |f+1,d,hf,hl,cP,hlt,hd=>by
  obtain⟨b,hb,fc,jl⟩:=abI run d (abJ _ _ ab);have lR:=(Mt run d _ b hb).2
  have lB:∀x∈fH run d,x<run.length:=fun x hx=>((Ft run d x).1 hx).1
  obtain⟨p,hp⟩:=wH ((Ft run d b).2 ⟨fc,jl⟩)
  have Ah:PK run (d++[b]):=by
   intro j hj k hk
   rcases fL.1 hj with hj|hj
   ·exact Gb _ (hd j hj k hk)
   ·simp at hj;subst hj;have eb:=Il run run.length k j ab hk;simp only[mA,xV,bV,fq,gy,uJ,DC,dh] at lR
    rcases lR.2 k ab with h|h
    ·rw[hk] at h;cases h
    ·exact Gb _ h
  obtain⟨t,ht,hn⟩:=alm run f (d++[b]) (by rw[List.length_append];simp;omega) (by rw[List.length_append];simp;omega) (by
   rw[MX]
   exact⟨cP,ai,fun x hx y hy e=>by simp at hy;subst hy;subst e;exact jl hx⟩) (fun i hi=>by
   rcases fL.1 hi with h|h
   ·exact hlt i h
   ·simp at h;omega) Ah
  refine⟨b::t,by rw[abK run d f b hb,ht];simp,?_⟩
  have Mu:(iq run (fH run d))[p]? =some run[b]:=by rw[getD_map run _ lB,hp];simp[fc]
  have e1:iq run (b::t)=run[b]::iq run t:=by simp[iq,fc]
  rw[e1];refine NF.cons _ _ p _ Mu ⟨(alk run d hd p b hp).2 lR,fun q s u hq hqp hs hu=> ?_⟩ ?_
  ·rw[Mu] at hs;cases hs
   have fC:q<(fH run d).length:=by
    have:=hq.1;rw[abL run _ lB] at this;exact this
   have sK:(fH run d)[q]? =some (fH run d)[q]:=cw fC;have gP:=lB _ (bP fC);rw[getD_map run _ lB,sK] at hu;simp[gP] at hu;subst hu;have hqf:=(alk run d hd q _ sK).1 hq;have tR:=abP run d _ b hb _ gP hqf;rw[Bj gP,Bj fc] at tR;by_cases Jp:(fH run d)[q]<b
   ·exact tR.1 Jp
   ·refine JX fun LQ=> ?_
    have h4:=PJ run[b].key run[(fH run d)[q]].key;have h5:aK run[b].key run[(fH run d)[q]].key=0:=ab
    have hne:(fH run d)[q]≠b:=fun e=>by
     rw[e] at sK;have iV:=(bK.1 hp).1;have aAu:(fH run d).Nodup:=(abO run d).imp (fun h=>ab);exact hqp ((List.getElem?_inj fC aAu).1 (sK.trans hp.symm))
    have Ik:=aAq h5;have h6:=((alj run d hd _ gP).1 hqf).2 b ((Ft run d b).2 ⟨fc,jl⟩) ab;rw[Oy fc gP,Ik] at h6;cases h6
  ·rw[<-aAt run _ lB,<-aAs run d p b hp];exact hn
theorem Mw(run:List ay):NF run (fS run):=by
 obtain⟨t,ht,hn⟩:=alm run run.length [] ai ai List.nodup_nil ai (fun j hj=>by simp at hj)
 have e1:fH run []=List.range run.length:=by simp[fH]
 have e2:iq run (List.range run.length)=run:=by
  apply yj;intro p;rw[getD_map run _ (fun i hi=>gy.1 hi)];by_cases hp:p<run.length
  ·simp[hp]
  ·simp[hp]
 rw[e1,e2] at hn
 have e3:fS run=iq run t:=by
  unfold fS Jo;rw[ht];rfl
 rw[e3];exact hn
end
section
open Go.RowKit
variable {l m:List ay} {p:Nat×Nat}
def gS (a:Ask):aj:=[32,91]++gQ a.qn++[32,61,32]++Lib.itoa a.n++[47]++Lib.itoa a.arity++[93]
def lp (l:List Ask)(k:Nat):aj:=(l.take k).flatMap gS
theorem aln(l:List Ask)(k:Nat)(h:k<l.length):lp l (k+1)=lp l k++gS l[k]:=by
 unfold lp;rw[List.take_succ_eq_append_getElem h,oY];simp
def sV (i:Nat)(s:ay):aj:=Lib.itoa i++[58,32]++ei s.ev
def mX (o:Bool):aj:=if o then [32,42] else []
def dQ (bf:List Nat):aj:=if bf=[] then [] else [32,97,102,116,101,114,32]++bI 44 ((bf.map fun n:Nat=>(n:Int)).map Lib.itoa)
def xX (i:Nat)(s:ay)(bf:List Nat):aj:=sV i s++lp s.asks s.asks.length++mX s.aJ++dQ bf++[10]
def et (l:List ay)(F:Nat->List Nat)(m:Nat):aj:=(List.range m).flatMap fun i=>match l[i]? with
 |some s=>xX i s (F i)
 |none=>[]
theorem Bl(l:List ay)(F:Nat->List Nat)(m:Nat)(h:m<l.length):et l F (m+1)=et l F m++xX m l[m] (F m):=by
 unfold et;rw[lV,oY];simp[h]
def lq (l:List ay):List (Nat×Nat):=(fF (dc l) l.length l.length).map fun p=>(p.2,p.1)
def zt (l:List ay):aj:=et l (fun i=>aQ (lq l) i) l.length
theorem abQ(h:NF l m):m.length=l.length:=by
 induction h with
 |nil=>rfl
 |cons l m p s hs _ _ ih=>
  have hp:=(bK.1 hs).1;rw[List.length_cons,ih,List.length_eraseIdx,aq hp];omega
theorem abR(h:NF l m):∀s∈m,s∈l:=by
 induction h with
 |nil=>intro s h;exact h
 |cons l m p s hs _ _ ih=>
  intro t ht
  rcases cz.1 ht with rfl|h
  ·exact eE hs
  ·exact List.mem_of_mem_eraseIdx (ih t h)
theorem abS(e:Ev)(h:∀x∈e.ints,bY x):(ei e).length<=200:=by
 by_cases hk:sQ e
 ·rw[<-aky hk];unfold CZ;have h1:=akl e.kind.toNat;have h2:=iP e.node (h _ (by simp[Ev.ints]));have h3:=iP e.arg (h _ (by simp[Ev.ints]))
  have h4:(bI 46 (e.msg.ints.map Lib.itoa)).length<=21*5:=Bf 46 20 _ (fun y hy=>by
   obtain⟨n,hn,rfl⟩:=dm.1 hy
   exact iP n (h n (by simp[Ev.ints,bQ.ints] at hn⊢;omega)))
  generalize dL.getD e.kind.toNat []=a at h1⊢;generalize Lib.itoa e.node=b at h2⊢;generalize Lib.itoa e.arg=c at h3⊢;generalize bI 46 (e.msg.ints.map Lib.itoa)=d at h4⊢;dsimp only;split
  ·simp;omega
  ·split
   ·simp;omega
   ·simp;omega
 ·have h1:ei e=[]:=by
   unfold ei;rw[af (fun hw=>hk ((Fk e).1 hw))]
  rw[h1];simp
theorem abT(q:Qn)(h:∀x∈q.ints,bY x):(gQ q).length<=200:=by
 by_cases hk:CO q
 ·rw[<-akz hk];unfold Jk
  have h0:q.kind.toNat<4:=by
   obtain⟨h1,_⟩:=hk;omega
  have h1:=akm q.kind.toNat h0;have h2:=iP q.index (h _ (by simp[Qn.ints]))
  have h4:(bI 46 ([q.node,q.handler,q.count].map Lib.itoa)).length<=21*3:=Bf 46 20 _ (fun y hy=>by
   obtain⟨n,hn,rfl⟩:=dm.1 hy
   exact iP n (h n (by simp[Qn.ints] at hn⊢;omega)))
  generalize eh.getD q.kind.toNat []=a at h1⊢;generalize Lib.itoa q.index=b at h2⊢;generalize bI 46 ([q.node,q.handler,q.count].map Lib.itoa)=d at h4⊢;simp;omega
 ·have h1:gQ q=[]:=by
   unfold gQ;rw[af (fun hw=>hk ((Fl q).1 hw))]
  rw[h1];simp
def Dc (s:ay):Prop:=(∀x∈s.ev.ints,bY x)/\(∀a∈s.asks,∀x∈a.ints,bY x)/\s.asks.length<=1000000
theorem alo{a:Ask}(h:∀x∈a.ints,bY x):∀x∈a.qn.ints,bY x:=fun x hx=>h x (by simp[Ask.qn,Qn.ints,Ask.ints] at hx⊢;omega)
theorem aAv(a:Ask)(h:∀x∈a.ints,bY x):(gS a).length<=300:=by
 have h1:=abT a.qn (alo h);have h2:=iP a.n (h _ (by simp[Ask.ints]));have h3:=iP a.arity (h _ (by simp[Ask.ints]));unfold gS;simp only[List.length_append,List.length_cons,List.length_nil];omega
theorem abU{α β:Type}(f:α->List β)(c:Nat)(l:List α)(h:∀a∈l,(f a).length<=c):(l.flatMap f).length<=c*l.length:=by
 have:=aab f c l h;rwa[Gj] at this
theorem alp(l:List Ask)(k:Nat)(h:∀a∈l,∀x∈a.ints,bY x)(hl:l.length<=1000000):(lp l k).length<=300000000:=by
 have h1:=abU gS 300 (l.take k) (fun a ha=>aAv a (h a (tu ha)))
 have h2:(l.take k).length<=1000000:=by rw[dN];omega
 unfold lp;omega
theorem uu(n:Nat)(h:n<=1000000):bY (n:Int):=⟨ab,ab⟩
theorem aAw(i:Nat)(s:ay)(hi:i<=64)(h:Dc s):(sV i s).length<=300:=by
 have h1:=iP (i:Int) (uu i ab);have h2:=abS s.ev h.1;unfold sV;simp only[List.length_append,List.length_cons,List.length_nil];omega
theorem aAx(bf:List Nat)(hb:bf.length<=10000)(h:∀n∈bf,n<=64):(dQ bf).length<=300000:=by
 unfold dQ;split
 ·simp
 ·have:=Bf 44 20 ((bf.map fun n:Nat=>(n:Int)).map Lib.itoa) (fun y hy=>by
   obtain⟨n,hn,rfl⟩:=dm.1 hy;obtain⟨m,hm,rfl⟩:=dm.1 hn
   exact iP _ (uu m (by have:=h m hm;omega)))
  simp only[dE] at this;simp only[List.length_append,List.length_cons,List.length_nil];omega
theorem PL(o:Bool):(mX o).length<=2:=by cases o<;>decide
theorem aAy(i:Nat)(s:ay)(bf:List Nat)(hi:i<=64)(h:Dc s)(hb:bf.length<=10000)(hn:∀n∈bf,n<=64):(xX i s bf).length<=301000000:=by
 have h1:=aAw i s hi h;have h2:=alp s.asks s.asks.length h.2.1 h.2.2;have h3:=PL s.aJ;have h4:=aAx bf hb hn;unfold xX;simp only[List.length_append,List.length_cons,List.length_nil];omega
theorem alq (l:List ay)(F:Nat->List Nat)(hl:l.length<=64)(h:∀s∈l,Dc s)(hF:∀i,(F i).length<=10000/\∀n∈F i,n<=64):∀m,m<=l.length->(et l F m).length<=301000000*m
 |0,_=>by simp[et]
 |m+1,hm=>by
  have ih:=alq l F hl h hF m ab;rw[Bl l F m ab,List.length_append];have:=aAy m l[m] (F m) ab (h _ (bP _)) (hF m).1 (hF m).2;omega
theorem alr{f:Nat->Nat->Bool}{n m:Nat}(h:p∈fF f n m):p.1<m/\p.2<n:=by
 unfold fF at h;obtain⟨a,ha,hp⟩:=BH.1 h;unfold lO at hp;obtain⟨c,hc,rfl⟩:=dm.1 hp;exact⟨gy.1 ha,gy.1 (nj.1 hc).1⟩
theorem als(l:List ay)(hl:l.length<=64):(lq l).length<=4096:=by
 unfold lq;rw[dE];have h1:=aib (dc l) l.length l.length;have h2:l.length*l.length<=64*64:=nR hl hl;omega
theorem aAz(h:p∈lq l):p.1<l.length/\p.2<l.length:=by
 unfold lq at h;obtain⟨q,hq,rfl⟩:=dm.1 h;have:=alr hq;exact⟨this.2,this.1⟩
theorem aAA(l:List ay)(hl:l.length<=64)(i:Nat):(aQ (lq l) i).length<=10000/\∀n∈aQ (lq l) i,n<=64:=by
 constructor
 ·unfold aQ;rw[dE];have h1:=nQ (fun p:Nat×Nat=>p.1==i) (lq l);have h2:=als l hl;omega
 ·intro n hn;unfold aQ at hn;obtain⟨p,hp,rfl⟩:=dm.1 hn;have:=aAz (nj.1 hp).1;omega
end
section
open Go.RowKit
def NS (t:aj):Prop:=∀j:Nat,t[j]? =some 32->∃y,t[j+1]? =some y/\48<=y.toNat/\y.toNat<=57
theorem NS.word {w:aj}(h:(32:UInt8)∉w):NS w:=fun _ hj=>absurd (eE hj) h
theorem NS.app {w t:aj}(h:(32:UInt8)∉w)(ht:NS t){y:UInt8}{r:aj}(hy:t=y::r)(h1:48<=y.toNat)(h2:y.toNat<=57):NS (w++32::t):=fun j hj=>by
 by_cases hjw:j<w.length
 ·rw[lT hjw] at hj;exact absurd (eE hj) h
 ·rw[iR ab] at hj⊢;by_cases h0:j=w.length
  ·subst h0;refine⟨y,?_,h1,h2⟩;rw[show w.length+1-w.length=1 by omega,hy];rfl
  ·obtain⟨k,hk⟩:∃k,j-w.length=k+1:=⟨j-w.length-1,ab⟩
   rw[hk,FW] at hj;obtain⟨z,hz,g1,g2⟩:=ht k hj;refine⟨z,?_,g1,g2⟩;rw[show j+1-w.length=(k+1)+1 by omega,FW];exact hz
theorem PM (n:Nat):∃y r,Lib.decDigits n=y::r/\48<=y.toNat/\y.toNat<=57:=by
 cases h:Lib.decDigits n with
 |nil=>exact absurd h (by simpa using Li n)
 |cons y r=>
  have:=SU n y (by rw[h];simp);exact⟨y,r,rfl,this.1,this.2⟩
theorem aAB (n:Nat)(l:List Nat):∃y r,bI 46 ((n::l).map Lib.decDigits)=y::r/\48<=y.toNat/\y.toNat<=57:=by
 obtain⟨y,r,h,h1,h2⟩:=PM n
 cases l with
 |nil=>exact⟨y,r,h,h1,h2⟩
 |cons m l=>
  refine⟨y,r++46::bI 46 ((m::l).map Lib.decDigits),?_,h1,h2⟩;rw[dF,uq 46 _ ai,h];rfl
theorem mV.ns {e:Ev}{s:aj}(h:mV e s):NS s:=by
 cases h with
 |f1 k nd r hk hn hr=>
  obtain⟨y,t,h1,h2,h3⟩:=PM nd;obtain⟨y',t',g1,g2,g3⟩:=PM r;have hw:(32:UInt8)∉dL.getD k []:=(CY ab).2;have hd:NS (Lib.decDigits nd++32::Lib.decDigits r):=NS.app (rF nd au) (NS.word (rF r au)) g1 g2 g3;exact NS.app hw hd (by rw[h1];rfl) h2 h3
 |f2 k nd a b c d x hk hn ha hb hc hd hx=>
  obtain⟨y,t,h1,h2,h3⟩:=PM nd;obtain⟨y',t',g1,g2,g3⟩:=aAB a [b,c,d,x];have hw:(32:UInt8)∉dL.getD k []:=(CY ab).2;have hd:NS (Lib.decDigits nd++32::bI 46 ([a,b,c,d,x].map Lib.decDigits)):=NS.app (rF nd au) (NS.word (Uv _)) g1 g2 g3;exact NS.app hw hd (by rw[h1];rfl) h2 h3
 |f3 nd hn=>
  obtain⟨y,t,h1,h2,h3⟩:=PM nd;have hw:(32:UInt8)∉dL.getD 7 []:=(CY ab).2;exact NS.app hw (NS.word (rF nd au)) h1 h2 h3
end
end Go.Proofs.YtkanpepkdcmpmaaGreatDoor
