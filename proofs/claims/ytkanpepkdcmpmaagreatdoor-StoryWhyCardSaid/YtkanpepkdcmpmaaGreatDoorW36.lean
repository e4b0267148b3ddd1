import Derived.Test.YtkanpepkdcmpmaaGreatDoorW14
import Derived.Test.YtkanpepkdcmpmaaGreatDoorW30
set_option maxHeartbeats 40000000
set_option maxRecDepth 100000
set_option linter.all false
namespace Go.Proofs.YtkanpepkdcmpmaaGreatDoor
section
open Go.RowKit
def nY (run:List az)(i:Nat):List Int:=(run[i]?.map az.key).getD []
theorem Bp {run:List az}{i:Nat}(h:i<run.length):nY run i=run[i].key:=by simp[nY,h]
def xN (run:List az)(done:List Nat)(i m:Nat):Bool:=(List.range m).all fun k=> !dh run k i||decide (k∈done)
def mN (run:List az)(done:List Nat)(i:Nat):Bool:=!decide (i∈done) && xN run done i run.length
def wm (run:List az)(m:Nat):Option Nat->Bool
 |none=>true
 |some j=>decide (aM (nY run m) (nY run j)<0)
def jb (run:List az)(done:List Nat):Nat->Option Nat
 |0=>none
 |m+1=>if mN run done m && wm run m (jb run done m) then some m else jb run done m
def Bq (run:List az):Nat->List Nat->List Nat
 |0,done=>done
 |f+1,done=>match jb run done run.length with
  |some b=>Bq run f (done++[b])
  |none=>done
def Jz (run:List az):List Nat:=Bq run run.length []
def iE (run:List az)(l:List Nat):List az:=l.filterMap fun i=>run[i]?
def fZ (run:List az):List az:=iE run (Jz run)
theorem MG (run:List az)(done:List Nat):∀(m:Nat) (b:Nat),jb run done m=some b->b<m/\mN run done b=true
 |0,_,h=>by cases h
 |m+1,b,h=>by
  rw[jb] at h;by_cases hc:(mN run done m && wm run m (jb run done m))=true
  ·rw[aj hc] at h;cases h;simp only[bZ] at hc;exact⟨ab,hc.1⟩
  ·rw[af hc] at h;have:=MG run done m b h;exact⟨ab,this.2⟩
theorem abO (run:List az)(done:List Nat):∀(m:Nat),jb run done m=none->∀i<m,mN run done i=false
 |0,_,i,hi=>ab
 |m+1,h,i,hi=>by
  rw[jb] at h;by_cases hc:(mN run done m && wm run m (jb run done m))=true
  ·rw[aj hc] at h;cases h
  ·by_cases UQ:i=m
   ·subst UQ;rw[Gu];intro hf;rw[af hc] at h;rw[h,hf] at hc;simp[wm] at hc
   ·rw[af hc] at h;exact abO run done m h i ab
theorem alm (run:List az)(done:List Nat):∀(m i:Nat),i<m->i<run.length->i∉done->∃j,j<run.length/\mN run done j=true
 |0,i,h,_,_=>ab
 |m+1,i,h,hi,hd=>by
  by_cases hx:∃j,j<i/\j∉done
  ·obtain⟨j,hj,PW⟩:=hx;exact alm run done m j ab ab PW
  ·refine⟨i,hi,?_⟩;simp only[mN,bZ,DM,DF];refine⟨hd,?_⟩;unfold xN;rw[fE];intro k hk;by_cases hl:dh run k i=true
   ·have lN:=(Ix run run.length k i ab hl).1
    have:k∈done:=by
     by_cases nU:k∈done
     ·exact nU
     ·exact absurd ⟨k,lN,nU⟩ hx
    simp[this]
   ·simp[hl]
theorem abP (run:List az)(done:List Nat)(h:∃i,i<run.length/\i∉done):∃b,jb run done run.length=some b/\b<run.length/\b∉done:=by
 obtain⟨i,hi,hd⟩:=h
 cases hp:jb run done run.length with
 |none=>
  obtain⟨j,hj,hf⟩:=alm run done (i+1) i ab hi hd;rw[abO run done _ hp j hj] at hf;cases hf
 |some b=>
  have:=MG run done _ b hp;refine⟨b,rfl,this.1,?_⟩;have h2:=this.2;simp only[mN,bZ,DM,DF] at h2;exact h2.1
theorem abQ (n:Nat)(l:List Nat)(h:l.length<n):∃i,i<n/\i∉l:=by
 refine Gj fun hc=> ?_
 have lM:∀i,i<n->i∈l:=fun i hi=>Gj fun h'=>hc ⟨i,hi,h'⟩
 have lu:List.range n⊆l:=fun i hi=>lM i (gG.1 hi)
 have:=(Np (n:=n)).length_le_of_subset lu;simp at this;omega
theorem abR (run:List az)(done:List Nat)(f:Nat)(b:Nat)(h:jb run done run.length=some b):Bq run (f+1) done=Bq run f (done++[b]):=by
 rw[Bq,h]
theorem aln (run:List az)(l:List Nat)(b:Nat)(h:b<run.length):iE run (l++[b])=iE run l++[run[b]]:=by
 simp[iE,h]
def FH:Option Nat->Int|none=> -1|some b=>b
def gZ (run:List az)(d:List Nat)(i:Nat):Nat:=((List.range run.length).filter fun k=>dh run k i && !decide (k∈d)).length
def uu (run:List az)(i m:Nat):Nat:=((List.range m).filter fun k=>dh run k i).length
theorem alo (p q:Nat->Bool)(b:Nat)(h1:p b=true)(h2:q b=false):∀n,b<n->(∀k<n,k≠b->p k=q k)->((List.range n).filter p).length=((List.range n).filter q).length+1
 |0,h,_=>ab
 |n+1,h,hk=>by
  rw[mn,qz,qz,List.length_append,List.length_append];by_cases e:b=n
  ·subst e
   have:(List.range b).filter p=(List.range b).filter q:=List.filter_congr fun k tE=>hk k (by have:=gG.1 tE;omega) (by have:=gG.1 tE;omega)
   rw[this];simp[h1,h2]
  ·rw[alo p q b h1 h2 n ab (fun k tE=>hk k ab)];have:=hk n ab (fun e'=>e e'.symm);simp only[List.filter_cons,List.filter_nil,this];omega
theorem alp (run:List az)(d:List Nat)(b i:Nat)(hb:b<run.length)(hd:b∉d):gZ run d i=gZ run (d++[b]) i+if dh run b i then 1 else 0:=by
 unfold gZ;by_cases h:dh run b i=true
 ·rw[aj h]
  refine alo _ _ b (by simp[h,hd]) ai _ hb fun k _ xk=> ?_
  simp[xk]
 ·rw[af h,qA];congr 1
  refine List.filter_congr fun k _=> ?_
  by_cases e:k=b
  ·subst e;simp[h]
  ·simp[e]
theorem alq (run:List az)(i m:Nat):uu run i (m+1)=uu run i m+if dh run m i then 1 else 0:=by
 unfold uu;rw[mn,qz,List.length_append];by_cases h:dh run m i<;>simp[h]
theorem aAs (run:List az)(i:Nat)(hi:i<run.length):uu run i i=gZ run [] i:=by
 have key:∀d,uu run i (i+d)=uu run i i:=fun d=>by
  induction d with
  |zero=>rfl
  |succ d ih=>
   rw[show i+(d+1)=(i+d)+1 by omega,alq,ih,Zm run (i+d) i ab];simp
 have:=key (run.length-i);rw[show i+(run.length-i)=run.length by omega] at this;rw[<-this];unfold uu gZ;simp
theorem alr (run:List az)(d:List Nat)(i:Nat):gZ run d i<=run.length:=by
 unfold gZ;exact bm (oc _ _) (by rw[BN];omega)
theorem aAt (run:List az)(i m:Nat):uu run i m<=m:=by
 unfold uu;exact bm (oc _ _) (by rw[BN];omega)
theorem aAu (run:List az)(d:List Nat)(i:Nat):xN run d i run.length=decide (gZ run d i=0):=by
 rw[rZ];unfold xN gZ;rw[dv,BK,List.filter_eq_nil_iff,fE];constructor
 ·intro h k hk;have:=h k hk;simp only[uM,DM,dv] at this;simp only[bZ,DM,DF,not_and,Classical.not_not];intro h1
  rcases this with h2|h2
  ·rw[h1] at h2;cases h2
  ·exact h2
 ·intro h k hk;have:=h k hk;simp only[bZ,DM,DF,not_and,Classical.not_not] at this;simp only[uM,DM,dv];by_cases hl:dh run k i=true
  ·exact .inr (this hl)
  ·exact .inl (by simpa using hl)
theorem als (run:List az)(d:List Nat)(i:Nat):mN run d i=(!decide (i∈d) && decide (gZ run d i=0)):=by rw[mN,aAu]
theorem abS (run:List az)(l:List Nat)(h:∀i∈l,i<run.length):(iE run l).length=l.length:=by
 induction l with
 |nil=>rfl
 |cons a l ih=>
  have h1:=h a ai;have h2:=ih (fun i hi=>h i (by simp[hi]));unfold iE at h2⊢;simp[h1,h2]
theorem UR (run:List az)(d:List Nat)(m:Nat)(h1:mN run d m=true)(h2:wm run m (jb run d m)=true):jb run d (m+1)=some m:=by rw[jb,h1,h2];rfl
theorem PX (run:List az)(d:List Nat)(m:Nat)(h:mN run d m=false\/wm run m (jb run d m)=false):jb run d (m+1)=jb run d m:=by
 rw[jb]
 rcases h with h|h<;>simp[h]
end
section
variable {l l':List az}
theorem MH:∀a b:List Int,aM b a= - aM a b
 |[],[]=>rfl
 |[],_::_=>rfl
 |_::_,[]=>rfl
 |a::l,b::m=>by
  rw[jR,jR,MH l m];unfold iu;by_cases h1:a<b
  ·have h2:¬b<a:=ab;simp[h1,h2]
  ·by_cases h2:b<a
   ·simp[h1,h2]
   ·simp[h1,h2]
theorem abT:∀a b:List Int,aM a b=0->a=b
 |[],[],_=>rfl
 |[],_::_,h=>by simp[aM] at h
 |_::_,[],h=>by simp[aM] at h
 |a::l,b::m,h=>by
  rw[jR] at h;unfold iu at h;by_cases h1:a<b
  ·simp[h1] at h
  ·by_cases h2:b<a
   ·simp[h1,h2] at h
   ·have:a=b:=ab;subst this;simp at h;rw[abT l m h]
theorem alu:∀a b c:List Int,aM a b<0->aM b c<0->aM a c<0
 |[],b,[],h1,h2=>by
  cases b with
  |nil=>simp[aM] at h1
  |cons b m=>simp[aM] at h2
 |[],b,c::n,_,_=>by simp[aM]
 |a::l,[],c,h1,_=>by simp[aM] at h1
 |a::l,b::m,[],_,h2=>by simp[aM] at h2
 |a::l,b::m,c::n,h1,h2=>by
  rw[jR] at h1 h2⊢;have ih:=alu l m n;unfold iu at*;by_cases x1:a<b
  ·by_cases x2:b<c
   ·have:a<c:=ab;simp[this]
   ·by_cases x3:c<b
    ·simp[x2,x3] at h2
    ·have:b=c:=ab;subst this;simp[x1]
  ·by_cases x2:b<a
   ·simp[x1,x2] at h1
   ·have:a=b:=ab;subst this;simp at h1;by_cases x3:a<c
    ·simp[x3]
    ·by_cases x4:c<a
     ·simp[x3,x4] at h2
     ·have:a=c:=ab;subst this;simp at h2⊢;exact ih h1 h2
theorem aAv(a b:az):dB a b=dB b a:=by
 unfold dB;rw[show(a.ev.node==b.ev.node)=(b.ev.node==a.ev.node) from Bool.beq_comm,Bool.and_comm a.aK b.aK,Bool.or_assoc,Bool.or_assoc,Bool.or_comm (cE a b)];simp only[Bool.or_assoc]
theorem aAw{a b:az}(h:aM a.key b.key=0):dB a b=true:=by
 have h1:=abT _ _ h;have h2:a.ev.ints=b.ev.ints:=(List.append_inj h1 rfl).1;have h3:=Ev.zS.1 h2;unfold dB;rw[h3];simp
def abU (l:List az)(p:Nat):Prop:=p<l.length/\∀(q:Nat) (a s:az),q<p->l[q]? =some a->l[p]? =some s->dB a s=false
def aAx (l:List az)(p:Nat):Prop:=abU l p/\∀(q:Nat) (s t:az),abU l q->q≠p->l[p]? =some s->l[q]? =some t->aM s.key t.key<0
inductive NF:List az->List az->Prop
 |nil:NF [] []
 |cons (l m:List az) (p:Nat) (s:az) (hs:l[p]? =some s) (hp:aAx l p) (h:NF (l.eraseIdx p) m):NF l (s::m)
theorem NF.unique{m:List az}(h:NF l m):∀{m':List az},NF l m'->m=m':=by
 induction h with
 |nil=>intro m' h';cases h' with
  |nil=>rfl
  |cons _ _ p s hs=>simp at hs
 |cons l m p s hs hp h ih=>
  intro m' h'
  cases h' with
  |nil=>simp at hs
  |cons _ m2 p' s' dP PV h2=>
   have Cj:p'=p:=by
    refine Gj fun hne=> ?_
    have h3:=hp.2 p' s s' PV.1 hne hs dP;have h4:=PV.2 p s' s hp.1 (fun e=>hne e.symm) dP hs;rw[MH] at h4;omega
   subst Cj;rw[hs] at dP;cases dP;rw[ih h2]
def Sw (l l':List az):Prop:=∃A x y B,l=A++x::y::B/\l'=A++y::x::B/\dB x y=false
theorem Sw.symm(h:Sw l l'):Sw l' l:=by
 obtain⟨A,x,y,B,rfl,rfl,h⟩:=h;exact⟨A,y,x,B,rfl,rfl,by rw[aAv];exact h⟩
theorem Sw.length(h:Sw l l'):l'.length=l.length:=by
 obtain⟨A,x,y,B,rfl,rfl,_⟩:=h;simp
theorem Sw.append(h:Sw l l')(m:List az):Sw (l++m) (l'++m):=by
 obtain⟨A,x,y,B,rfl,rfl,h⟩:=h;exact⟨A,x,y,B++m,ai,ai,h⟩
def fS (run:List az)(d:List Nat):List Nat:=(List.range run.length).filter fun i=> !decide (i∈d)
theorem FI(run:List az)(d:List Nat)(i:Nat):i∈fS run d↔i<run.length/\i∉d:=by simp[fS]
theorem abV(run:List az)(d:List Nat):(fS run d).Pairwise (·<·):=List.pairwise_lt_range.filter _
def PY (run:List az)(d:List Nat):Prop:=∀j∈d,∀k,dh run k j=true->k∈d
theorem alv(run:List az)(i k:Nat)(h1:i<k)(h2:k<run.length)(hd:qC run i k=true):dh run i k=true:=by
 rw[OK,yg];exact⟨k,gG.2 h2,by simp[h1,hd]⟩
theorem alw (run:List az)(d:List Nat)(hd:PY run d)(i:Nat):∀(m k:Nat),run.length<=k+m->k∉d->dh run k i=true->∃j,j∉d/\j<i/\i<run.length/\qC run j i=true
 |0,k,h,_,hl=>by
  have:=Ix run run.length k i ab hl;omega
 |m+1,k,h,hk,hl=>by
  have lN:=Ix run run.length k i ab hl;rw[OK,yg] at hl;obtain⟨j,hj,hc⟩:=hl;simp only[bZ,dv,uM,DT] at hc;obtain⟨⟨h1,h2⟩,h3⟩:=hc
  rcases h3 with rfl|h3
  ·exact⟨k,hk,h1,gG.1 hj,h2⟩
  ·have PW:j∉d:=fun PW=>hk (hd j PW k (alv run k j h1 (gG.1 hj) h2))
   exact alw run d hd i m j ab PW h3
theorem alx(run:List az)(d:List Nat)(hd:PY run d)(i:Nat)(hi:i<run.length):mN run d i=true↔i∉d/\∀k∈fS run d,k<i->qC run k i=false:=by
 unfold mN xN;simp only[bZ,DM,DF,fE,gG,uM,dv];constructor
 ·rintro⟨h1,h2⟩;refine⟨h1,fun k hk lN=> ?_⟩;rw[FI] at hk;rw[Gu];intro hdp
  rcases h2 k hk.1 with h3|h3
  ·rw[alv run k i lN hi hdp] at h3;cases h3
  ·exact hk.2 h3
 ·rintro⟨h1,h2⟩;refine⟨h1,fun k hk=> ?_⟩;by_cases nU:k∈d
  ·exact .inr nU
  ·refine .inl ?_;rw[Gu];intro hl;obtain⟨j,Dj,yU,hj3,hj4⟩:=alw run d hd i run.length k ab nU hl;rw[h2 j ((FI run d j).2 ⟨ab,Dj⟩) yU] at hj4;cases hj4
theorem abW (run:List az)(d:List Nat):∀(m b:Nat),jb run d m=some b->∀i<m,mN run d i=true->(i<b->aM (nY run b) (nY run i)<0)/\¬aM (nY run i) (nY run b)<0
 |0,_,h,_,_,_=>by cases h
 |m+1,b,h,i,hi,hf=>by
  rw[jb] at h
  have Cy:∀x:List Int,¬aM x x<0:=fun x=>by have:=MH x x;omega
  by_cases hc:(mN run d m && wm run m (jb run d m))=true
  ·rw[aj hc] at h;cases h;simp only[bZ] at hc;by_cases e:i=m
   ·subst e;exact⟨fun h=>ab,Cy _⟩
   ·have UQ:i<m:=ab
    cases hp:jb run d m with
    |none=>
     rw[abO run d m hp i UQ] at hf;cases hf
    |some j=>
     have hb:=hc.2;rw[hp] at hb
     have hlt:aM (nY run m) (nY run j)<0:=by simpa [wm] using hb
     have ih:=abW run d m j hp i UQ hf
     have key:aM (nY run m) (nY run i)<0:=by
      by_cases e2:aM (nY run j) (nY run i)<0
      ·exact alu _ _ _ hlt e2
      ·have h3:=ih.2;have h4:=MH (nY run j) (nY run i);have h5:aM (nY run j) (nY run i)=0:=ab;rw[<-abT _ _ h5];exact hlt
     exact⟨fun _=>key,by have:=MH (nY run m) (nY run i);omega⟩
  ·rw[af hc] at h;have hbm:=(MG run d m b h).1;by_cases e:i=m
   ·subst e;refine⟨fun h'=>ab,fun hlt=>hc ?_⟩;rw[hf,h];simpa [wm] using hlt
   ·exact abW run d m b h i ab hf
theorem aAy(run:List az)(d:List Nat)(p b:Nat)(hp:(fS run d)[p]? =some b):fS run (d++[b])=(fS run d).eraseIdx p:=by
 have h1:fS run (d++[b])=(fS run d).filter fun i=> !decide (i=b):=by
  unfold fS;rw[List.filter_filter]
  refine List.filter_congr fun i _=> ?_
  by_cases e:i=b<;>simp[e]
 rw[h1];have hs:=abV run d;obtain⟨je,iC⟩:=bN.1 hp
 have Pv:fS run d=(fS run d).take p++b::(fS run d).drop (p+1):=by
  rw[<-iC,<-List.drop_eq_getElem_cons je,List.take_append_drop]
 rw[List.eraseIdx_eq_take_drop_succ];generalize(fS run d).take p=A at*;generalize(fS run d).drop (p+1)=B at*;rw[Pv] at hs⊢;rw[List.pairwise_append] at hs;obtain⟨_,h3,h4⟩:=hs;rw[BM] at h3;rw[qz,List.filter_cons];simp only[decide_true,Bool.not_true,zL,py];rw[List.filter_eq_self.2,List.filter_eq_self.2]
 ·intro x hx;have:=h3.1 x hx;simp;omega
 ·intro x hx;have:=h4 x hx b ai;simp;omega
theorem getD_map(run:List az)(l:List Nat)(h:∀i∈l,i<run.length)(p:Nat):(iE run l)[p]? =(l[p]?).bind fun i=>run[i]? :=by
 induction l generalizing p with
 |nil=>simp[iE]
 |cons a l ih=>
  have h1:=h a ai;have h2:=ih (fun i hi=>h i (by simp[hi]))
  have e:iE run (a::l)=run[a]::iE run l:=by simp[iE,h1]
  rw[e]
  cases p with
  |zero=>simp[h1]
  |succ p=>simpa using h2 p
theorem aAz(run:List az)(l:List Nat)(h:∀i∈l,i<run.length)(p:Nat):iE run (l.eraseIdx p)=(iE run l).eraseIdx p:=by
 induction l generalizing p with
 |nil=>simp[iE]
 |cons a l ih=>
  have h1:=h a ai;have h2:=ih (fun i hi=>h i (by simp[hi]))
  have e:iE run (a::l)=run[a]::iE run l:=by simp[iE,h1]
  rw[e]
  cases p with
  |zero=>simp
  |succ p=>
   rw[List.eraseIdx_cons_succ,List.eraseIdx_cons_succ,<-h2 p];simp[iE,h1]
theorem aly(run:List az)(d:List Nat)(hd:PY run d)(p i:Nat)(hp:(fS run d)[p]? =some i):abU (iE run (fS run d)) p↔mN run d i=true:=by
 have Ai:=(FI run d i).1 (eI hp)
 have lM:∀x∈fS run d,x<run.length:=fun x hx=>((FI run d x).1 hx).1
 rw[alx run d hd i Ai.1];have hs:=abV run d;have je:=(bN.1 hp).1
 have MI:(iE run (fS run d))[p]? =some run[i]:=by rw[getD_map run _ lM,hp];simp[Ai.1]
 constructor
 ·rintro⟨_,h2⟩;refine⟨Ai.2,fun k hk lN=> ?_⟩;obtain⟨q,hq⟩:=wJ hk;have ei:=lM k hk
  have hqp:q<p:=by
   refine Gj fun hn=> ?_
   obtain⟨fO,sP⟩:=bN.1 hq;obtain⟨_,iC⟩:=bN.1 hp;by_cases e:p=q
   ·subst e;rw[hp] at hq;cases hq;omega
   ·have:=List.pairwise_iff_getElem.1 hs p q je fO ab;omega
  have:=h2 q run[k] run[i] hqp (by rw[getD_map run _ lM,hq];simp[ei]) MI;rw[OJ ei Ai.1];exact this
 ·rintro⟨_,h2⟩;refine⟨(bN.1 MI).1,fun q a s hq ha dP=> ?_⟩;rw[MI] at dP;cases dP;have fO:q<(fS run d).length:=ab;have sP:(fS run d)[q]? =some (fS run d)[q]:=cz fO;have gY:=lM _ (bW fO);rw[getD_map run _ lM,sP] at ha;simp[gY] at ha;subst ha
  have hlt:(fS run d)[q]<i:=by
   have:=List.pairwise_iff_getElem.1 hs q p fO je hq;obtain⟨_,iC⟩:=bN.1 hp;omega
  have:=h2 _ (bW fO) hlt;rw[OJ gY Ai.1] at this;exact this
theorem alz (run:List az):∀(f:Nat) (d:List Nat),f=run.length-d.length->d.length<=run.length->d.Nodup->(∀i∈d,i<run.length)->PY run d->∃t,Bq run f d=d++t/\NF (iE run (fS run d)) (iE run t)
 |0,d,hf,hl,cK,hlt,hd=>by
  refine⟨[],by simp[Bq],?_⟩
  have:fS run d=[]:=by
   rw[List.eq_nil_iff_forall_not_mem];intro i hi;obtain⟨h1,h2⟩:=(FI run d i).1 hi
   have lu:(i::d)⊆List.range run.length:=fun x hx=>by
    rcases cA.1 hx with rfl|hx
    ·exact gG.2 h1
    ·exact gG.2 (hlt x hx)
   have:=(List.nodup_cons.2 ⟨h2,cK⟩).length_le_of_subset lu;simp at this;omega
  rw[this];exact NF.nil
 |f+1,d,hf,hl,cK,hlt,hd=>by
  obtain⟨b,hb,fq,jx⟩:=abP run d (abQ _ _ ab);have mh:=(MG run d _ b hb).2
  have lM:∀x∈fS run d,x<run.length:=fun x hx=>((FI run d x).1 hx).1
  obtain⟨p,hp⟩:=wJ ((FI run d b).2 ⟨fq,jx⟩)
  have Ak:PY run (d++[b]):=by
   intro j hj k hk
   rcases fU.1 hj with hj|hj
   ·exact Gs _ (hd j hj k hk)
   ·simp at hj;subst hj;have ei:=Ix run run.length k j ab hk;simp only[mN,xN,bZ,fE,gG,uM,DM,dv] at mh
    rcases mh.2 k ab with h|h
    ·rw[hk] at h;cases h
    ·exact Gs _ h
  obtain⟨t,ht,hn⟩:=alz run f (d++[b]) (by rw[List.length_append];simp;omega) (by rw[List.length_append];simp;omega) (by
   rw[Nk]
   exact⟨cK,ai,fun x hx y hy e=>by simp at hy;subst hy;subst e;exact jx hx⟩) (fun i hi=>by
   rcases fU.1 hi with h|h
   ·exact hlt i h
   ·simp at h;omega) Ak
  refine⟨b::t,by rw[abR run d f b hb,ht];simp,?_⟩
  have MI:(iE run (fS run d))[p]? =some run[b]:=by rw[getD_map run _ lM,hp];simp[fq]
  have e1:iE run (b::t)=run[b]::iE run t:=by simp[iE,fq]
  rw[e1];refine NF.cons _ _ p _ MI ⟨(aly run d hd p b hp).2 mh,fun q s u hq hqp hs hu=> ?_⟩ ?_
  ·rw[MI] at hs;cases hs
   have fO:q<(fS run d).length:=by
    have:=hq.1;rw[abS run _ lM] at this;exact this
   have sP:(fS run d)[q]? =some (fS run d)[q]:=cz fO;have gY:=lM _ (bW fO);rw[getD_map run _ lM,sP] at hu;simp[gY] at hu;subst hu;have hqf:=(aly run d hd q _ sP).1 hq;have tT:=abW run d _ b hb _ gY hqf;rw[Bp gY,Bp fq] at tT;by_cases JA:(fS run d)[q]<b
   ·exact tT.1 JA
   ·refine Gj fun LZ=> ?_
    have h4:=MH run[b].key run[(fS run d)[q]].key;have h5:aM run[b].key run[(fS run d)[q]].key=0:=ab
    have hne:(fS run d)[q]≠b:=fun e=>by
     rw[e] at sP;have je:=(bN.1 hp).1;have aAA:(fS run d).Nodup:=(abV run d).imp (fun h=>ab);exact hqp ((List.getElem?_inj fO aAA).1 (sP.trans hp.symm))
    have Iw:=aAw h5;have h6:=((alx run d hd _ gY).1 hqf).2 b ((FI run d b).2 ⟨fq,jx⟩) ab;rw[OJ fq gY,Iw] at h6;cases h6
  ·rw[<-aAz run _ lM,<-aAy run d p b hp];exact hn
theorem MJ(run:List az):NF run (fZ run):=by
 obtain⟨t,ht,hn⟩:=alz run run.length [] ai ai List.nodup_nil ai (fun j hj=>by simp at hj)
 have e1:fS run []=List.range run.length:=by simp[fS]
 have e2:iE run (List.range run.length)=run:=by
  apply yf;intro p;rw[getD_map run _ (fun i hi=>gG.1 hi)];by_cases hp:p<run.length
  ·simp[hp]
  ·simp[hp]
 rw[e1,e2] at hn
 have e3:fZ run=iE run t:=by
  unfold fZ Jz;rw[ht];rfl
 rw[e3];exact hn
end
section
open Go.RowKit
variable {l m:List az} {p:Nat×Nat}
def ib (a:Ask):aq:=[32,91]++ja a.qn++[32,61,32]++Lib.itoa a.n++[47]++Lib.itoa a.arity++[93]
def lC (l:List Ask)(k:Nat):aq:=(l.take k).flatMap ib
theorem alA(l:List Ask)(k:Nat)(h:k<l.length):lC l (k+1)=lC l k++ib l[k]:=by
 unfold lC;rw[List.take_succ_eq_append_getElem h,pw];simp
def td (i:Nat)(s:az):aq:=Lib.itoa i++[58,32]++eU s.ev
def nu (o:Bool):aq:=if o then [32,42] else []
def dS (bf:List Nat):aq:=if bf=[] then [] else [32,97,102,116,101,114,32]++bJ 44 ((bf.map fun n:Nat=>(n:Int)).map Lib.itoa)
def xQ (i:Nat)(s:az)(bf:List Nat):aq:=td i s++lC s.asks s.asks.length++nu s.aK++dS bf++[10]
def ey (l:List az)(F:Nat->List Nat)(m:Nat):aq:=(List.range m).flatMap fun i=>match l[i]? with
 |some s=>xQ i s (F i)
 |none=>[]
theorem Br(l:List az)(F:Nat->List Nat)(m:Nat)(h:m<l.length):ey l F (m+1)=ey l F m++xQ m l[m] (F m):=by
 unfold ey;rw[mn,pw];simp[h]
def lD (l:List az):List (Nat×Nat):=(fR (dh l) l.length l.length).map fun p=>(p.2,p.1)
def zw (l:List az):aq:=ey l (fun i=>aR (lD l) i) l.length
theorem abX(h:NF l m):m.length=l.length:=by
 induction h with
 |nil=>rfl
 |cons l m p s hs _ _ ih=>
  have hp:=(bN.1 hs).1;rw[List.length_cons,ih,List.length_eraseIdx,aj hp];omega
theorem abY(h:NF l m):∀s∈m,s∈l:=by
 induction h with
 |nil=>intro s h;exact h
 |cons l m p s hs _ _ ih=>
  intro t ht
  rcases cA.1 ht with rfl|h
  ·exact eI hs
  ·exact List.mem_of_mem_eraseIdx (ih t h)
theorem abZ(e:Ev)(h:∀x∈e.ints,cJ x):(eU e).length<=200:=by
 by_cases hk:sV e
 ·rw[<-akL hk];unfold Jt;have h1:=abq e.kind.toNat;have h2:=iR e.node (h _ (by simp[Ev.ints]));have h3:=iR e.arg (h _ (by simp[Ev.ints]))
  have h4:(bJ 46 (e.msg.ints.map Lib.itoa)).length<=21*5:=zt 46 20 _ (fun y hy=>by
   obtain⟨n,hn,rfl⟩:=dp.1 hy
   exact iR n (h n (by simp[Ev.ints,bR.ints] at hn⊢;omega)))
  generalize dR.getD e.kind.toNat []=a at h1⊢;generalize Lib.itoa e.node=b at h2⊢;generalize Lib.itoa e.arg=c at h3⊢;generalize bJ 46 (e.msg.ints.map Lib.itoa)=d at h4⊢;dsimp only;split
  ·simp;omega
  ·split
   ·simp;omega
   ·simp;omega
 ·have h1:eU e=[]:=by
   unfold eU;rw[af (fun hw=>hk ((Fx e).1 hw))]
  rw[h1];simp
theorem aca(q:Qn)(h:∀x∈q.ints,cJ x):(ja q).length<=200:=by
 by_cases hk:CY q
 ·rw[<-akM hk];unfold Ju
  have h0:q.kind.toNat<4:=by
   obtain⟨h1,_⟩:=hk;omega
  have h1:=abr q.kind.toNat h0;have h2:=iR q.index (h _ (by simp[Qn.ints]))
  have h4:(bJ 46 ([q.node,q.handler,q.count].map Lib.itoa)).length<=21*3:=zt 46 20 _ (fun y hy=>by
   obtain⟨n,hn,rfl⟩:=dp.1 hy
   exact iR n (h n (by simp[Qn.ints] at hn⊢;omega)))
  generalize ew.getD q.kind.toNat []=a at h1⊢;generalize Lib.itoa q.index=b at h2⊢;generalize bJ 46 ([q.node,q.handler,q.count].map Lib.itoa)=d at h4⊢;simp;omega
 ·have h1:ja q=[]:=by
   unfold ja;rw[af (fun hw=>hk ((Fy q).1 hw))]
  rw[h1];simp
def Dk (s:az):Prop:=(∀x∈s.ev.ints,cJ x)/\(∀a∈s.asks,∀x∈a.ints,cJ x)/\s.asks.length<=1000000
theorem alB{a:Ask}(h:∀x∈a.ints,cJ x):∀x∈a.qn.ints,cJ x:=fun x hx=>h x (by simp[Ask.qn,Qn.ints,Ask.ints] at hx⊢;omega)
theorem aAB(a:Ask)(h:∀x∈a.ints,cJ x):(ib a).length<=300:=by
 have h1:=aca a.qn (alB h);have h2:=iR a.n (h _ (by simp[Ask.ints]));have h3:=iR a.arity (h _ (by simp[Ask.ints]));unfold ib;simp only[List.length_append,List.length_cons,List.length_nil];omega
theorem acb{α β:Type}(f:α->List β)(c:Nat)(l:List α)(h:∀a∈l,(f a).length<=c):(l.flatMap f).length<=c*l.length:=by
 have:=aab f c l h;rwa[Gz] at this
theorem alC(l:List Ask)(k:Nat)(h:∀a∈l,∀x∈a.ints,cJ x)(hl:l.length<=1000000):(lC l k).length<=300000000:=by
 have h1:=acb ib 300 (l.take k) (fun a ha=>aAB a (h a (tC ha)))
 have h2:(l.take k).length<=1000000:=by rw[dN];omega
 unfold lC;omega
theorem uv(n:Nat)(h:n<=1000000):cJ (n:Int):=⟨ab,ab⟩
theorem aAC(i:Nat)(s:az)(hi:i<=64)(h:Dk s):(td i s).length<=300:=by
 have h1:=iR (i:Int) (uv i ab);have h2:=abZ s.ev h.1;unfold td;simp only[List.length_append,List.length_cons,List.length_nil];omega
theorem aAD(bf:List Nat)(hb:bf.length<=10000)(h:∀n∈bf,n<=64):(dS bf).length<=300000:=by
 unfold dS;split
 ·simp
 ·have:=zt 44 20 ((bf.map fun n:Nat=>(n:Int)).map Lib.itoa) (fun y hy=>by
   obtain⟨n,hn,rfl⟩:=dp.1 hy;obtain⟨m,hm,rfl⟩:=dp.1 hn
   exact iR _ (uv m (by have:=h m hm;omega)))
  simp only[dI] at this;simp only[List.length_append,List.length_cons,List.length_nil];omega
theorem PZ(o:Bool):(nu o).length<=2:=by cases o<;>decide
theorem aAE(i:Nat)(s:az)(bf:List Nat)(hi:i<=64)(h:Dk s)(hb:bf.length<=10000)(hn:∀n∈bf,n<=64):(xQ i s bf).length<=301000000:=by
 have h1:=aAC i s hi h;have h2:=alC s.asks s.asks.length h.2.1 h.2.2;have h3:=PZ s.aK;have h4:=aAD bf hb hn;unfold xQ;simp only[List.length_append,List.length_cons,List.length_nil];omega
theorem alD (l:List az)(F:Nat->List Nat)(hl:l.length<=64)(h:∀s∈l,Dk s)(hF:∀i,(F i).length<=10000/\∀n∈F i,n<=64):∀m,m<=l.length->(ey l F m).length<=301000000*m
 |0,_=>by simp[ey]
 |m+1,hm=>by
  have ih:=alD l F hl h hF m ab;rw[Br l F m ab,List.length_append];have:=aAE m l[m] (F m) ab (h _ (bW _)) (hF m).1 (hF m).2;omega
theorem alE{f:Nat->Nat->Bool}{n m:Nat}(h:p∈fR f n m):p.1<m/\p.2<n:=by
 unfold fR at h;obtain⟨a,ha,hp⟩:=BP.1 h;unfold ma at hp;obtain⟨c,hc,rfl⟩:=dp.1 hp;exact⟨gG.1 ha,gG.1 (nD.1 hc).1⟩
theorem alF(l:List az)(hl:l.length<=64):(lD l).length<=4096:=by
 unfold lD;rw[dI];have h1:=aid (dh l) l.length l.length;have h2:l.length*l.length<=64*64:=og hl hl;omega
theorem aAF(h:p∈lD l):p.1<l.length/\p.2<l.length:=by
 unfold lD at h;obtain⟨q,hq,rfl⟩:=dp.1 h;have:=alE hq;exact⟨this.2,this.1⟩
theorem aAG(l:List az)(hl:l.length<=64)(i:Nat):(aR (lD l) i).length<=10000/\∀n∈aR (lD l) i,n<=64:=by
 constructor
 ·unfold aR;rw[dI];have h1:=oc (fun p:Nat×Nat=>p.1==i) (lD l);have h2:=alF l hl;omega
 ·intro n hn;unfold aR at hn;obtain⟨p,hp,rfl⟩:=dp.1 hn;have:=aAF (nD.1 hp).1;omega
end
section
open Go.RowKit
def NS (t:aq):Prop:=∀j:Nat,t[j]? =some 32->∃y,t[j+1]? =some y/\48<=y.toNat/\y.toNat<=57
theorem NS.word {w:aq}(h:(32:UInt8)∉w):NS w:=fun _ hj=>absurd (eI hj) h
theorem NS.app {w t:aq}(h:(32:UInt8)∉w)(ht:NS t){y:UInt8}{r:aq}(hy:t=y::r)(h1:48<=y.toNat)(h2:y.toNat<=57):NS (w++32::t):=fun j hj=>by
 by_cases hjw:j<w.length
 ·rw[mj hjw] at hj;exact absurd (eI hj) h
 ·rw[jc ab] at hj⊢;by_cases h0:j=w.length
  ·subst h0;refine⟨y,?_,h1,h2⟩;rw[show w.length+1-w.length=1 by omega,hy];rfl
  ·obtain⟨k,hk⟩:∃k,j-w.length=k+1:=⟨j-w.length-1,ab⟩
   rw[hk,Gm] at hj;obtain⟨z,hz,g1,g2⟩:=ht k hj;refine⟨z,?_,g1,g2⟩;rw[show j+1-w.length=(k+1)+1 by omega,Gm];exact hz
theorem Qa (n:Nat):∃y r,Lib.decDigits n=y::r/\48<=y.toNat/\y.toNat<=57:=by
 cases h:Lib.decDigits n with
 |nil=>exact absurd h (by simpa using Lr n)
 |cons y r=>
  have:=Tf n y (by rw[h];simp);exact⟨y,r,rfl,this.1,this.2⟩
theorem aAH (n:Nat)(l:List Nat):∃y r,bJ 46 ((n::l).map Lib.decDigits)=y::r/\48<=y.toNat/\y.toNat<=57:=by
 obtain⟨y,r,h,h1,h2⟩:=Qa n
 cases l with
 |nil=>exact⟨y,r,h,h1,h2⟩
 |cons m l=>
  refine⟨y,r++46::bJ 46 ((m::l).map Lib.decDigits),?_,h1,h2⟩;rw[dJ,ur 46 _ ai,h];rfl
theorem np.ns {e:Ev}{s:aq}(h:np e s):NS s:=by
 cases h with
 |f1 k nd r hk hn hr=>
  obtain⟨y,t,h1,h2,h3⟩:=Qa nd;obtain⟨y',t',g1,g2,g3⟩:=Qa r;have hw:(32:UInt8)∉dR.getD k []:=(Dh ab).2;have hd:NS (Lib.decDigits nd++32::Lib.decDigits r):=NS.app (rO nd au) (NS.word (rO r au)) g1 g2 g3;exact NS.app hw hd (by rw[h1];rfl) h2 h3
 |f2 k nd a b c d x hk hn ha hb hc hd hx=>
  obtain⟨y,t,h1,h2,h3⟩:=Qa nd;obtain⟨y',t',g1,g2,g3⟩:=aAH a [b,c,d,x];have hw:(32:UInt8)∉dR.getD k []:=(Dh ab).2;have hd:NS (Lib.decDigits nd++32::bJ 46 ([a,b,c,d,x].map Lib.decDigits)):=NS.app (rO nd au) (NS.word (UF _)) g1 g2 g3;exact NS.app hw hd (by rw[h1];rfl) h2 h3
 |f3 nd hn=>
  obtain⟨y,t,h1,h2,h3⟩:=Qa nd;have hw:(32:UInt8)∉dR.getD 7 []:=(Dh ab).2;exact NS.app hw (NS.word (rO nd au)) h1 h2 h3
end
end Go.Proofs.YtkanpepkdcmpmaaGreatDoor
