import Derived.Test.YtkanpepkdcmpmaaGreatDoorW2
set_option maxHeartbeats 40000000
set_option maxRecDepth 100000
set_option linter.all false
namespace Go.Proofs.YtkanpepkdcmpmaaGreatDoor
namespace Ab
open Go Go.RowKit
open aD (jT kF wU zX yk Cb wV jy)
abbrev iA (n:Int):AC:=.v (.int .i64 n)
abbrev bA (b:Bool):AC:=.v (.bool b)
abbrev ints (l:List Int):AC:=.sl (l.map fun n=>[iA n])
abbrev Ye (l:List Bool):AC:=.sl (l.map fun n=>[bA n])
abbrev tR (l:List (Int×Int)):AC:=.sl (l.map fun p=>[iA p.1,iA p.2])
abbrev oZ (d:jT):List AC:=[ints d.cells,tR d.pending]
theorem Om {c:List Int}{i v:Int}{l:List (Int×Int)}{r:List Int}(h:kF c ((i,v)::l)=some r):0<=i/\i<c.length/\kF (c.set i.toNat v) l=some r:=by
 unfold kF at h;split at h
 ·rename_i hh;exact⟨hh.1,hh.2,h⟩
 ·cases h
theorem Sx (c:List Int)(l:List (Int×Int))(r:List Int)(h:kF c l=some r)(hm:c.length<=1000000)(gH:l.length<=1000000):bj Tryz.prog 258 [.c (ints c),.c (tR l)] (fun x=>x=.w (.c (ints r))):=by
 have hm8:c.length<=100000000:=ab;refine cI Tryz.func258 (aO [7]) [tz 5 11] [.t 4] [4,5,6,7] [7] ?_;refine k_reg ?_
 (refine bl (by simp;try rfl) ?_)
 refine bG (k_reg ?_)
 (refine bl (by simp[dx,rowsOf,List.range,List.range.loop];try rfl) ?_)
 (refine bl (by simp;try rfl) ?_)
 refine Ey rfl rfl rfl ai (by first|(simp;done)|(simp;omega)) rfl (by simp;try rfl) ?_
 (refine bl (by simp;try rfl) ?_)
 refine bG (iB (k_reg ?_))
 (refine bl (by simp;try rfl) ?_)
 refine bG (xg ?_)
 refine dA (fun n V S=>∃(k:Nat) (d:List Int),k<=l.length/\n=l.length-k/\d.length=c.length/\kF d (l.drop k)=some r/\
  V=[(0,.w (.c (ints c))),(1,.w (.c (tR l))),(4,.w (.c (.sl []))),(5,.w (.c (.own 7 2))),(6,.w (.c (iA k))),(7,.w (.c (.own 7 1)))]/\S=[(7,.row 3 1 2 (d.map fun n=>[iA n]))]) (n:=l.length) ⟨0,c,ab,ab,rfl,h,rfl,rfl⟩ ?_
 rintro n V L S ⟨k,d,hk,rfl,fB,hd,rfl,rfl⟩;by_cases hlt:k<l.length
 ·have cF:k<=1000000000:=ab;have ll:=hd;rw[List.drop_eq_getElem_cons hlt] at ll
  obtain⟨⟨y1,y2⟩,hy⟩:∃y,l[k]=y:=⟨_,rfl⟩
  rw[hy] at ll;obtain⟨q1,q2,q3⟩:=Om ll
  obtain⟨m,rfl⟩:∃m:Nat,y1=m:=⟨y1.toNat,ab⟩
  have Ig:m<d.length:=ab;refine iB (k_reg ?_)
  iterate 4 (refine bl (by simp[hlt];try rfl) ?_)
  refine bG (lU true ai (tP (xg (KT ?_))))
  iterate 11 (refine rf rfl (by simp[hlt,hy];try rfl) ?_)
  refine vw ?_
  iterate 2 (refine bl (by simp[Ig];try rfl) ?_)
  refine bG ?_
  show aP _ _ _
  refine Ap ?_
  (refine bl (by simp;try rfl) ?_)
  (refine bl (by simp[bT cF];try rfl) ?_)
  (refine bl (by simp;try rfl) ?_)
  refine bG ?_;exact⟨l.length-(k+1),ab,k+1,d.set m y2,ab,rfl,by simp[fB],by simpa using q3,rfl,by rw[List.map_set]⟩
 ·have kM:k=l.length:=ab;subst kM;rw[Kl] at hd;simp only[kF,aA] at hd;subst hd;refine iB (k_reg ?_)
  iterate 4 (refine bl (by simp;try rfl) ?_)
  refine bG (lU false ai (Cs ?_))
  show aP _ _ _
  refine k_reg ?_
  iterate 2 (refine bl (by simp;try rfl) ?_)
  refine bG (oW ?_);exact kJ (by simp;try rfl) rfl
theorem arG (d:jT)(r:List Int)(h:wU d=some r)(hm:d.cells.length<=1000000)(hp:d.pending.length<=1000000):bj Tryz.prog 252 [.agg (oZ d)] (fun x=>x=.w (.c (ints r))):=by
 refine cI Tryz.func252 aN [] [.t 2] [1,2] [1] ?_;refine k_reg ?_
 iterate 2 (refine bl (by simp;try rfl) ?_)
 refine bG (k_reg ?_)
 iterate 4 (refine bl (by simp;try rfl) ?_)
 refine Ex (by simp;try rfl) (Sx _ _ _ h hm hp) ?_
 (refine bl (by simp;try rfl) ?_)
 refine bG (oW ?_);exact kJ (by simp;try rfl) rfl
theorem arH (d r:jT)(h:zX d=some r)(hm:d.cells.length<=1000000)(hp:d.pending.length<=1000000):bj Tryz.prog 284 [.agg (oZ d)] (fun x=>x=.w (.agg (oZ r))):=by
 unfold zX at h;rw[bU] at h;obtain⟨x,h1,rfl⟩:=h;refine cI Tryz.func284 aN [] [.cell 2 2] [1,2] [1,2] ?_;refine k_reg ?_
 iterate 2 (refine bl (by simp;try rfl) ?_)
 refine bG (k_reg ?_)
 (refine bl (by simp;try rfl) ?_)
 refine Ex (by simp;try rfl) (arG d x h1 hm hp) ?_
 iterate 2 (refine bl (by simp;try rfl) ?_)
 refine bG (oW ?_);exact kJ (by simp;try rfl) rfl
theorem arI (d r:jT)(c v:Int)(h:yk d c v=some r)(hm:d.cells.length<=1000000)(hp:d.pending.length<=1000000):bj Tryz.prog 283 [.agg (oZ d),.c (iA c),.c (iA v)] (fun x=>x=.w (.agg (oZ r))):=by
 have hp8:d.pending.length<=100000000:=ab;have hp9:d.pending.length+1<=100000000:=ab
 have key:∀(hc:c<0\/(d.cells.length:Int)<=c),d=r:=fun hc=>by
  unfold yk at h;rw[aj hc] at h;exact eA h
 refine cI Tryz.func283 ⟨0,[18],[],[(5,[18])],cZ,[],[]⟩ [(5,7,tk 0 4 (tk 5 2 (.move 4 .nil)),[])] [.cell 6 2] [3,6,7,18] [3,6,18] ?_;refine k_reg ?_
 iterate 2 (refine bl (by simp;try rfl) ?_)
 refine bG (iB (k_reg ?_));by_cases h0:c<0
 ·iterate 9 (refine bl (by simp[h0];try rfl) ?_)
  refine bG (lU true ai ?_);refine iB (k_reg ?_)
  iterate 2 (refine bl (by simp;try rfl) ?_)
  refine bG (Aq ?_);exact kJ (by simp;try rfl) (by rw[<-key (.inl h0)];rfl)
 ·by_cases h1:(d.cells.length:Int)<=c
  ·iterate 9 (refine bl (by simp[h0,h1];try rfl) ?_)
   refine bG (lU true ai ?_);refine iB (k_reg ?_)
   iterate 2 (refine bl (by simp;try rfl) ?_)
   refine bG (Aq ?_);exact kJ (by simp;try rfl) (by rw[<-key (.inr h1)];rfl)
  ·iterate 9 (refine bl (by simp[h0,h1];try rfl) ?_)
   refine bG (lU false ai (tP ?_));unfold yk at h;rw[af ab] at h;refine k_reg ?_
   (refine bl (by simp[dx,rowsOf,List.range,List.range.loop];try rfl) ?_)
   iterate 2 (refine bl (by simp;try rfl) ?_)
   refine Ey rfl rfl rfl ai (by first|(simp;done)|(simp;omega)) rfl (by simp;try rfl) ?_
   iterate 3 (refine bl (by simp;try rfl) ?_)
   (refine bl (by simp[dx,rowsOf,List.range,List.range.loop];try rfl) ?_)
   refine Ey rfl rfl rfl ai (by first|(simp;done)|(simp;omega)) rfl (by simp;try rfl) ?_
   (refine bl (by simp;try rfl) ?_)
   have iC:(d.pending++[(c,v)]).length=d.pending.length+1:=ai;rw[iC] at h;refine bG (iB (k_reg ?_));by_cases h4:4<d.pending.length+1
   ·rw[aj h4,bU] at h;obtain⟨x,Yf,rfl⟩:=h;have Yg:(4:Int)<(d.pending.length:Int)+1:=ab
    iterate 3 (refine bl (by simp[Yg];try rfl) ?_)
    refine bG (lU true ai ?_);refine iB (XR (by simp;exact⟨rfl,rfl,rfl⟩) (yE ?_))
    have e1:(d.pending.map (fun p=>[iA p.1,iA p.2])++[[iA c,iA v]])=(d.pending++[(c,v)]).map fun p=>[iA p.1,iA p.2]:=ai
    rw[e1];generalize hL:d.pending++[(c,v)]=l at*;have cD:1<=l.length:=ab
    iterate 3 (refine rf rfl (by simp;try rfl) ?_)
    iterate 3 (refine rf rfl (by simp[cD];try rfl) ?_)
    refine Ie rfl (by simp[List.map_take];try rfl) (Sx d.cells (l.take 1) x Yf hm bz) ?_;refine vw ?_
    iterate 2 (refine bl (by simp;try rfl) ?_)
    refine bG (Aq ?_);exact kJ (by simp;try rfl) (by simp[List.map_drop])
   ·rw[af h4] at h;simp only[aA] at h;subst h;have Yg:¬(4:Int)<(d.pending.length:Int)+1:=ab
    iterate 3 (refine bl (by simp[Yg];try rfl) ?_)
    refine bG (lU false ai (tP ?_));refine k_reg ?_
    iterate 5 (refine bl (by simp;try rfl) ?_)
    refine bG (oW ?_);exact kJ (by simp;try rfl) ai
end Ab
namespace Ab
open Go Go.RowKit
attribute [local irreducible] aP bB aW
open aD (jT kF wU zX yk Cb wV jy)
abbrev bM (l:List Int):List (List AC):=l.map fun n=>[iA n]
theorem Yh (c:List Int)(l:List (Int×Int))(r:List Int)(x0:Slot)(h:kF c l=some r)(hm:c.length<=1000000)(gH:l.length<=1000000):iK Tryz.prog 258 [.w (.c (ints c)),.w (.c (tR l))] [(107,x0)] (fun x S'=>x=.w (.c (.own 107 (x0.gen+1+1)))/\∀p∈[(107,Slot.row 3 1 (x0.gen+1+1) (bM r))],S' p.1=p.2):=by
 have hm8:c.length<=100000000:=ab;refine rh Tryz.func258 (aB 100 [7]) [tz 5 11] [.t 4] [4,5,6,7] [] ?_;have FF:=trivial
 try refine aG ?_
 refine dA (fun n V S=>∃(k:Nat) (d:List Int),k<=l.length/\n=l.length-k/\d.length=c.length/\kF d (l.drop k)=some r/\
  V=[(0,.w (.c (ints c))),(1,.w (.c (tR l))),(4,.w (.c (.sl []))),(5,.w (.c (.own 107 (x0.gen+1+1)))),(6,.w (.c (iA k))),(7,.w (.c (.own 107 (x0.gen+1))))]/\S=[(107,.row 3 1 (x0.gen+1+1) (bM d))]) (n:=l.length) ⟨0,c,ab,ab,rfl,h,rfl,rfl⟩ ?_
 rintro n V L S ⟨k,d,hk,rfl,fB,hd,rfl,rfl⟩;by_cases hlt:k<l.length
 ·have cF:k<=1000000000:=ab;have ll:=hd;rw[List.drop_eq_getElem_cons hlt] at ll
  obtain⟨⟨y1,y2⟩,hy⟩:∃y,l[k]=y:=⟨_,rfl⟩
  rw[hy] at ll;obtain⟨q1,q2,q3⟩:=Om ll
  obtain⟨m,rfl⟩:∃m:Nat,y1=m:=⟨y1.toNat,ab⟩
  have Ig:m<d.length:=ab;have FF:=fg @hlt @hy @Ig (bT cF)
  try refine aG ?_
  exact⟨l.length-(k+1),ab,k+1,d.set m y2,ab,rfl,by simp[fB],by simpa using q3,rfl,by simp[bM,List.map_set]⟩
 ·have kM:k=l.length:=ab;subst kM;rw[Kl] at hd;simp only[kF,aA] at hd;subst hd;have FF:=trivial
  try refine aG ?_
  refine kL ?_;exact(by simp[ek])
theorem KX (d:jT)(r:List Int)(x0:Slot)(hx0:fK [107] x0=true)(h:wU d=some r)(hm:d.cells.length<=1000000)(hp:d.pending.length<=1000000):iK Tryz.prog 252 [.w (.agg (oZ d))] [(107,x0)] (fun x S'=>x=.w (.c (.own 107 (x0.gen+1+1)))/\∀p∈[(107,Slot.row 3 1 (x0.gen+1+1) (bM r))],S' p.1=p.2):=by
 refine rh Tryz.func252 ⟨110,[],[(258,[107])],[],cZ,[],[]⟩ [] [.t 2] [1,2] [111] ?_;have FF:=@hx0
 repeat first|refine vB (Yh d.cells d.pending r _ h hm hp) ?_|refine vC (Yh d.cells d.pending r _ h hm hp) ?_|refine vD rfl (Yh d.cells d.pending r _ h hm hp) ?_|refine aG ?_
 refine kL ?_;exact(by simp[ek])
theorem arJ (d r:jT)(m:Nat)(h:wV d m=some r)(hm:d.cells.length<=1000000)(hp:d.pending.length<=1000000)(kX:m<=1000000):bj Tryz.prog 198 [.agg (oZ d),.c (iA m)] (fun x=>x=.w (.agg (oZ r))):=by
 unfold wV at h;rw[bU] at h;obtain⟨c,h1,rfl⟩:=h
 have dE:c.length<=1000000:=by
  have:c.length=d.cells.length:=by
   have key:∀(l:List (Int×Int)) (c r:List Int),kF c l=some r->r.length=c.length:=by
    intro l
    induction l with
    |nil=>intro c r h;simp only[kF,aA] at h;rw[h]
    |cons x l ih=>
     intro c r h;obtain⟨_,_,h3⟩:=Om (i:=x.1) (v:=x.2) h;have:=ih _ _ h3;simpa using this
   exact key _ _ _ h1
  omega
 refine cI Tryz.func198 ⟨0,[],[(252,[107])],[],cZ,[],[]⟩ [] [.cell 4 2] [2,4,5] [2,4,107] ?_;have FF:=trivial
 repeat first|refine vB (KX d c _ ai h1 hm hp) ?_|refine vC (KX d c _ ai h1 hm hp) ?_|refine vD rfl (KX d c _ ai h1 hm hp) ?_|refine aG ?_
 refine dA (fun n V S=>∃(k g:Nat),n=m-c.length-k/\(k=0\/c.length+k<=m)/\
  V=[(0,.w (.agg (oZ d))),(1,.w (.c (iA m))),(2,.pb 2 1 0),(4,.pb 4 1 0),(5,.w (.c (.own 107 g)))]/\S=[(2,.box 1 (oZ d)),(4,.box 1 [.sl [],.sl []]),(107,.row 3 1 g (bM (c++List.replicate k 0)))]) (n:=m-c.length) ⟨0,2,ab,.inl rfl,rfl,ai⟩ ?_
 rintro n V L S ⟨k,g,rfl,hk,rfl,rfl⟩;by_cases hlt:c.length+k<m
 ·have jg:(c.length:Int)+(k:Int)<(m:Int):=ab;have yL:c.length+k+1<=100000000:=ab;have FF:=kT @jg @hlt @yL
  try refine aG ?_
  exact⟨m-c.length-(k+1),ab,k+1,g+1,rfl,.inr ab,rfl,by simp[List.replicate_succ']⟩
 ·have jg:¬(c.length:Int)+(k:Int)<(m:Int):=ab;have hle:m<=c.length+k:=ab
  have mH:(c++List.replicate k 0).take m=(c++List.replicate (m-c.length) 0).take m:=by
   rcases hk with rfl|hk
   ·have:m-c.length=0:=ab;rw[this]
   ·have kM:k=m-c.length:=ab;rw[kM]
  have FF:=im @jg @hle
  try refine aG ?_
  refine zE ?_;exact(by rw[<-mH];simp[List.map_take])
open aD (tH zV Ca uO bD ot nH gA)
theorem KY (l:List Int)(x:Int)(hl:l.length<=1000000):bj Tryz.prog 80 [.c (ints l),.c (iA x)] (fun y=>y=.w (.c (bA (decide (x∈l))))):=by
 refine cI Tryz.func80 aN [] [.t 4] [4,5] [] ?_;have FF:=trivial
 try refine aG ?_
 refine dA (fun n V S=>∃k:Nat,k<=l.length/\n=l.length-k/\(∀j (hj:j<l.length),j<k->l[j]≠x)/\
  V=[(0,.w (.c (ints l))),(1,.w (.c (iA x))),(4,.w (.c (bA false))),(5,.w (.c (iA k)))]/\S=[]) (n:=l.length) ⟨0,ab,ab,fun j _ h=>ab,rfl,rfl⟩ ?_
 rintro n V L S ⟨k,hk,rfl,hj,rfl,rfl⟩;by_cases hlt:k<l.length
 ·have cF:k<=1000000000:=ab
  obtain⟨y,hy⟩:∃y,l[k]=y:=⟨_,rfl⟩
  by_cases he:y=x
  ·have FF:=kT @hlt @hy @he
   try refine aG ?_
   refine zE ?_;exact(by rw[fF (he▸hy▸bW hlt)];rfl)
  ·have FF:=fg @hlt @hy @he (bT cF)
   try refine aG ?_
   exact⟨l.length-(k+1),ab,k+1,ab,ab,fun j eb iq=>by
    by_cases iW:j=k
    ·subst iW;rw[hy];exact he
    ·exact hj j eb ab,rfl,rfl⟩
 ·have FF:=@hlt
  try refine aG ?_
  refine zE ?_;exact(by rw[jw (fun hm=>by obtain⟨j,eb,iW⟩:=Gq.1 hm;exact hj j eb ab iW)];rfl)
theorem agi (l:List Int)(m:Nat)(hm:m<=1000000):bj Tryz.prog 19 [.c (ints l),.c (iA m)] (fun y=>y=.w (.c (ints (l.take m)))):=by
 have tT:min (l.length:Int) (m:Int)=((min l.length m:Nat):Int):=ab;have hle:min l.length m<=l.length:=Nat.min_le_left _ _;have aGe:min l.length m<=m:=Nat.min_le_right _ _;have yL:min l.length m<=100000000:=ab;refine cI Tryz.func19 (aO [5]) [] [.t 4] [4,5] [5] ?_;have FF:=kT @tT @hle @yL
 try refine Cv ?_
 refine zE ?_;exact(by rw[show l.take m=l.take (min l.length m) by rw[Nat.min_comm,<-List.take_take,fT]];simp[ek,List.map_take])
theorem Sy (n:Int):bj Tryz.prog 291 [.c (iA n)] (fun x=>x=.w (.c (iA (tH n)))):=by
 refine cI Tryz.func291 aN [] [.t 2] [2] [] ?_;have FF:=trivial
 try refine aG ?_
 refine zE ?_;exact(rfl)
theorem Sz (b:Bool):bj Tryz.prog 281 [.c (bA b)] (fun x=>x=.w (.c (iA (zV b)))):=by
 refine cI Tryz.func281 aN [] [.t 2] [2] [] ?_;cases b
 ·have FF:=trivial
  try refine aG ?_
  refine zE ?_;exact(rfl)
 ·have FF:=trivial
  try refine aG ?_
  refine zE ?_;exact(rfl)
theorem arK (op y x:Int)(hop:op=6\/op=7\/op=8\/op=9\/op=11\/op=12\/op=13)(hy:bD y=true)(hx:bD x=true):bj Tryz.prog 280 [.c (iA op),.c (iA y),.c (iA x)] (fun r=>r=.w (.c (iA (Ca op y x)))):=by
 have SA: -2147483647<=y/\y<=2147483647:=by simpa [bD] using hy
 have bx1: -2147483647<=x/\x<=2147483647:=by simpa [bD] using hx
 refine cI Tryz.func280 aN [] [.t 6] [6,7] [] ?_
 rcases hop with rfl|rfl|rfl|rfl|rfl|rfl|rfl
 ·have FF:=(oX (a:=y) (b:=x) ab ab)
  refine bY (Sy (y+x)) ?_;refine zE ?_;exact(rfl)
 ·have FF:=(Ct (a:=y) (b:=x) ab ab)
  refine bY (Sy (y-x)) ?_;refine zE ?_;exact(rfl)
 ·have FF:=(arl (ael SA bx1).1 (ael SA bx1).2)
  refine bY (Sy (y*x)) ?_;refine zE ?_;exact(rfl)
 ·by_cases h0:x=0
  ·have FF:=@h0
   try refine aG ?_
   refine zE ?_;exact(by rw[h0];rfl)
  ·have FF:=im @h0 (afk h0 (aem SA).1 (aem SA).2);refine bY (Sy (y.tdiv x)) ?_;refine zE ?_;exact(by simp[Ca,h0])
 ·have FF:=trivial;refine bY (Sz (decide (y<x))) ?_;refine zE ?_;exact(rfl)
 ·have FF:=trivial;refine bY (Sz (decide (y<=x))) ?_;refine zE ?_;exact(rfl)
 ·have FF:=trivial;refine bY (Sz (decide (y=x))) ?_;refine zE ?_;exact(rfl)
theorem arL (l:List Int)(i:Nat)(k:Int)(hk:2<=k/\k<=4)(hi:i<=1000000)(hl:l.length<=1000000):bj Tryz.prog 279 [.c (ints l),.c (iA i),.c (iA k)] (fun r=>r=.w (.c (iA (uO l i k)))):=by
 have h0:k≠0:=ab;have i0:¬(i:Int)<0:=ab;refine cI Tryz.func279 aN [] [.t 6] [6] [] ?_;by_cases hlt:i<l.length
 ·obtain⟨y,hy⟩:∃y,l[i]=y:=⟨_,rfl⟩
  have tJ:¬l.length<=i:=ab;have h1:=Int.tmod_lt_of_pos y (show 0<k by omega)
  have h2: -k<y.tmod k:=by
   have:=Int.tmod_lt_of_pos (-y) (show 0<k by omega);rw[Int.neg_tmod] at this;omega
  have FF:=gR @i0 @hlt @tJ @hy (fun a=>Of (a:=a) h0) (oX (a:=y.tmod k) (b:=k) ab ab)
  try refine aG ?_
  refine zE ?_;exact(by unfold uO;rw[cz hlt,hy];rfl)
 ·have tJ:l.length<=i:=ab;have FF:=kT @i0 @hlt @tJ
  try refine aG ?_
  refine zE ?_;exact(by unfold uO;rw[qx tJ];rfl)
abbrev Ih (a:gA):List AC:=[iA a.kind,iA a.a,iA a.b,iA a.c,iA a.d]
abbrev acts (l:List gA):AC:=.sl (l.map Ih)
theorem arM (l:List Int)(x:Int)(hl:l.length<=1000000):bj Tryz.prog 278 [.c (ints l),.c (iA x)] (fun y=>y=.w (.c (ints (ot l x)))):=by
 refine cI Tryz.func278 (aO [5]) [] [.t 4] [4,5,6] [5] ?_;by_cases hm:x∈l
 ·have FF:=@hm;refine bY (KY l x hl) ?_;refine zE ?_;exact(by unfold ot;rw[aj hm];rfl)
 ·have FF:=@hm;refine bY (KY l x hl) ?_
  refine dA (fun n V S=>∃k:Nat,k<=l.length/\n=l.length-k/\(∀j (hj:j<l.length),j<k->decide (l[j]<x)=true)/\
   V=[(0,.w (.c (ints l))),(1,.w (.c (iA x))),(4,.w (.c (.sl []))),(5,.w (.c (.own 5 (k+1)))),(6,.w (.c (iA k)))]/\S=[(5,.row 3 1 (k+1) (bM (l.take k)))]) (n:=l.length) ⟨0,ab,ab,fun j _ h=>ab,rfl,rfl⟩ ?_
  rintro n V L S ⟨k,hk,rfl,hj,rfl,rfl⟩
  have done:∀(h2:∀h:k<l.length,decide (l[k]<x)=false),ot l x=l.take k++x::l.drop k:=fun h2=>by
   obtain⟨g1,g2⟩:=NG (p:=fun y:Int=>decide (y<x)) hk hj h2;unfold ot;rw[af hm,g1,g2]
  have vE:k<=100000000:=ab;have tT:min k l.length=k:=Gv hk;have yL:k+1<=100000000:=ab;have SB:k+1+(l.length-k)<=100000000:=ab;by_cases hlt:k<l.length
  ·have cF:k<=1000000000:=ab
   obtain⟨y,hy⟩:∃y,l[k]=y:=⟨_,rfl⟩
   by_cases he:y<x
   ·have FF:=gR @hlt @hy @he (bT cF) @tT @yL
    try refine aG ?_
    exact⟨l.length-(k+1),ab,k+1,ab,ab,fun j eb iq=>by
     by_cases iW:j=k
     ·subst iW;rw[hy];exact fF he
     ·exact hj j eb ab,rfl,by rw[List.take_succ_eq_append_getElem hlt,hy];simp[bM]⟩
   ·have FF:=kU @hlt @hy @he @tT @yL @SB (BU hlt)
    try refine Cv ?_
    refine zE ?_;exact(by rw[done (fun _=>by rw[hy];exact jw he)];simp[bM])
  ·have FF:=iF @hlt @tT @yL @SB @hk
   try refine Cv ?_
   refine zE ?_;exact(by rw[done (fun h=>absurd h hlt)];simp[bM])
end Ab
end Go.Proofs.YtkanpepkdcmpmaaGreatDoor
