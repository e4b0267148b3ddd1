import Derived.Test.YtkanpepkdcmpmaaGreatDoorY2
set_option maxHeartbeats 40000000
set_option maxRecDepth 100000
set_option linter.all false
namespace Go.Proofs.YtkanpepkdcmpmaaGreatDoor
namespace Ab
open Go Go.RowKit
open aD (jL ky wR zU yo BS wS jm)
abbrev iA (n:Int):AC:=.v (.int .i64 n)
abbrev bA (b:Bool):AC:=.v (.bool b)
abbrev ints (l:List Int):AC:=.sl (l.map fun n=>[iA n])
abbrev XW (l:List Bool):AC:=.sl (l.map fun n=>[bA n])
abbrev tQ (l:List (Int×Int)):AC:=.sl (l.map fun p=>[iA p.1,iA p.2])
abbrev oQ (d:jL):List AC:=[ints d.cells,tQ d.pending]
theorem NZ {c:List Int}{i v:Int}{l:List (Int×Int)}{r:List Int}(h:ky c ((i,v)::l)=some r):0<=i/\i<c.length/\ky (c.set i.toNat v) l=some r:=by
 unfold ky at h;split at h
 ·rename_i hh;exact⟨hh.1,hh.2,h⟩
 ·cases h
theorem Sj (c:List Int)(l:List (Int×Int))(r:List Int)(h:ky c l=some r)(hm:c.length<=1000000)(gz:l.length<=1000000):aU Tryz.prog 258 [.c (ints c),.c (tQ l)] (fun x=>x=.w (.c (ints r))):=by
 have hm8:c.length<=100000000:=ab;refine cC Tryz.func258 (aO [7]) [tz 5 11] [.t 4] [4,5,6,7] [7] ?_;refine k_reg ?_
 (refine bh (by simp;try rfl) ?_)
 refine bz (k_reg ?_)
 (refine bh (by simp[dt,rowsOf,List.range,List.range.loop];try rfl) ?_)
 (refine bh (by simp;try rfl) ?_)
 refine En rfl rfl rfl ai (by first|(simp;done)|(simp;omega)) rfl (by simp;try rfl) ?_
 (refine bh (by simp;try rfl) ?_)
 refine bz (il (k_reg ?_))
 (refine bh (by simp;try rfl) ?_)
 refine bz (xf ?_)
 refine dv (fun n V S=>∃(k:Nat) (d:List Int),k<=l.length/\n=l.length-k/\d.length=c.length/\ky d (l.drop k)=some r/\
  V=[(0,.w (.c (ints c))),(1,.w (.c (tQ l))),(4,.w (.c (.sl []))),(5,.w (.c (.own 7 2))),(6,.w (.c (iA k))),(7,.w (.c (.own 7 1)))]/\S=[(7,.row 3 1 2 (d.map fun n=>[iA n]))]) (n:=l.length) ⟨0,c,ab,ab,rfl,h,rfl,rfl⟩ ?_
 rintro n V L S ⟨k,d,hk,rfl,ez,hd,rfl,rfl⟩;by_cases hlt:k<l.length
 ·have cD:k<=1000000000:=ab;have kU:=hd;rw[List.drop_eq_getElem_cons hlt] at kU
  obtain⟨⟨y1,y2⟩,hy⟩:∃y,l[k]=y:=⟨_,rfl⟩
  rw[hy] at kU;obtain⟨q1,q2,q3⟩:=NZ kU
  obtain⟨m,rfl⟩:∃m:Nat,y1=m:=⟨y1.toNat,ab⟩
  have Ho:m<d.length:=ab;refine il (k_reg ?_)
  iterate 4 (refine bh (by simp[hlt];try rfl) ?_)
  refine bz (lJ true ai (tM (xf (KL ?_))))
  iterate 11 (refine qO rfl (by simp[hlt,hy];try rfl) ?_)
  refine vp ?_
  iterate 2 (refine bh (by simp[Ho];try rfl) ?_)
  refine bz ?_
  show aM _ _ _
  refine Al ?_
  (refine bh (by simp;try rfl) ?_)
  (refine bh (by simp[bN cD];try rfl) ?_)
  (refine bh (by simp;try rfl) ?_)
  refine bz ?_;exact⟨l.length-(k+1),ab,k+1,d.set m y2,ab,rfl,by simp[ez],by simpa using q3,rfl,by rw[List.map_set]⟩
 ·have kF:k=l.length:=ab;subst kF;rw[Kf] at hd;simp only[ky,aA] at hd;subst hd;refine il (k_reg ?_)
  iterate 4 (refine bh (by simp;try rfl) ?_)
  refine bz (lJ false ai (Cj ?_))
  show aM _ _ _
  refine k_reg ?_
  iterate 2 (refine bh (by simp;try rfl) ?_)
  refine bz (oN ?_);exact kC (by simp;try rfl) rfl
theorem arx (d:jL)(r:List Int)(h:wR d=some r)(hm:d.cells.length<=1000000)(hp:d.pending.length<=1000000):aU Tryz.prog 252 [.agg (oQ d)] (fun x=>x=.w (.c (ints r))):=by
 refine cC Tryz.func252 aN [] [.t 2] [1,2] [1] ?_;refine k_reg ?_
 iterate 2 (refine bh (by simp;try rfl) ?_)
 refine bz (k_reg ?_)
 iterate 4 (refine bh (by simp;try rfl) ?_)
 refine Em (by simp;try rfl) (Sj _ _ _ h hm hp) ?_
 (refine bh (by simp;try rfl) ?_)
 refine bz (oN ?_);exact kC (by simp;try rfl) rfl
theorem ary (d r:jL)(h:zU d=some r)(hm:d.cells.length<=1000000)(hp:d.pending.length<=1000000):aU Tryz.prog 284 [.agg (oQ d)] (fun x=>x=.w (.agg (oQ r))):=by
 unfold zU at h;rw[bO] at h;obtain⟨x,h1,rfl⟩:=h;refine cC Tryz.func284 aN [] [.cell 2 2] [1,2] [1,2] ?_;refine k_reg ?_
 iterate 2 (refine bh (by simp;try rfl) ?_)
 refine bz (k_reg ?_)
 (refine bh (by simp;try rfl) ?_)
 refine Em (by simp;try rfl) (arx d x h1 hm hp) ?_
 iterate 2 (refine bh (by simp;try rfl) ?_)
 refine bz (oN ?_);exact kC (by simp;try rfl) rfl
theorem arz (d r:jL)(c v:Int)(h:yo d c v=some r)(hm:d.cells.length<=1000000)(hp:d.pending.length<=1000000):aU Tryz.prog 283 [.agg (oQ d),.c (iA c),.c (iA v)] (fun x=>x=.w (.agg (oQ r))):=by
 have hp8:d.pending.length<=100000000:=ab;have hp9:d.pending.length+1<=100000000:=ab
 have key:∀(hc:c<0\/(d.cells.length:Int)<=c),d=r:=fun hc=>by
  unfold yo at h;rw[aq hc] at h;exact dX h
 refine cC Tryz.func283 ⟨0,[18],[],[(5,[18])],cU,[],[]⟩ [(5,7,tk 0 4 (tk 5 2 (.move 4 .nil)),[])] [.cell 6 2] [3,6,7,18] [3,6,18] ?_;refine k_reg ?_
 iterate 2 (refine bh (by simp;try rfl) ?_)
 refine bz (il (k_reg ?_));by_cases h0:c<0
 ·iterate 9 (refine bh (by simp[h0];try rfl) ?_)
  refine bz (lJ true ai ?_);refine il (k_reg ?_)
  iterate 2 (refine bh (by simp;try rfl) ?_)
  refine bz (Am ?_);exact kC (by simp;try rfl) (by rw[<-key (.inl h0)];rfl)
 ·by_cases h1:(d.cells.length:Int)<=c
  ·iterate 9 (refine bh (by simp[h0,h1];try rfl) ?_)
   refine bz (lJ true ai ?_);refine il (k_reg ?_)
   iterate 2 (refine bh (by simp;try rfl) ?_)
   refine bz (Am ?_);exact kC (by simp;try rfl) (by rw[<-key (.inr h1)];rfl)
  ·iterate 9 (refine bh (by simp[h0,h1];try rfl) ?_)
   refine bz (lJ false ai (tM ?_));unfold yo at h;rw[af ab] at h;refine k_reg ?_
   (refine bh (by simp[dt,rowsOf,List.range,List.range.loop];try rfl) ?_)
   iterate 2 (refine bh (by simp;try rfl) ?_)
   refine En rfl rfl rfl ai (by first|(simp;done)|(simp;omega)) rfl (by simp;try rfl) ?_
   iterate 3 (refine bh (by simp;try rfl) ?_)
   (refine bh (by simp[dt,rowsOf,List.range,List.range.loop];try rfl) ?_)
   refine En rfl rfl rfl ai (by first|(simp;done)|(simp;omega)) rfl (by simp;try rfl) ?_
   (refine bh (by simp;try rfl) ?_)
   have pG:(d.pending++[(c,v)]).length=d.pending.length+1:=ai;rw[pG] at h;refine bz (il (k_reg ?_));by_cases h4:4<d.pending.length+1
   ·rw[aq h4,bO] at h;obtain⟨x,XX,rfl⟩:=h;have XY:(4:Int)<(d.pending.length:Int)+1:=ab
    iterate 3 (refine bh (by simp[XY];try rfl) ?_)
    refine bz (lJ true ai ?_);refine il (XJ (by simp;exact⟨rfl,rfl,rfl⟩) (yI ?_))
    have e1:(d.pending.map (fun p=>[iA p.1,iA p.2])++[[iA c,iA v]])=(d.pending++[(c,v)]).map fun p=>[iA p.1,iA p.2]:=ai
    rw[e1];generalize hL:d.pending++[(c,v)]=l at*;have cF:1<=l.length:=ab
    iterate 3 (refine qO rfl (by simp;try rfl) ?_)
    iterate 3 (refine qO rfl (by simp[cF];try rfl) ?_)
    refine Hh rfl (by simp[List.map_take];try rfl) (Sj d.cells (l.take 1) x XX hm bq) ?_;refine vp ?_
    iterate 2 (refine bh (by simp;try rfl) ?_)
    refine bz (Am ?_);exact kC (by simp;try rfl) (by simp[List.map_drop])
   ·rw[af h4] at h;simp only[aA] at h;subst h;have XY:¬(4:Int)<(d.pending.length:Int)+1:=ab
    iterate 3 (refine bh (by simp[XY];try rfl) ?_)
    refine bz (lJ false ai (tM ?_));refine k_reg ?_
    iterate 5 (refine bh (by simp;try rfl) ?_)
    refine bz (oN ?_);exact kC (by simp;try rfl) ai
end Ab
namespace Ab
open Go Go.RowKit
attribute [local irreducible] aM bt aX
open aD (jL ky wR zU yo BS wS jm)
abbrev bH (l:List Int):List (List AC):=l.map fun n=>[iA n]
theorem XZ (c:List Int)(l:List (Int×Int))(r:List Int)(x0:Slot)(h:ky c l=some r)(hm:c.length<=1000000)(gz:l.length<=1000000):iB Tryz.prog 258 [.w (.c (ints c)),.w (.c (tQ l))] [(107,x0)] (fun x S'=>x=.w (.c (.own 107 (x0.gen+1+1)))/\∀p∈[(107,Slot.row 3 1 (x0.gen+1+1) (bH r))],S' p.1=p.2):=by
 have hm8:c.length<=100000000:=ab;refine qP Tryz.func258 (aB 100 [7]) [tz 5 11] [.t 4] [4,5,6,7] [] ?_;have FF:=trivial
 try refine aF ?_
 refine dv (fun n V S=>∃(k:Nat) (d:List Int),k<=l.length/\n=l.length-k/\d.length=c.length/\ky d (l.drop k)=some r/\
  V=[(0,.w (.c (ints c))),(1,.w (.c (tQ l))),(4,.w (.c (.sl []))),(5,.w (.c (.own 107 (x0.gen+1+1)))),(6,.w (.c (iA k))),(7,.w (.c (.own 107 (x0.gen+1))))]/\S=[(107,.row 3 1 (x0.gen+1+1) (bH d))]) (n:=l.length) ⟨0,c,ab,ab,rfl,h,rfl,rfl⟩ ?_
 rintro n V L S ⟨k,d,hk,rfl,ez,hd,rfl,rfl⟩;by_cases hlt:k<l.length
 ·have cD:k<=1000000000:=ab;have kU:=hd;rw[List.drop_eq_getElem_cons hlt] at kU
  obtain⟨⟨y1,y2⟩,hy⟩:∃y,l[k]=y:=⟨_,rfl⟩
  rw[hy] at kU;obtain⟨q1,q2,q3⟩:=NZ kU
  obtain⟨m,rfl⟩:∃m:Nat,y1=m:=⟨y1.toNat,ab⟩
  have Ho:m<d.length:=ab;have FF:=eW @hlt @hy @Ho (bN cD)
  try refine aF ?_
  exact⟨l.length-(k+1),ab,k+1,d.set m y2,ab,rfl,by simp[ez],by simpa using q3,rfl,by simp[bH,List.map_set]⟩
 ·have kF:k=l.length:=ab;subst kF;rw[Kf] at hd;simp only[ky,aA] at hd;subst hd;have FF:=trivial
  try refine aF ?_
  refine kE ?_;exact(by simp[ed])
theorem KP (d:jL)(r:List Int)(x0:Slot)(hx0:fy [107] x0=true)(h:wR d=some r)(hm:d.cells.length<=1000000)(hp:d.pending.length<=1000000):iB Tryz.prog 252 [.w (.agg (oQ d))] [(107,x0)] (fun x S'=>x=.w (.c (.own 107 (x0.gen+1+1)))/\∀p∈[(107,Slot.row 3 1 (x0.gen+1+1) (bH r))],S' p.1=p.2):=by
 refine qP Tryz.func252 ⟨110,[],[(258,[107])],[],cU,[],[]⟩ [] [.t 2] [1,2] [111] ?_;have FF:=@hx0
 repeat first|refine vz (XZ d.cells d.pending r _ h hm hp) ?_|refine vA (XZ d.cells d.pending r _ h hm hp) ?_|refine vB rfl (XZ d.cells d.pending r _ h hm hp) ?_|refine aF ?_
 refine kE ?_;exact(by simp[ed])
theorem arA (d r:jL)(m:Nat)(h:wS d m=some r)(hm:d.cells.length<=1000000)(hp:d.pending.length<=1000000)(kN:m<=1000000):aU Tryz.prog 198 [.agg (oQ d),.c (iA m)] (fun x=>x=.w (.agg (oQ r))):=by
 unfold wS at h;rw[bO] at h;obtain⟨c,h1,rfl⟩:=h
 have dB:c.length<=1000000:=by
  have:c.length=d.cells.length:=by
   have key:∀(l:List (Int×Int)) (c r:List Int),ky c l=some r->r.length=c.length:=by
    intro l
    induction l with
    |nil=>intro c r h;simp only[ky,aA] at h;rw[h]
    |cons x l ih=>
     intro c r h;obtain⟨_,_,h3⟩:=NZ (i:=x.1) (v:=x.2) h;have:=ih _ _ h3;simpa using this
   exact key _ _ _ h1
  omega
 refine cC Tryz.func198 ⟨0,[],[(252,[107])],[],cU,[],[]⟩ [] [.cell 4 2] [2,4,5] [2,4,107] ?_;have FF:=trivial
 repeat first|refine vz (KP d c _ ai h1 hm hp) ?_|refine vA (KP d c _ ai h1 hm hp) ?_|refine vB rfl (KP d c _ ai h1 hm hp) ?_|refine aF ?_
 refine dv (fun n V S=>∃(k g:Nat),n=m-c.length-k/\(k=0\/c.length+k<=m)/\
  V=[(0,.w (.agg (oQ d))),(1,.w (.c (iA m))),(2,.pb 2 1 0),(4,.pb 4 1 0),(5,.w (.c (.own 107 g)))]/\S=[(2,.box 1 (oQ d)),(4,.box 1 [.sl [],.sl []]),(107,.row 3 1 g (bH (c++List.replicate k 0)))]) (n:=m-c.length) ⟨0,2,ab,.inl rfl,rfl,ai⟩ ?_
 rintro n V L S ⟨k,g,rfl,hk,rfl,rfl⟩;by_cases hlt:c.length+k<m
 ·have iX:(c.length:Int)+(k:Int)<(m:Int):=ab;have yL:c.length+k+1<=100000000:=ab;have FF:=jB @iX @hlt @yL
  try refine aF ?_
  exact⟨m-c.length-(k+1),ab,k+1,g+1,rfl,.inr ab,rfl,by simp[List.replicate_succ']⟩
 ·have iX:¬(c.length:Int)+(k:Int)<(m:Int):=ab;have hle:m<=c.length+k:=ab
  have mq:(c++List.replicate k 0).take m=(c++List.replicate (m-c.length) 0).take m:=by
   rcases hk with rfl|hk
   ·have:m-c.length=0:=ab;rw[this]
   ·have kF:k=m-c.length:=ab;rw[kF]
  have FF:=eV @iX @hle
  try refine aF ?_
  refine zE ?_;exact(by rw[<-mq];simp[List.map_take])
open aD (tD zS BR uM bu nV nu fW)
theorem KQ (l:List Int)(x:Int)(hl:l.length<=1000000):aU Tryz.prog 80 [.c (ints l),.c (iA x)] (fun y=>y=.w (.c (bA (decide (x∈l))))):=by
 refine cC Tryz.func80 aN [] [.t 4] [4,5] [] ?_;have FF:=trivial
 try refine aF ?_
 refine dv (fun n V S=>∃k:Nat,k<=l.length/\n=l.length-k/\(∀j (hj:j<l.length),j<k->l[j]≠x)/\
  V=[(0,.w (.c (ints l))),(1,.w (.c (iA x))),(4,.w (.c (bA false))),(5,.w (.c (iA k)))]/\S=[]) (n:=l.length) ⟨0,ab,ab,fun j _ h=>ab,rfl,rfl⟩ ?_
 rintro n V L S ⟨k,hk,rfl,hj,rfl,rfl⟩;by_cases hlt:k<l.length
 ·have cD:k<=1000000000:=ab
  obtain⟨y,hy⟩:∃y,l[k]=y:=⟨_,rfl⟩
  by_cases he:y=x
  ·have FF:=jB @hlt @hy @he
   try refine aF ?_
   refine zE ?_;exact(by rw[ft (he▸hy▸bP hlt)];rfl)
  ·have FF:=eW @hlt @hy @he (bN cD)
   try refine aF ?_
   exact⟨l.length-(k+1),ab,k+1,ab,ab,fun j dJ ib=>by
    by_cases iL:j=k
    ·subst iL;rw[hy];exact he
    ·exact hj j dJ ab,rfl,rfl⟩
 ·have FF:=@hlt
  try refine aF ?_
  refine zE ?_;exact(by rw[jk (fun hm=>by obtain⟨j,dJ,iL⟩:=FZ.1 hm;exact hj j dJ ab iL)];rfl)
theorem afZ (l:List Int)(m:Nat)(hm:m<=1000000):aU Tryz.prog 19 [.c (ints l),.c (iA m)] (fun y=>y=.w (.c (ints (l.take m)))):=by
 have tR:min (l.length:Int) (m:Int)=((min l.length m:Nat):Int):=ab;have hle:min l.length m<=l.length:=Nat.min_le_left _ _;have aGc:min l.length m<=m:=Nat.min_le_right _ _;have yL:min l.length m<=100000000:=ab;refine cC Tryz.func19 (aO [5]) [] [.t 4] [4,5] [5] ?_;have FF:=jB @tR @hle @yL
 try refine Cm ?_
 refine zE ?_;exact(by rw[show l.take m=l.take (min l.length m) by rw[Nat.min_comm,<-List.take_take,fK]];simp[ed,List.map_take])
theorem Sk (n:Int):aU Tryz.prog 291 [.c (iA n)] (fun x=>x=.w (.c (iA (tD n)))):=by
 refine cC Tryz.func291 aN [] [.t 2] [2] [] ?_;have FF:=trivial
 try refine aF ?_
 refine zE ?_;exact(rfl)
theorem Sl (b:Bool):aU Tryz.prog 281 [.c (bA b)] (fun x=>x=.w (.c (iA (zS b)))):=by
 refine cC Tryz.func281 aN [] [.t 2] [2] [] ?_;cases b
 ·have FF:=trivial
  try refine aF ?_
  refine zE ?_;exact(rfl)
 ·have FF:=trivial
  try refine aF ?_
  refine zE ?_;exact(rfl)
theorem arB (op y x:Int)(hop:op=6\/op=7\/op=8\/op=9\/op=11\/op=12\/op=13)(hy:bu y=true)(hx:bu x=true):aU Tryz.prog 280 [.c (iA op),.c (iA y),.c (iA x)] (fun r=>r=.w (.c (iA (BR op y x)))):=by
 have Sn: -2147483647<=y/\y<=2147483647:=by simpa [bu] using hy
 have bx1: -2147483647<=x/\x<=2147483647:=by simpa [bu] using hx
 refine cC Tryz.func280 aN [] [.t 6] [6,7] [] ?_
 rcases hop with rfl|rfl|rfl|rfl|rfl|rfl|rfl
 ·have FF:=(oO (a:=y) (b:=x) ab ab)
  refine bJ (Sk (y+x)) ?_;refine zE ?_;exact(rfl)
 ·have FF:=(Ck (a:=y) (b:=x) ab ab)
  refine bJ (Sk (y-x)) ?_;refine zE ?_;exact(rfl)
 ·have FF:=(arb (aec Sn bx1).1 (aec Sn bx1).2)
  refine bJ (Sk (y*x)) ?_;refine zE ?_;exact(rfl)
 ·by_cases h0:x=0
  ·have FF:=@h0
   try refine aF ?_
   refine zE ?_;exact(by rw[h0];rfl)
  ·have FF:=eV @h0 (afb h0 (aed Sn).1 (aed Sn).2);refine bJ (Sk (y.tdiv x)) ?_;refine zE ?_;exact(by simp[BR,h0])
 ·have FF:=trivial;refine bJ (Sl (decide (y<x))) ?_;refine zE ?_;exact(rfl)
 ·have FF:=trivial;refine bJ (Sl (decide (y<=x))) ?_;refine zE ?_;exact(rfl)
 ·have FF:=trivial;refine bJ (Sl (decide (y=x))) ?_;refine zE ?_;exact(rfl)
theorem arC (l:List Int)(i:Nat)(k:Int)(hk:2<=k/\k<=4)(hi:i<=1000000)(hl:l.length<=1000000):aU Tryz.prog 279 [.c (ints l),.c (iA i),.c (iA k)] (fun r=>r=.w (.c (iA (uM l i k)))):=by
 have h0:k≠0:=ab;have i0:¬(i:Int)<0:=ab;refine cC Tryz.func279 aN [] [.t 6] [6] [] ?_;by_cases hlt:i<l.length
 ·obtain⟨y,hy⟩:∃y,l[i]=y:=⟨_,rfl⟩
  have tG:¬l.length<=i:=ab;have h1:=Int.tmod_lt_of_pos y (show 0<k by omega)
  have h2: -k<y.tmod k:=by
   have:=Int.tmod_lt_of_pos (-y) (show 0<k by omega);rw[Int.neg_tmod] at this;omega
  have FF:=gI @i0 @hlt @tG @hy (fun a=>NR (a:=a) h0) (oO (a:=y.tmod k) (b:=k) ab ab)
  try refine aF ?_
  refine zE ?_;exact(by unfold uM;rw[cw hlt,hy];rfl)
 ·have tG:l.length<=i:=ab;have FF:=jB @i0 @hlt @tG
  try refine aF ?_
  refine zE ?_;exact(by unfold uM;rw[qh tG];rfl)
abbrev Hu (a:fW):List AC:=[iA a.kind,iA a.a,iA a.b,iA a.c,iA a.d]
abbrev acts (l:List fW):AC:=.sl (l.map Hu)
theorem arD (l:List Int)(x:Int)(hl:l.length<=1000000):aU Tryz.prog 278 [.c (ints l),.c (iA x)] (fun y=>y=.w (.c (ints (nV l x)))):=by
 refine cC Tryz.func278 (aO [5]) [] [.t 4] [4,5,6] [5] ?_;by_cases hm:x∈l
 ·have FF:=@hm;refine bJ (KQ l x hl) ?_;refine zE ?_;exact(by unfold nV;rw[aq hm];rfl)
 ·have FF:=@hm;refine bJ (KQ l x hl) ?_
  refine dv (fun n V S=>∃k:Nat,k<=l.length/\n=l.length-k/\(∀j (hj:j<l.length),j<k->decide (l[j]<x)=true)/\
   V=[(0,.w (.c (ints l))),(1,.w (.c (iA x))),(4,.w (.c (.sl []))),(5,.w (.c (.own 5 (k+1)))),(6,.w (.c (iA k)))]/\S=[(5,.row 3 1 (k+1) (bH (l.take k)))]) (n:=l.length) ⟨0,ab,ab,fun j _ h=>ab,rfl,rfl⟩ ?_
  rintro n V L S ⟨k,hk,rfl,hj,rfl,rfl⟩
  have done:∀(h2:∀h:k<l.length,decide (l[k]<x)=false),nV l x=l.take k++x::l.drop k:=fun h2=>by
   obtain⟨g1,g2⟩:=Nu (p:=fun y:Int=>decide (y<x)) hk hj h2;unfold nV;rw[af hm,g1,g2]
  have yM:k<=100000000:=ab;have tR:min k l.length=k:=Ge hk;have yL:k+1<=100000000:=ab;have Sp:k+1+(l.length-k)<=100000000:=ab;by_cases hlt:k<l.length
  ·have cD:k<=1000000000:=ab
   obtain⟨y,hy⟩:∃y,l[k]=y:=⟨_,rfl⟩
   by_cases he:y<x
   ·have FF:=gI @hlt @hy @he (bN cD) @tR @yL
    try refine aF ?_
    exact⟨l.length-(k+1),ab,k+1,ab,ab,fun j dJ ib=>by
     by_cases iL:j=k
     ·subst iL;rw[hy];exact ft he
     ·exact hj j dJ ab,rfl,by rw[List.take_succ_eq_append_getElem hlt,hy];simp[bH]⟩
   ·have FF:=kj @hlt @hy @he @tR @yL @Sp (BL hlt)
    try refine Cm ?_
    refine zE ?_;exact(by rw[done (fun _=>by rw[hy];exact jk he)];simp[bH])
  ·have FF:=gZ @hlt @tR @yL @Sp @hk
   try refine Cm ?_
   refine zE ?_;exact(by rw[done (fun h=>absurd h hlt)];simp[bH])
end Ab
end Go.Proofs.YtkanpepkdcmpmaaGreatDoor
