import Derived.Test.YtngblilamkkikaaGreatDoorW2
set_option maxHeartbeats 40000000
set_option maxRecDepth 100000
set_option linter.all false
namespace Go.Proofs.YtngblilamkkikaaGreatDoor
namespace Ab
open Go Go.RowKit
open aD (jk jD uY yq wD Ao uZ iD)
abbrev iA (n:Int):AC:=.v (.int .i64 n)
abbrev bA (b:Bool):AC:=.v (.bool b)
abbrev ints (l:List Int):AC:=.sl (l.map fun n=>[iA n])
abbrev Wv (l:List Bool):AC:=.sl (l.map fun n=>[bA n])
abbrev sf (l:List (Int×Int)):AC:=.sl (l.map fun p=>[iA p.1,iA p.2])
abbrev nP (d:jk):List AC:=[ints d.cells,sf d.pending]
theorem Mn {c:List Int}{i v:Int}{l:List (Int×Int)}{r:List Int}(h:jD c ((i,v)::l)=some r):0<=i/\i<c.length/\jD (c.set i.toNat v) l=some r:=by
 unfold jD at h;split at h
 ·rename_i hh;exact⟨hh.1,hh.2,h⟩
 ·cases h
theorem QD (c:List Int)(l:List (Int×Int))(r:List Int)(h:jD c l=some r)(hm:c.length<=1000000)(jf:l.length<=1000000):bu Tryz.prog 227 [.c (ints c),.c (sf l)] (fun x=>x=.w (.c (ints r))):=by
 have hm8:c.length<=100000000:=ab;refine cD Tryz.func227 (aO [7]) [tz 5 11] [.t 4] [4,5,6,7] [7] ?_;refine k_reg ?_
 (refine bg (by simp;try rfl) ?_)
 refine bz (k_reg ?_)
 (refine bg (by simp[cQ,rowsOf,List.range,List.range.loop];try rfl) ?_)
 (refine bg (by simp;try rfl) ?_)
 refine CS rfl rfl rfl ai (by first|(simp;done)|(simp;omega)) rfl (by simp;try rfl) ?_
 (refine bg (by simp;try rfl) ?_)
 refine bz (gD (k_reg ?_))
 (refine bg (by simp;try rfl) ?_)
 refine bz (vw ?_)
 refine dB (fun n V S=>∃(k:Nat) (d:List Int),k<=l.length/\n=l.length-k/\d.length=c.length/\jD d (l.drop k)=some r/\
  V=[(0,.w (.c (ints c))),(1,.w (.c (sf l))),(4,.w (.c (.sl []))),(5,.w (.c (.own 7 2))),(6,.w (.c (iA k))),(7,.w (.c (.own 7 1)))]/\S=[(7,.row 3 1 2 (d.map fun n=>[iA n]))]) (n:=l.length) ⟨0,c,ab,ab,rfl,h,rfl,rfl⟩ ?_
 rintro n V L S ⟨k,d,hk,rfl,lE,hd,rfl,rfl⟩;by_cases hlt:k<l.length
 ·have cL:k<=1000000000:=ab;have mc:=hd;rw[List.drop_eq_getElem_cons hlt] at mc
  obtain⟨⟨y1,y2⟩,hy⟩:∃y,l[k]=y:=⟨_,rfl⟩
  rw[hy] at mc;obtain⟨q1,q2,q3⟩:=Mn mc
  obtain⟨m,rfl⟩:∃m:Nat,y1=m:=⟨y1.toNat,ab⟩
  have FB:m<d.length:=ab;refine gD (k_reg ?_)
  iterate 4 (refine bg (by simp[hlt];try rfl) ?_)
  refine bz (kO true ai (sd (vw (Jf ?_))))
  iterate 11 (refine pJ rfl (by simp[hlt,hy];try rfl) ?_)
  refine tG ?_
  iterate 2 (refine bg (by simp[FB];try rfl) ?_)
  refine bz ?_
  show aL _ _ _
  refine yF ?_
  (refine bg (by simp;try rfl) ?_)
  (refine bg (by simp[bT cL];try rfl) ?_)
  (refine bg (by simp;try rfl) ?_)
  refine bz ?_;exact⟨l.length-(k+1),ab,k+1,d.set m y2,ab,rfl,by simp[lE],by simpa using q3,rfl,by rw[List.map_set]⟩
 ·have kQ:k=l.length:=ab;subst kQ;rw[IA] at hd;simp only[jD,aC] at hd;subst hd;refine gD (k_reg ?_)
  iterate 4 (refine bg (by simp;try rfl) ?_)
  refine bz (kO false ai (AG ?_))
  show aL _ _ _
  refine k_reg ?_
  iterate 2 (refine bg (by simp;try rfl) ?_)
  refine bz (nN ?_);exact jJ (by simp;try rfl) rfl
theorem apD (d:jk)(r:List Int)(h:uY d=some r)(hm:d.cells.length<=1000000)(hp:d.pending.length<=1000000):bu Tryz.prog 221 [.agg (nP d)] (fun x=>x=.w (.c (ints r))):=by
 refine cD Tryz.func221 aN [] [.t 2] [1,2] [1] ?_;refine k_reg ?_
 iterate 2 (refine bg (by simp;try rfl) ?_)
 refine bz (k_reg ?_)
 iterate 4 (refine bg (by simp;try rfl) ?_)
 refine CQ (by simp;try rfl) (QD _ _ _ h hm hp) ?_
 (refine bg (by simp;try rfl) ?_)
 refine bz (nN ?_);exact jJ (by simp;try rfl) rfl
theorem apE (d r:jk)(h:yq d=some r)(hm:d.cells.length<=1000000)(hp:d.pending.length<=1000000):bu Tryz.prog 254 [.agg (nP d)] (fun x=>x=.w (.agg (nP r))):=by
 unfold yq at h;rw[bK] at h;obtain⟨x,h1,rfl⟩:=h;refine cD Tryz.func254 aN [] [.cell 2 2] [1,2] [1,2] ?_;refine k_reg ?_
 iterate 2 (refine bg (by simp;try rfl) ?_)
 refine bz (k_reg ?_)
 (refine bg (by simp;try rfl) ?_)
 refine CQ (by simp;try rfl) (apD d x h1 hm hp) ?_
 iterate 2 (refine bg (by simp;try rfl) ?_)
 refine bz (nN ?_);exact jJ (by simp;try rfl) rfl
theorem apF (d r:jk)(c v:Int)(h:wD d c v=some r)(hm:d.cells.length<=1000000)(hp:d.pending.length<=1000000):bu Tryz.prog 253 [.agg (nP d),.c (iA c),.c (iA v)] (fun x=>x=.w (.agg (nP r))):=by
 have hp8:d.pending.length<=100000000:=ab;have hp9:d.pending.length+1<=100000000:=ab
 have key:∀(hc:c<0\/(d.cells.length:Int)<=c),d=r:=fun hc=>by
  unfold wD at h;rw[aj hc] at h;exact ei h
 refine cD Tryz.func253 ⟨0,[18],[],[(5,[18])],dc,[],[]⟩ [(5,7,tk 0 4 (tk 5 2 (.move 4 .nil)),[])] [.cell 6 2] [3,6,7,18] [3,6,18] ?_;refine k_reg ?_
 iterate 2 (refine bg (by simp;try rfl) ?_)
 refine bz (gD (k_reg ?_));by_cases h0:c<0
 ·iterate 9 (refine bg (by simp[h0];try rfl) ?_)
  refine bz (kO true ai ?_);refine gD (k_reg ?_)
  iterate 2 (refine bg (by simp;try rfl) ?_)
  refine bz (yG ?_);exact jJ (by simp;try rfl) (by rw[<-key (.inl h0)];rfl)
 ·by_cases h1:(d.cells.length:Int)<=c
  ·iterate 9 (refine bg (by simp[h0,h1];try rfl) ?_)
   refine bz (kO true ai ?_);refine gD (k_reg ?_)
   iterate 2 (refine bg (by simp;try rfl) ?_)
   refine bz (yG ?_);exact jJ (by simp;try rfl) (by rw[<-key (.inr h1)];rfl)
  ·iterate 9 (refine bg (by simp[h0,h1];try rfl) ?_)
   refine bz (kO false ai (sd ?_));unfold wD at h;rw[af ab] at h;refine k_reg ?_
   (refine bg (by simp[cQ,rowsOf,List.range,List.range.loop];try rfl) ?_)
   iterate 2 (refine bg (by simp;try rfl) ?_)
   refine CS rfl rfl rfl ai (by first|(simp;done)|(simp;omega)) rfl (by simp;try rfl) ?_
   iterate 3 (refine bg (by simp;try rfl) ?_)
   (refine bg (by simp[cQ,rowsOf,List.range,List.range.loop];try rfl) ?_)
   refine CS rfl rfl rfl ai (by first|(simp;done)|(simp;omega)) rfl (by simp;try rfl) ?_
   (refine bg (by simp;try rfl) ?_)
   have gE:(d.pending++[(c,v)]).length=d.pending.length+1:=ai;rw[gE] at h;refine bz (gD (k_reg ?_));by_cases h4:4<d.pending.length+1
   ·rw[aj h4,bK] at h;obtain⟨x,hx1,rfl⟩:=h;have Ww:(4:Int)<(d.pending.length:Int)+1:=ab
    iterate 3 (refine bg (by simp[Ww];try rfl) ?_)
    refine bz (kO true ai ?_);refine gD (Wh (by simp;exact⟨rfl,rfl,rfl⟩) (wV ?_))
    have e1:(d.pending.map (fun p=>[iA p.1,iA p.2])++[[iA c,iA v]])=(d.pending++[(c,v)]).map fun p=>[iA p.1,iA p.2]:=ai
    rw[e1];generalize hL:d.pending++[(c,v)]=l at*;have cq:1<=l.length:=ab
    iterate 3 (refine pJ rfl (by simp;try rfl) ?_)
    iterate 3 (refine pJ rfl (by simp[cq];try rfl) ?_)
    refine Fz rfl (by simp[List.map_take];try rfl) (QD d.cells (l.take 1) x hx1 hm bC) ?_;refine tG ?_
    iterate 2 (refine bg (by simp;try rfl) ?_)
    refine bz (yG ?_);exact jJ (by simp;try rfl) (by simp[List.map_drop])
   ·rw[af h4] at h;simp only[aC] at h;subst h;have Ww:¬(4:Int)<(d.pending.length:Int)+1:=ab
    iterate 3 (refine bg (by simp[Ww];try rfl) ?_)
    refine bz (kO false ai (sd ?_));refine k_reg ?_
    iterate 5 (refine bg (by simp;try rfl) ?_)
    refine bz (nN ?_);exact jJ (by simp;try rfl) ai
end Ab
namespace Ab
open Go Go.RowKit
attribute [local irreducible] aL bm aU
open aD (jk jD uY yq wD Ao uZ iD)
abbrev bL (l:List Int):List (List AC):=l.map fun n=>[iA n]
theorem Wx (c:List Int)(l:List (Int×Int))(r:List Int)(x0:Slot)(h:jD c l=some r)(hm:c.length<=1000000)(jf:l.length<=1000000):gM Tryz.prog 227 [.w (.c (ints c)),.w (.c (sf l))] [(107,x0)] (fun x S'=>x=.w (.c (.own 107 (x0.gen+1+1)))/\∀p∈[(107,Slot.row 3 1 (x0.gen+1+1) (bL r))],S' p.1=p.2):=by
 have hm8:c.length<=100000000:=ab;refine pK Tryz.func227 (aB 100 [7]) [tz 5 11] [.t 4] [4,5,6,7] [] ?_;have FF:=trivial
 try refine aJ ?_
 refine dB (fun n V S=>∃(k:Nat) (d:List Int),k<=l.length/\n=l.length-k/\d.length=c.length/\jD d (l.drop k)=some r/\
  V=[(0,.w (.c (ints c))),(1,.w (.c (sf l))),(4,.w (.c (.sl []))),(5,.w (.c (.own 107 (x0.gen+1+1)))),(6,.w (.c (iA k))),(7,.w (.c (.own 107 (x0.gen+1))))]/\S=[(107,.row 3 1 (x0.gen+1+1) (bL d))]) (n:=l.length) ⟨0,c,ab,ab,rfl,h,rfl,rfl⟩ ?_
 rintro n V L S ⟨k,d,hk,rfl,lE,hd,rfl,rfl⟩;by_cases hlt:k<l.length
 ·have cL:k<=1000000000:=ab;have mc:=hd;rw[List.drop_eq_getElem_cons hlt] at mc
  obtain⟨⟨y1,y2⟩,hy⟩:∃y,l[k]=y:=⟨_,rfl⟩
  rw[hy] at mc;obtain⟨q1,q2,q3⟩:=Mn mc
  obtain⟨m,rfl⟩:∃m:Nat,y1=m:=⟨y1.toNat,ab⟩
  have FB:m<d.length:=ab;have FF:=fT @hlt @hy @FB (bT cL)
  try refine aJ ?_
  exact⟨l.length-(k+1),ab,k+1,d.set m y2,ab,rfl,by simp[lE],by simpa using q3,rfl,by simp[bL,List.map_set]⟩
 ·have kQ:k=l.length:=ab;subst kQ;rw[IA] at hd;simp only[jD,aC] at hd;subst hd;have FF:=trivial
  try refine aJ ?_
  refine jL ?_;exact(by simp[dL])
theorem Jj (d:jk)(r:List Int)(x0:Slot)(hx0:eQ [107] x0=true)(h:uY d=some r)(hm:d.cells.length<=1000000)(hp:d.pending.length<=1000000):gM Tryz.prog 221 [.w (.agg (nP d))] [(107,x0)] (fun x S'=>x=.w (.c (.own 107 (x0.gen+1+1)))/\∀p∈[(107,Slot.row 3 1 (x0.gen+1+1) (bL r))],S' p.1=p.2):=by
 refine pK Tryz.func221 ⟨110,[],[(227,[107])],[],dc,[],[]⟩ [] [.t 2] [1,2] [111] ?_;have FF:=@hx0
 repeat first|refine tM (Wx d.cells d.pending r _ h hm hp) ?_|refine tN (Wx d.cells d.pending r _ h hm hp) ?_|refine tO rfl (Wx d.cells d.pending r _ h hm hp) ?_|refine aJ ?_
 refine jL ?_;exact(by simp[dL])
theorem apG (d r:jk)(m:Nat)(h:uZ d m=some r)(hm:d.cells.length<=1000000)(hp:d.pending.length<=1000000)(mu:m<=1000000):bu Tryz.prog 162 [.agg (nP d),.c (iA m)] (fun x=>x=.w (.agg (nP r))):=by
 unfold uZ at h;rw[bK] at h;obtain⟨c,h1,rfl⟩:=h
 have dp:c.length<=1000000:=by
  have:c.length=d.cells.length:=by
   have key:∀(l:List (Int×Int)) (c r:List Int),jD c l=some r->r.length=c.length:=by
    intro l
    induction l with
    |nil=>intro c r h;simp only[jD,aC] at h;rw[h]
    |cons x l ih=>
     intro c r h;obtain⟨_,_,h3⟩:=Mn (i:=x.1) (v:=x.2) h;have:=ih _ _ h3;simpa using this
   exact key _ _ _ h1
  omega
 refine cD Tryz.func162 ⟨0,[],[(221,[107])],[],dc,[],[]⟩ [] [.cell 4 2] [2,4,5] [2,4,107] ?_;have FF:=trivial
 repeat first|refine tM (Jj d c _ ai h1 hm hp) ?_|refine tN (Jj d c _ ai h1 hm hp) ?_|refine tO rfl (Jj d c _ ai h1 hm hp) ?_|refine aJ ?_
 refine dB (fun n V S=>∃(k g:Nat),n=m-c.length-k/\(k=0\/c.length+k<=m)/\
  V=[(0,.w (.agg (nP d))),(1,.w (.c (iA m))),(2,.pb 2 1 0),(4,.pb 4 1 0),(5,.w (.c (.own 107 g)))]/\S=[(2,.box 1 (nP d)),(4,.box 1 [.sl [],.sl []]),(107,.row 3 1 g (bL (c++List.replicate k 0)))]) (n:=m-c.length) ⟨0,2,ab,.inl rfl,rfl,ai⟩ ?_
 rintro n V L S ⟨k,g,rfl,hk,rfl,rfl⟩;by_cases hlt:c.length+k<m
 ·have ik:(c.length:Int)+(k:Int)<(m:Int):=ab;have yR:c.length+k+1<=100000000:=ab;have FF:=na @ik @hlt @yR
  try refine aJ ?_
  exact⟨m-c.length-(k+1),ab,k+1,g+1,rfl,.inr ab,rfl,by simp[List.replicate_succ']⟩
 ·have ik:¬(c.length:Int)+(k:Int)<(m:Int):=ab;have hle:m<=c.length+k:=ab
  have lF:(c++List.replicate k 0).take m=(c++List.replicate (m-c.length) 0).take m:=by
   rcases hk with rfl|hk
   ·have:m-c.length=0:=ab;rw[this]
   ·have kQ:k=m-c.length:=ab;rw[kQ]
  have FF:=lI @ik @hle
  try refine aJ ?_
  refine zE ?_;exact(by rw[<-lF];simp[List.map_take])
open aD (rV yn Am sZ bq nk mB fm)
theorem Jk (l:List Int)(x:Int)(hl:l.length<=1000000):bu Tryz.prog 261 [.c (ints l),.c (iA x)] (fun y=>y=.w (.c (bA (decide (x∈l))))):=by
 refine cD Tryz.func261 aN [] [.t 4] [4,5] [] ?_;have FF:=trivial
 try refine aJ ?_
 refine dB (fun n V S=>∃k:Nat,k<=l.length/\n=l.length-k/\(∀j (hj:j<l.length),j<k->l[j]≠x)/\
  V=[(0,.w (.c (ints l))),(1,.w (.c (iA x))),(4,.w (.c (bA false))),(5,.w (.c (iA k)))]/\S=[]) (n:=l.length) ⟨0,ab,ab,fun j _ h=>ab,rfl,rfl⟩ ?_
 rintro n V L S ⟨k,hk,rfl,hj,rfl,rfl⟩;by_cases hlt:k<l.length
 ·have cL:k<=1000000000:=ab
  obtain⟨y,hy⟩:∃y,l[k]=y:=⟨_,rfl⟩
  by_cases he:y=x
  ·have FF:=na @hlt @hy @he
   try refine aJ ?_
   refine zE ?_;exact(by rw[fh (he▸hy▸cA hlt)];rfl)
  ·have FF:=fT @hlt @hy @he (bT cL)
   try refine aJ ?_
   exact⟨l.length-(k+1),ab,k+1,ab,ab,fun j dV iC=>by
    by_cases gV:j=k
    ·subst gV;rw[hy];exact he
    ·exact hj j dV ab,rfl,rfl⟩
 ·have FF:=@hlt
  try refine aJ ?_
  refine zE ?_;exact(by rw[ja (fun hm=>by obtain⟨j,dV,gV⟩:=EI.1 hm;exact hj j dV ab gV)];rfl)
theorem aev (l:List Int)(m:Nat)(hm:m<=1000000):bu Tryz.prog 13 [.c (ints l),.c (iA m)] (fun y=>y=.w (.c (ints (l.take m)))):=by
 have sg:min (l.length:Int) (m:Int)=((min l.length m:Nat):Int):=ab;have hle:min l.length m<=l.length:=Nat.min_le_left _ _;have aDb:min l.length m<=m:=Nat.min_le_right _ _;have yR:min l.length m<=100000000:=ab;refine cD Tryz.func13 (aO [5]) [] [.t 4] [4,5] [5] ?_;have FF:=na @sg @hle @yR
 try refine AK ?_
 refine zE ?_;exact(by rw[show l.take m=l.take (min l.length m) by rw[Nat.min_comm,<-List.take_take,fx]];simp[dL,List.map_take])
theorem QE (n:Int):bu Tryz.prog 262 [.c (iA n)] (fun x=>x=.w (.c (iA (rV n)))):=by
 refine cD Tryz.func262 aN [] [.t 2] [2] [] ?_;have FF:=trivial
 try refine aJ ?_
 refine zE ?_;exact(rfl)
theorem QF (b:Bool):bu Tryz.prog 251 [.c (bA b)] (fun x=>x=.w (.c (iA (yn b)))):=by
 refine cD Tryz.func251 aN [] [.t 2] [2] [] ?_;cases b
 ·have FF:=trivial
  try refine aJ ?_
  refine zE ?_;exact(rfl)
 ·have FF:=trivial
  try refine aJ ?_
  refine zE ?_;exact(rfl)
theorem apH (op y x:Int)(hop:op=6\/op=7\/op=8\/op=9\/op=11\/op=12\/op=13)(hy:bq y=true)(hx:bq x=true):bu Tryz.prog 250 [.c (iA op),.c (iA y),.c (iA x)] (fun r=>r=.w (.c (iA (Am op y x)))):=by
 have QG: -2147483647<=y/\y<=2147483647:=by simpa [bq] using hy
 have bx1: -2147483647<=x/\x<=2147483647:=by simpa [bq] using hx
 refine cD Tryz.func250 aN [] [.t 6] [6,7] [] ?_
 rcases hop with rfl|rfl|rfl|rfl|rfl|rfl|rfl
 ·have FF:=(oC (a:=y) (b:=x) ab ab)
  refine bU (QE (y+x)) ?_;refine zE ?_;exact(rfl)
 ·have FF:=(AH (a:=y) (b:=x) ab ab)
  refine bU (QE (y-x)) ?_;refine zE ?_;exact(rfl)
 ·have FF:=(apk (acy QG bx1).1 (acy QG bx1).2)
  refine bU (QE (y*x)) ?_;refine zE ?_;exact(rfl)
 ·by_cases h0:x=0
  ·have FF:=@h0
   try refine aJ ?_
   refine zE ?_;exact(by rw[h0];rfl)
  ·have FF:=lI @h0 (ady h0 (acz QG).1 (acz QG).2);refine bU (QE (y.tdiv x)) ?_;refine zE ?_;exact(by simp[Am,h0])
 ·have FF:=trivial;refine bU (QF (decide (y<x))) ?_;refine zE ?_;exact(rfl)
 ·have FF:=trivial;refine bU (QF (decide (y<=x))) ?_;refine zE ?_;exact(rfl)
 ·have FF:=trivial;refine bU (QF (decide (y=x))) ?_;refine zE ?_;exact(rfl)
theorem apI (l:List Int)(i:Nat)(k:Int)(hk:2<=k/\k<=4)(hi:i<=1000000)(hl:l.length<=1000000):bu Tryz.prog 249 [.c (ints l),.c (iA i),.c (iA k)] (fun r=>r=.w (.c (iA (sZ l i k)))):=by
 have h0:k≠0:=ab;have i0:¬(i:Int)<0:=ab;refine cD Tryz.func249 aN [] [.t 6] [6] [] ?_;by_cases hlt:i<l.length
 ·obtain⟨y,hy⟩:∃y,l[i]=y:=⟨_,rfl⟩
  have qM:¬l.length<=i:=ab;have h1:=Int.tmod_lt_of_pos y (show 0<k by omega)
  have h2: -k<y.tmod k:=by
   have:=Int.tmod_lt_of_pos (-y) (show 0<k by omega);rw[Int.neg_tmod] at this;omega
  have FF:=gA @i0 @hlt @qM @hy (fun a=>Mh (a:=a) h0) (oC (a:=y.tmod k) (b:=k) ab ab)
  try refine aJ ?_
  refine zE ?_;exact(by unfold sZ;rw[cy hlt,hy];rfl)
 ·have qM:l.length<=i:=ab;have FF:=na @i0 @hlt @qM
  try refine aJ ?_
  refine zE ?_;exact(by unfold sZ;rw[oW qM];rfl)
abbrev FC (a:fm):List AC:=[iA a.kind,iA a.a,iA a.b,iA a.c,iA a.d]
abbrev acts (l:List fm):AC:=.sl (l.map FC)
theorem apJ (l:List Int)(x:Int)(hl:l.length<=1000000):bu Tryz.prog 248 [.c (ints l),.c (iA x)] (fun y=>y=.w (.c (ints (nk l x)))):=by
 refine cD Tryz.func248 (aO [5]) [] [.t 4] [4,5,6] [5] ?_;by_cases hm:x∈l
 ·have FF:=@hm;refine bU (Jk l x hl) ?_;refine zE ?_;exact(by unfold nk;rw[aj hm];rfl)
 ·have FF:=@hm;refine bU (Jk l x hl) ?_
  refine dB (fun n V S=>∃k:Nat,k<=l.length/\n=l.length-k/\(∀j (hj:j<l.length),j<k->decide (l[j]<x)=true)/\
   V=[(0,.w (.c (ints l))),(1,.w (.c (iA x))),(4,.w (.c (.sl []))),(5,.w (.c (.own 5 (k+1)))),(6,.w (.c (iA k)))]/\S=[(5,.row 3 1 (k+1) (bL (l.take k)))]) (n:=l.length) ⟨0,ab,ab,fun j _ h=>ab,rfl,rfl⟩ ?_
  rintro n V L S ⟨k,hk,rfl,hj,rfl,rfl⟩
  have done:∀(h2:∀h:k<l.length,decide (l[k]<x)=false),nk l x=l.take k++x::l.drop k:=fun h2=>by
   obtain⟨g1,g2⟩:=LL (p:=fun y:Int=>decide (y<x)) hk hj h2;unfold nk;rw[af hm,g1,g2]
  have CW:k<=100000000:=ab;have sg:min k l.length=k:=EM hk;have yR:k+1<=100000000:=ab;have Wy:k+1+(l.length-k)<=100000000:=ab;by_cases hlt:k<l.length
  ·have cL:k<=1000000000:=ab
   obtain⟨y,hy⟩:∃y,l[k]=y:=⟨_,rfl⟩
   by_cases he:y<x
   ·have FF:=gA @hlt @hy @he (bT cL) @sg @yR
    try refine aJ ?_
    exact⟨l.length-(k+1),ab,k+1,ab,ab,fun j dV iC=>by
     by_cases gV:j=k
     ·subst gV;rw[hy];exact fh he
     ·exact hj j dV ab,rfl,by rw[List.take_succ_eq_append_getElem hlt,hy];simp[bL]⟩
   ·have FF:=kz @hlt @hy @he @sg @yR @Wy (Ah hlt)
    try refine AK ?_
    refine zE ?_;exact(by rw[done (fun _=>by rw[hy];exact ja he)];simp[bL])
  ·have FF:=jT @hlt @sg @yR @Wy @hk
   try refine AK ?_
   refine zE ?_;exact(by rw[done (fun h=>absurd h hlt)];simp[bL])
end Ab
end Go.Proofs.YtngblilamkkikaaGreatDoor
