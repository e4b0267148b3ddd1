import Derived.Test.YtngblilamkkikaaGreatDoorW7
import Derived.Test.YtngblilamkkikaaGreatDoorW8
set_option maxHeartbeats 40000000
set_option maxRecDepth 100000
set_option linter.all false
namespace Go.Proofs.YtngblilamkkikaaGreatDoor
namespace Ab
open Go Go.RowKit
attribute [local irreducible] aL bm aU
open aD (Env vd nH jF mC qH ib)
theorem afh (a b:bQ):bu Tryz.prog 225 [.agg (si a),.agg (si b)] (fun x=>x=.w (.c (iA (aK a.ints b.ints)))):=arI _ _ _ _ _ _ _ _ _ _
theorem Rh (l:List Env)(e:Env)(hl:l.length<=1000000):bu Tryz.prog 167 [.c (jr l),.agg (vA e)] (fun x=>x=.w (.c (jr (vd l e)))):=by
 have yR:l.length+1<=100000000:=ab;refine cD Tryz.func167 (aO [6]) [tz 2 12] [.t 4] [3,4,5,6] [3,6] ?_;have FF:=trivial
 try refine aJ ?_
 refine dB (fun n V S=>∃k:Nat,k<=l.length/\n=l.length-k/\(∀j (hj:j<l.length),j<k->decide (aK l[j].msg.ints e.msg.ints<0)=true)/\
  V=[(0,.w (.c (jr l))),(1,.w (.agg (vA e))),(3,.pb 3 1 0),(4,.w (.c (.sl []))),(5,.w (.c (iA k))),(6,.u)]/\S=[(3,.box 1 (vA e)),(6,.dead 0)]) (n:=l.length) ⟨0,ab,ab,fun j _ h=>ab,rfl,rfl⟩ ?_
 rintro n V L S ⟨k,hk,rfl,hj,rfl,rfl⟩
 have done:∀(h2:∀h:k<l.length,decide (aK l[k].msg.ints e.msg.ints<0)=false),vd l e=l.take k++e::l.drop k:=fun h2=>by
  obtain⟨g1,g2⟩:=LL (p:=fun x:Env=>decide (aK x.msg.ints e.msg.ints<0)) hk hj h2;unfold vd;rw[g1,g2]
 by_cases hlt:k<l.length
 ·have cL:k<=1000000000:=ab
  obtain⟨x,hx⟩:∃x,l[k]=x:=⟨_,rfl⟩
  by_cases he:aK x.msg.ints e.msg.ints<0
  ·have FF:=fT @hlt @hx @he (bT cL);refine bU (afh x.msg e.msg) ?_
   exact⟨l.length-(k+1),ab,k+1,ab,ab,fun j dV iC=>by
    by_cases gV:j=k
    ·subst gV;rw[hx];exact fh he
    ·exact hj j dV ab,rfl,rfl⟩
  ·have FF:=fT @hlt @hx @he (Ah hlt);refine Wu (afh x.msg e.msg) ?_;refine zE ?_;exact(by rw[done (fun _=>by rw[hx];exact ja he)];simp[List.map_take,List.map_drop];try rfl)
 ·have FF:=lI @hlt @hk
  try refine AK ?_
  refine zE ?_;exact(by rw[done (fun h=>absurd h hlt)];simp[List.map_take,List.map_drop];try rfl)
end Ab
namespace Ab
open Go Go.RowKit
open aD (Env vd nH jF mC qH ib)
theorem Xk (l:List Env)(m:bQ):(Dd l m= -1/\nH l m=none)\/∃(k:Nat) (h:k<l.length),Dd l m=k/\nH l m=some l[k]/\l[k].msg=m:=by
 unfold Dd nH
 cases hf:l.findIdx? (fun e=>decide (e.msg=m)) with
 |none=>
  left;refine⟨rfl,?_⟩;rw[List.findIdx?_eq_none_iff] at hf;rw[List.find?_eq_none];intro x hx;simp[hf x hx]
 |some k=>
  right;rw[List.findIdx?_eq_some_iff_getElem] at hf;obtain⟨h,h1,h2⟩:=hf;refine⟨k,h,rfl,?_,by simpa using h1⟩;rw[List.find?_eq_some_iff_getElem];refine⟨h1,k,h,rfl,fun j hj=> ?_⟩;have:=h2 j hj;simpa using this
def arO:Env:=⟨⟨0,0,0,0,0⟩,0,0,0,0⟩
theorem Ri (l:List Env)(m:bQ)(hl:l.length<=1000000):bu Tryz.prog 123 [.c (jr l),.agg (si m)] (fun x=>x=.cg [.agg (vA ((nH l m).getD arO)),.c (bA (nH l m).isSome)]):=by
 refine cD Tryz.func123 aN [] [.cell 4 9,.t 5] [3,4,5,6] [3,4] ?_
 rcases Xk l m with⟨h1,h2⟩|⟨k,hk,h1,h2,h3⟩
 ·have FF:=@h1;refine bU (JA l m hl) ?_;refine zE ?_;exact(by rw[h2];rfl)
 ·obtain⟨x,hx⟩:∃x,l[k]=x:=⟨_,rfl⟩
  rw[hx] at h2;have FF:=na @h1 @hk @hx;refine bU (JA l m hl) ?_;refine zE ?_;exact(by rw[h2];rfl)
theorem arP (l:List Env)(e:Env)(hl:l.length<=1000000):bu Tryz.prog 164 [.c (jr l),.agg (vA e)] (fun x=>x=.cg [.c (jr (jF l e)),.c (iA (if(nH l e.msg).isSome then 4 else 0))]):=by
 refine cD Tryz.func164 aN [] [.t 4,.t 5] [3,4,5] [3] ?_
 rcases Xk l e.msg with⟨h1,h2⟩|⟨k,hk,h1,h2,h3⟩
 ·have FF:=@h1;refine oE (JA l e.msg hl) (Rh l e hl) ?_;refine zE ?_;exact(by unfold jF;rw[h2];rfl)
 ·have FF:=@h1;refine oE (JA l e.msg hl) (Rh l e hl) ?_;refine zE ?_;exact(by unfold jF;rw[h2];rfl)
end Ab
end Go.Proofs.YtngblilamkkikaaGreatDoor
