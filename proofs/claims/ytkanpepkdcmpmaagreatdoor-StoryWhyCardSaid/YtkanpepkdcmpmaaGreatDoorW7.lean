import Derived.Test.YtkanpepkdcmpmaaGreatDoorW5
import Derived.Test.YtkanpepkdcmpmaaGreatDoorW6
set_option maxHeartbeats 40000000
set_option maxRecDepth 100000
set_option linter.all false
namespace Go.Proofs.YtkanpepkdcmpmaaGreatDoor
namespace Ab
open Go Go.RowKit
attribute [local irreducible] aP bB aW
open aD (Env wW oQ kH nI sx jd)
theorem agN (a b:bR):bj Tryz.prog 256 [.agg (ng a),.agg (ng b)] (fun x=>x=.w (.c (iA (aM a.ints b.ints)))):=atw _ _ _ _ _ _ _ _ _ _
theorem SX (l:List Env)(e:Env)(hl:l.length<=1000000):bj Tryz.prog 203 [.c (kj l),.agg (xl e)] (fun x=>x=.w (.c (kj (wW l e)))):=by
 have yL:l.length+1<=100000000:=ab;refine cI Tryz.func203 (aO [6]) [tz 2 12] [.t 4] [3,4,5,6] [3,6] ?_;have FF:=trivial
 try refine aG ?_
 refine dA (fun n V S=>∃k:Nat,k<=l.length/\n=l.length-k/\(∀j (hj:j<l.length),j<k->decide (aM l[j].msg.ints e.msg.ints<0)=true)/\
  V=[(0,.w (.c (kj l))),(1,.w (.agg (xl e))),(3,.pb 3 1 0),(4,.w (.c (.sl []))),(5,.w (.c (iA k))),(6,.u)]/\S=[(3,.box 1 (xl e)),(6,.dead 0)]) (n:=l.length) ⟨0,ab,ab,fun j _ h=>ab,rfl,rfl⟩ ?_
 rintro n V L S ⟨k,hk,rfl,hj,rfl,rfl⟩
 have done:∀(h2:∀h:k<l.length,decide (aM l[k].msg.ints e.msg.ints<0)=false),wW l e=l.take k++e::l.drop k:=fun h2=>by
  obtain⟨g1,g2⟩:=NG (p:=fun x:Env=>decide (aM x.msg.ints e.msg.ints<0)) hk hj h2;unfold wW;rw[g1,g2]
 by_cases hlt:k<l.length
 ·have cF:k<=1000000000:=ab
  obtain⟨x,hx⟩:∃x,l[k]=x:=⟨_,rfl⟩
  by_cases he:aM x.msg.ints e.msg.ints<0
  ·have FF:=fg @hlt @hx @he (bT cF);refine bY (agN x.msg e.msg) ?_
   exact⟨l.length-(k+1),ab,k+1,ab,ab,fun j eb iq=>by
    by_cases iW:j=k
    ·subst iW;rw[hx];exact fF he
    ·exact hj j eb ab,rfl,rfl⟩
  ·have FF:=fg @hlt @hx @he (BU hlt);refine Yd (agN x.msg e.msg) ?_;refine zE ?_;exact(by rw[done (fun _=>by rw[hx];exact jw he)];simp[List.map_take,List.map_drop];try rfl)
 ·have FF:=im @hlt @hk
  try refine Cv ?_
  refine zE ?_;exact(by rw[done (fun h=>absurd h hlt)];simp[List.map_take,List.map_drop];try rfl)
end Ab
namespace Ab
open Go Go.RowKit
open aD (Env wW oQ kH nI sx jd)
theorem YM (l:List Env)(m:bR):(EH l m= -1/\oQ l m=none)\/∃(k:Nat) (h:k<l.length),EH l m=k/\oQ l m=some l[k]/\l[k].msg=m:=by
 unfold EH oQ
 cases hf:l.findIdx? (fun e=>decide (e.msg=m)) with
 |none=>
  left;refine⟨rfl,?_⟩;rw[List.findIdx?_eq_none_iff] at hf;rw[List.find?_eq_none];intro x hx;simp[hf x hx]
 |some k=>
  right;rw[List.findIdx?_eq_some_iff_getElem] at hf;obtain⟨h,h1,h2⟩:=hf;refine⟨k,h,rfl,?_,by simpa using h1⟩;rw[List.find?_eq_some_iff_getElem];refine⟨h1,k,h,rfl,fun j hj=> ?_⟩;have:=h2 j hj;simpa using this
def atC:Env:=⟨⟨0,0,0,0,0⟩,0,0,0,0⟩
theorem SY (l:List Env)(m:bR)(hl:l.length<=1000000):bj Tryz.prog 159 [.c (kj l),.agg (ng m)] (fun x=>x=.bP [.agg (xl ((oQ l m).getD atC)),.c (bA (oQ l m).isSome)]):=by
 refine cI Tryz.func159 aN [] [.cell 4 9,.t 5] [3,4,5,6] [3,4] ?_
 rcases YM l m with⟨h1,h2⟩|⟨k,hk,h1,h2,h3⟩
 ·have FF:=@h1;refine bY (Ln l m hl) ?_;refine zE ?_;exact(by rw[h2];rfl)
 ·obtain⟨x,hx⟩:∃x,l[k]=x:=⟨_,rfl⟩
  rw[hx] at h2;have FF:=kT @h1 @hk @hx;refine bY (Ln l m hl) ?_;refine zE ?_;exact(by rw[h2];rfl)
theorem atD (l:List Env)(e:Env)(hl:l.length<=1000000):bj Tryz.prog 200 [.c (kj l),.agg (xl e)] (fun x=>x=.bP [.c (kj (kH l e)),.c (iA (if(oQ l e.msg).isSome then 4 else 0))]):=by
 refine cI Tryz.func200 aN [] [.t 4,.t 5] [3,4,5] [3] ?_
 rcases YM l e.msg with⟨h1,h2⟩|⟨k,hk,h1,h2,h3⟩
 ·have FF:=@h1;refine kg (Ln l e.msg hl) (SX l e hl) ?_;refine zE ?_;exact(by unfold kH;rw[h2];rfl)
 ·have FF:=@h1;refine kg (Ln l e.msg hl) (SX l e hl) ?_;refine zE ?_;exact(by unfold kH;rw[h2];rfl)
end Ab
end Go.Proofs.YtkanpepkdcmpmaaGreatDoor
