import Derived.Test.YtlnghiefahcnpaaGreatQ10
set_option maxHeartbeats 40000000
set_option maxRecDepth 100000
set_option linter.all false
namespace Go.Proofs.YtlnghiefahcnpaaGreat
namespace Ab
open Go Go.RowKit
attribute [local irreducible] aC bo aU
open aq (Env qV kN gH jz lD fH)
theorem CP (a b:bm):bt Tryz.prog 139 [.agg (oP a),.agg (oP b)] (fun x=>x=.w (.c (iA (aQ a.ints b.ints)))):=aoQ _ _ _ _ _ _ _ _ _ _
theorem ru (l:List Env)(e:Env)(hl:l.length<=1000000):bt Tryz.prog 110 [.c (gM l),.agg (rq e)] (fun x=>x=.w (.c (gM (qV l e)))):=by
 have uq:l.length+1<=100000000:=aa;refine bZ aG Tryz.func110 rfl abI [.t 4] ah _ rfl [3,4,5,6] [3,6] ?_;refine bG abI ?_;dsimp only[V0,uV,S0];have FF:=trivial
 try refine aj ?_
 refine cF (fun n V S=>∃k:Nat,k<=l.length/\n=l.length-k/\(∀j (hj:j<l.length),j<k->decide (aQ l[j].msg.ints e.msg.ints<0)=true)/\
  V=[(0,.w (.c (gM l))),(1,.w (.agg (rq e))),(3,.pb 3 1 0),(4,.w (.c (.sl []))),(5,.w (.c (iA k))),(6,.u)]/\S=[(3,.box 1 (rq e)),(6,.dead 0)]) (n:=l.length) ⟨0,aa,aa,fun j _ h=>aa,rfl,rfl⟩ ?_
 rintro n V L S ⟨k,hk,rfl,hj,rfl,rfl⟩
 have done:∀(h2:∀h:k<l.length,decide (aQ l[k].msg.ints e.msg.ints<0)=false),qV l e=l.take k++e::l.drop k:=fun h2=>by
  obtain⟨g1,g2⟩:=EG (p:=fun x:Env=>decide (aQ x.msg.ints e.msg.ints<0)) hk hj h2;unfold qV;rw[g1,g2]
 by_cases hlt:k<l.length
 ·have cg:k<=1000000000:=aa
  obtain⟨x,hx⟩:∃x,l[k]=x:=⟨_,rfl⟩
  by_cases he:aQ x.msg.ints e.msg.ints<0
  ·have FF:=dW @hlt @hx @he (bL cg)
   repeat first|refine aN (CP x.msg e.msg) ?_|refine aO (CP x.msg e.msg) ?_|refine aP (CP x.msg e.msg) ?_|refine aj ?_
   exact⟨l.length-(k+1),aa,k+1,aa,aa,fun j dD dx=>by
    by_cases dN:j=k
    ·subst dN;rw[hx];exact ll he
    ·exact hj j dD aa,rfl,rfl⟩
  ·have FF:=dW @hlt @hx @he (Nat.le_of_lt hlt)
   repeat first|refine NL (CP x.msg e.msg) ?_|refine NM (CP x.msg e.msg) ?_|refine NN (CP x.msg e.msg) ?_|refine sL ?_
   (try dsimp only[aM,aJ])
   exact bd (by simp;try rfl) (by rw[done (fun _=>by rw[hx];exact pg he)];simp[List.map_take,List.map_drop];try rfl)
 ·have FF:=jk @hlt @hk
  try refine sL ?_
  (try dsimp only[aM,aJ])
  exact bd (by simp;try rfl) (by rw[done (fun h=>absurd h hlt)];simp[List.map_take,List.map_drop];try rfl)
end Ab
namespace Ab
open Go Go.RowKit
attribute [local irreducible] aC bo aU
open aq (Env qV kN gH jz lD fH)
theorem Ox (l:List Env)(m:bm):(yP l m= -1/\kN l m=none)\/∃(k:Nat) (h:k<l.length),yP l m=k/\kN l m=some l[k]/\l[k].msg=m:=by
 unfold yP kN
 cases hf:l.findIdx? (fun e=>decide (e.msg=m)) with
 |none=>
  left;refine⟨rfl,?_⟩;rw[List.findIdx?_eq_none_iff] at hf;rw[List.find?_eq_none];intro x hx;simp[hf x hx]
 |some k=>
  right;rw[List.findIdx?_eq_some_iff_getElem] at hf;obtain⟨h,h1,h2⟩:=hf;refine⟨k,h,rfl,?_,by simpa using h1⟩;rw[List.find?_eq_some_iff_getElem];refine⟨h1,k,h,rfl,fun j hj=> ?_⟩;have:=h2 j hj;simpa using this
def aoW:Env:=⟨⟨0,0,0,0,0⟩,0,0,0,0⟩
theorem ur (l:List Env)(m:bm)(hl:l.length<=1000000):bt Tryz.prog 64 [.c (gM l),.agg (oP m)] (fun x=>x=.bQ [.agg (rq ((kN l m).getD aoW)),.c (bA (kN l m).isSome)]):=by
 refine bZ aG Tryz.func64 rfl abO [.cell 4 9,.t 5] ah _ rfl [3,4,5,6] [3,4] ?_;refine bG abO ?_;dsimp only[V0,uV,S0]
 rcases Ox l m with⟨h1,h2⟩|⟨k,hk,h1,h2,h3⟩
 ·have FF:=@h1
  repeat first|refine aN (kV l m hl) ?_|refine aO (kV l m hl) ?_|refine aP (kV l m hl) ?_|refine aj ?_
  (try dsimp only[aM,aJ])
  exact bd (by simp;try rfl) (by rw[h2];rfl)
 ·obtain⟨x,hx⟩:∃x,l[k]=x:=⟨_,rfl⟩
  rw[hx] at h2;have FF:=kh @h1 @hk @hx
  repeat first|refine aN (kV l m hl) ?_|refine aO (kV l m hl) ?_|refine aP (kV l m hl) ?_|refine aj ?_
  (try dsimp only[aM,aJ])
  exact bd (by simp;try rfl) (by rw[h2];rfl)
theorem Oy (l:List Env)(e:Env)(hl:l.length<=1000000):bt Tryz.prog 107 [.c (gM l),.agg (rq e)] (fun x=>x=.bQ [.c (gM (gH l e)),.c (iA (if(kN l e.msg).isSome then 4 else 0))]):=by
 refine bZ aG Tryz.func107 rfl abL [.t 4,.t 5] ah _ rfl [3,4,5] [3] ?_;refine bG abL ?_;dsimp only[V0,uV,S0]
 rcases Ox l e.msg with⟨h1,h2⟩|⟨k,hk,h1,h2,h3⟩
 ·have FF:=@h1
  repeat first|refine aN (kV l e.msg hl) ?_|refine aN (ru l e hl) ?_|refine aO (kV l e.msg hl) ?_|refine aO (ru l e hl) ?_|refine aP (kV l e.msg hl) ?_|refine aP (ru l e hl) ?_|refine aj ?_
  (try dsimp only[aM,aJ])
  exact bd (by simp;try rfl) (by unfold gH;rw[h2];rfl)
 ·have FF:=@h1
  repeat first|refine aN (kV l e.msg hl) ?_|refine aN (ru l e hl) ?_|refine aO (kV l e.msg hl) ?_|refine aO (ru l e hl) ?_|refine aP (kV l e.msg hl) ?_|refine aP (ru l e hl) ?_|refine aj ?_
  (try dsimp only[aM,aJ])
  exact bd (by simp;try rfl) (by unfold gH;rw[h2];rfl)
end Ab
end Go.Proofs.YtlnghiefahcnpaaGreat
