import Derived.Test.YtlnghiefahcnpaaGreatQ108
import Derived.Test.YtlnghiefahcnpaaGreatQ101
import Derived.Test.YtlnghiefahcnpaaGreatQ102
set_option maxHeartbeats 40000000
set_option maxRecDepth 100000
set_option linter.all false
namespace Go.Proofs.YtlnghiefahcnpaaGreat
namespace Ab
open Go Go.RowKit
attribute [local irreducible] aC bo aU
open aq (bR mo Ob lE aE Env aL Rr iO iN wI)
theorem ark (w:aE)(x1 x2 x3 x4:Slot)(h1:w.nodes.length<=1000000)(h2:w.next.length<=1000000)(h3:w.br.length<=1000000)(h4:w.traces.length<=1000000):
  fQ Tryz.prog 37 [.w (.agg (er w))] [(601,x1),(602,x2),(603,x3),(604,x4)]
  (fun x S'=>x=.w (.agg (wX w (x1.gen+1+1) (x2.gen+1+1) (x3.gen+1+1) (x4.gen+1+1)))/\∀p∈wT w (x1.gen+1+1) (x2.gen+1+1) (x3.gen+1+1) (x4.gen+1+1),S' p.1=p.2):=by
 have b1:w.nodes.length<=100000000:=aa;have b2:w.next.length<=100000000:=aa;have b3:w.br.length<=100000000:=aa;have b4:w.traces.length<=100000000:=aa;refine lQ aG Tryz.func37 rfl ZI [.cell 2 16] ah _ rfl _ [1,2,3,4,5,6] [599,600] ?_;refine bG ZI ?_;dsimp only[VM,uV,S0,List.cons_append,List.nil_append,List.map];have FF:=dW @b1 @b2 @b3 @b4
 repeat first|refine bb ?_|refine zrq ?_
 (try dsimp only[aM,aJ])
 refine gZ (by first|(simp;done)|(simp[hl,hw,fz];try rfl)|(simp;try rfl)) ae ?_;exact(by simp[cZ])
theorem PZ {α β:Type}(l:List α)(x:β)(k:Nat)(hk:k<l.length):(l.take (k+1)).map (fun _=>x)=(l.take k).map (fun _=>x)++[x]:=by
 rw[ki hk,dw];rfl
def AH (c:bR)(k:Nat):List Int:=(List.range k).map fun(n:Nat)=>aq.after c n (-1)
theorem arl (c:bR)(k:Nat):AH c (k+1)=AH c k++[aq.after c k (-1)]:=by
 unfold AH;rw[qA,dw];rfl
theorem arn (c:bR)(k:Nat):(AH c k).length=k:=by simp[AH]
theorem Qa (c:bR)(hf:c.first.length<=12)(hr:c.dg.length<=1000000):bt Tryz.prog 13 [.agg (mH c)] (fun x=>x=.w (.agg (er (iO c)))):=by
 refine bZ aG Tryz.func13 rfl ZL [.cell 2 16] ah _ rfl [1,2,3,4] [1,2,3,611,612,613,614] ?_;refine bG ZL ?_;dsimp only[V0,uV,S0];have FF:=trivial
 repeat first|refine bb ?_|refine zrq ?_
 refine cF (fun n V S=>∃k:Nat,k<=c.first.length/\n=c.first.length-k/\
  V=[(0,.w (.agg (mH c))),(1,.pb 1 1 0),(2,.pb 2 1 0),(3,.pb 3 1 0),(4,.w (.c (iA k)))]/\
  S=[(1,.box 1 (mH c)),(2,.box 1 [.sl [],.sl [],.sl [],.sl [],iA 0,iA 0,iA 0,iA 0,.sl [],.sl [],.sl [],.sl [],.sl [],.sl [],.sl [],iA 0]),
   (3,.box 1 [JR c.cQ,ints c.first,ints c.mq,reqs c.dg,iA c.mr,iA c.jA,iA c.kz,iA c.drift,.own 611 (k+1),.sl [],.own 612 (k+1),.sl [],.own 613 (k+1),.own 614 (k+1),.sl [],iA 0]),
   (611,.row 92 52 (k+1) (((c.first.take k).map fun _=>iN).map aK)),(612,.row 3 1 (k+1) (bB (AH c k))),(613,.row 202 1 (k+1) (((c.first.take k).map fun _=>([]:List lE)).map kC)),(614,.row 210 1 (k+1) (((c.first.take k).map fun _=>([]:List (List Int))).map ry))]) (n:=c.first.length) ⟨0,aa,aa,rfl,rfl⟩ ?_
 rintro n V L S ⟨k,hk,rfl,rfl,rfl⟩;by_cases hlt:k<c.first.length
 ·have cg:k<=1000000000:=aa;have e1:=PZ c.first iN k hlt;have e2:=PZ c.first ([]:List lE) k hlt;have e3:=PZ c.first ([]:List (List Int)) k hlt;have e4:=arl c k;have CB:k+1<=100000000:=aa;have Gj:min k c.first.length=k:=aa;have FF:=fX @hlt @CB @Gj @arn (bL cg)
  repeat first|refine aN Ov ?_|refine aN (Ki c k (-1) aa hr) ?_|refine aO Ov ?_|refine aO (Ki c k (-1) aa hr) ?_|refine aP Ov ?_|refine aP (Ki c k (-1) aa hr) ?_|refine bb ?_|refine zrq ?_
  exact⟨c.first.length-(k+1),aa,k+1,aa,aa,rfl,by rw[e1,e2,e3,e4];simp⟩
 ·obtain rfl:k=c.first.length:=aa;rw[ig];have FF:=@hlt
  repeat first|refine bb ?_|refine zrq ?_
  (try dsimp only[aM,aJ])
  exact bd (by simp;try rfl) (by simp[cZ,iO,AH])
theorem aro (s:af):wI s=s.asks.map fS:=rfl
theorem Qb (s:af)(x0:Slot)(hl:s.asks.length<=1000):fQ Tryz.prog 18 [.w (.agg (kW s))] [(703,x0)]
  (fun x S'=>x=.w (.c (.own 703 (x0.gen+1+s.asks.length)))/\∀p∈[(703,Slot.row 102 6 (x0.gen+1+s.asks.length) ((s.asks.map fS).map Ap))],S' p.1=p.2):=by
 refine lQ aG Tryz.func18 rfl ZO [.t 2] ah _ rfl _ [1,2,3,4] [701] ?_;refine bG ZO ?_;dsimp only[VM,uV,S0,List.cons_append,List.nil_append,List.map];have FF:=trivial
 repeat first|refine bb ?_|refine zrq ?_
 refine cF (fun n V S=>∃k:Nat,k<=s.asks.length/\n=s.asks.length-k/\
  V=[(0,.w (.agg (kW s))),(1,.pb 701 1 0),(2,.w (.c (.sl []))),(3,.w (.c (.own 703 (x0.gen+1+k)))),(4,.w (.c (iA k)))]/\S=[(703,.row 102 6 (x0.gen+1+k) (((s.asks.take k).map fS).map Ap)),(701,.box 1 (kW s))]) (n:=s.asks.length) ⟨0,aa,aa,rfl,rfl⟩ ?_
 rintro n V L S ⟨k,hk,rfl,rfl,rfl⟩;by_cases hlt:k<s.asks.length
 ·have cg:k<=1000000000:=aa;have CB:k+1<=100000000:=aa;have Gj:min k s.asks.length=k:=aa
  obtain⟨a,ha⟩:∃a,s.asks[k]=a:=⟨_,rfl⟩
  have e1:(s.asks.take (k+1)).map fS=(s.asks.take k).map fS++[fS a]:=by rw[ki hlt,dw,ha];rfl
  have FF:=fX @hlt @ha @CB @Gj (bL cg)
  repeat first|refine bb ?_|refine zrq ?_
  exact⟨s.asks.length-(k+1),aa,k+1,aa,aa,rfl,by rw[e1,show x0.gen+1+(k+1)=x0.gen+1+k+1 by omega];simp only[dw,List.map_take,List.map_map,ey,vU];rfl⟩
 ·obtain rfl:k=s.asks.length:=aa;rw[ig];have FF:=@hlt
  repeat first|refine bb ?_|refine zrq ?_
  (try dsimp only[aM,aJ])
  refine gZ (by first|(simp;done)|(simp[hl,hw,fz];try rfl)|(simp;try rfl)) ae ?_;exact(by simp[cZ])
theorem arp (s:af)(hl:s.asks.length<=1000):bt Tryz.prog 18 [.agg (kW s)] (fun x=>x=.w (.c (jU (wI s)))):=by
 refine bZ aG Tryz.func18 rfl adZ [.t 2] ah _ rfl [1,2,3,4] [1,3] ?_;refine bG adZ ?_;dsimp only[V0,uV,S0];have FF:=trivial
 repeat first|refine bb ?_|refine zrq ?_
 refine cF (fun n V S=>∃k:Nat,k<=s.asks.length/\n=s.asks.length-k/\
  V=[(0,.w (.agg (kW s))),(1,.pb 1 1 0),(2,.w (.c (.sl []))),(3,.w (.c (.own 3 (k+1)))),(4,.w (.c (iA k)))]/\S=[(1,.box 1 (kW s)),(3,.row 102 6 (k+1) (((s.asks.take k).map fS).map Ap))]) (n:=s.asks.length) ⟨0,aa,aa,rfl,rfl⟩ ?_
 rintro n V L S ⟨k,hk,rfl,rfl,rfl⟩;by_cases hlt:k<s.asks.length
 ·have cg:k<=1000000000:=aa;have CB:k+1<=100000000:=aa;have Gj:min k s.asks.length=k:=aa
  obtain⟨a,ha⟩:∃a,s.asks[k]=a:=⟨_,rfl⟩
  have e1:(s.asks.take (k+1)).map fS=(s.asks.take k).map fS++[fS a]:=by rw[ki hlt,dw,ha];rfl
  have FF:=fX @hlt @ha @CB @Gj (bL cg)
  repeat first|refine bb ?_|refine zrq ?_
  exact⟨s.asks.length-(k+1),aa,k+1,aa,aa,rfl,by rw[e1];simp only[dw,List.map_take,List.map_map,ey,vU];rfl⟩
 ·obtain rfl:k=s.asks.length:=aa;rw[ig];have FF:=@hlt
  repeat first|refine bb ?_|refine zrq ?_
  (try dsimp only[aM,aJ])
  exact bd (by simp;try rfl) (by rw[aro];simp[cZ])
end Ab
end Go.Proofs.YtlnghiefahcnpaaGreat
