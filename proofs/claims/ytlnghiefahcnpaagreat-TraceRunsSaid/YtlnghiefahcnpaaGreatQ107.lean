import Derived.Test.YtlnghiefahcnpaaGreatQ106
import Derived.Test.YtlnghiefahcnpaaGreatQ103
set_option maxHeartbeats 40000000
set_option maxRecDepth 100000
set_option linter.all false
namespace Go.Proofs.YtlnghiefahcnpaaGreat
namespace Ab
open Go Go.RowKit
attribute [local irreducible] aC bo aU
open aq (bR aE Env Rr fy du oH FU enabled gA)
theorem Qc {c:bR}(hc:fy c){k j:Nat}(hk:k<=30)(hj:j<=900){w:aE}(h:du c k j w){e:Ev}(he:e∈enabled w){l:List bf}(ba:l.length<=1000000){w':aE}{s:af}(hx:gA w e l=some (some (w',s))):
  bt Tryz.prog 17 [.agg (er w),.agg (dp e),.c (jU l)] (fun x=>x=.bQ [.agg (er w'),.agg (kW s),.c (iA 0)]):=by
 have hst:w.steps<5000:=by
  rcases Nat.lt_or_ge w.steps 5000 with h1|h1
  ·exact h1
  ·exfalso;unfold gA at hx;rw[if_pos h1] at hx;cases hx
 unfold gA at hx;rw[if_neg aa,if_pos he] at hx;simp only[bz,ar,gR] at hx;obtain⟨⟨w2,r⟩,hx,rfl,rfl⟩:=hx;obtain⟨_,_,e1,e2,e3⟩:=FU hc aa h he l;rw[hx] at e1;simp only[ar,gR] at e1;obtain⟨rfl,rfl⟩:=e1;dsimp only;have hns:=e3.FR;have h12:=hc.xf
 have n1:w.nodes.length<=1000000:=by rw[h.nodes];omega
 have n2:w.next.length<=1000000:=by rw[h.next];omega
 have n3:w.br.length<=1000000:=by rw[h.br];omega
 have n4:w.traces.length<=1000000:=by rw[h.traces];omega
 have aby:¬(5000:Int)<=(w.steps:Int):=aa;have hC:=ark w (.dead 0) (.dead 0) (.dead 0) (.dead 0) n1 n2 n3 n4;have hE:=arc hc aa aa h he ba hx (0+1+1) (0+1+1) (0+1+1) (0+1+1);have hl:=uB r;have hw:=FX r;have hd:=FY r
 have kQ:=fun(D:List Nat)=>Pt D r
 have ob1:w.ax.length<=1000000:=by have:=h.oU;omega
 have yW:w2.ax.length<=1000000:=by have:=e2.oU;omega
 refine bZ aG Tryz.func17 rfl aee [.cell 6 16,.cell 7 11,.t 8] ah _ rfl [3,4,6,7,8,9,10,11,12,13] [3,4,6,7,10,11,12,610,601,602,603,604] ?_;refine bG aee ?_;dsimp only[V0,uV,S0];have FF:=@aby
 repeat first|refine aN (PY hc hk h e he) ?_|refine aO (PY hc hk h e he) ?_|refine aP (PY hc hk h e he) ?_|refine bb ?_|refine zrq ?_
 have FF:=dW @hl @hw @hd @kQ;apply yS
 ·(repeat' first|refine jS hC ?_|refine jS hE ?_|refine jT hC ?_|refine jT hE ?_|refine ug ?_|refine uh ?_|refine ui ?_|refine bq ?_|refine sK ?_ ?_|refine yK ?_ ?_ ?_|refine uj ?_|refine nM rfl hC ?_|refine nM rfl hE ?_|refine uk ?_|refine um ?_|refine uo ?_|refine bb ?_|fail)<;>exact⟨rfl,rfl⟩
 intro L;have arq:w.steps<=1000000000:=aa;have FF:=jl @hl @hw @hd @kQ (bL arq) @JQ @fh
 repeat first|refine bb ?_|refine zrq ?_
 refine cF (fun m V S=>∃(i:Nat),i<=r.sent.length/\m=r.sent.length-i/\
  V=[(0,.w (.agg (er w))),(1,.w (.agg (dp e))),(2,.w (.c (jU l))),(3,.pb 3 1 0),(4,.pb 4 1 0),(6,.pb 6 1 0),(7,.pb 7 1 0),(8,.w (.c (iA 0))),(9,.w (.c (bA true))),(10,.pb 10 1 0),(11,.pb 11 1 0),(12,.pb 12 1 0),(13,.w (.c (iA i)))]/\
  S=[(3,.box 1 (er w)),(4,.box 1 (dp e)),(6,.box 1 [.sl [],.sl [],.sl [],.sl [],iA 0,iA 0,iA 0,iA 0,.sl [],.sl [],.sl [],.sl [],.sl [],.sl [],.sl [],iA 0]),(7,.box 1 [iA 0,iA 0,iA 0,iA 0,iA 0,iA 0,iA 0,iA 0,.sl [],bA false,.sl []]),
   (10,.box 1 (wO w2.c (gM w2.aX) (ax w2.ax) (sP w2.covered) ((w.steps+1:Nat):Int) 2 2 2 2)),(11,.box 1 (rX r)),(12,.box 1 (dp e++[asks r.asks,bA (decide (w.ax.length<w2.ax.length)),.own 610 (i+1)])),(610,.row 61 5 (i+1) ((r.sent.take i).map fun e=>oP e.msg)),
   (601,.row 92 52 2 (w2.nodes.map aK)),(602,.row 3 1 2 (bB w2.next)),(603,.row 202 1 2 (w2.br.map kC)),(604,.row 210 1 2 (w2.traces.map ry))]) (n:=r.sent.length) ⟨0,aa,aa,rfl,ae⟩ ?_
 rintro m V L S ⟨i,hi,rfl,rfl,rfl⟩;by_cases hlt:i<r.sent.length
 ·have dI:i<=1000000000:=aa
  obtain⟨x,ke⟩:∃x,r.sent[i]=x:=⟨_,rfl⟩
  have ye:r.sent.take (i+1)=r.sent.take i++[x]:=by rw[ki hlt,ke]
  have kt:(r.sent.take i).length<=100000000:=by rw[eo];omega
  have FF:=jl @hlt @ke @hl @CQ @fh @kt (bL dI)
  repeat first|refine bb ?_|refine zrq ?_
  exact⟨r.sent.length-(i+1),aa,i+1,aa,aa,rfl,by rw[ye,dw,List.map_take];rfl⟩
 ·obtain rfl:i=r.sent.length:=aa;rw[ig];have FF:=dW @hlt @hl @CQ @fh
  repeat first|refine bb ?_|refine zrq ?_
  (try dsimp only[aM,aJ])
  exact bd (by simp;try rfl) ae
end Ab
namespace Ab
open Go Go.RowKit
attribute [local irreducible] aC bo aU
open aq (bR aE Env Rr fy du enabled gA yU wK wJ xi iB AB Pp tR aeG aeH)
theorem ars {c:bR}(hc:fy c){k j:Nat}(hk:k<=30)(hj:j<=900){w:aE}(h:du c k j w)(hst:w.steps=k){e:Ev}(he:e∈enabled w){cs:List af}(hx:wK 256 w e=some cs):
  bt Tryz.prog 16 [.agg (er w),.agg (dp e)] (fun x=>x=.w (.c (JS cs))):=by
 obtain⟨w1,s1,f1,f2,f3,f4,f5⟩:=yU hc aa h hst he [];unfold wK at hx;rw[f1] at hx;dsimp only at hx;have hS:=Qc hc hk hj h he (l:=[]) ae f1;refine bZ aG Tryz.func16 rfl aeh [.t 4] ah _ rfl [2,3,4,5,6,7,8,9,10,11,12] [2,3,5,6,11,12,8,703] ?_;refine bG aeh ?_;dsimp only[V0,uV,S0];have FF:=trivial
 repeat first|refine aN hS ?_|refine aO hS ?_|refine aP hS ?_|refine bb ?_|refine zrq ?_
 have hv0:=AB 4 s1.asks (fun a ha=>by
  obtain⟨_,q1,q2,_⟩:=(f4.asks a ha).1;have:=f4.nS a ha
  omega)
 refine cF (fun m V S=>∃(s:af) (out:List af) (f g g7:Nat) (x9 x10 x11 x12:AV) (s11 s12:Slot),xi c k w e s/\wJ w e f out s=some cs/\256<=f+iB 4 s.asks/\out.length<=iB 4 s.asks/\m=256-iB 4 s.asks/\
  V=[(0,.w (.agg (er w))),(1,.w (.agg (dp e))),(2,.pb 2 1 0),(3,.pb 3 1 0),(4,.w (.c (.sl []))),(5,.pb 5 1 0),(6,.pb 6 1 0),(7,.w (.c (iA 0))),(8,.w (.c (.own 8 g))),(9,x9),(10,x10),(11,x11),(12,x12)]/\
  S=[(2,.box 1 (er w)),(3,.box 1 (dp e)),(5,.box 1 (er w1)),(6,.box 1 (kW s)),(11,s11),(12,s12),(8,.row 67 11 g (out.map kW)),(703,.dead g7)]) (n:=256-iB 4 s1.asks)
  ⟨s1,[],256,1,0,.u,.u,.u,.u,.dead 0,.dead 0,⟨f4,f5,[],w1,f1⟩,hx,aa,ae,rfl,rfl,rfl⟩ ?_
 rintro m V L S ⟨s,out,f,g,g7,x9,x10,x11,x12,s11,s12,hch,mL,hf,rr,rfl,rfl,rfl⟩;have Kg:=hch.Kf;have hv:iB 4 s.asks<256:=AB 4 _ Kg;have xd:=hch.1.uw;have Dk:out.length<=100000000:=aa
 obtain⟨f,rfl⟩:∃f',f=f'+1:=⟨f-1,aa⟩
 unfold wJ at mL
 obtain⟨z,hz⟩:∃z:Int,z=(s.asks.length:Int)-1:=⟨_,rfl⟩
 have ik:aY .sub (.int .i64 (s.asks.length:Int)) (.int .i64 1)=some (.int .i64 z):=by rw[fJ aa aa,hz]
 have FF:=jk @Dk @ik
 repeat first|refine bb ?_|refine zrq ?_
 refine cF (fun m V S=>∃(i:Nat) (z:Int),z=(i:Int)-1/\i<=s.asks.length/\m=i/\(∀j (hj:j<s.asks.length),i<=j->s.asks[j].n+1=s.asks[j].arity)/\
  V=[(0,.w (.agg (er w))),(1,.w (.agg (dp e))),(2,.pb 2 1 0),(3,.pb 3 1 0),(4,.w (.c (.sl []))),(5,.pb 5 1 0),(6,.pb 6 1 0),(7,.w (.c (iA 0))),(8,.w (.c (.own 8 (g+1)))),(9,.w (.c (iA z))),(10,x10),(11,x11),(12,x12)]/\
  S=[(2,.box 1 (er w)),(3,.box 1 (dp e)),(5,.box 1 (er w1)),(6,.box 1 (kW s)),(11,s11),(12,s12),(8,.row 67 11 (g+1) ((out++[s]).map kW)),(703,.dead g7)]) (n:=s.asks.length)
  ⟨s.asks.length,z,hz,aa,rfl,fun j hj zC=>aa,rfl,by rw[dw];rfl⟩ ?_
 rintro m V L S ⟨i,z,hz,hi,hm,gu,rfl,rfl⟩
 rcases i with _|i
 ·have jn:¬(0:Int)<=z:=aa;have ij:z<0:=aa
  rw[aeG (fun a ha=>by
   obtain⟨j,hj,rfl⟩:=vQ.1 ha
   exact gu j hj aa)] at mL
  simp only[ar] at mL;have FF:=jk @jn @ij
  repeat first|refine bb ?_|refine zrq ?_
  (try dsimp only[aM,aJ])
  exact bd (by simp;try rfl) (by rw[<-mL];show cZ _=.w (.c (.sl ((out++[s]).map kW)));rw[dw];rfl)
 ·obtain rfl:z=(i:Int):=aa;have hlt:i<s.asks.length:=aa;have jn:(0:Int)<=(i:Int):=aa;have ij:¬(i:Int)<0:=aa;have dI:i<=1000000000:=aa;have rS:=(hch.1.asks _ (cT hlt)).1;have hfw:=hch.1.nS _ (cT hlt);have hdg:=Kg _ (cT hlt)
  obtain⟨a,AJ⟩:∃a,s.asks[i]=a:=⟨_,rfl⟩
  rw[AJ] at rS hfw hdg
  obtain⟨nn,jb⟩:∃nn:Int,a.n+1=nn:=⟨_,rfl⟩
  have lq:aY .add (.int .i64 a.n) (.int .i64 1)=some (.int .i64 nn):=by rw[lO aa aa,jb]
  by_cases hne:nn=a.arity
  ·have hsb:aY .sub (.int .i64 (i:Int)) (.int .i64 1)=some (.int .i64 ((i:Int)-1)):=fJ aa aa;have FF:=jl @jn @ij @hlt @AJ @lq @hne @hsb
   repeat first|refine bb ?_|refine zrq ?_
   exact⟨i,aa,i,(i:Int)-1,rfl,aa,rfl,fun j hj zC=>by
    rcases Nat.lt_or_ge i j with h1|h1
    ·exact gu j hj aa
    ·obtain rfl:j=i:=aa
     rw[AJ,jb,hne],rfl,by rw[dw];rfl⟩
  ·have gB:=aeH hlt (by rw[AJ,jb];exact hne) (fun j hj zC=>gu j hj aa)
   obtain⟨la,mS⟩:∃la:List bf,(s.asks.take i).map fS++[⟨a.qn,nn⟩]=la:=⟨_,rfl⟩
   rw[AJ,jb,mS] at gB;rw[gB] at mL;dsimp only at mL
   have art:la.length<=1000000:=by rw[<-mS,List.length_append,List.length_map,eo,List.length_singleton];omega
   obtain⟨w2,t,e1,e2,e3,e4,e5⟩:=yU hc aa h hst he la;have hg:=Pp hc aa h he hch gB e1;rw[e1] at mL;dsimp only at mL;have Qe:=Qc hc hk hj h he art e1
   obtain⟨i1,xc⟩:∃i1,i+1=i1:=⟨_,rfl⟩
   have aeR:aY .add (.int .i64 (i:Int)) (.int .i64 1)=some (.int .i64 (i1:Int)):=by rw[bL dI,xc]
   have aeS:i1<=s.asks.length:=aa;have ou:min i1 s.asks.length=i1:=aa;have wj:i<i1:=aa;have hq:fS a=⟨a.qn,a.n⟩:=rfl;have FF:=GZ @jn @ij @hlt @AJ @lq @hne @aeR @aeS @ou @wj @hq
   repeat first|refine jS (Qb s (.dead g7) aa) ?_|refine jT (Qb s (.dead g7) aa) ?_|refine nM rfl (Qb s (.dead g7) aa) ?_|refine bb ?_|refine zrq ?_
   have gz:((s.asks.map (Ap∘fS)).take i1).set i [iA a.qn.node,iA a.qn.handler,iA a.qn.count,iA a.qn.kind,iA a.qn.index,iA nn]=la.map Ap:=by
    rw[<-mS,dw,List.map_map,<-xc,ki (by simpa using hlt),ld _ _ (by simp;omega),List.map_take,show i-(List.take i (s.asks.map (Ap∘fS))).length=0 by simp;omega];rfl
   rw[gz];have FF:=GZ @jn @ij @hlt @AJ @lq @hne @aeR @aeS @ou @wj @hq
   repeat first|refine aN Qe ?_|refine aO Qe ?_|refine aP Qe ?_|refine bb ?_|refine zrq ?_
   exact⟨256-iB 4 t.asks,aa,t,out++[s],f,g+1,_,_,_,_,_,_,_,⟨e4,e5,la,w2,e1⟩,mL,aa,by rw[List.length_append];simp;omega,rfl,rfl,by rw[dw];rfl⟩
end Ab
end Go.Proofs.YtlnghiefahcnpaaGreat
