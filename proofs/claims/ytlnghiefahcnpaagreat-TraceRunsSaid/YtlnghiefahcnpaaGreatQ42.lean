import Derived.Test.YtlnghiefahcnpaaGreatQ107
import Derived.Test.YtlnghiefahcnpaaGreatQ41
set_option maxHeartbeats 40000000
set_option maxRecDepth 100000
set_option linter.all false
namespace Go.Proofs.YtlnghiefahcnpaaGreat
namespace Ab
open Go Go.RowKit
attribute [local irreducible] aC bo aU
open aq (bR aE Env Rr fy du enabled gA yU wK Pq iO Pa walk pP config aeJ wI)
theorem avd {c:bR}(hc:fy c){l:List Int}(hl:∀x∈l,AU x)(ba:l.length<=9223372036854775807){run:List af}{wf:aE}(hx:walk 256 c l=some (run,wf)):
  bt Tryz.prog 5 [.agg (mH c),.c (ints l)] (fun x=>x=.bQ [.c (JS run),.agg (er wf)]):=by
 have h12:=hc.xf;have h3:=hc.dm;unfold walk at hx;refine bZ aG Tryz.func5 rfl aek [.t 4,.cell 5 16] ah _ rfl [2,4,5,6,7,8,9,10,11,12,13,14] [2,5,6,12,13,14,7] ?_;refine bG aek ?_;dsimp only[V0,uV,S0];have FF:=trivial
 repeat first|refine aN (Qa c aa aa) ?_|refine aO (Qa c aa aa) ?_|refine aP (Qa c aa aa) ?_|refine bb ?_|refine zrq ?_
 refine cF (fun m V S=>∃(i:Nat) (w:aE) (oW:List af) (g:Nat) (x9 x10 x11 x12 x13 x14:AV) (s12 s13 s14:Slot),i<=l.length/\i<=30/\m=30-i/\du c i (2*i) w/\w.steps=i/\pP 256 ((l.take 30).drop i) w oW=some (run,wf)/\oW.length<=i/\
  V=[(0,.w (.agg (mH c))),(1,.w (.c (ints l))),(2,.pb 2 1 0),(4,.w (.c (.sl []))),(5,.pb 5 1 0),(6,.pb 6 1 0),(7,.w (.c (.own 7 g))),(8,.w (.c (iA i))),(9,x9),(10,x10),(11,x11),(12,x12),(13,x13),(14,x14)]/\
  S=[(2,.box 1 (mH c)),(5,.box 1 [.sl [],.sl [],.sl [],.sl [],iA 0,iA 0,iA 0,iA 0,.sl [],.sl [],.sl [],.sl [],.sl [],.sl [],.sl [],iA 0]),(6,.box 1 (er w)),(12,s12),(13,s13),(14,s14),(7,.row 67 11 g (oW.map kW))]) (n:=30)
  ⟨0,iO c,[],1,.u,.u,.u,.u,.u,.u,.dead 0,.dead 0,.dead 0,aa,aa,rfl,Pa hc,rfl,hx,ae,rfl,rfl⟩ ?_
 rintro m V L S ⟨i,w,oW,g,x9,x10,x11,x12,x13,x14,s12,s13,s14,hi,axH,rfl,h,hst,hw,KL,rfl,rfl⟩
 have stop:pP 256 [] w oW=some (run,wf)->oW=run/\w=wf:=fun h=>by
  unfold pP at h;simpa using h
 by_cases hlt:i<l.length
 ·by_cases axI:i<30
  ·have KM:((i:Int)<30):=aa;have dI:i<=1000000000:=aa
   obtain⟨x,ke⟩:∃x,l[i]=x:=⟨_,rfl⟩
   have ave:AU x:=hl x (ke▸cT hlt)
   have avf:(l.take 30).drop i=x::(l.take 30).drop (i+1):=by
    rw[List.drop_eq_getElem_cons (by rw[eo];omega),List.getElem_take,ke]
   rw[avf] at hw;unfold pP at hw;dsimp only at hw;have hA:=Gy x 1000000 ave aa;have hE:=aeN hc aa h;have zH:aq.around x 1000000<1000000:=mN _ ai
   have hch:=fun(e:Ev) (he:e∈enabled w)=>Pq hc (show i<5000 by omega) h hst he
   have Ti:=fun(e:Ev) (he:e∈enabled w) (cs:List af) hx=>ars hc (show i<=30 by omega) (show 2*i<=900 by omega) h hst he (cs:=cs) hx
   have eZ:=fun(e:Ev) (he:e∈enabled w) (l:List bf) (ba:l.length<=1000000) (w2:aE) (t:af) hx=>Qc hc (show i<=30 by omega) (show 2*i<=900 by omega) h he (l:=l) ba (w':=w2) (s:=t) hx
   have tB:=fun(e:Ev) (he:e∈enabled w) (l:List bf)=>yU hc (show i<5000 by omega) h hst he l
   generalize aq.around x 1000000=n at hw hA zH;generalize enabled w=es at hw hE hch Ti eZ tB
   rcases es with _|⟨e0,es⟩
   ·rw[show([]:List Ev)[n%([]:List Ev).length]? =none from rfl] at hw;simp only[ar,gR] at hw;obtain⟨rfl,rfl⟩:=hw;have FF:=kh @hlt @KM @ke
    repeat first|refine aN hA ?_|refine aN hE ?_|refine aO hA ?_|refine aO hE ?_|refine aP hA ?_|refine aP hE ?_|refine bb ?_|refine zrq ?_
    (try dsimp only[aM,aJ])
    exact bd (by simp;try rfl) (rfl)
   ·obtain⟨el,DA⟩:∃el,(e0::es).length=el:=⟨_,rfl⟩
    obtain⟨q1,xX⟩:∃q1,n%el=q1:=⟨_,rfl⟩
    have ahF:0<el:=by rw[<-DA];simp
    have KN:q1<(e0::es).length:=by rw[DA,<-xX];exact mN _ ahF
    have avg:=oa xX ahF
    have avh:q1<el:=by rw[<-DA];exact KN
    generalize e0::es=es at hw hE hch Ti eZ tB DA KN
    obtain⟨e,Tj⟩:∃e,es[q1]=e:=⟨_,rfl⟩
    have KO:e∈es:=Tj▸cT KN;rw[DA,xX,List.getElem?_eq_getElem KN,Tj] at hw;dsimp only at hw;obtain⟨cs,c1,c2,c3,c4⟩:=hch e KO;have Tk:=Ti e KO cs c1;rw[c1] at hw;dsimp only at hw
    obtain⟨cl,dc⟩:∃cl,cs.length=cl:=⟨_,rfl⟩
    have ahG:0<cl:=by rw[<-dc];exact HF.2 c2
    obtain⟨q2,wy⟩:∃q2,n/50=q2:=⟨_,rfl⟩
    obtain⟨q3,Tl⟩:∃q3,q2%cl=q3:=⟨_,rfl⟩
    have Tm:q3<cs.length:=by rw[dc,<-Tl];exact mN _ ahG
    have avi:=oa Tl ahG
    have avj:q3<cl:=by rw[<-dc];exact Tm
    have avk:aY .quo (.int .i64 (n:Int)) (.int .i64 50)=some (.int .i64 (q2:Int)):=oc (b:=50) wy aa aa
    obtain⟨s,GF⟩:∃s,cs[q3]=s:=⟨_,rfl⟩
    obtain⟨sQ,ahH,_⟩:=c4 s (GF▸cT Tm);rw[dc,wy,Tl,List.getElem?_eq_getElem Tm,GF] at hw;dsimp only at hw;have xd:=sQ.uw;obtain⟨w2,t,e1,e2,e3,_,_⟩:=tB e KO (wI s);rw[ahH,e1] at hw;dsimp only at hw;have DB:=arp s aa
    have hAl:(wI s).length<=1000000:=by show(s.asks.map _).length<=_;rw[List.length_map];omega
    have Bc:=eZ e KO (wI s) hAl w2 t e1;have avl:el≠0:=aa;have Tn:oW.length<=100000000:=aa;rw[<-ahH] at Bc;have FF:=KY @hlt @KM @ke @DA @avl @avg @avh @Tj @dc @avj @avk @avi @GF @Tn
    repeat first|refine aN hA ?_|refine aN hE ?_|refine aN Tk ?_|refine aO hA ?_|refine aO hE ?_|refine aO Tk ?_|refine aP hA ?_|refine aP hE ?_|refine aP Tk ?_|refine bb ?_|refine zrq ?_
    have FF:=kh @hlt @GF @Tn;apply yS
    ·(repeat' first|refine aN DB ?_|refine aN Bc ?_|refine aO DB ?_|refine aO Bc ?_|refine ug ?_|refine uh ?_|refine ui ?_|refine bq ?_|refine sK ?_ ?_|refine yK ?_ ?_ ?_|refine uj ?_|refine aP DB ?_|refine aP Bc ?_|refine uk ?_|refine um ?_|refine uo ?_|refine bb ?_|fail)<;>exact⟨rfl,rfl⟩
    intro L;have FF:=dW @hlt @GF @Tn (bL dI)
    repeat first|refine aN DB ?_|refine aN Bc ?_|refine aO DB ?_|refine aO Bc ?_|refine aP DB ?_|refine aP Bc ?_|refine bb ?_|refine zrq ?_
    exact⟨30-(i+1),aa,i+1,w2,oW++[s],_,_,_,_,_,_,_,_,_,_,aa,aa,rfl,e2,e3,hw,by simp;omega,rfl,by rw[dw];rfl⟩
  ·have KM:¬((i:Int)<30):=aa;rw[oZ (by rw[eo];omega)] at hw;obtain⟨rfl,rfl⟩:=stop hw;have FF:=jk @hlt @KM
   repeat first|refine bb ?_|refine zrq ?_
   (try dsimp only[aM,aJ])
   exact bd (by simp;try rfl) (rfl)
 ·rw[oZ (by rw[eo];omega)] at hw;obtain⟨rfl,rfl⟩:=stop hw;have FF:=@hlt
  repeat first|refine bb ?_|refine zrq ?_
  (try dsimp only[aM,aJ])
  exact bd (by simp;try rfl) (rfl)
end Ab
end Go.Proofs.YtlnghiefahcnpaaGreat
