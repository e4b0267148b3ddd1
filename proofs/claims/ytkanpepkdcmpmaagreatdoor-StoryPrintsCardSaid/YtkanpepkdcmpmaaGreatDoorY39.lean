import Derived.Test.YtkanpepkdcmpmaaGreatDoorY34
import Derived.Test.YtkanpepkdcmpmaaGreatDoorY35
import Derived.Test.YtkanpepkdcmpmaaGreatDoorY36
import Derived.Test.YtkanpepkdcmpmaaGreatDoorY37
import Derived.Test.YtkanpepkdcmpmaaGreatDoorY38
import Derived.Test.YtkanpepkdcmpmaaGreatDoorY6
import Derived.Test.YtkanpepkdcmpmaaGreatDoorY21
set_option maxHeartbeats 40000000
set_option maxRecDepth 100000
set_option linter.all false
namespace Go.Proofs.YtkanpepkdcmpmaaGreatDoor
namespace Ab
open Go Go.RowKit mG
theorem aCd:iY ((xP kG fA 1000 60).1 65 [.c (sA (sources.getD 11 []))]) (.bD [.agg (cI ((build (sources.getD 11 [])).getD ⟨[],[],0,0⟩)),.c (iA 0)])=true:=ah
attribute [local irreducible] aM bt aX
def wu (k:Nat):Prog:=(build (sources.getD k [])).getD ⟨[],[],0,0⟩
theorem alZ {k:Nat}(hk:k<12):build (sources.getD k [])=some (wu k)/\verify (wu k)=0:=by
 have hl:sources.length=12:=eD
 have hm:sources.getD k []∈sources:=by
  rw[fo,cw ab];exact bP _
 have:=fq.1 atv _ hm;unfold wu;split at this
 ·rename_i p hp;rw[hp];exact⟨rfl,by simpa using this⟩
 ·cases this
theorem ama {k:Nat}(hk:k<12):aU Tryz.prog 65 [.c (sA (sources.getD k []))] (fun y=>y=.bD [.agg (cI (wu k)),.c (iA 0)]):=by
 match k,hk with
 |0,_=>exact jS kW aBC 1000 60 (jT aBD)
 |1,_=>exact jS kW aBF 1000 60 (jT aBG)
 |2,_=>exact jS kW (aav axM) 1000 60 (jT axN)
 |3,_=>exact jS kW aBI 1000 60 (jT aBJ)
 |4,_=>exact jS kW (aav aBO) 1000 60 (jT aBP)
 |5,_=>exact jS kW (aav aBR) 1000 60 (jT aBS)
 |6,_=>exact jS kW aBL 1000 60 (jT aBM)
 |7,_=>exact jS kW aBU 1000 60 (jT aBV)
 |8,_=>exact jS kW aBX 1000 60 (jT aBY)
 |9,_=>exact jS kW aCa 1000 60 (jT aCb)
 |10,_=>exact jS kW kV 1000 60 (jT aCc)
 |11,_=>exact jS kW kV 1000 60 (jT aCd)
theorem aCe:iY ((xP kG fA 1000 60).1 125 []) (.w (.c (.sl (sources.map fun s=>[sA s]))))=true:=ah
theorem aCf:aU Tryz.prog 125 [] (fun y=>y=.w (.c (.sl (sources.map fun s=>[sA s])))):=jS kW kV 1000 60 (jT aCe)
def zz (n:Int):Prop:= -9223372036854775808<=n/\n<=9223372036854775807
theorem Vc (n:Int)(m:Nat)(h:zz n)(hm:0<m/\m<=1000000000):aU Tryz.prog 25 [.c (iA n),.c (iA m)] (fun y=>y=.w (.c (iA (aD.around n m:Nat)))):=by
 obtain⟨h1,h2⟩:=h;obtain⟨m1,m2⟩:=hm;have MC:(m:Int)≠0:=ab;refine cC Tryz.func25 aN [] [.t 4] [4] [] ?_;by_cases hn:n<0
 ·have qZ:=afm (a:=n+1) ab ab
  have e:(aD.around n m:Int)=(-(n+1)).tmod m:=by
   unfold aD.around;rw[aq hn]
   obtain⟨q,hq⟩:∃q:Nat,-(n+1)=q:=⟨(-(n+1)).toNat,ab⟩
   rw[hq];rfl
  have FF:=eW @hn (oO (a:=n) (b:=1) ab ab) @qZ (fun a=>NR (a:=a) MC)
  try refine aF ?_
  refine zE ?_;exact(by rw[e,Int.neg_tmod];rfl)
 ·have e:(aD.around n m:Int)=n.tmod m:=by
   unfold aD.around;rw[af hn]
   obtain⟨q,hq⟩:∃q:Nat,n=q:=⟨n.toNat,ab⟩
   rw[hq];rfl
  have FF:=eV @hn (fun a=>NR (a:=a) MC)
  try refine aF ?_
  refine zE ?_;exact(by rw[e];rfl)
theorem amb (n:Int){m:Nat}(h:0<m):aD.around n m<m:=oD _ h
theorem aCg (l:List Int)(i m:Nat)(hl:∀x∈l,zz x)(cQ:l.length<=9223372036854775807)(hm:0<m/\m<=1000000000)(hi:i<=1000000):aU Tryz.prog 64 [.c (ints l),.c (iA i),.c (iA m)] (fun y=>y=.w (.c (iA (aD.pick l i m:Nat)))):=by
 have i0:¬(i:Int)<0:=ab;refine cC Tryz.func64 aN [] [.t 6] [6] [] ?_;by_cases hlt:i<l.length
 ·obtain⟨x,hx⟩:∃x,l[i]=x:=⟨_,rfl⟩
  have tG:¬l.length<=i:=ab;have hxi:zz x:=hl x (hx▸bP hlt)
  have e:aD.pick l i m=aD.around x m:=by unfold aD.pick;rw[cw hlt,hx]
  have FF:=eW @i0 @hlt @tG @hx;refine bJ (Vc x m hxi hm) ?_;refine zE ?_;exact(by rw[e];rfl)
 ·have tG:l.length<=i:=ab
  have e:aD.pick l i m=0:=by unfold aD.pick;rw[qh tG]
  have FF:=jB @i0 @hlt @tG
  try refine aF ?_
  refine zE ?_;exact(by rw[e];rfl)
theorem amc (n:Int)(h:zz n):aU Tryz.prog 66 [.c (iA n)] (fun y=>y=.w (.c (sA (sources.getD (aD.around n 12) [])))):=by
 have hl:sources.length=12:=eD;have hlt:=amb n (show 0<12 by decide)
 obtain⟨k,hk⟩:∃k,aD.around n 12=k:=⟨_,rfl⟩
 have ha:aU Tryz.prog 25 [.c (iA n),.c (iA 12)] (fun y=>y=.w (.c (iA (aD.around n 12:Nat)))):=Vc n 12 h ⟨au,au⟩;rw[hk] at hlt ha⊢;have hs:=aCf;have iX:(k:Int)<12:=ab;have eb:k<sources.length:=ab
 obtain⟨x,hx⟩:∃x,sources[k]=x:=⟨_,rfl⟩
 have hg:sources.getD k []=x:=by rw[fo,cw eb,hx];rfl
 rw[hg];generalize sources=src at*;refine cC Tryz.func66 aN [] [.t 2] [2,3] [] ?_;have FF:=gZ @hl @hlt @iX @eb @hx;refine gX hs ha ?_;refine zE ?_;exact(rfl)
open aD (eQ qx)
variable {a b c:Nat}
theorem amd(n m:Nat):aD.around (n:Int) m=n%m:=by
 unfold aD.around;rw[af ab];rfl
theorem aCh(l:List Int)(i:Nat){m:Nat}(h:0<m):aD.pick l i m<m:=by
 unfold aD.pick;split
 ·exact h
 ·exact amb _ h
theorem kh(hc:a%b=c)(hb:0<b):aW .rem (.int .i64 (a:Int)) (.int .i64 (b:Int))=some (.int .i64 (c:Int)):=by
 subst hc;rw[NR ab];rfl
theorem kK(hc:a/b=c)(hb:0<b)(ha:a<=1000000000):aW .quo (.int .i64 (a:Int)) (.int .i64 (b:Int))=some (.int .i64 (c:Int)):=by
 subst hc;have h:((a:Int)).tdiv (b:Int)=((a/b:Nat):Int):=rfl;have hle:a/b<=a:=Nat.div_le_self _ _;generalize a/b=q at h hle⊢;rw[afb ab (by rw[h];omega) (by rw[h];omega),h]
theorem JA(hc:a+b=c)(ha:c<=1000000000):aW .add (.int .i64 (a:Int)) (.int .i64 (b:Int))=some (.int .i64 (c:Int)):=by
 subst hc;rw[oO ab ab];rfl
def JB (l:List Int)(j:Nat):List Int:=(List.range j).map fun i=>((aD.pick l i 1000000:Nat):Int)
def Fx (a p:Nat)(j:Nat):List Int:=(List.range j).map fun n=>((a/(n+1)%p:Nat):Int)
def JC (K:Nat->Nat)(nodes n:Nat):List qx:=(List.range n).map fun(i:Nat)=>⟨((K (6+i)%nodes:Nat):Int),[0,1,2,3,4,0,1,3].getD (K (6+i)/3%8) 0,((1+K (6+i)/24%5/4:Nat):Int),((1+i:Nat):Int)⟩
theorem aCi(K:Nat->Nat)(nodes n:Nat):JC K nodes (n+1)=JC K nodes n++[⟨((K (6+n)%nodes:Nat):Int),[0,1,2,3,4,0,1,3].getD (K (6+n)/3%8) 0,((1+K (6+n)/24%5/4:Nat):Int),((1+n:Nat):Int)⟩]:=by simp[JC,lV]
theorem aCj(a p j:Nat):Fx a p (j+1)=Fx a p j++[((a/(j+1)%p:Nat):Int)]:=by simp[Fx,lV]
theorem aCk(l:List Int)(j:Nat):JB l (j+1)=JB l j++[((aD.pick l j 1000000:Nat):Int)]:=by simp[JB,lV]
theorem aCl(l:List Int)(c:eQ)(h:aD.config l=some c)(hl:∀x∈l,zz x)(cQ:l.length<=9223372036854775807):aU Tryz.prog 24 [.c (ints l)] (fun y=>y=.w (.agg (Ba c))):=by
 refine cC Tryz.func24 ⟨0,[3,33],[],[],cU,[(5,[1,3])],[(7,[(5,1,901,3,1),(5,3,902,137,4)])]⟩ [(27,20,tk 0 5 (tk 6 3 (tk 11 7 (.move 5 (tk 9 1 (.move 10 (tk 18 1 (.move 19 .nil))))))),[]),tm 16 13,tz 18 7] [.cell 2 8] [2,3,4,5,6,8,10,11,12,13,33] [2,5,6,8,3,33,901,902] ?_;have FF:=trivial
 try refine aF ?_
 try clear FF
 refine dv (fun n V S=>∃(j:Nat),j<=14/\n=14-j/\V=[(0,.w (.c (ints l))),(2,.pb 2 1 0),(3,.w (.c (.own 3 (j+1)))),(4,.w (.c (iA j))),(5,.u),(6,.u),(8,.u),(10,.u),(11,.u),(12,.u),(13,.u),(33,.u)]/\
  S=[(2,.box 1 [.sl [],.sl [],.sl [],.sl [],iA 0,iA 0,iA 0,iA 0]),(5,.dead 0),(6,.dead 0),(8,.dead 0),(3,.row 3 1 (j+1) (bH (JB l j))),(33,.dead 0),(901,.dead 0),(902,.dead 0)]) (n:=14) ⟨0,ab,rfl,rfl,rfl⟩ ?_
 rintro n V L S ⟨j,hj,rfl,rfl,rfl⟩;by_cases hlt:j<14
 ·have iX:(j:Int)<14:=ab;have LS:j<=1000000000:=ab
  have eb:(JB l j).length=j:=by simp[JB]
  have CI:j+1<=100000000:=ab;have hp:aU Tryz.prog 64 [.c (ints l),.c (iA j),.c (iA 1000000)] (fun y=>y=.w (.c (iA (aD.pick l j 1000000:Nat)))):=aCg l j 1000000 hl ab ⟨au,au⟩ ab;have FF:=eW @iX @eb @CI (bN LS);refine bJ hp ?_
  try clear FF
  exact⟨14-(j+1),ab,j+1,ab,rfl,rfl,by rw[aCk];simp[bH]⟩
 ·have aCm:j=14:=ab;subst aCm;have bl:bH (JB l 14)=[[iA (aD.pick l 0 1000000:Nat)],[iA (aD.pick l 1 1000000:Nat)],[iA (aD.pick l 2 1000000:Nat)],[iA (aD.pick l 3 1000000:Nat)],[iA (aD.pick l 4 1000000:Nat)],[iA (aD.pick l 5 1000000:Nat)],[iA (aD.pick l 6 1000000:Nat)],[iA (aD.pick l 7 1000000:Nat)],[iA (aD.pick l 8 1000000:Nat)],[iA (aD.pick l 9 1000000:Nat)],[iA (aD.pick l 10 1000000:Nat)],[iA (aD.pick l 11 1000000:Nat)],[iA (aD.pick l 12 1000000:Nat)],[iA (aD.pick l 13 1000000:Nat)]]:=rfl;rw[bl];clear bl
  have hK:∀i,aD.pick l i 1000000<1000000:=fun i=>aCh l i au
  unfold aD.config at h;dsimp only at h
  obtain⟨K,hKe⟩:∃K:Nat->Nat,∀i,aD.pick l i 1000000=K i:=⟨_,fun _=>rfl⟩
  simp only[hKe] at h hK⊢
  obtain⟨k0,e0⟩:∃k,K 0=k:=⟨_,rfl⟩
  obtain⟨k1,e1⟩:∃k,K 1=k:=⟨_,rfl⟩
  have aCn:=hK 0;have aCo:=hK 1;simp only[e0,e1] at h aCn aCo⊢;have aY:k0%12<12:=oD _ au;have ew:k1/3%12<12:=oD _ au;obtain⟨b0,_⟩:=alZ aY;obtain⟨b1,_⟩:=alZ ew;rw[b0] at h;dsimp only at h;rw[b1] at h
  have s0:aU Tryz.prog 66 [.c (iA k0)] (fun y=>y=.w (.c (sA (sources.getD (k0%12) [])))):=by
   have:=amc k0 ⟨ab,ab⟩;rwa[amd] at this
  have s1:∀a1:Nat,k1/3=a1->aU Tryz.prog 66 [.c (iA a1)] (fun y=>y=.w (.c (sA (sources.getD (k1/3%12) [])))):=fun a1 zi=>by
   have:=amc a1 ⟨ab,ab⟩;rw[amd] at this;rw[zi];exact this
  obtain⟨r1,eC⟩:∃r,k1%3=r:=⟨_,rfl⟩
  obtain⟨a1,zi⟩:∃r,k1/3=r:=⟨_,rfl⟩
  have s1:=s1 a1 zi;have f1:aW .rem (.int .i64 (k1:Int)) (.int .i64 3)=some (.int .i64 (r1:Int)):=kh eC au;have f2:aW .quo (.int .i64 (k1:Int)) (.int .i64 3)=some (.int .i64 (a1:Int)):=kK zi au ab;rw[eC] at h;have FF:=eV @f1 @f2;refine gX s0 (ama aY) ?_
  try clear FF
  by_cases hz:r1=0
  case' pos=>
   rw[aq hz] at h;have hzi:(r1:Int)=0:=ab;have FF:=jB @f2 @hz @hzi;refine gX s1 (ama ew) ?_
   try clear FF
   obtain⟨ps,lK⟩:∃ps:List Prog,ps=[wu (k0%12),wu (k1/3%12)]:=⟨_,rfl⟩
   rw[show [cI (wu (k0%12)),cI (wu (k1/3%12))]=ps.map cI by rw[lK];rfl]
   obtain⟨g33,Fy⟩:∃g:Nat,g=2:=⟨_,rfl⟩
   rw[show AC.own 33 2=AC.own 33 g33 by rw[Fy],show Slot.row 133 43 2 (ps.map cI)=Slot.row 133 43 g33 (ps.map cI) by rw[Fy]]
   obtain⟨x8,Qf⟩:∃x,x=AV.pb 8 1 0:=⟨_,rfl⟩
   obtain⟨s8,Jd⟩:∃s,s=Slot.box 1 (cI (wu (k1/3%12))):=⟨_,rfl⟩
   rw[<-Qf,<-Jd];simp only[yl,b1] at h;rw[<-lK] at h
   have hp0:0<ps.length:=by rw[lK];simp
   have yV:ps.length<=2:=by rw[lK];simp
   clear Qf Jd Fy lK
  case' neg=>
   rw[af hz] at h;have hzi:¬(r1:Int)=0:=ab;have FF:=jB @f2 @hz @hzi
   try refine aF ?_
   try clear FF
   obtain⟨ps,lK⟩:∃ps:List Prog,ps=[wu (k0%12)]:=⟨_,rfl⟩
   rw[show [cI (wu (k0%12))]=ps.map cI by rw[lK];rfl]
   obtain⟨g33,Fy⟩:∃g:Nat,g=1:=⟨_,rfl⟩
   rw[show [AC.own 33 1,AC.own 901 1,AC.sl [],AC.own 902 1,AC.v (Value.int IntKind.i64 0),AC.v (Value.int IntKind.i64 0),AC.v (Value.int IntKind.i64 0),AC.v (Value.int IntKind.i64 0)]=[AC.own 33 g33,AC.own 901 1,AC.sl [],AC.own 902 1,AC.v (Value.int IntKind.i64 0),AC.v (Value.int IntKind.i64 0),AC.v (Value.int IntKind.i64 0),AC.v (Value.int IntKind.i64 0)] by rw[Fy],show Slot.row 133 43 1 (ps.map cI)=Slot.row 133 43 g33 (ps.map cI) by rw[Fy]]
   obtain⟨x8,Qf⟩:∃x,x=AV.u:=⟨_,rfl⟩
   obtain⟨s8,Jd⟩:∃s,s=Slot.dead 0:=⟨_,rfl⟩
   rw[show(8,AV.u)=(8,x8) by rw[Qf],<-Jd];simp only[b1] at h;rw[<-lK] at h
   have hp0:0<ps.length:=by rw[lK];simp
   have yV:ps.length<=2:=by rw[lK];simp
   clear Qf Jd Fy lK
  all_goals
   have aGU:=hK 2
   obtain⟨b2,eU⟩:∃x,K 2+1=x:=⟨_,rfl⟩
   obtain⟨c2,dS⟩:∃x,b2%3=x:=⟨_,rfl⟩
   obtain⟨nodes,AA⟩:∃x,1+c2=x:=⟨_,rfl⟩
   obtain⟨a2,AY⟩:∃x,K 2/3=x:=⟨_,rfl⟩
   have g1:aW .add (.int .i64 (K 2:Int)) (.int .i64 1)=some (.int .i64 (b2:Int)):=JA eU ab;have g2:aW .rem (.int .i64 (b2:Int)) (.int .i64 3)=some (.int .i64 (c2:Int)):=kh dS au;have g3:aW .add (.int .i64 1) (.int .i64 (c2:Int))=some (.int .i64 (nodes:Int)):=JA (a:=1) AA ab;have g4:aW .quo (.int .i64 (K 2:Int)) (.int .i64 3)=some (.int .i64 (a2:Int)):=kK AY au ab;have CF:nodes<=3:=ab;rw[eU,dS,AA,AY] at h
   obtain⟨rk,iw⟩:∃rk:List (List AC),rk=[[iA k0],[iA k1],[iA (K 2)],[iA (K 3)],[iA (K 4)],[iA (K 5)],[iA (K 6)],[iA (K 7)],[iA (K 8)],[iA (K 9)],[iA (K 10)],[iA (K 11)],[iA (K 12)],[iA (K 13)]]:=⟨_,rfl⟩
   rw[<-iw]
   have q2:rk[2]? =some [iA (K 2)]:=by rw[iw];rfl
   have q3:rk[3]? =some [iA (K 3)]:=by rw[iw];rfl
   have q4:rk[4]? =some [iA (K 4)]:=by rw[iw];rfl
   have q5:rk[5]? =some [iA (K 5)]:=by rw[iw];rfl
   have ql:rk.length=14:=by rw[iw];rfl
   have qi:∀i,i<7->rk[6+i]? =some [iA (K (6+i))]:=fun i hi=>by
    rw[iw]
    match i,hi with
    |0,_=>rfl
    |1,_=>rfl
    |2,_=>rfl
    |3,_=>rfl
    |4,_=>rfl
    |5,_=>rfl
    |6,_=>rfl
   clear iw
   have qe:∀(i:Nat) (x:List AC) (h:i<rk.length),rk[i]? =some x->rk[i]=x:=fun i x h hx=>by rw[cw h] at hx;exact dX hx
   have w2:=qe 2 _ ab q2;have w3:=qe 3 _ ab q3;have w4:=qe 4 _ ab q4;have w5:=qe 5 _ ab q5;have FF:=gZ @g1 @g2 @g3 @w2 @ql
   try refine aF ?_
   try clear FF
   refine dv (fun n V S=>∃j:Nat,j<=nodes/\n=nodes-j/\V=[(0,.w (.c (ints l))),(2,.pb 2 1 0),(3,.w (.c (.own 3 15))),(4,.w (.c (iA 14))),(5,.pb 5 1 0),(6,.pb 6 1 0),(8,x8),(10,.w (.c (iA nodes))),(11,.w (.c (iA j))),(12,.u),(13,.u),(33,.w (.c (.own 33 1)))]/\
    S=[(2,.box 1 [.sl [],.sl [],.sl [],.sl [],iA 0,iA 0,iA 0,iA 0]),(5,.box 1 [.own 33 g33,.own 901 (j+1),.sl [],.own 902 1,iA 0,iA 0,iA 0,iA 0]),(6,.box 1 (cI (wu (k0%12)))),(8,s8),(3,.row 3 1 15 rk),(33,.row 133 43 g33 (ps.map cI)),(901,.row 3 1 (j+1) (bH (Fx a2 ps.length j))),(902,.row 137 4 1 [])]) (n:=nodes) ⟨0,ab,rfl,rfl,rfl⟩ ?_
   rintro n V L S ⟨j,hj,rfl,rfl,rfl⟩;by_cases hlt:j<nodes
   case' pos=>
    have iX:(j:Int)<(nodes:Int):=ab
    obtain⟨d,hd⟩:∃x,j+1=x:=⟨_,rfl⟩
    obtain⟨e,he⟩:∃x,a2/d=x:=⟨_,rfl⟩
    obtain⟨m,hm⟩:∃x,e%ps.length=x:=⟨_,rfl⟩
    have f7:aW .add (.int .i64 (j:Int)) (.int .i64 1)=some (.int .i64 (d:Int)):=JA hd ab;have f8:aW .quo (.int .i64 (a2:Int)) (.int .i64 (d:Int))=some (.int .i64 (e:Int)):=kK he ab ab;have f9:aW .rem (.int .i64 (e:Int)) (.int .i64 (ps.length:Int))=some (.int .i64 (m:Int)):=kh hm hp0
    have cM:(Fx a2 ps.length j).length=j:=by simp[Fx]
    have CI:j+1<=100000000:=ab;have FF:=oy @iX @w2 @ql @g4 @f7 @f8 @f9 @cM @CI
    try refine aF ?_
    try clear FF
    exact⟨nodes-(j+1),ab,j+1,ab,rfl,by rw[<-hd],by rw[aCj,hd,he,hm];simp[bH]⟩
   case' neg=>
    have iL:j=nodes:=ab;subst iL;have iX:¬(j:Int)<(j:Int):=ab;have aGV:=hK 3;have aGW:=hK 4;have aGX:=hK 5
    obtain⟨r3,Dh⟩:∃x,K 3%3=x:=⟨_,rfl⟩
    have e1:aW .rem (.int .i64 (K 3:Int)) (.int .i64 3)=some (.int .i64 (r3:Int)):=kh Dh au
    obtain⟨a3,PG⟩:∃x,K 3/3=x:=⟨_,rfl⟩
    have e2:aW .quo (.int .i64 (K 3:Int)) (.int .i64 3)=some (.int .i64 (a3:Int)):=kK PG au ab
    obtain⟨m3,TM⟩:∃x,a3%ps.length=x:=⟨_,rfl⟩
    have e3:aW .rem (.int .i64 (a3:Int)) (.int .i64 (ps.length:Int))=some (.int .i64 (m3:Int)):=kh TM (by exact hp0)
    obtain⟨u1,Ow⟩:∃x,K 4%3=x:=⟨_,rfl⟩
    have x1:aW .rem (.int .i64 (K 4:Int)) (.int .i64 3)=some (.int .i64 (u1:Int)):=kh Ow au
    obtain⟨v1,iZ⟩:∃x,u1/2=x:=⟨_,rfl⟩
    have x2:aW .quo (.int .i64 (u1:Int)) (.int .i64 2)=some (.int .i64 (v1:Int)):=kK iZ au ab
    obtain⟨u2,Vd⟩:∃x,K 4/3=x:=⟨_,rfl⟩
    have x3:aW .quo (.int .i64 (K 4:Int)) (.int .i64 3)=some (.int .i64 (u2:Int)):=kK Vd au ab
    obtain⟨y2,vK⟩:∃x,u2%4=x:=⟨_,rfl⟩
    have x4:aW .rem (.int .i64 (u2:Int)) (.int .i64 4)=some (.int .i64 (y2:Int)):=kh vK au
    obtain⟨v2,pI⟩:∃x,y2/3=x:=⟨_,rfl⟩
    have x5:aW .quo (.int .i64 (y2:Int)) (.int .i64 3)=some (.int .i64 (v2:Int)):=kK pI au ab
    obtain⟨u3,hu3⟩:∃x,K 4/12=x:=⟨_,rfl⟩
    have x6:aW .quo (.int .i64 (K 4:Int)) (.int .i64 12)=some (.int .i64 (u3:Int)):=kK hu3 au ab
    obtain⟨y3,hy3⟩:∃x,u3%4=x:=⟨_,rfl⟩
    have x7:aW .rem (.int .i64 (u3:Int)) (.int .i64 4)=some (.int .i64 (y3:Int)):=kh hy3 au
    obtain⟨v3,yQ⟩:∃x,y3/3=x:=⟨_,rfl⟩
    have x8a:aW .quo (.int .i64 (y3:Int)) (.int .i64 3)=some (.int .i64 (v3:Int)):=kK yQ au ab
    obtain⟨u4,hu4⟩:∃x,K 4/48=x:=⟨_,rfl⟩
    have x9:aW .quo (.int .i64 (K 4:Int)) (.int .i64 48)=some (.int .i64 (u4:Int)):=kK hu4 au ab
    obtain⟨y4,hy4⟩:∃x,u4%5=x:=⟨_,rfl⟩
    have x10:aW .rem (.int .i64 (u4:Int)) (.int .i64 5)=some (.int .i64 (y4:Int)):=kh hy4 au
    obtain⟨v4,OD⟩:∃x,y4/4=x:=⟨_,rfl⟩
    have x11:aW .quo (.int .i64 (y4:Int)) (.int .i64 4)=some (.int .i64 (v4:Int)):=kK OD au ab
    obtain⟨q7,hq7⟩:∃x,K 5%7=x:=⟨_,rfl⟩
    have x12:aW .rem (.int .i64 (K 5:Int)) (.int .i64 7)=some (.int .i64 (q7:Int)):=kh hq7 au;by_cases vJ:r3=0
    case' pos=>
     have Qg:(r3:Int)=0:=ab;have FF:=adA @vJ @Qg @e1 @e2 @e3 @w3 @ql @x1 @x2 @x3 @x4 @x5 @x6 @x7 @x8a @x9 @x10 @x11 @w4 @iX
     try refine aF ?_
     try clear FF
     obtain⟨rs,zA⟩:∃rs:List Int,rs=[(m3:Int),0]:=⟨_,rfl⟩
     have ame:(if K 3%3=0 then [((K 3/3%ps.length:Nat):Int),0] else [])=rs:=by rw[Dh,aq vJ,PG,TM,zA]
     rw[show [AC.own 33 g33,AC.own 901 (j+1),AC.sl [[iA m3],[iA 0]],AC.own 902 1,iA v1,iA v2,iA v3,iA v4]=[AC.own 33 g33,AC.own 901 (j+1),ints rs,AC.own 902 1,iA v1,iA v2,iA v3,iA v4] by rw[zA];rfl];clear vJ Qg zA
    case' neg=>
     have Qg:¬(r3:Int)=0:=ab;have FF:=adA @vJ @Qg @e1 @e2 @e3 @w3 @ql @x1 @x2 @x3 @x4 @x5 @x6 @x7 @x8a @x9 @x10 @x11 @w4 @iX
     try refine aF ?_
     try clear FF
     obtain⟨rs,zA⟩:∃rs:List Int,rs=[]:=⟨_,rfl⟩
     have ame:(if K 3%3=0 then [((K 3/3%ps.length:Nat):Int),0] else [])=rs:=by rw[Dh,af vJ,zA]
     rw[show [AC.own 33 g33,AC.own 901 (j+1),AC.sl [],AC.own 902 1,iA v1,iA v2,iA v3,iA v4]=[AC.own 33 g33,AC.own 901 (j+1),ints rs,AC.own 902 1,iA v1,iA v2,iA v3,iA v4] by rw[zA];rfl];clear vJ Qg zA
    all_goals
     have hq6:q7<=6:=ab
     refine dv (fun n V S=>∃i:Nat,i<=q7/\n=q7-i/\(∃x13,V=[(0,.w (.c (ints l))),(2,.pb 2 1 0),(3,.w (.c (.own 3 15))),(4,.w (.c (iA 14))),(5,.pb 5 1 0),(6,.pb 6 1 0),(8,x8),(10,.w (.c (iA j))),(11,.w (.c (iA j))),(12,.w (.c (iA i))),(13,x13),(33,.w (.c (.own 33 1)))])/\
      S=[(2,.box 1 [.sl [],.sl [],.sl [],.sl [],iA 0,iA 0,iA 0,iA 0]),(5,.box 1 [.own 33 g33,.own 901 (j+1),ints rs,.own 902 (i+1),iA v1,iA v2,iA v3,iA v4]),(6,.box 1 (cI (wu (k0%12)))),(8,s8),(3,.row 3 1 15 rk),(33,.row 133 43 g33 (ps.map cI)),(901,.row 3 1 (j+1) (bH (Fx a2 ps.length j))),(902,.row 137 4 (i+1) ((JC K j i).map ajs))]) (n:=q7) ⟨0,ab,rfl,⟨.u,rfl⟩,rfl⟩ ?_
     rintro n V L S ⟨i,hi,rfl,⟨x13,rfl⟩,rfl⟩;by_cases hit:i<q7
     ·have acd:(i:Int)<(q7:Int):=ab;have hk6:=hK (6+i);have wi:=qi i ab
      obtain⟨t,ht⟩:∃x,6+i=x:=⟨_,rfl⟩
      rw[ht] at wi hk6;have wt:=qe t _ ab wi;have aCp:t<14:=ab;have aCq:(t:Int)<14:=ab
      obtain⟨kk,gC⟩:∃x,K t=x:=⟨_,rfl⟩
      rw[gC] at wt hk6
      obtain⟨nn,kB⟩:∃x,kk%j=x:=⟨_,rfl⟩
      obtain⟨o1,xS⟩:∃x,kk/3=x:=⟨_,rfl⟩
      obtain⟨o2,ug⟩:∃x,o1%8=x:=⟨_,rfl⟩
      obtain⟨p1,rm⟩:∃x,kk/24=x:=⟨_,rfl⟩
      obtain⟨p2,amf⟩:∃x,p1%5=x:=⟨_,rfl⟩
      obtain⟨p3,amg⟩:∃x,p2/4=x:=⟨_,rfl⟩
      obtain⟨p4,amh⟩:∃x,1+p3=x:=⟨_,rfl⟩
      obtain⟨i1,CJ⟩:∃x,1+i=x:=⟨_,rfl⟩
      obtain⟨i2,rA⟩:∃x,i+1=x:=⟨_,rfl⟩
      have z0:aW .add (.int .i64 6) (.int .i64 (i:Int))=some (.int .i64 (t:Int)):=JA (a:=6) ht ab;have z1:aW .rem (.int .i64 (kk:Int)) (.int .i64 (j:Int))=some (.int .i64 (nn:Int)):=kh kB ab;have z2:aW .quo (.int .i64 (kk:Int)) (.int .i64 3)=some (.int .i64 (o1:Int)):=kK xS au ab;have z3:aW .rem (.int .i64 (o1:Int)) (.int .i64 8)=some (.int .i64 (o2:Int)):=kh ug au;have z4:aW .quo (.int .i64 (kk:Int)) (.int .i64 24)=some (.int .i64 (p1:Int)):=kK rm au ab;have z5:aW .rem (.int .i64 (p1:Int)) (.int .i64 5)=some (.int .i64 (p2:Int)):=kh amf au;have z6:aW .quo (.int .i64 (p2:Int)) (.int .i64 4)=some (.int .i64 (p3:Int)):=kK amg au ab;have z7:aW .add (.int .i64 1) (.int .i64 (p3:Int))=some (.int .i64 (p4:Int)):=JA (a:=1) amh ab;have z8:aW .add (.int .i64 1) (.int .i64 (i:Int))=some (.int .i64 (i1:Int)):=JA (a:=1) CJ ab;have z9:aW .add (.int .i64 (i:Int)) (.int .i64 1)=some (.int .i64 (i2:Int)):=JA rA ab;have ho8:o2<8:=ab;have aCr:(o2:Int)<8:=ab
      obtain⟨ov,Zb⟩:∃ov,([0,1,2,3,4,0,1,3]:List Int).getD o2 0=ov:=⟨_,rfl⟩
      have hgo:([[iA 0],[iA 1],[iA 2],[iA 3],[iA 4],[iA 0],[iA 1],[iA 3]]:List (List AC))[o2]'(by simpa using ho8)=[iA ov]:=by
       rw[<-Zb]
       match o2,ho8 with
       |0,_=>rfl
       |1,_=>rfl
       |2,_=>rfl
       |3,_=>rfl
       |4,_=>rfl
       |5,_=>rfl
       |6,_=>rfl
       |7,_=>rfl
      have eF:(JC K j i).length=i:=by simp[JC]
      have Pc:i+1<=100000000:=ab;have FF:=adB @w5 @ql @x12 @acd @wt @aCp @aCq @z0 @z1 @z2 @z3 @z4 @z5 @z6 @z7 @z8 @z9 @ho8 @aCr @hgo @eF @Pc
      try refine aF ?_
      try clear FF
      exact⟨q7-(i+1),ab,i+1,ab,rfl,⟨_,by rw[rA]⟩,by rw[aCi,ht,gC,kB,xS,ug,Zb,rm,amf,amg,amh,CJ];simp⟩
     ·have acd:¬(i:Int)<(q7:Int):=ab;have GC:q7=i:=ab
      have hc:c=⟨ps,Fx a2 ps.length j,rs,JC K j i,v1,v2,v3,v4⟩:=by
       simp only[aA] at h;rw[<-h,ame,Ow,iZ,Vd,vK,pI,hu3,hy3,yQ,hu4,hy4,OD,hq7,GC];rfl
      have FF:=eW @w5 @ql @x12 @acd
      try refine aF ?_
      try clear FF
      refine zE ?_;exact(by rw[hc];rfl)
end Ab
end Go.Proofs.YtkanpepkdcmpmaaGreatDoor
