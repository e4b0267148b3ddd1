import Derived.Test.YtlnghiefahcnpaaGreatQ30
import Derived.Test.YtlnghiefahcnpaaGreatQ31
import Derived.Test.YtlnghiefahcnpaaGreatQ34
import Derived.Test.YtlnghiefahcnpaaGreatQ35
import Derived.Test.YtlnghiefahcnpaaGreatQ36
import Derived.Test.YtlnghiefahcnpaaGreatQ37
import Derived.Test.YtlnghiefahcnpaaGreatQ38
import Derived.Test.YtlnghiefahcnpaaGreatQ39
import Derived.Test.YtlnghiefahcnpaaGreatQ40
import Derived.Test.YtlnghiefahcnpaaGreatQ13
import Derived.Test.YtlnghiefahcnpaaGreatQ29
set_option maxHeartbeats 40000000
set_option maxRecDepth 100000
set_option linter.all false
namespace Go.Proofs.YtlnghiefahcnpaaGreat
namespace Ab
open Go Go.RowKit dL
theorem auN:gP ((xP ib dU 1000 60).1 11 [.c (sA (sources.getD 10 []))]) (.bQ [.agg (bW ((build (sources.getD 10 [])).getD ⟨[],[],0,0⟩)),.c (iA 0)])=true:=ah
end Ab
namespace Ab
open Go Go.RowKit dL
theorem auO:gP ((xP ib dU 1000 60).1 11 [.c (sA (sources.getD 11 []))]) (.bQ [.agg (bW ((build (sources.getD 11 [])).getD ⟨[],[],0,0⟩)),.c (iA 0)])=true:=ah
end Ab
namespace Ab
open Go Go.RowKit dL
attribute [local irreducible] aC bo aU
def qm (k:Nat):Prog:=(build (sources.getD k [])).getD ⟨[],[],0,0⟩
theorem ahx {k:Nat}(hk:k<12):build (sources.getD k [])=some (qm k)/\verify (qm k)=0:=by
 have hl:sources.length=12:=kZ
 have hm:sources.getD k []∈sources:=by
  rw[eu,List.getElem?_eq_getElem aa];exact cT _
 have:=dY.1 apK _ hm;unfold qm;split at this
 ·rename_i p hp;rw[hp];exact⟨rfl,by simpa using this⟩
 ·cases this
theorem Dy {k:Nat}(hk:k<12):bt Tryz.prog 11 [.c (sA (sources.getD k []))] (fun y=>y=.bQ [.agg (bW (qm k)),.c (iA 0)]):=by
 match k,hk with
 |0,_=>exact iD iG aud 1000 60 (iE aue)
 |1,_=>exact iD iG aug 1000 60 (iE auh)
 |2,_=>exact iD iG (Tc aup) 1000 60 (iE auq)
 |3,_=>exact iD iG aus 1000 60 (iE aut)
 |4,_=>exact iD iG (Tc auv) 1000 60 (iE auw)
 |5,_=>exact iD iG (Tc auz) 1000 60 (iE auA)
 |6,_=>exact iD iG auC 1000 60 (iE auD)
 |7,_=>exact iD iG auF 1000 60 (iE auG)
 |8,_=>exact iD iG auI 1000 60 (iE auJ)
 |9,_=>exact iD iG auL 1000 60 (iE auM)
 |10,_=>exact iD iG iF 1000 60 (iE auN)
 |11,_=>exact iD iG iF 1000 60 (iE auO)
theorem auP:gP ((xP ib dU 1000 60).1 30 []) (.w (.c (.sl (sources.map fun s=>[sA s]))))=true:=ah
theorem auQ:bt Tryz.prog 30 [] (fun y=>y=.w (.c (.sl (sources.map fun s=>[sA s])))):=iD iG iF 1000 60 (iE auP)
def AU (n:Int):Prop:= -9223372036854775808<=n/\n<=9223372036854775807
theorem Gy (n:Int)(m:Nat)(h:AU n)(hm:0<m/\m<=1000000000):bt Tryz.prog 14 [.c (iA n),.c (iA m)] (fun y=>y=.w (.c (iA (aq.around n m:Nat)))):=by
 obtain⟨h1,h2⟩:=h;obtain⟨m1,m2⟩:=hm;have KJ:(m:Int)≠0:=aa;refine bZ aG Tryz.func14 rfl NV [.t 4] ah _ rfl [4] [] ?_;refine bG NV ?_;dsimp only[V0,uV,S0];by_cases hn:n<0
 ·have kG:=YW (a:=n+1) aa aa
  have e:(aq.around n m:Int)=(-(n+1)).tmod m:=by
   unfold aq.around;rw[if_pos hn]
   obtain⟨q,hq⟩:∃q:Nat,-(n+1)=q:=⟨(-(n+1)).toNat,aa⟩
   rw[hq];rfl
  have FF:=dW @hn (lO (a:=n) (b:=1) aa aa) @kG (fun a=>Fg (a:=a) KJ)
  try refine aj ?_
  (try dsimp only[aM,aJ])
  exact bd (by simp;try rfl) (by rw[e,Int.neg_tmod];rfl)
 ·have e:(aq.around n m:Int)=n.tmod m:=by
   unfold aq.around;rw[if_neg hn]
   obtain⟨q,hq⟩:∃q:Nat,n=q:=⟨n.toNat,aa⟩
   rw[hq];rfl
  have FF:=jk @hn (fun a=>Fg (a:=a) KJ)
  try refine aj ?_
  (try dsimp only[aM,aJ])
  exact bd (by simp;try rfl) (by rw[e];rfl)
theorem ahy (n:Int){m:Nat}(h:0<m):aq.around n m<m:=mN _ h
theorem auR (l:List Int)(i m:Nat)(hl:∀x∈l,AU x)(ba:l.length<=9223372036854775807)(hm:0<m/\m<=1000000000)(hi:i<=1000000):bt Tryz.prog 10 [.c (ints l),.c (iA i),.c (iA m)] (fun y=>y=.w (.c (iA (aq.pick l i m:Nat)))):=by
 have i0:¬(i:Int)<0:=aa;refine bZ aG Tryz.func10 rfl aaM [.t 6] ah _ rfl [6] [] ?_;refine bG aaM ?_;dsimp only[V0,uV,S0];by_cases hlt:i<l.length
 ·obtain⟨x,hx⟩:∃x,l[i]=x:=⟨_,rfl⟩
  have pw:¬l.length<=i:=aa;have Td:AU x:=hl x (hx▸cT hlt)
  have e:aq.pick l i m=aq.around x m:=by unfold aq.pick;rw[List.getElem?_eq_getElem hlt,hx]
  have FF:=dW @i0 @hlt @pw @hx
  repeat first|refine aN (Gy x m Td hm) ?_|refine aO (Gy x m Td hm) ?_|refine aP (Gy x m Td hm) ?_|refine aj ?_
  (try dsimp only[aM,aJ])
  exact bd (by simp;try rfl) (by rw[e];rfl)
 ·have pw:l.length<=i:=aa
  have e:aq.pick l i m=0:=by unfold aq.pick;rw[List.getElem?_eq_none pw]
  have FF:=kh @i0 @hlt @pw
  try refine aj ?_
  (try dsimp only[aM,aJ])
  exact bd (by simp;try rfl) (by rw[e];rfl)
theorem ahz (n:Int)(h:AU n):bt Tryz.prog 12 [.c (iA n)] (fun y=>y=.w (.c (sA (sources.getD (aq.around n 12) [])))):=by
 have hl:sources.length=12:=kZ;have hlt:=ahy n (show 0<12 by decide)
 obtain⟨k,hk⟩:∃k,aq.around n 12=k:=⟨_,rfl⟩
 have ha:bt Tryz.prog 14 [.c (iA n),.c (iA 12)] (fun y=>y=.w (.c (iA (aq.around n 12:Nat)))):=Gy n 12 h ⟨ai,ai⟩;rw[hk] at hlt ha⊢;have hs:=auQ;have gj:(k:Int)<12:=aa;have kr:k<sources.length:=aa
 obtain⟨x,hx⟩:∃x,sources[k]=x:=⟨_,rfl⟩
 have hg:sources.getD k []=x:=by rw[eu,List.getElem?_eq_getElem kr,hx];rfl
 rw[hg];generalize sources=src at*;refine bZ aG Tryz.func12 rfl Sr [.t 2] ah _ rfl [2,3] [] ?_;refine bG Sr ?_;dsimp only[V0,uV,S0];have FF:=fX @hl @hlt @gj @kr @hx
 repeat first|refine aN hs ?_|refine aN ha ?_|refine aO hs ?_|refine aO ha ?_|refine aP hs ?_|refine aP ha ?_|refine aj ?_
 (try dsimp only[aM,aJ])
 exact bd (by simp;try rfl) (rfl)
end Ab
namespace Ab
open Go Go.RowKit dL
attribute [local irreducible] aC bo aU
open aq (bR mo)
theorem ahA (n m:Nat):aq.around (n:Int) m=n%m:=by
 unfold aq.around;rw[if_neg aa];rfl
theorem auS (l:List Int)(i:Nat){m:Nat}(h:0<m):aq.pick l i m<m:=by
 unfold aq.pick;split
 ·exact h
 ·exact ahy _ h
theorem oa {a b c:Nat}(hc:a%b=c)(hb:0<b):aY .rem (.int .i64 (a:Int)) (.int .i64 (b:Int))=some (.int .i64 (c:Int)):=by
 subst hc;rw[Fg aa];rfl
theorem oc {a b c:Nat}(hc:a/b=c)(hb:0<b)(ha:a<=1000000000):aY .quo (.int .i64 (a:Int)) (.int .i64 (b:Int))=some (.int .i64 (c:Int)):=by
 subst hc;have h:((a:Int)).tdiv (b:Int)=((a/b:Nat):Int):=rfl;have hle:a/b<=a:=Nat.div_le_self _ _;generalize a/b=q at h hle⊢;rw[YM aa (by rw[h];omega) (by rw[h];omega),h]
theorem AX {a b c:Nat}(hc:a+b=c)(ha:c<=1000000000):aY .add (.int .i64 (a:Int)) (.int .i64 (b:Int))=some (.int .i64 (c:Int)):=by
 subst hc;rw[lO aa aa];rfl
def AY (l:List Int)(j:Nat):List Int:=(List.range j).map fun i=>((aq.pick l i 1000000:Nat):Int)
def zf (a p:Nat)(j:Nat):List Int:=(List.range j).map fun n=>((a/(n+1)%p:Nat):Int)
def AZ (K:Nat->Nat)(nodes n:Nat):List mo:=(List.range n).map fun(i:Nat)=>⟨((K (6+i)%nodes:Nat):Int),[0,1,2,3,4,0,1,3].getD (K (6+i)/3%8) 0,((1+K (6+i)/24%5/4:Nat):Int),((1+i:Nat):Int)⟩
theorem auT (K:Nat->Nat)(nodes n:Nat):AZ K nodes (n+1)=AZ K nodes n++[⟨((K (6+n)%nodes:Nat):Int),[0,1,2,3,4,0,1,3].getD (K (6+n)/3%8) 0,((1+K (6+n)/24%5/4:Nat):Int),((1+n:Nat):Int)⟩]:=by simp[AZ,qA]
theorem auU (a p j:Nat):zf a p (j+1)=zf a p j++[((a/(j+1)%p:Nat):Int)]:=by simp[zf,qA]
theorem auV (l:List Int)(j:Nat):AY l (j+1)=AY l j++[((aq.pick l j 1000000:Nat):Int)]:=by simp[AY,qA]
theorem auW (l:List Int)(c:bR)(h:aq.config l=some c)(hl:∀x∈l,AU x)(ba:l.length<=9223372036854775807):bt Tryz.prog 4 [.c (ints l)] (fun y=>y=.w (.agg (mH c))):=by
 refine bZ aG Tryz.func4 rfl afa [.cell 2 8] ah _ rfl [2,3,4,5,6,8,10,11,12,13,33] [2,5,6,8,3,33,901,902] ?_;refine bG afa ?_;dsimp only[V0,uV,S0];have FF:=trivial
 try refine aj ?_
 try clear FF
 refine cF (fun n V S=>∃(j:Nat),j<=14/\n=14-j/\V=[(0,.w (.c (ints l))),(2,.pb 2 1 0),(3,.w (.c (.own 3 (j+1)))),(4,.w (.c (iA j))),(5,.u),(6,.u),(8,.u),(10,.u),(11,.u),(12,.u),(13,.u),(33,.u)]/\
  S=[(2,.box 1 [.sl [],.sl [],.sl [],.sl [],iA 0,iA 0,iA 0,iA 0]),(5,.dead 0),(6,.dead 0),(8,.dead 0),(3,.row 3 1 (j+1) (bB (AY l j))),(33,.dead 0),(901,.dead 0),(902,.dead 0)]) (n:=14) ⟨0,aa,rfl,rfl,rfl⟩ ?_
 rintro n V L S ⟨j,hj,rfl,rfl,rfl⟩;by_cases hlt:j<14
 ·have gj:(j:Int)<14:=aa;have CE:j<=1000000000:=aa
  have kr:(AY l j).length=j:=by simp[AY]
  have Fm:j+1<=100000000:=aa;have hp:bt Tryz.prog 10 [.c (ints l),.c (iA j),.c (iA 1000000)] (fun y=>y=.w (.c (iA (aq.pick l j 1000000:Nat)))):=auR l j 1000000 hl aa ⟨ai,ai⟩ aa;have FF:=dW @gj @kr @Fm (bL CE)
  repeat first|refine aN hp ?_|refine aO hp ?_|refine aP hp ?_|refine aj ?_
  try clear FF
  exact⟨14-(j+1),aa,j+1,aa,rfl,rfl,by rw[auV];simp[bB]⟩
 ·have auX:j=14:=aa;subst auX;have bD:bB (AY l 14)=[[iA (aq.pick l 0 1000000:Nat)],[iA (aq.pick l 1 1000000:Nat)],[iA (aq.pick l 2 1000000:Nat)],[iA (aq.pick l 3 1000000:Nat)],[iA (aq.pick l 4 1000000:Nat)],[iA (aq.pick l 5 1000000:Nat)],[iA (aq.pick l 6 1000000:Nat)],[iA (aq.pick l 7 1000000:Nat)],[iA (aq.pick l 8 1000000:Nat)],[iA (aq.pick l 9 1000000:Nat)],[iA (aq.pick l 10 1000000:Nat)],[iA (aq.pick l 11 1000000:Nat)],[iA (aq.pick l 12 1000000:Nat)],[iA (aq.pick l 13 1000000:Nat)]]:=rfl;rw[bD];clear bD
  have hK:∀i,aq.pick l i 1000000<1000000:=fun i=>auS l i ai
  unfold aq.config at h;dsimp only at h
  obtain⟨K,hKe⟩:∃K:Nat->Nat,∀i,aq.pick l i 1000000=K i:=⟨_,fun _=>rfl⟩
  simp only[hKe] at h hK⊢
  obtain⟨k0,e0⟩:∃k,K 0=k:=⟨_,rfl⟩
  obtain⟨k1,e1⟩:∃k,K 1=k:=⟨_,rfl⟩
  have auY:=hK 0;have auZ:=hK 1;simp only[e0,e1] at h auY auZ⊢;have bF:k0%12<12:=mN _ ai;have fu:k1/3%12<12:=mN _ ai;obtain⟨b0,_⟩:=ahx bF;obtain⟨b1,_⟩:=ahx fu;rw[b0] at h;dsimp only at h;rw[b1] at h
  have s0:bt Tryz.prog 12 [.c (iA k0)] (fun y=>y=.w (.c (sA (sources.getD (k0%12) [])))):=by
   have:=ahz k0 ⟨aa,aa⟩;rwa[ahA] at this
  have s1:∀a1:Nat,k1/3=a1->bt Tryz.prog 12 [.c (iA a1)] (fun y=>y=.w (.c (sA (sources.getD (k1/3%12) [])))):=fun a1 pJ=>by
   have:=ahz a1 ⟨aa,aa⟩;rw[ahA] at this;rw[pJ];exact this
  obtain⟨r1,oE⟩:∃r,k1%3=r:=⟨_,rfl⟩
  obtain⟨a1,pJ⟩:∃r,k1/3=r:=⟨_,rfl⟩
  have s1:=s1 a1 pJ;have f1:aY .rem (.int .i64 (k1:Int)) (.int .i64 3)=some (.int .i64 (r1:Int)):=oa oE ai;have f2:aY .quo (.int .i64 (k1:Int)) (.int .i64 3)=some (.int .i64 (a1:Int)):=oc pJ ai aa;rw[oE] at h;have FF:=jk @f1 @f2
  repeat first|refine aN s0 ?_|refine aN (Dy bF) ?_|refine aO s0 ?_|refine aO (Dy bF) ?_|refine aP s0 ?_|refine aP (Dy bF) ?_|refine aj ?_
  try clear FF
  by_cases hz:r1=0
  case' pos=>
   rw[if_pos hz] at h;have Te:(r1:Int)=0:=aa;have FF:=kh @f2 @hz @Te
   repeat first|refine aN s1 ?_|refine aN (Dy fu) ?_|refine aO s1 ?_|refine aO (Dy fu) ?_|refine aP s1 ?_|refine aP (Dy fu) ?_|refine aj ?_
   try clear FF
   obtain⟨ps,iL⟩:∃ps:List Prog,ps=[qm (k0%12),qm (k1/3%12)]:=⟨_,rfl⟩
   rw[show [bW (qm (k0%12)),bW (qm (k1/3%12))]=ps.map bW by rw[iL];rfl]
   obtain⟨g33,Ba⟩:∃g:Nat,g=2:=⟨_,rfl⟩
   rw[show AC.own 33 2=AC.own 33 g33 by rw[Ba],show Slot.row 46 43 2 (ps.map bW)=Slot.row 46 43 g33 (ps.map bW) by rw[Ba]]
   obtain⟨x8,Gz⟩:∃x,x=AV.pb 8 1 0:=⟨_,rfl⟩
   obtain⟨s8,yi⟩:∃s,s=Slot.box 1 (bW (qm (k1/3%12))):=⟨_,rfl⟩
   rw[<-Gz,<-yi];simp only[DV,b1] at h;rw[<-iL] at h
   have Tf:0<ps.length:=by rw[iL];simp
   have xZ:ps.length<=2:=by rw[iL];simp
   clear Gz yi Ba iL
  case' neg=>
   rw[if_neg hz] at h;have Te:¬(r1:Int)=0:=aa;have FF:=kh @f2 @hz @Te
   try refine aj ?_
   try clear FF
   obtain⟨ps,iL⟩:∃ps:List Prog,ps=[qm (k0%12)]:=⟨_,rfl⟩
   rw[show [bW (qm (k0%12))]=ps.map bW by rw[iL];rfl]
   obtain⟨g33,Ba⟩:∃g:Nat,g=1:=⟨_,rfl⟩
   rw[show [AC.own 33 1,AC.own 901 1,AC.sl [],AC.own 902 1,AC.v (Value.int IntKind.i64 0),AC.v (Value.int IntKind.i64 0),AC.v (Value.int IntKind.i64 0),AC.v (Value.int IntKind.i64 0)]=[AC.own 33 g33,AC.own 901 1,AC.sl [],AC.own 902 1,AC.v (Value.int IntKind.i64 0),AC.v (Value.int IntKind.i64 0),AC.v (Value.int IntKind.i64 0),AC.v (Value.int IntKind.i64 0)] by rw[Ba],show Slot.row 46 43 1 (ps.map bW)=Slot.row 46 43 g33 (ps.map bW) by rw[Ba]]
   obtain⟨x8,Gz⟩:∃x,x=AV.u:=⟨_,rfl⟩
   obtain⟨s8,yi⟩:∃s,s=Slot.dead 0:=⟨_,rfl⟩
   rw[show(8,AV.u)=(8,x8) by rw[Gz],<-yi];simp only[b1] at h;rw[<-iL] at h
   have Tf:0<ps.length:=by rw[iL];simp
   have xZ:ps.length<=2:=by rw[iL];simp
   clear Gz yi Ba iL
  all_goals
   have axD:=hK 2
   obtain⟨b2,fq⟩:∃x,K 2+1=x:=⟨_,rfl⟩
   obtain⟨c2,ma⟩:∃x,b2%3=x:=⟨_,rfl⟩
   obtain⟨nodes,ux⟩:∃x,1+c2=x:=⟨_,rfl⟩
   obtain⟨a2,Dg⟩:∃x,K 2/3=x:=⟨_,rfl⟩
   have g1:aY .add (.int .i64 (K 2:Int)) (.int .i64 1)=some (.int .i64 (b2:Int)):=AX fq aa;have g2:aY .rem (.int .i64 (b2:Int)) (.int .i64 3)=some (.int .i64 (c2:Int)):=oa ma ai;have g3:aY .add (.int .i64 1) (.int .i64 (c2:Int))=some (.int .i64 (nodes:Int)):=AX (a:=1) ux aa;have g4:aY .quo (.int .i64 (K 2:Int)) (.int .i64 3)=some (.int .i64 (a2:Int)):=oc Dg ai aa;have PA:nodes<=3:=aa;rw[fq,ma,ux,Dg] at h
   obtain⟨rk,tA⟩:∃rk:List (List AC),rk=[[iA k0],[iA k1],[iA (K 2)],[iA (K 3)],[iA (K 4)],[iA (K 5)],[iA (K 6)],[iA (K 7)],[iA (K 8)],[iA (K 9)],[iA (K 10)],[iA (K 11)],[iA (K 12)],[iA (K 13)]]:=⟨_,rfl⟩
   rw[<-tA]
   have q2:rk[2]? =some [iA (K 2)]:=by rw[tA];rfl
   have q3:rk[3]? =some [iA (K 3)]:=by rw[tA];rfl
   have q4:rk[4]? =some [iA (K 4)]:=by rw[tA];rfl
   have q5:rk[5]? =some [iA (K 5)]:=by rw[tA];rfl
   have ql:rk.length=14:=by rw[tA];rfl
   have qi:∀i,i<7->rk[6+i]? =some [iA (K (6+i))]:=fun i hi=>by
    rw[tA]
    match i,hi with
    |0,_=>rfl
    |1,_=>rfl
    |2,_=>rfl
    |3,_=>rfl
    |4,_=>rfl
    |5,_=>rfl
    |6,_=>rfl
   clear tA
   have qe:∀(i:Nat) (x:List AC) (h:i<rk.length),rk[i]? =some x->rk[i]=x:=fun i x h hx=>by rw[List.getElem?_eq_getElem h] at hx;exact tq hx
   have w2:=qe 2 _ aa q2;have w3:=qe 3 _ aa q3;have w4:=qe 4 _ aa q4;have w5:=qe 5 _ aa q5;have FF:=fX @g1 @g2 @g3 @w2 @ql
   try refine aj ?_
   try clear FF
   refine cF (fun n V S=>∃j:Nat,j<=nodes/\n=nodes-j/\V=[(0,.w (.c (ints l))),(2,.pb 2 1 0),(3,.w (.c (.own 3 15))),(4,.w (.c (iA 14))),(5,.pb 5 1 0),(6,.pb 6 1 0),(8,x8),(10,.w (.c (iA nodes))),(11,.w (.c (iA j))),(12,.u),(13,.u),(33,.w (.c (.own 33 1)))]/\
    S=[(2,.box 1 [.sl [],.sl [],.sl [],.sl [],iA 0,iA 0,iA 0,iA 0]),(5,.box 1 [.own 33 g33,.own 901 (j+1),.sl [],.own 902 1,iA 0,iA 0,iA 0,iA 0]),(6,.box 1 (bW (qm (k0%12)))),(8,s8),(3,.row 3 1 15 rk),(33,.row 46 43 g33 (ps.map bW)),(901,.row 3 1 (j+1) (bB (zf a2 ps.length j))),(902,.row 52 4 1 [])]) (n:=nodes) ⟨0,aa,rfl,rfl,rfl⟩ ?_
   rintro n V L S ⟨j,hj,rfl,rfl,rfl⟩;by_cases hlt:j<nodes
   case' pos=>
    have gj:(j:Int)<(nodes:Int):=aa
    obtain⟨d,hd⟩:∃x,j+1=x:=⟨_,rfl⟩
    obtain⟨e,he⟩:∃x,a2/d=x:=⟨_,rfl⟩
    obtain⟨m,hm⟩:∃x,e%ps.length=x:=⟨_,rfl⟩
    have f7:aY .add (.int .i64 (j:Int)) (.int .i64 1)=some (.int .i64 (d:Int)):=AX hd aa;have f8:aY .quo (.int .i64 (a2:Int)) (.int .i64 (d:Int))=some (.int .i64 (e:Int)):=oc he aa aa;have f9:aY .rem (.int .i64 (e:Int)) (.int .i64 (ps.length:Int))=some (.int .i64 (m:Int)):=oa hm Tf
    have dM:(zf a2 ps.length j).length=j:=by simp[zf]
    have Fm:j+1<=100000000:=aa;have FF:=GY @gj @w2 @ql @g4 @f7 @f8 @f9 @dM @Fm
    try refine aj ?_
    try clear FF
    exact⟨nodes-(j+1),aa,j+1,aa,rfl,by rw[<-hd],by rw[auU,hd,he,hm];simp[bB]⟩
   case' neg=>
    have dN:j=nodes:=aa;subst dN;have gj:¬(j:Int)<(j:Int):=aa;have axE:=hK 3;have axF:=hK 4;have axG:=hK 5
    obtain⟨r3,Dz⟩:∃x,K 3%3=x:=⟨_,rfl⟩
    have e1:aY .rem (.int .i64 (K 3:Int)) (.int .i64 3)=some (.int .i64 (r3:Int)):=oa Dz ai
    obtain⟨a3,Gg⟩:∃x,K 3/3=x:=⟨_,rfl⟩
    have e2:aY .quo (.int .i64 (K 3:Int)) (.int .i64 3)=some (.int .i64 (a3:Int)):=oc Gg ai aa
    obtain⟨m3,FB⟩:∃x,a3%ps.length=x:=⟨_,rfl⟩
    have e3:aY .rem (.int .i64 (a3:Int)) (.int .i64 (ps.length:Int))=some (.int .i64 (m3:Int)):=oa FB (by exact Tf)
    obtain⟨u1,FC⟩:∃x,K 4%3=x:=⟨_,rfl⟩
    have x1:aY .rem (.int .i64 (K 4:Int)) (.int .i64 3)=some (.int .i64 (u1:Int)):=oa FC ai
    obtain⟨v1,jt⟩:∃x,u1/2=x:=⟨_,rfl⟩
    have x2:aY .quo (.int .i64 (u1:Int)) (.int .i64 2)=some (.int .i64 (v1:Int)):=oc jt ai aa
    obtain⟨u2,Cg⟩:∃x,K 4/3=x:=⟨_,rfl⟩
    have x3:aY .quo (.int .i64 (K 4:Int)) (.int .i64 3)=some (.int .i64 (u2:Int)):=oc Cg ai aa
    obtain⟨y2,zD⟩:∃x,u2%4=x:=⟨_,rfl⟩
    have x4:aY .rem (.int .i64 (u2:Int)) (.int .i64 4)=some (.int .i64 (y2:Int)):=oa zD ai
    obtain⟨v2,rV⟩:∃x,y2/3=x:=⟨_,rfl⟩
    have x5:aY .quo (.int .i64 (y2:Int)) (.int .i64 3)=some (.int .i64 (v2:Int)):=oc rV ai aa
    obtain⟨u3,FE⟩:∃x,K 4/12=x:=⟨_,rfl⟩
    have x6:aY .quo (.int .i64 (K 4:Int)) (.int .i64 12)=some (.int .i64 (u3:Int)):=oc FE ai aa
    obtain⟨y3,FG⟩:∃x,u3%4=x:=⟨_,rfl⟩
    have x7:aY .rem (.int .i64 (u3:Int)) (.int .i64 4)=some (.int .i64 (y3:Int)):=oa FG ai
    obtain⟨v3,rW⟩:∃x,y3/3=x:=⟨_,rfl⟩
    have FH:aY .quo (.int .i64 (y3:Int)) (.int .i64 3)=some (.int .i64 (v3:Int)):=oc rW ai aa
    obtain⟨u4,Cj⟩:∃x,K 4/48=x:=⟨_,rfl⟩
    have x9:aY .quo (.int .i64 (K 4:Int)) (.int .i64 48)=some (.int .i64 (u4:Int)):=oc Cj ai aa
    obtain⟨y4,FI⟩:∃x,u4%5=x:=⟨_,rfl⟩
    have x10:aY .rem (.int .i64 (u4:Int)) (.int .i64 5)=some (.int .i64 (y4:Int)):=oa FI ai
    obtain⟨v4,Ep⟩:∃x,y4/4=x:=⟨_,rfl⟩
    have x11:aY .quo (.int .i64 (y4:Int)) (.int .i64 4)=some (.int .i64 (v4:Int)):=oc Ep ai aa
    obtain⟨q7,FJ⟩:∃x,K 5%7=x:=⟨_,rfl⟩
    have x12:aY .rem (.int .i64 (K 5:Int)) (.int .i64 7)=some (.int .i64 (q7:Int)):=oa FJ ai;by_cases wk:r3=0
    case' pos=>
     have GC:(r3:Int)=0:=aa;have FF:=TR @wk @GC @e1 @e2 @e3 @w3 @ql @x1 @x2 @x3 @x4 @x5 @x6 @x7 @FH @x9 @x10 @x11 @w4 @gj
     try refine aj ?_
     try clear FF
     obtain⟨rs,Bb⟩:∃rs:List Int,rs=[(m3:Int),0]:=⟨_,rfl⟩
     have ahB:(if K 3%3=0 then [((K 3/3%ps.length:Nat):Int),0] else [])=rs:=by rw[Dz,if_pos wk,Gg,FB,Bb]
     rw[show [AC.own 33 g33,AC.own 901 (j+1),AC.sl [[iA m3],[iA 0]],AC.own 902 1,iA v1,iA v2,iA v3,iA v4]=[AC.own 33 g33,AC.own 901 (j+1),ints rs,AC.own 902 1,iA v1,iA v2,iA v3,iA v4] by rw[Bb];rfl];clear wk GC Bb
    case' neg=>
     have GC:¬(r3:Int)=0:=aa;have FF:=TR @wk @GC @e1 @e2 @e3 @w3 @ql @x1 @x2 @x3 @x4 @x5 @x6 @x7 @FH @x9 @x10 @x11 @w4 @gj
     try refine aj ?_
     try clear FF
     obtain⟨rs,Bb⟩:∃rs:List Int,rs=[]:=⟨_,rfl⟩
     have ahB:(if K 3%3=0 then [((K 3/3%ps.length:Nat):Int),0] else [])=rs:=by rw[Dz,if_neg wk,Bb]
     rw[show [AC.own 33 g33,AC.own 901 (j+1),AC.sl [],AC.own 902 1,iA v1,iA v2,iA v3,iA v4]=[AC.own 33 g33,AC.own 901 (j+1),ints rs,AC.own 902 1,iA v1,iA v2,iA v3,iA v4] by rw[Bb];rfl];clear wk GC Bb
    all_goals
     have hq6:q7<=6:=aa
     refine cF (fun n V S=>∃i:Nat,i<=q7/\n=q7-i/\(∃x13,V=[(0,.w (.c (ints l))),(2,.pb 2 1 0),(3,.w (.c (.own 3 15))),(4,.w (.c (iA 14))),(5,.pb 5 1 0),(6,.pb 6 1 0),(8,x8),(10,.w (.c (iA j))),(11,.w (.c (iA j))),(12,.w (.c (iA i))),(13,x13),(33,.w (.c (.own 33 1)))])/\
      S=[(2,.box 1 [.sl [],.sl [],.sl [],.sl [],iA 0,iA 0,iA 0,iA 0]),(5,.box 1 [.own 33 g33,.own 901 (j+1),ints rs,.own 902 (i+1),iA v1,iA v2,iA v3,iA v4]),(6,.box 1 (bW (qm (k0%12)))),(8,s8),(3,.row 3 1 15 rk),(33,.row 46 43 g33 (ps.map bW)),(901,.row 3 1 (j+1) (bB (zf a2 ps.length j))),(902,.row 52 4 (i+1) ((AZ K j i).map acS))]) (n:=q7) ⟨0,aa,rfl,⟨.u,rfl⟩,rfl⟩ ?_
     rintro n V L S ⟨i,hi,rfl,⟨x13,rfl⟩,rfl⟩;by_cases hit:i<q7
     ·have Tg:(i:Int)<(q7:Int):=aa;have Gd:=hK (6+i);have wi:=qi i aa
      obtain⟨t,ht⟩:∃x,6+i=x:=⟨_,rfl⟩
      rw[ht] at wi Gd;have wt:=qe t _ aa wi;have ava:t<14:=aa;have avb:(t:Int)<14:=aa
      obtain⟨kk,eQ⟩:∃x,K t=x:=⟨_,rfl⟩
      rw[eQ] at wt Gd
      obtain⟨nn,jb⟩:∃x,kk%j=x:=⟨_,rfl⟩
      obtain⟨o1,tI⟩:∃x,kk/3=x:=⟨_,rfl⟩
      obtain⟨o2,wv⟩:∃x,o1%8=x:=⟨_,rfl⟩
      obtain⟨p1,tC⟩:∃x,kk/24=x:=⟨_,rfl⟩
      obtain⟨p2,ahC⟩:∃x,p1%5=x:=⟨_,rfl⟩
      obtain⟨p3,ahD⟩:∃x,p2/4=x:=⟨_,rfl⟩
      obtain⟨p4,ahE⟩:∃x,1+p3=x:=⟨_,rfl⟩
      obtain⟨i1,xc⟩:∃x,1+i=x:=⟨_,rfl⟩
      obtain⟨i2,Ft⟩:∃x,i+1=x:=⟨_,rfl⟩
      have z0:aY .add (.int .i64 6) (.int .i64 (i:Int))=some (.int .i64 (t:Int)):=AX (a:=6) ht aa;have z1:aY .rem (.int .i64 (kk:Int)) (.int .i64 (j:Int))=some (.int .i64 (nn:Int)):=oa jb aa;have z2:aY .quo (.int .i64 (kk:Int)) (.int .i64 3)=some (.int .i64 (o1:Int)):=oc tI ai aa;have z3:aY .rem (.int .i64 (o1:Int)) (.int .i64 8)=some (.int .i64 (o2:Int)):=oa wv ai;have z4:aY .quo (.int .i64 (kk:Int)) (.int .i64 24)=some (.int .i64 (p1:Int)):=oc tC ai aa;have z5:aY .rem (.int .i64 (p1:Int)) (.int .i64 5)=some (.int .i64 (p2:Int)):=oa ahC ai;have z6:aY .quo (.int .i64 (p2:Int)) (.int .i64 4)=some (.int .i64 (p3:Int)):=oc ahD ai aa;have z7:aY .add (.int .i64 1) (.int .i64 (p3:Int))=some (.int .i64 (p4:Int)):=AX (a:=1) ahE aa;have z8:aY .add (.int .i64 1) (.int .i64 (i:Int))=some (.int .i64 (i1:Int)):=AX (a:=1) xc aa;have z9:aY .add (.int .i64 (i:Int)) (.int .i64 1)=some (.int .i64 (i2:Int)):=AX Ft aa;have Th:o2<8:=aa;have avc:(o2:Int)<8:=aa
      obtain⟨ov,Ge⟩:∃ov,([0,1,2,3,4,0,1,3]:List Int).getD o2 0=ov:=⟨_,rfl⟩
      have hgo:([[iA 0],[iA 1],[iA 2],[iA 3],[iA 4],[iA 0],[iA 1],[iA 3]]:List (List AC))[o2]'(by simpa using Th)=[iA ov]:=by
       rw[<-Ge]
       match o2,Th with
       |0,_=>rfl
       |1,_=>rfl
       |2,_=>rfl
       |3,_=>rfl
       |4,_=>rfl
       |5,_=>rfl
       |6,_=>rfl
       |7,_=>rfl
      have iq:(AZ K j i).length=i:=by simp[AZ]
      have Fp:i+1<=100000000:=aa;have FF:=TS @w5 @ql @x12 @Tg @wt @ava @avb @z0 @z1 @z2 @z3 @z4 @z5 @z6 @z7 @z8 @z9 @Th @avc @hgo @iq @Fp
      try refine aj ?_
      try clear FF
      exact⟨q7-(i+1),aa,i+1,aa,rfl,⟨_,by rw[Ft]⟩,by rw[auT,ht,eQ,jb,tI,wv,Ge,tC,ahC,ahD,ahE,xc];simp⟩
     ·have Tg:¬(i:Int)<(q7:Int):=aa;have zT:q7=i:=aa
      have hc:c=⟨ps,zf a2 ps.length j,rs,AZ K j i,v1,v2,v3,v4⟩:=by
       simp only[ar] at h;rw[<-h,ahB,FC,jt,Cg,zD,rV,FE,FG,rW,Cj,FI,Ep,FJ,zT];rfl
      have FF:=dW @w5 @ql @x12 @Tg
      try refine aj ?_
      try clear FF
      (try dsimp only[aM,aJ])
      exact bd (by simp;try rfl) (by rw[hc];rfl)
end Ab
end Go.Proofs.YtlnghiefahcnpaaGreat
