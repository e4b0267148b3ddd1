import Derived.Test.YtngblilamkkikaaGreatDoorW18
import Derived.Test.YtngblilamkkikaaGreatDoorW22
import Derived.Test.YtngblilamkkikaaGreatDoorW23
import Derived.Test.YtngblilamkkikaaGreatDoorW26
import Derived.Test.YtngblilamkkikaaGreatDoorW28
import Derived.Test.YtngblilamkkikaaGreatDoorW11
import Derived.Test.YtngblilamkkikaaGreatDoorW10
set_option maxHeartbeats 40000000
set_option maxRecDepth 100000
set_option linter.all false
namespace Go.Proofs.YtngblilamkkikaaGreatDoor
namespace Ab
open Go Go.RowKit jc
theorem avd:iM ((xP jO eS 1000 60).1 41 [.c (sA (sources.getD 11 []))]) (.cg [.agg (cz ((build (sources.getD 11 [])).getD ⟨[],[],0,0⟩)),.c (iA 0)])=true:=ah
attribute [local irreducible] aL bm aU
def tZ (k:Nat):Prog:=(build (sources.getD k [])).getD ⟨[],[],0,0⟩
theorem ahe {k:Nat}(hk:k<12):build (sources.getD k [])=some (tZ k)/\verify (tZ k)=0:=by
 have hl:sources.length=12:=iY
 have hm:sources.getD k []∈sources:=by
  rw[ff,cy ab];exact cA _
 have:=fg.1 asF _ hm;unfold tZ;split at this
 ·rename_i p hp;rw[hp];exact⟨rfl,by simpa using this⟩
 ·cases this
theorem ahf {k:Nat}(hk:k<12):bu Tryz.prog 41 [.c (sA (sources.getD k []))] (fun y=>y=.cg [.agg (cz (tZ k)),.c (iA 0)]):=by
 match k,hk with
 |0,_=>exact jM kg aur 1000 60 (jN aus)
 |1,_=>exact jM kg auu 1000 60 (jN auv)
 |2,_=>exact jM kg (YA auF) 1000 60 (jN auG)
 |3,_=>exact jM kg auI 1000 60 (jN auJ)
 |4,_=>exact jM kg (YA auL) 1000 60 (jN auM)
 |5,_=>exact jM kg (YA auO) 1000 60 (jN auP)
 |6,_=>exact jM kg auR 1000 60 (jN auS)
 |7,_=>exact jM kg auU 1000 60 (jN auV)
 |8,_=>exact jM kg auX 1000 60 (jN auY)
 |9,_=>exact jM kg ava 1000 60 (jN avb)
 |10,_=>exact jM kg jZ 1000 60 (jN avc)
 |11,_=>exact jM kg jZ 1000 60 (jN avd)
theorem ave:iM ((xP jO eS 1000 60).1 93 []) (.w (.c (.sl (sources.map fun s=>[sA s]))))=true:=ah
theorem avf:bu Tryz.prog 93 [] (fun y=>y=.w (.c (.sl (sources.map fun s=>[sA s])))):=jM kg jZ 1000 60 (jN ave)
def zo (n:Int):Prop:= -9223372036854775808<=n/\n<=9223372036854775807
theorem YB (n:Int)(m:Nat)(h:zo n)(hm:0<m/\m<=1000000000):bu Tryz.prog 35 [.c (iA n),.c (iA m)] (fun y=>y=.w (.c (iA (aD.around n m:Nat)))):=by
 obtain⟨h1,h2⟩:=h;obtain⟨m1,m2⟩:=hm;have Bh:(m:Int)≠0:=ab;refine cD Tryz.func35 aN [] [.t 4] [4] [] ?_;by_cases hn:n<0
 ·have pP:=adJ (a:=n+1) ab ab
  have e:(aD.around n m:Int)=(-(n+1)).tmod m:=by
   unfold aD.around;rw[aj hn]
   obtain⟨q,hq⟩:∃q:Nat,-(n+1)=q:=⟨(-(n+1)).toNat,ab⟩
   rw[hq];rfl
  have FF:=fT @hn (oC (a:=n) (b:=1) ab ab) @pP (fun a=>Mh (a:=a) Bh)
  try refine aJ ?_
  refine zE ?_;exact(by rw[e,Int.neg_tmod];rfl)
 ·have e:(aD.around n m:Int)=n.tmod m:=by
   unfold aD.around;rw[af hn]
   obtain⟨q,hq⟩:∃q:Nat,n=q:=⟨n.toNat,ab⟩
   rw[hq];rfl
  have FF:=lI @hn (fun a=>Mh (a:=a) Bh)
  try refine aJ ?_
  refine zE ?_;exact(by rw[e];rfl)
theorem ahg (n:Int){m:Nat}(h:0<m):aD.around n m<m:=oZ _ h
theorem avg (l:List Int)(i m:Nat)(hl:∀x∈l,zo x)(cE:l.length<=9223372036854775807)(hm:0<m/\m<=1000000000)(hi:i<=1000000):bu Tryz.prog 40 [.c (ints l),.c (iA i),.c (iA m)] (fun y=>y=.w (.c (iA (aD.pick l i m:Nat)))):=by
 have i0:¬(i:Int)<0:=ab;refine cD Tryz.func40 aN [] [.t 6] [6] [] ?_;by_cases hlt:i<l.length
 ·obtain⟨x,hx⟩:∃x,l[i]=x:=⟨_,rfl⟩
  have qM:¬l.length<=i:=ab;have hxi:zo x:=hl x (hx▸cA hlt)
  have e:aD.pick l i m=aD.around x m:=by unfold aD.pick;rw[cy hlt,hx]
  have FF:=fT @i0 @hlt @qM @hx;refine bU (YB x m hxi hm) ?_;refine zE ?_;exact(by rw[e];rfl)
 ·have qM:l.length<=i:=ab
  have e:aD.pick l i m=0:=by unfold aD.pick;rw[oW qM]
  have FF:=na @i0 @hlt @qM
  try refine aJ ?_
  refine zE ?_;exact(by rw[e];rfl)
theorem ahh (n:Int)(h:zo n):bu Tryz.prog 42 [.c (iA n)] (fun y=>y=.w (.c (sA (sources.getD (aD.around n 12) [])))):=by
 have hl:sources.length=12:=iY;have hlt:=ahg n (show 0<12 by decide)
 obtain⟨k,hk⟩:∃k,aD.around n 12=k:=⟨_,rfl⟩
 have ha:bu Tryz.prog 35 [.c (iA n),.c (iA 12)] (fun y=>y=.w (.c (iA (aD.around n 12:Nat)))):=YB n 12 h ⟨aq,aq⟩;rw[hk] at hlt ha⊢;have hs:=avf;have ik:(k:Int)<12:=ab;have lW:k<sources.length:=ab
 obtain⟨x,hx⟩:∃x,sources[k]=x:=⟨_,rfl⟩
 have hg:sources.getD k []=x:=by rw[ff,cy lW,hx];rfl
 rw[hg];generalize sources=src at*;refine cD Tryz.func42 aN [] [.t 2] [2,3] [] ?_;have FF:=jT @hl @hlt @ik @lW @hx;refine oE hs ha ?_;refine zE ?_;exact(rfl)
open aD (et pk)
variable {a b c:Nat}
theorem ahi(n m:Nat):aD.around (n:Int) m=n%m:=by
 unfold aD.around;rw[af ab];rfl
theorem avh(l:List Int)(i:Nat){m:Nat}(h:0<m):aD.pick l i m<m:=by
 unfold aD.pick;split
 ·exact h
 ·exact ahg _ h
theorem rm(hc:a%b=c)(hb:0<b):bt .rem (.int .i64 (a:Int)) (.int .i64 (b:Int))=some (.int .i64 (c:Int)):=by
 subst hc;rw[Mh ab];rfl
theorem rp(hc:a/b=c)(hb:0<b)(ha:a<=1000000000):bt .quo (.int .i64 (a:Int)) (.int .i64 (b:Int))=some (.int .i64 (c:Int)):=by
 subst hc;have h:((a:Int)).tdiv (b:Int)=((a/b:Nat):Int):=rfl;have hle:a/b<=a:=Nat.div_le_self _ _;generalize a/b=q at h hle⊢;rw[ady ab (by rw[h];omega) (by rw[h];omega),h]
theorem Gd(hc:a+b=c)(ha:c<=1000000000):bt .add (.int .i64 (a:Int)) (.int .i64 (b:Int))=some (.int .i64 (c:Int)):=by
 subst hc;rw[oC ab ab];rfl
def Ge (l:List Int)(j:Nat):List Int:=(List.range j).map fun i=>((aD.pick l i 1000000:Nat):Int)
def Dx (a p:Nat)(j:Nat):List Int:=(List.range j).map fun n=>((a/(n+1)%p:Nat):Int)
def Gf (K:Nat->Nat)(nodes n:Nat):List pk:=(List.range n).map fun(i:Nat)=>⟨((K (6+i)%nodes:Nat):Int),[0,1,2,3,4,0,1,3].getD (K (6+i)/3%8) 0,((1+K (6+i)/24%5/4:Nat):Int),((1+i:Nat):Int)⟩
theorem avi(K:Nat->Nat)(nodes n:Nat):Gf K nodes (n+1)=Gf K nodes n++[⟨((K (6+n)%nodes:Nat):Int),[0,1,2,3,4,0,1,3].getD (K (6+n)/3%8) 0,((1+K (6+n)/24%5/4:Nat):Int),((1+n:Nat):Int)⟩]:=by simp[Gf,ng]
theorem avj(a p j:Nat):Dx a p (j+1)=Dx a p j++[((a/(j+1)%p:Nat):Int)]:=by simp[Dx,ng]
theorem avk(l:List Int)(j:Nat):Ge l (j+1)=Ge l j++[((aD.pick l j 1000000:Nat):Int)]:=by simp[Ge,ng]
theorem avl(l:List Int)(c:et)(h:aD.config l=some c)(hl:∀x∈l,zo x)(cE:l.length<=9223372036854775807):bu Tryz.prog 12 [.c (ints l)] (fun y=>y=.w (.agg (zb c))):=by
 refine cD Tryz.func12 ⟨0,[3,33],[],[],dc,[(5,[1,3])],[(7,[(5,1,901,3,1),(5,3,902,119,4)])]⟩ [(27,20,tk 0 5 (tk 6 3 (tk 11 7 (.move 5 (tk 9 1 (.move 10 (tk 18 1 (.move 19 .nil))))))),[]),tm 16 13,tz 18 7] [.cell 2 8] [2,3,4,5,6,8,10,11,12,13,33] [2,5,6,8,3,33,901,902] ?_;have FF:=trivial
 try refine aJ ?_
 try clear FF
 refine dB (fun n V S=>∃(j:Nat),j<=14/\n=14-j/\V=[(0,.w (.c (ints l))),(2,.pb 2 1 0),(3,.w (.c (.own 3 (j+1)))),(4,.w (.c (iA j))),(5,.u),(6,.u),(8,.u),(10,.u),(11,.u),(12,.u),(13,.u),(33,.u)]/\
  S=[(2,.box 1 [.sl [],.sl [],.sl [],.sl [],iA 0,iA 0,iA 0,iA 0]),(5,.dead 0),(6,.dead 0),(8,.dead 0),(3,.row 3 1 (j+1) (bL (Ge l j))),(33,.dead 0),(901,.dead 0),(902,.dead 0)]) (n:=14) ⟨0,ab,rfl,rfl,rfl⟩ ?_
 rintro n V L S ⟨j,hj,rfl,rfl,rfl⟩;by_cases hlt:j<14
 ·have ik:(j:Int)<14:=ab;have Jy:j<=1000000000:=ab
  have lW:(Ge l j).length=j:=by simp[Ge]
  have MD:j+1<=100000000:=ab;have hp:bu Tryz.prog 40 [.c (ints l),.c (iA j),.c (iA 1000000)] (fun y=>y=.w (.c (iA (aD.pick l j 1000000:Nat)))):=avg l j 1000000 hl ab ⟨aq,aq⟩ ab;have FF:=fT @ik @lW @MD (bT Jy);refine bU hp ?_
  try clear FF
  exact⟨14-(j+1),ab,j+1,ab,rfl,rfl,by rw[avk];simp[bL]⟩
 ·have avm:j=14:=ab;subst avm;have aW:bL (Ge l 14)=[[iA (aD.pick l 0 1000000:Nat)],[iA (aD.pick l 1 1000000:Nat)],[iA (aD.pick l 2 1000000:Nat)],[iA (aD.pick l 3 1000000:Nat)],[iA (aD.pick l 4 1000000:Nat)],[iA (aD.pick l 5 1000000:Nat)],[iA (aD.pick l 6 1000000:Nat)],[iA (aD.pick l 7 1000000:Nat)],[iA (aD.pick l 8 1000000:Nat)],[iA (aD.pick l 9 1000000:Nat)],[iA (aD.pick l 10 1000000:Nat)],[iA (aD.pick l 11 1000000:Nat)],[iA (aD.pick l 12 1000000:Nat)],[iA (aD.pick l 13 1000000:Nat)]]:=rfl;rw[aW];clear aW
  have hK:∀i,aD.pick l i 1000000<1000000:=fun i=>avh l i aq
  unfold aD.config at h;dsimp only at h
  obtain⟨K,hKe⟩:∃K:Nat->Nat,∀i,aD.pick l i 1000000=K i:=⟨_,fun _=>rfl⟩
  simp only[hKe] at h hK⊢
  obtain⟨k0,e0⟩:∃k,K 0=k:=⟨_,rfl⟩
  obtain⟨k1,e1⟩:∃k,K 1=k:=⟨_,rfl⟩
  have avn:=hK 0;have avo:=hK 1;simp only[e0,e1] at h avn avo⊢;have bj:k0%12<12:=oZ _ aq;have fM:k1/3%12<12:=oZ _ aq;obtain⟨b0,_⟩:=ahe bj;obtain⟨b1,_⟩:=ahe fM;rw[b0] at h;dsimp only at h;rw[b1] at h
  have s0:bu Tryz.prog 42 [.c (iA k0)] (fun y=>y=.w (.c (sA (sources.getD (k0%12) [])))):=by
   have:=ahh k0 ⟨ab,ab⟩;rwa[ahi] at this
  have s1:∀a1:Nat,k1/3=a1->bu Tryz.prog 42 [.c (iA a1)] (fun y=>y=.w (.c (sA (sources.getD (k1/3%12) [])))):=fun a1 xn=>by
   have:=ahh a1 ⟨ab,ab⟩;rw[ahi] at this;rw[xn];exact this
  obtain⟨r1,jw⟩:∃r,k1%3=r:=⟨_,rfl⟩
  obtain⟨a1,xn⟩:∃r,k1/3=r:=⟨_,rfl⟩
  have s1:=s1 a1 xn;have f1:bt .rem (.int .i64 (k1:Int)) (.int .i64 3)=some (.int .i64 (r1:Int)):=rm jw aq;have f2:bt .quo (.int .i64 (k1:Int)) (.int .i64 3)=some (.int .i64 (a1:Int)):=rp xn aq ab;rw[jw] at h;have FF:=lI @f1 @f2;refine oE s0 (ahf bj) ?_
  try clear FF
  by_cases hz:r1=0
  case' pos=>
   rw[aj hz] at h;have YC:(r1:Int)=0:=ab;have FF:=na @f2 @hz @YC;refine oE s1 (ahf fM) ?_
   try clear FF
   obtain⟨ps,kP⟩:∃ps:List Prog,ps=[tZ (k0%12),tZ (k1/3%12)]:=⟨_,rfl⟩
   rw[show [cz (tZ (k0%12)),cz (tZ (k1/3%12))]=ps.map cz by rw[kP];rfl]
   obtain⟨g33,Gg⟩:∃g:Nat,g=2:=⟨_,rfl⟩
   rw[show AC.own 33 2=AC.own 33 g33 by rw[Gg],show Slot.row 115 43 2 (ps.map cz)=Slot.row 115 43 g33 (ps.map cz) by rw[Gg]]
   obtain⟨x8,Ni⟩:∃x,x=AV.pb 8 1 0:=⟨_,rfl⟩
   obtain⟨s8,FZ⟩:∃s,s=Slot.box 1 (cz (tZ (k1/3%12))):=⟨_,rfl⟩
   rw[<-Ni,<-FZ];simp only[wu,b1] at h;rw[<-kP] at h
   have YD:0<ps.length:=by rw[kP];simp
   have xp:ps.length<=2:=by rw[kP];simp
   clear Ni FZ Gg kP
  case' neg=>
   rw[af hz] at h;have YC:¬(r1:Int)=0:=ab;have FF:=na @f2 @hz @YC
   try refine aJ ?_
   try clear FF
   obtain⟨ps,kP⟩:∃ps:List Prog,ps=[tZ (k0%12)]:=⟨_,rfl⟩
   rw[show [cz (tZ (k0%12))]=ps.map cz by rw[kP];rfl]
   obtain⟨g33,Gg⟩:∃g:Nat,g=1:=⟨_,rfl⟩
   rw[show [AC.own 33 1,AC.own 901 1,AC.sl [],AC.own 902 1,AC.v (Value.int IntKind.i64 0),AC.v (Value.int IntKind.i64 0),AC.v (Value.int IntKind.i64 0),AC.v (Value.int IntKind.i64 0)]=[AC.own 33 g33,AC.own 901 1,AC.sl [],AC.own 902 1,AC.v (Value.int IntKind.i64 0),AC.v (Value.int IntKind.i64 0),AC.v (Value.int IntKind.i64 0),AC.v (Value.int IntKind.i64 0)] by rw[Gg],show Slot.row 115 43 1 (ps.map cz)=Slot.row 115 43 g33 (ps.map cz) by rw[Gg]]
   obtain⟨x8,Ni⟩:∃x,x=AV.u:=⟨_,rfl⟩
   obtain⟨s8,FZ⟩:∃s,s=Slot.dead 0:=⟨_,rfl⟩
   rw[show(8,AV.u)=(8,x8) by rw[Ni],<-FZ];simp only[b1] at h;rw[<-kP] at h
   have YD:0<ps.length:=by rw[kP];simp
   have xp:ps.length<=2:=by rw[kP];simp
   clear Ni FZ Gg kP
  all_goals
   have aDt:=hK 2
   obtain⟨b2,cK⟩:∃x,K 2+1=x:=⟨_,rfl⟩
   obtain⟨c2,oG⟩:∃x,b2%3=x:=⟨_,rfl⟩
   obtain⟨nodes,ze⟩:∃x,1+c2=x:=⟨_,rfl⟩
   obtain⟨a2,zl⟩:∃x,K 2/3=x:=⟨_,rfl⟩
   have g1:bt .add (.int .i64 (K 2:Int)) (.int .i64 1)=some (.int .i64 (b2:Int)):=Gd cK ab;have g2:bt .rem (.int .i64 (b2:Int)) (.int .i64 3)=some (.int .i64 (c2:Int)):=rm oG aq;have g3:bt .add (.int .i64 1) (.int .i64 (c2:Int))=some (.int .i64 (nodes:Int)):=Gd (a:=1) ze ab;have g4:bt .quo (.int .i64 (K 2:Int)) (.int .i64 3)=some (.int .i64 (a2:Int)):=rp zl aq ab;have Bf:nodes<=3:=ab;rw[cK,oG,ze,zl] at h
   obtain⟨rk,oc⟩:∃rk:List (List AC),rk=[[iA k0],[iA k1],[iA (K 2)],[iA (K 3)],[iA (K 4)],[iA (K 5)],[iA (K 6)],[iA (K 7)],[iA (K 8)],[iA (K 9)],[iA (K 10)],[iA (K 11)],[iA (K 12)],[iA (K 13)]]:=⟨_,rfl⟩
   rw[<-oc]
   have q2:rk[2]? =some [iA (K 2)]:=by rw[oc];rfl
   have q3:rk[3]? =some [iA (K 3)]:=by rw[oc];rfl
   have q4:rk[4]? =some [iA (K 4)]:=by rw[oc];rfl
   have q5:rk[5]? =some [iA (K 5)]:=by rw[oc];rfl
   have ql:rk.length=14:=by rw[oc];rfl
   have qi:∀i,i<7->rk[6+i]? =some [iA (K (6+i))]:=fun i hi=>by
    rw[oc]
    match i,hi with
    |0,_=>rfl
    |1,_=>rfl
    |2,_=>rfl
    |3,_=>rfl
    |4,_=>rfl
    |5,_=>rfl
    |6,_=>rfl
   clear oc
   have qe:∀(i:Nat) (x:List AC) (h:i<rk.length),rk[i]? =some x->rk[i]=x:=fun i x h hx=>by rw[cy h] at hx;exact ei hx
   have w2:=qe 2 _ ab q2;have w3:=qe 3 _ ab q3;have w4:=qe 4 _ ab q4;have w5:=qe 5 _ ab q5;have FF:=jT @g1 @g2 @g3 @w2 @ql
   try refine aJ ?_
   try clear FF
   refine dB (fun n V S=>∃j:Nat,j<=nodes/\n=nodes-j/\V=[(0,.w (.c (ints l))),(2,.pb 2 1 0),(3,.w (.c (.own 3 15))),(4,.w (.c (iA 14))),(5,.pb 5 1 0),(6,.pb 6 1 0),(8,x8),(10,.w (.c (iA nodes))),(11,.w (.c (iA j))),(12,.u),(13,.u),(33,.w (.c (.own 33 1)))]/\
    S=[(2,.box 1 [.sl [],.sl [],.sl [],.sl [],iA 0,iA 0,iA 0,iA 0]),(5,.box 1 [.own 33 g33,.own 901 (j+1),.sl [],.own 902 1,iA 0,iA 0,iA 0,iA 0]),(6,.box 1 (cz (tZ (k0%12)))),(8,s8),(3,.row 3 1 15 rk),(33,.row 115 43 g33 (ps.map cz)),(901,.row 3 1 (j+1) (bL (Dx a2 ps.length j))),(902,.row 119 4 1 [])]) (n:=nodes) ⟨0,ab,rfl,rfl,rfl⟩ ?_
   rintro n V L S ⟨j,hj,rfl,rfl,rfl⟩;by_cases hlt:j<nodes
   case' pos=>
    have ik:(j:Int)<(nodes:Int):=ab
    obtain⟨d,hd⟩:∃x,j+1=x:=⟨_,rfl⟩
    obtain⟨e,he⟩:∃x,a2/d=x:=⟨_,rfl⟩
    obtain⟨m,hm⟩:∃x,e%ps.length=x:=⟨_,rfl⟩
    have f7:bt .add (.int .i64 (j:Int)) (.int .i64 1)=some (.int .i64 (d:Int)):=Gd hd ab;have f8:bt .quo (.int .i64 (a2:Int)) (.int .i64 (d:Int))=some (.int .i64 (e:Int)):=rp he ab ab;have f9:bt .rem (.int .i64 (e:Int)) (.int .i64 (ps.length:Int))=some (.int .i64 (m:Int)):=rm hm YD
    have cH:(Dx a2 ps.length j).length=j:=by simp[Dx]
    have MD:j+1<=100000000:=ab;have FF:=Px @ik @w2 @ql @g4 @f7 @f8 @f9 @cH @MD
    try refine aJ ?_
    try clear FF
    exact⟨nodes-(j+1),ab,j+1,ab,rfl,by rw[<-hd],by rw[avj,hd,he,hm];simp[bL]⟩
   case' neg=>
    have gV:j=nodes:=ab;subst gV;have ik:¬(j:Int)<(j:Int):=ab;have aDu:=hK 3;have aDv:=hK 4;have aDw:=hK 5
    obtain⟨r3,JX⟩:∃x,K 3%3=x:=⟨_,rfl⟩
    have e1:bt .rem (.int .i64 (K 3:Int)) (.int .i64 3)=some (.int .i64 (r3:Int)):=rm JX aq
    obtain⟨a3,Nb⟩:∃x,K 3/3=x:=⟨_,rfl⟩
    have e2:bt .quo (.int .i64 (K 3:Int)) (.int .i64 3)=some (.int .i64 (a3:Int)):=rp Nb aq ab
    obtain⟨m3,RW⟩:∃x,a3%ps.length=x:=⟨_,rfl⟩
    have e3:bt .rem (.int .i64 (a3:Int)) (.int .i64 (ps.length:Int))=some (.int .i64 (m3:Int)):=rm RW (by exact YD)
    obtain⟨u1,YE⟩:∃x,K 4%3=x:=⟨_,rfl⟩
    have x1:bt .rem (.int .i64 (K 4:Int)) (.int .i64 3)=some (.int .i64 (u1:Int)):=rm YE aq
    obtain⟨v1,iO⟩:∃x,u1/2=x:=⟨_,rfl⟩
    have x2:bt .quo (.int .i64 (u1:Int)) (.int .i64 2)=some (.int .i64 (v1:Int)):=rp iO aq ab
    obtain⟨u2,hu2⟩:∃x,K 4/3=x:=⟨_,rfl⟩
    have x3:bt .quo (.int .i64 (K 4:Int)) (.int .i64 3)=some (.int .i64 (u2:Int)):=rp hu2 aq ab
    obtain⟨y2,ud⟩:∃x,u2%4=x:=⟨_,rfl⟩
    have x4:bt .rem (.int .i64 (u2:Int)) (.int .i64 4)=some (.int .i64 (y2:Int)):=rm ud aq
    obtain⟨v2,qW⟩:∃x,y2/3=x:=⟨_,rfl⟩
    have x5:bt .quo (.int .i64 (y2:Int)) (.int .i64 3)=some (.int .i64 (v2:Int)):=rp qW aq ab
    obtain⟨u3,hu3⟩:∃x,K 4/12=x:=⟨_,rfl⟩
    have x6:bt .quo (.int .i64 (K 4:Int)) (.int .i64 12)=some (.int .i64 (u3:Int)):=rp hu3 aq ab
    obtain⟨y3,hy3⟩:∃x,u3%4=x:=⟨_,rfl⟩
    have x7:bt .rem (.int .i64 (u3:Int)) (.int .i64 4)=some (.int .i64 (y3:Int)):=rm hy3 aq
    obtain⟨v3,xh⟩:∃x,y3/3=x:=⟨_,rfl⟩
    have x8a:bt .quo (.int .i64 (y3:Int)) (.int .i64 3)=some (.int .i64 (v3:Int)):=rp xh aq ab
    obtain⟨u4,hu4⟩:∃x,K 4/48=x:=⟨_,rfl⟩
    have x9:bt .quo (.int .i64 (K 4:Int)) (.int .i64 48)=some (.int .i64 (u4:Int)):=rp hu4 aq ab
    obtain⟨y4,hy4⟩:∃x,u4%5=x:=⟨_,rfl⟩
    have x10:bt .rem (.int .i64 (u4:Int)) (.int .i64 5)=some (.int .i64 (y4:Int)):=rm hy4 aq
    obtain⟨v4,Nj⟩:∃x,y4/4=x:=⟨_,rfl⟩
    have x11:bt .quo (.int .i64 (y4:Int)) (.int .i64 4)=some (.int .i64 (v4:Int)):=rp Nj aq ab
    obtain⟨q7,hq7⟩:∃x,K 5%7=x:=⟨_,rfl⟩
    have x12:bt .rem (.int .i64 (K 5:Int)) (.int .i64 7)=some (.int .i64 (q7:Int)):=rm hq7 aq;by_cases uf:r3=0
    case' pos=>
     have Nk:(r3:Int)=0:=ab;have FF:=abR @uf @Nk @e1 @e2 @e3 @w3 @ql @x1 @x2 @x3 @x4 @x5 @x6 @x7 @x8a @x9 @x10 @x11 @w4 @ik
     try refine aJ ?_
     try clear FF
     obtain⟨rs,Gi⟩:∃rs:List Int,rs=[(m3:Int),0]:=⟨_,rfl⟩
     have ahj:(if K 3%3=0 then [((K 3/3%ps.length:Nat):Int),0] else [])=rs:=by rw[JX,aj uf,Nb,RW,Gi]
     rw[show [AC.own 33 g33,AC.own 901 (j+1),AC.sl [[iA m3],[iA 0]],AC.own 902 1,iA v1,iA v2,iA v3,iA v4]=[AC.own 33 g33,AC.own 901 (j+1),ints rs,AC.own 902 1,iA v1,iA v2,iA v3,iA v4] by rw[Gi];rfl];clear uf Nk Gi
    case' neg=>
     have Nk:¬(r3:Int)=0:=ab;have FF:=abR @uf @Nk @e1 @e2 @e3 @w3 @ql @x1 @x2 @x3 @x4 @x5 @x6 @x7 @x8a @x9 @x10 @x11 @w4 @ik
     try refine aJ ?_
     try clear FF
     obtain⟨rs,Gi⟩:∃rs:List Int,rs=[]:=⟨_,rfl⟩
     have ahj:(if K 3%3=0 then [((K 3/3%ps.length:Nat):Int),0] else [])=rs:=by rw[JX,af uf,Gi]
     rw[show [AC.own 33 g33,AC.own 901 (j+1),AC.sl [],AC.own 902 1,iA v1,iA v2,iA v3,iA v4]=[AC.own 33 g33,AC.own 901 (j+1),ints rs,AC.own 902 1,iA v1,iA v2,iA v3,iA v4] by rw[Gi];rfl];clear uf Nk Gi
    all_goals
     have RX:q7<=6:=ab
     refine dB (fun n V S=>∃i:Nat,i<=q7/\n=q7-i/\(∃x13,V=[(0,.w (.c (ints l))),(2,.pb 2 1 0),(3,.w (.c (.own 3 15))),(4,.w (.c (iA 14))),(5,.pb 5 1 0),(6,.pb 6 1 0),(8,x8),(10,.w (.c (iA j))),(11,.w (.c (iA j))),(12,.w (.c (iA i))),(13,x13),(33,.w (.c (.own 33 1)))])/\
      S=[(2,.box 1 [.sl [],.sl [],.sl [],.sl [],iA 0,iA 0,iA 0,iA 0]),(5,.box 1 [.own 33 g33,.own 901 (j+1),ints rs,.own 902 (i+1),iA v1,iA v2,iA v3,iA v4]),(6,.box 1 (cz (tZ (k0%12)))),(8,s8),(3,.row 3 1 15 rk),(33,.row 115 43 g33 (ps.map cz)),(901,.row 3 1 (j+1) (bL (Dx a2 ps.length j))),(902,.row 119 4 (i+1) ((Gf K j i).map afz))]) (n:=q7) ⟨0,ab,rfl,⟨.u,rfl⟩,rfl⟩ ?_
     rintro n V L S ⟨i,hi,rfl,⟨x13,rfl⟩,rfl⟩;by_cases hit:i<q7
     ·have YF:(i:Int)<(q7:Int):=ab;have hk6:=hK (6+i);have wi:=qi i ab
      obtain⟨t,ht⟩:∃x,6+i=x:=⟨_,rfl⟩
      rw[ht] at wi hk6;have wt:=qe t _ ab wi;have avp:t<14:=ab;have avq:(t:Int)<14:=ab
      obtain⟨kk,fA⟩:∃x,K t=x:=⟨_,rfl⟩
      rw[fA] at wt hk6
      obtain⟨nn,jH⟩:∃x,kk%j=x:=⟨_,rfl⟩
      obtain⟨o1,JQ⟩:∃x,kk/3=x:=⟨_,rfl⟩
      obtain⟨o2,Be⟩:∃x,o1%8=x:=⟨_,rfl⟩
      obtain⟨p1,pS⟩:∃x,kk/24=x:=⟨_,rfl⟩
      obtain⟨p2,ahk⟩:∃x,p1%5=x:=⟨_,rfl⟩
      obtain⟨p3,ahl⟩:∃x,p2/4=x:=⟨_,rfl⟩
      obtain⟨p4,ahm⟩:∃x,1+p3=x:=⟨_,rfl⟩
      obtain⟨i1,AL⟩:∃x,1+i=x:=⟨_,rfl⟩
      obtain⟨i2,yY⟩:∃x,i+1=x:=⟨_,rfl⟩
      have z0:bt .add (.int .i64 6) (.int .i64 (i:Int))=some (.int .i64 (t:Int)):=Gd (a:=6) ht ab;have z1:bt .rem (.int .i64 (kk:Int)) (.int .i64 (j:Int))=some (.int .i64 (nn:Int)):=rm jH ab;have z2:bt .quo (.int .i64 (kk:Int)) (.int .i64 3)=some (.int .i64 (o1:Int)):=rp JQ aq ab;have z3:bt .rem (.int .i64 (o1:Int)) (.int .i64 8)=some (.int .i64 (o2:Int)):=rm Be aq;have z4:bt .quo (.int .i64 (kk:Int)) (.int .i64 24)=some (.int .i64 (p1:Int)):=rp pS aq ab;have z5:bt .rem (.int .i64 (p1:Int)) (.int .i64 5)=some (.int .i64 (p2:Int)):=rm ahk aq;have z6:bt .quo (.int .i64 (p2:Int)) (.int .i64 4)=some (.int .i64 (p3:Int)):=rp ahl aq ab;have z7:bt .add (.int .i64 1) (.int .i64 (p3:Int))=some (.int .i64 (p4:Int)):=Gd (a:=1) ahm ab;have z8:bt .add (.int .i64 1) (.int .i64 (i:Int))=some (.int .i64 (i1:Int)):=Gd (a:=1) AL ab;have z9:bt .add (.int .i64 (i:Int)) (.int .i64 1)=some (.int .i64 (i2:Int)):=Gd yY ab;have Nl:o2<8:=ab;have avr:(o2:Int)<8:=ab
      obtain⟨ov,YG⟩:∃ov,([0,1,2,3,4,0,1,3]:List Int).getD o2 0=ov:=⟨_,rfl⟩
      have hgo:([[iA 0],[iA 1],[iA 2],[iA 3],[iA 4],[iA 0],[iA 1],[iA 3]]:List (List AC))[o2]'(by simpa using Nl)=[iA ov]:=by
       rw[<-YG]
       match o2,Nl with
       |0,_=>rfl
       |1,_=>rfl
       |2,_=>rfl
       |3,_=>rfl
       |4,_=>rfl
       |5,_=>rfl
       |6,_=>rfl
       |7,_=>rfl
      have fO:(Gf K j i).length=i:=by simp[Gf]
      have MF:i+1<=100000000:=ab;have FF:=abS @w5 @ql @x12 @YF @wt @avp @avq @z0 @z1 @z2 @z3 @z4 @z5 @z6 @z7 @z8 @z9 @Nl @avr @hgo @fO @MF
      try refine aJ ?_
      try clear FF
      exact⟨q7-(i+1),ab,i+1,ab,rfl,⟨_,by rw[yY]⟩,by rw[avi,ht,fA,jH,JQ,Be,YG,pS,ahk,ahl,ahm,AL];simp⟩
     ·have YF:¬(i:Int)<(q7:Int):=ab;have Fh:q7=i:=ab
      have hc:c=⟨ps,Dx a2 ps.length j,rs,Gf K j i,v1,v2,v3,v4⟩:=by
       simp only[aC] at h;rw[<-h,ahj,YE,iO,hu2,ud,qW,hu3,hy3,xh,hu4,hy4,Nj,hq7,Fh];rfl
      have FF:=fT @w5 @ql @x12 @YF
      try refine aJ ?_
      try clear FF
      refine zE ?_;exact(by rw[hc];rfl)
end Ab
end Go.Proofs.YtngblilamkkikaaGreatDoor
