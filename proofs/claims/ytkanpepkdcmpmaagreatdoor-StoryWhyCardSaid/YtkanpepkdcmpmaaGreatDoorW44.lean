import Derived.Test.YtkanpepkdcmpmaaGreatDoorW39
import Derived.Test.YtkanpepkdcmpmaaGreatDoorW40
import Derived.Test.YtkanpepkdcmpmaaGreatDoorW41
import Derived.Test.YtkanpepkdcmpmaaGreatDoorW42
import Derived.Test.YtkanpepkdcmpmaaGreatDoorW43
import Derived.Test.YtkanpepkdcmpmaaGreatDoorW8
import Derived.Test.YtkanpepkdcmpmaaGreatDoorW26
set_option maxHeartbeats 40000000
set_option maxRecDepth 100000
set_option linter.all false
namespace Go.Proofs.YtkanpepkdcmpmaaGreatDoor
namespace Ab
open Go Go.RowKit mQ
theorem aCj:jh ((xP kN fL 1000 60).1 65 [.c (sA (sources.getD 11 []))]) (.bP [.agg (cM ((build (sources.getD 11 [])).getD ⟨[],[],0,0⟩)),.c (iA 0)])=true:=ah
attribute [local irreducible] aP bB aW
def wz (k:Nat):Prog:=(build (sources.getD k [])).getD ⟨[],[],0,0⟩
theorem aml {k:Nat}(hk:k<12):build (sources.getD k [])=some (wz k)/\verify (wz k)=0:=by
 have hl:sources.length=12:=eH
 have hm:sources.getD k []∈sources:=by
  rw[fC,cz ab];exact bW _
 have:=fE.1 atF _ hm;unfold wz;split at this
 ·rename_i p hp;rw[hp];exact⟨rfl,by simpa using this⟩
 ·cases this
theorem amm {k:Nat}(hk:k<12):bj Tryz.prog 65 [.c (sA (sources.getD k []))] (fun y=>y=.bP [.agg (cM (wz k)),.c (iA 0)]):=by
 match k,hk with
 |0,_=>exact kh lq aBI 1000 60 (ki aBJ)
 |1,_=>exact kh lq aBL 1000 60 (ki aBM)
 |2,_=>exact kh lq (aay axT) 1000 60 (ki axU)
 |3,_=>exact kh lq aBO 1000 60 (ki aBP)
 |4,_=>exact kh lq (aay aBU) 1000 60 (ki aBV)
 |5,_=>exact kh lq (aay aBX) 1000 60 (ki aBY)
 |6,_=>exact kh lq aBR 1000 60 (ki aBS)
 |7,_=>exact kh lq aCa 1000 60 (ki aCb)
 |8,_=>exact kh lq aCd 1000 60 (ki aCe)
 |9,_=>exact kh lq aCg 1000 60 (ki aCh)
 |10,_=>exact kh lq lp 1000 60 (ki aCi)
 |11,_=>exact kh lq lp 1000 60 (ki aCj)
theorem aCk:jh ((xP kN fL 1000 60).1 125 []) (.w (.c (.sl (sources.map fun s=>[sA s]))))=true:=ah
theorem aCl:bj Tryz.prog 125 [] (fun y=>y=.w (.c (.sl (sources.map fun s=>[sA s])))):=kh lq lp 1000 60 (ki aCk)
def zB (n:Int):Prop:= -9223372036854775808<=n/\n<=9223372036854775807
theorem Vn (n:Int)(m:Nat)(h:zB n)(hm:0<m/\m<=1000000000):bj Tryz.prog 25 [.c (iA n),.c (iA m)] (fun y=>y=.w (.c (iA (aD.around n m:Nat)))):=by
 obtain⟨h1,h2⟩:=h;obtain⟨m1,m2⟩:=hm;have MP:(m:Int)≠0:=ab;refine cI Tryz.func25 aN [] [.t 4] [4] [] ?_;by_cases hn:n<0
 ·have ru:=afv (a:=n+1) ab ab
  have e:(aD.around n m:Int)=(-(n+1)).tmod m:=by
   unfold aD.around;rw[aj hn]
   obtain⟨q,hq⟩:∃q:Nat,-(n+1)=q:=⟨(-(n+1)).toNat,ab⟩
   rw[hq];rfl
  have FF:=fg @hn (oX (a:=n) (b:=1) ab ab) @ru (fun a=>Of (a:=a) MP)
  try refine aG ?_
  refine zE ?_;exact(by rw[e,Int.neg_tmod];rfl)
 ·have e:(aD.around n m:Int)=n.tmod m:=by
   unfold aD.around;rw[af hn]
   obtain⟨q,hq⟩:∃q:Nat,n=q:=⟨n.toNat,ab⟩
   rw[hq];rfl
  have FF:=im @hn (fun a=>Of (a:=a) MP)
  try refine aG ?_
  refine zE ?_;exact(by rw[e];rfl)
theorem amn (n:Int){m:Nat}(h:0<m):aD.around n m<m:=oM _ h
theorem aCm (l:List Int)(i m:Nat)(hl:∀x∈l,zB x)(cT:l.length<=9223372036854775807)(hm:0<m/\m<=1000000000)(hi:i<=1000000):bj Tryz.prog 64 [.c (ints l),.c (iA i),.c (iA m)] (fun y=>y=.w (.c (iA (aD.pick l i m:Nat)))):=by
 have i0:¬(i:Int)<0:=ab;refine cI Tryz.func64 aN [] [.t 6] [6] [] ?_;by_cases hlt:i<l.length
 ·obtain⟨x,hx⟩:∃x,l[i]=x:=⟨_,rfl⟩
  have tJ:¬l.length<=i:=ab;have hxi:zB x:=hl x (hx▸bW hlt)
  have e:aD.pick l i m=aD.around x m:=by unfold aD.pick;rw[cz hlt,hx]
  have FF:=fg @i0 @hlt @tJ @hx;refine bY (Vn x m hxi hm) ?_;refine zE ?_;exact(by rw[e];rfl)
 ·have tJ:l.length<=i:=ab
  have e:aD.pick l i m=0:=by unfold aD.pick;rw[qx tJ]
  have FF:=kT @i0 @hlt @tJ
  try refine aG ?_
  refine zE ?_;exact(by rw[e];rfl)
theorem amo (n:Int)(h:zB n):bj Tryz.prog 66 [.c (iA n)] (fun y=>y=.w (.c (sA (sources.getD (aD.around n 12) [])))):=by
 have hl:sources.length=12:=eH;have hlt:=amn n (show 0<12 by decide)
 obtain⟨k,hk⟩:∃k,aD.around n 12=k:=⟨_,rfl⟩
 have ha:bj Tryz.prog 25 [.c (iA n),.c (iA 12)] (fun y=>y=.w (.c (iA (aD.around n 12:Nat)))):=Vn n 12 h ⟨au,au⟩;rw[hk] at hlt ha⊢;have hs:=aCl;have jg:(k:Int)<12:=ab;have ei:k<sources.length:=ab
 obtain⟨x,hx⟩:∃x,sources[k]=x:=⟨_,rfl⟩
 have hg:sources.getD k []=x:=by rw[fC,cz ei,hx];rfl
 rw[hg];generalize sources=src at*;refine cI Tryz.func66 aN [] [.t 2] [2,3] [] ?_;have FF:=iF @hl @hlt @jg @ei @hx;refine kg hs ha ?_;refine zE ?_;exact(rfl)
open aD (eX qF)
variable {a b c:Nat}
theorem amp(n m:Nat):aD.around (n:Int) m=n%m:=by
 unfold aD.around;rw[af ab];rfl
theorem aCn(l:List Int)(i:Nat){m:Nat}(h:0<m):aD.pick l i m<m:=by
 unfold aD.pick;split
 ·exact h
 ·exact amn _ h
theorem kv(hc:a%b=c)(hb:0<b):aZ .rem (.int .i64 (a:Int)) (.int .i64 (b:Int))=some (.int .i64 (c:Int)):=by
 subst hc;rw[Of ab];rfl
theorem kS(hc:a/b=c)(hb:0<b)(ha:a<=1000000000):aZ .quo (.int .i64 (a:Int)) (.int .i64 (b:Int))=some (.int .i64 (c:Int)):=by
 subst hc;have h:((a:Int)).tdiv (b:Int)=((a/b:Nat):Int):=rfl;have hle:a/b<=a:=Nat.div_le_self _ _;generalize a/b=q at h hle⊢;rw[afk ab (by rw[h];omega) (by rw[h];omega),h]
theorem JK(hc:a+b=c)(ha:c<=1000000000):aZ .add (.int .i64 (a:Int)) (.int .i64 (b:Int))=some (.int .i64 (c:Int)):=by
 subst hc;rw[oX ab ab];rfl
def JL (l:List Int)(j:Nat):List Int:=(List.range j).map fun i=>((aD.pick l i 1000000:Nat):Int)
def FM (a p:Nat)(j:Nat):List Int:=(List.range j).map fun n=>((a/(n+1)%p:Nat):Int)
def JM (K:Nat->Nat)(nodes n:Nat):List qF:=(List.range n).map fun(i:Nat)=>⟨((K (6+i)%nodes:Nat):Int),[0,1,2,3,4,0,1,3].getD (K (6+i)/3%8) 0,((1+K (6+i)/24%5/4:Nat):Int),((1+i:Nat):Int)⟩
theorem aCo(K:Nat->Nat)(nodes n:Nat):JM K nodes (n+1)=JM K nodes n++[⟨((K (6+n)%nodes:Nat):Int),[0,1,2,3,4,0,1,3].getD (K (6+n)/3%8) 0,((1+K (6+n)/24%5/4:Nat):Int),((1+n:Nat):Int)⟩]:=by simp[JM,mn]
theorem aCp(a p j:Nat):FM a p (j+1)=FM a p j++[((a/(j+1)%p:Nat):Int)]:=by simp[FM,mn]
theorem aCq(l:List Int)(j:Nat):JL l (j+1)=JL l j++[((aD.pick l j 1000000:Nat):Int)]:=by simp[JL,mn]
theorem aCr(l:List Int)(c:eX)(h:aD.config l=some c)(hl:∀x∈l,zB x)(cT:l.length<=9223372036854775807):bj Tryz.prog 24 [.c (ints l)] (fun y=>y=.w (.agg (Bl c))):=by
 refine cI Tryz.func24 ⟨0,[3,33],[],[],cZ,[(5,[1,3])],[(7,[(5,1,901,3,1),(5,3,902,137,4)])]⟩ [(27,20,tk 0 5 (tk 6 3 (tk 11 7 (.move 5 (tk 9 1 (.move 10 (tk 18 1 (.move 19 .nil))))))),[]),tm 16 13,tz 18 7] [.cell 2 8] [2,3,4,5,6,8,10,11,12,13,33] [2,5,6,8,3,33,901,902] ?_;have FF:=trivial
 try refine aG ?_
 try clear FF
 refine dA (fun n V S=>∃(j:Nat),j<=14/\n=14-j/\V=[(0,.w (.c (ints l))),(2,.pb 2 1 0),(3,.w (.c (.own 3 (j+1)))),(4,.w (.c (iA j))),(5,.u),(6,.u),(8,.u),(10,.u),(11,.u),(12,.u),(13,.u),(33,.u)]/\
  S=[(2,.box 1 [.sl [],.sl [],.sl [],.sl [],iA 0,iA 0,iA 0,iA 0]),(5,.dead 0),(6,.dead 0),(8,.dead 0),(3,.row 3 1 (j+1) (bM (JL l j))),(33,.dead 0),(901,.dead 0),(902,.dead 0)]) (n:=14) ⟨0,ab,rfl,rfl,rfl⟩ ?_
 rintro n V L S ⟨j,hj,rfl,rfl,rfl⟩;by_cases hlt:j<14
 ·have jg:(j:Int)<14:=ab;have Mb:j<=1000000000:=ab
  have ei:(JL l j).length=j:=by simp[JL]
  have Ps:j+1<=100000000:=ab;have hp:bj Tryz.prog 64 [.c (ints l),.c (iA j),.c (iA 1000000)] (fun y=>y=.w (.c (iA (aD.pick l j 1000000:Nat)))):=aCm l j 1000000 hl ab ⟨au,au⟩ ab;have FF:=fg @jg @ei @Ps (bT Mb);refine bY hp ?_
  try clear FF
  exact⟨14-(j+1),ab,j+1,ab,rfl,rfl,by rw[aCq];simp[bM]⟩
 ·have aCs:j=14:=ab;subst aCs;have bg:bM (JL l 14)=[[iA (aD.pick l 0 1000000:Nat)],[iA (aD.pick l 1 1000000:Nat)],[iA (aD.pick l 2 1000000:Nat)],[iA (aD.pick l 3 1000000:Nat)],[iA (aD.pick l 4 1000000:Nat)],[iA (aD.pick l 5 1000000:Nat)],[iA (aD.pick l 6 1000000:Nat)],[iA (aD.pick l 7 1000000:Nat)],[iA (aD.pick l 8 1000000:Nat)],[iA (aD.pick l 9 1000000:Nat)],[iA (aD.pick l 10 1000000:Nat)],[iA (aD.pick l 11 1000000:Nat)],[iA (aD.pick l 12 1000000:Nat)],[iA (aD.pick l 13 1000000:Nat)]]:=rfl;rw[bg];clear bg
  have hK:∀i,aD.pick l i 1000000<1000000:=fun i=>aCn l i au
  unfold aD.config at h;dsimp only at h
  obtain⟨K,hKe⟩:∃K:Nat->Nat,∀i,aD.pick l i 1000000=K i:=⟨_,fun _=>rfl⟩
  simp only[hKe] at h hK⊢
  obtain⟨k0,e0⟩:∃k,K 0=k:=⟨_,rfl⟩
  obtain⟨k1,e1⟩:∃k,K 1=k:=⟨_,rfl⟩
  have aCt:=hK 0;have aCu:=hK 1;simp only[e0,e1] at h aCt aCu⊢;have aX:k0%12<12:=oM _ au;have ej:k1/3%12<12:=oM _ au;obtain⟨b0,_⟩:=aml aX;obtain⟨b1,_⟩:=aml ej;rw[b0] at h;dsimp only at h;rw[b1] at h
  have s0:bj Tryz.prog 66 [.c (iA k0)] (fun y=>y=.w (.c (sA (sources.getD (k0%12) [])))):=by
   have:=amo k0 ⟨ab,ab⟩;rwa[amp] at this
  have s1:∀a1:Nat,k1/3=a1->bj Tryz.prog 66 [.c (iA a1)] (fun y=>y=.w (.c (sA (sources.getD (k1/3%12) [])))):=fun a1 zi=>by
   have:=amo a1 ⟨ab,ab⟩;rw[amp] at this;rw[zi];exact this
  obtain⟨r1,eF⟩:∃r,k1%3=r:=⟨_,rfl⟩
  obtain⟨a1,zi⟩:∃r,k1/3=r:=⟨_,rfl⟩
  have s1:=s1 a1 zi;have f1:aZ .rem (.int .i64 (k1:Int)) (.int .i64 3)=some (.int .i64 (r1:Int)):=kv eF au;have f2:aZ .quo (.int .i64 (k1:Int)) (.int .i64 3)=some (.int .i64 (a1:Int)):=kS zi au ab;rw[eF] at h;have FF:=im @f1 @f2;refine kg s0 (amm aX) ?_
  try clear FF
  by_cases hz:r1=0
  case' pos=>
   rw[aj hz] at h;have hzi:(r1:Int)=0:=ab;have FF:=kT @f2 @hz @hzi;refine kg s1 (amm ej) ?_
   try clear FF
   obtain⟨ps,lV⟩:∃ps:List Prog,ps=[wz (k0%12),wz (k1/3%12)]:=⟨_,rfl⟩
   rw[show [cM (wz (k0%12)),cM (wz (k1/3%12))]=ps.map cM by rw[lV];rfl]
   obtain⟨g33,FN⟩:∃g:Nat,g=2:=⟨_,rfl⟩
   rw[show AC.own 33 2=AC.own 33 g33 by rw[FN],show Slot.row 133 43 2 (ps.map cM)=Slot.row 133 43 g33 (ps.map cM) by rw[FN]]
   obtain⟨x8,Qs⟩:∃x,x=AV.pb 8 1 0:=⟨_,rfl⟩
   obtain⟨s8,Jl⟩:∃s,s=Slot.box 1 (cM (wz (k1/3%12))):=⟨_,rfl⟩
   rw[<-Qs,<-Jl];simp only[yh,b1] at h;rw[<-lV] at h
   have hp0:0<ps.length:=by rw[lV];simp
   have yV:ps.length<=2:=by rw[lV];simp
   clear Qs Jl FN lV
  case' neg=>
   rw[af hz] at h;have hzi:¬(r1:Int)=0:=ab;have FF:=kT @f2 @hz @hzi
   try refine aG ?_
   try clear FF
   obtain⟨ps,lV⟩:∃ps:List Prog,ps=[wz (k0%12)]:=⟨_,rfl⟩
   rw[show [cM (wz (k0%12))]=ps.map cM by rw[lV];rfl]
   obtain⟨g33,FN⟩:∃g:Nat,g=1:=⟨_,rfl⟩
   rw[show [AC.own 33 1,AC.own 901 1,AC.sl [],AC.own 902 1,AC.v (Value.int IntKind.i64 0),AC.v (Value.int IntKind.i64 0),AC.v (Value.int IntKind.i64 0),AC.v (Value.int IntKind.i64 0)]=[AC.own 33 g33,AC.own 901 1,AC.sl [],AC.own 902 1,AC.v (Value.int IntKind.i64 0),AC.v (Value.int IntKind.i64 0),AC.v (Value.int IntKind.i64 0),AC.v (Value.int IntKind.i64 0)] by rw[FN],show Slot.row 133 43 1 (ps.map cM)=Slot.row 133 43 g33 (ps.map cM) by rw[FN]]
   obtain⟨x8,Qs⟩:∃x,x=AV.u:=⟨_,rfl⟩
   obtain⟨s8,Jl⟩:∃s,s=Slot.dead 0:=⟨_,rfl⟩
   rw[show(8,AV.u)=(8,x8) by rw[Qs],<-Jl];simp only[b1] at h;rw[<-lV] at h
   have hp0:0<ps.length:=by rw[lV];simp
   have yV:ps.length<=2:=by rw[lV];simp
   clear Qs Jl FN lV
  all_goals
   have aGX:=hK 2
   obtain⟨b2,fc⟩:∃x,K 2+1=x:=⟨_,rfl⟩
   obtain⟨c2,dW⟩:∃x,b2%3=x:=⟨_,rfl⟩
   obtain⟨nodes,AP⟩:∃x,1+c2=x:=⟨_,rfl⟩
   obtain⟨a2,Bj⟩:∃x,K 2/3=x:=⟨_,rfl⟩
   have g1:aZ .add (.int .i64 (K 2:Int)) (.int .i64 1)=some (.int .i64 (b2:Int)):=JK fc ab;have g2:aZ .rem (.int .i64 (b2:Int)) (.int .i64 3)=some (.int .i64 (c2:Int)):=kv dW au;have g3:aZ .add (.int .i64 1) (.int .i64 (c2:Int))=some (.int .i64 (nodes:Int)):=JK (a:=1) AP ab;have g4:aZ .quo (.int .i64 (K 2:Int)) (.int .i64 3)=some (.int .i64 (a2:Int)):=kS Bj au ab;have CP:nodes<=3:=ab;rw[fc,dW,AP,Bj] at h
   obtain⟨rk,iH⟩:∃rk:List (List AC),rk=[[iA k0],[iA k1],[iA (K 2)],[iA (K 3)],[iA (K 4)],[iA (K 5)],[iA (K 6)],[iA (K 7)],[iA (K 8)],[iA (K 9)],[iA (K 10)],[iA (K 11)],[iA (K 12)],[iA (K 13)]]:=⟨_,rfl⟩
   rw[<-iH]
   have q2:rk[2]? =some [iA (K 2)]:=by rw[iH];rfl
   have q3:rk[3]? =some [iA (K 3)]:=by rw[iH];rfl
   have q4:rk[4]? =some [iA (K 4)]:=by rw[iH];rfl
   have q5:rk[5]? =some [iA (K 5)]:=by rw[iH];rfl
   have ql:rk.length=14:=by rw[iH];rfl
   have qi:∀i,i<7->rk[6+i]? =some [iA (K (6+i))]:=fun i hi=>by
    rw[iH]
    match i,hi with
    |0,_=>rfl
    |1,_=>rfl
    |2,_=>rfl
    |3,_=>rfl
    |4,_=>rfl
    |5,_=>rfl
    |6,_=>rfl
   clear iH
   have qe:∀(i:Nat) (x:List AC) (h:i<rk.length),rk[i]? =some x->rk[i]=x:=fun i x h hx=>by rw[cz h] at hx;exact eA hx
   have w2:=qe 2 _ ab q2;have w3:=qe 3 _ ab q3;have w4:=qe 4 _ ab q4;have w5:=qe 5 _ ab q5;have FF:=iF @g1 @g2 @g3 @w2 @ql
   try refine aG ?_
   try clear FF
   refine dA (fun n V S=>∃j:Nat,j<=nodes/\n=nodes-j/\V=[(0,.w (.c (ints l))),(2,.pb 2 1 0),(3,.w (.c (.own 3 15))),(4,.w (.c (iA 14))),(5,.pb 5 1 0),(6,.pb 6 1 0),(8,x8),(10,.w (.c (iA nodes))),(11,.w (.c (iA j))),(12,.u),(13,.u),(33,.w (.c (.own 33 1)))]/\
    S=[(2,.box 1 [.sl [],.sl [],.sl [],.sl [],iA 0,iA 0,iA 0,iA 0]),(5,.box 1 [.own 33 g33,.own 901 (j+1),.sl [],.own 902 1,iA 0,iA 0,iA 0,iA 0]),(6,.box 1 (cM (wz (k0%12)))),(8,s8),(3,.row 3 1 15 rk),(33,.row 133 43 g33 (ps.map cM)),(901,.row 3 1 (j+1) (bM (FM a2 ps.length j))),(902,.row 137 4 1 [])]) (n:=nodes) ⟨0,ab,rfl,rfl,rfl⟩ ?_
   rintro n V L S ⟨j,hj,rfl,rfl,rfl⟩;by_cases hlt:j<nodes
   case' pos=>
    have jg:(j:Int)<(nodes:Int):=ab
    obtain⟨d,hd⟩:∃x,j+1=x:=⟨_,rfl⟩
    obtain⟨e,he⟩:∃x,a2/d=x:=⟨_,rfl⟩
    obtain⟨m,hm⟩:∃x,e%ps.length=x:=⟨_,rfl⟩
    have f7:aZ .add (.int .i64 (j:Int)) (.int .i64 1)=some (.int .i64 (d:Int)):=JK hd ab;have f8:aZ .quo (.int .i64 (a2:Int)) (.int .i64 (d:Int))=some (.int .i64 (e:Int)):=kS he ab ab;have f9:aZ .rem (.int .i64 (e:Int)) (.int .i64 (ps.length:Int))=some (.int .i64 (m:Int)):=kv hm hp0
    have cS:(FM a2 ps.length j).length=j:=by simp[FM]
    have Ps:j+1<=100000000:=ab;have FF:=oH @jg @w2 @ql @g4 @f7 @f8 @f9 @cS @Ps
    try refine aG ?_
    try clear FF
    exact⟨nodes-(j+1),ab,j+1,ab,rfl,by rw[<-hd],by rw[aCp,hd,he,hm];simp[bM]⟩
   case' neg=>
    have iW:j=nodes:=ab;subst iW;have jg:¬(j:Int)<(j:Int):=ab;have aGY:=hK 3;have aGZ:=hK 4;have aHa:=hK 5
    obtain⟨r3,Dq⟩:∃x,K 3%3=x:=⟨_,rfl⟩
    have e1:aZ .rem (.int .i64 (K 3:Int)) (.int .i64 3)=some (.int .i64 (r3:Int)):=kv Dq au
    obtain⟨a3,PU⟩:∃x,K 3/3=x:=⟨_,rfl⟩
    have e2:aZ .quo (.int .i64 (K 3:Int)) (.int .i64 3)=some (.int .i64 (a3:Int)):=kS PU au ab
    obtain⟨m3,TX⟩:∃x,a3%ps.length=x:=⟨_,rfl⟩
    have e3:aZ .rem (.int .i64 (a3:Int)) (.int .i64 (ps.length:Int))=some (.int .i64 (m3:Int)):=kv TX (by exact hp0)
    obtain⟨u1,Pb⟩:∃x,K 4%3=x:=⟨_,rfl⟩
    have x1:aZ .rem (.int .i64 (K 4:Int)) (.int .i64 3)=some (.int .i64 (u1:Int)):=kv Pb au
    obtain⟨v1,ji⟩:∃x,u1/2=x:=⟨_,rfl⟩
    have x2:aZ .quo (.int .i64 (u1:Int)) (.int .i64 2)=some (.int .i64 (v1:Int)):=kS ji au ab
    obtain⟨u2,Vo⟩:∃x,K 4/3=x:=⟨_,rfl⟩
    have x3:aZ .quo (.int .i64 (K 4:Int)) (.int .i64 3)=some (.int .i64 (u2:Int)):=kS Vo au ab
    obtain⟨y2,vM⟩:∃x,u2%4=x:=⟨_,rfl⟩
    have x4:aZ .rem (.int .i64 (u2:Int)) (.int .i64 4)=some (.int .i64 (y2:Int)):=kv vM au
    obtain⟨v2,pQ⟩:∃x,y2/3=x:=⟨_,rfl⟩
    have x5:aZ .quo (.int .i64 (y2:Int)) (.int .i64 3)=some (.int .i64 (v2:Int)):=kS pQ au ab
    obtain⟨u3,hu3⟩:∃x,K 4/12=x:=⟨_,rfl⟩
    have x6:aZ .quo (.int .i64 (K 4:Int)) (.int .i64 12)=some (.int .i64 (u3:Int)):=kS hu3 au ab
    obtain⟨y3,hy3⟩:∃x,u3%4=x:=⟨_,rfl⟩
    have x7:aZ .rem (.int .i64 (u3:Int)) (.int .i64 4)=some (.int .i64 (y3:Int)):=kv hy3 au
    obtain⟨v3,yP⟩:∃x,y3/3=x:=⟨_,rfl⟩
    have x8a:aZ .quo (.int .i64 (y3:Int)) (.int .i64 3)=some (.int .i64 (v3:Int)):=kS yP au ab
    obtain⟨u4,hu4⟩:∃x,K 4/48=x:=⟨_,rfl⟩
    have x9:aZ .quo (.int .i64 (K 4:Int)) (.int .i64 48)=some (.int .i64 (u4:Int)):=kS hu4 au ab
    obtain⟨y4,hy4⟩:∃x,u4%5=x:=⟨_,rfl⟩
    have x10:aZ .rem (.int .i64 (u4:Int)) (.int .i64 5)=some (.int .i64 (y4:Int)):=kv hy4 au
    obtain⟨v4,OQ⟩:∃x,y4/4=x:=⟨_,rfl⟩
    have x11:aZ .quo (.int .i64 (y4:Int)) (.int .i64 4)=some (.int .i64 (v4:Int)):=kS OQ au ab
    obtain⟨q7,hq7⟩:∃x,K 5%7=x:=⟨_,rfl⟩
    have x12:aZ .rem (.int .i64 (K 5:Int)) (.int .i64 7)=some (.int .i64 (q7:Int)):=kv hq7 au;by_cases vL:r3=0
    case' pos=>
     have Qt:(r3:Int)=0:=ab;have FF:=adH @vL @Qt @e1 @e2 @e3 @w3 @ql @x1 @x2 @x3 @x4 @x5 @x6 @x7 @x8a @x9 @x10 @x11 @w4 @jg
     try refine aG ?_
     try clear FF
     obtain⟨rs,zC⟩:∃rs:List Int,rs=[(m3:Int),0]:=⟨_,rfl⟩
     have amq:(if K 3%3=0 then [((K 3/3%ps.length:Nat):Int),0] else [])=rs:=by rw[Dq,aj vL,PU,TX,zC]
     rw[show [AC.own 33 g33,AC.own 901 (j+1),AC.sl [[iA m3],[iA 0]],AC.own 902 1,iA v1,iA v2,iA v3,iA v4]=[AC.own 33 g33,AC.own 901 (j+1),ints rs,AC.own 902 1,iA v1,iA v2,iA v3,iA v4] by rw[zC];rfl];clear vL Qt zC
    case' neg=>
     have Qt:¬(r3:Int)=0:=ab;have FF:=adH @vL @Qt @e1 @e2 @e3 @w3 @ql @x1 @x2 @x3 @x4 @x5 @x6 @x7 @x8a @x9 @x10 @x11 @w4 @jg
     try refine aG ?_
     try clear FF
     obtain⟨rs,zC⟩:∃rs:List Int,rs=[]:=⟨_,rfl⟩
     have amq:(if K 3%3=0 then [((K 3/3%ps.length:Nat):Int),0] else [])=rs:=by rw[Dq,af vL,zC]
     rw[show [AC.own 33 g33,AC.own 901 (j+1),AC.sl [],AC.own 902 1,iA v1,iA v2,iA v3,iA v4]=[AC.own 33 g33,AC.own 901 (j+1),ints rs,AC.own 902 1,iA v1,iA v2,iA v3,iA v4] by rw[zC];rfl];clear vL Qt zC
    all_goals
     have hq6:q7<=6:=ab
     refine dA (fun n V S=>∃i:Nat,i<=q7/\n=q7-i/\(∃x13,V=[(0,.w (.c (ints l))),(2,.pb 2 1 0),(3,.w (.c (.own 3 15))),(4,.w (.c (iA 14))),(5,.pb 5 1 0),(6,.pb 6 1 0),(8,x8),(10,.w (.c (iA j))),(11,.w (.c (iA j))),(12,.w (.c (iA i))),(13,x13),(33,.w (.c (.own 33 1)))])/\
      S=[(2,.box 1 [.sl [],.sl [],.sl [],.sl [],iA 0,iA 0,iA 0,iA 0]),(5,.box 1 [.own 33 g33,.own 901 (j+1),ints rs,.own 902 (i+1),iA v1,iA v2,iA v3,iA v4]),(6,.box 1 (cM (wz (k0%12)))),(8,s8),(3,.row 3 1 15 rk),(33,.row 133 43 g33 (ps.map cM)),(901,.row 3 1 (j+1) (bM (FM a2 ps.length j))),(902,.row 137 4 (i+1) ((JM K j i).map ajC))]) (n:=q7) ⟨0,ab,rfl,⟨.u,rfl⟩,rfl⟩ ?_
     rintro n V L S ⟨i,hi,rfl,⟨x13,rfl⟩,rfl⟩;by_cases hit:i<q7
     ·have ack:(i:Int)<(q7:Int):=ab;have hk6:=hK (6+i);have wi:=qi i ab
      obtain⟨t,ht⟩:∃x,6+i=x:=⟨_,rfl⟩
      rw[ht] at wi hk6;have wt:=qe t _ ab wi;have aCv:t<14:=ab;have aCw:(t:Int)<14:=ab
      obtain⟨kk,gK⟩:∃x,K t=x:=⟨_,rfl⟩
      rw[gK] at wt hk6
      obtain⟨nn,kI⟩:∃x,kk%j=x:=⟨_,rfl⟩
      obtain⟨o1,xK⟩:∃x,kk/3=x:=⟨_,rfl⟩
      obtain⟨o2,ug⟩:∃x,o1%8=x:=⟨_,rfl⟩
      obtain⟨p1,rE⟩:∃x,kk/24=x:=⟨_,rfl⟩
      obtain⟨p2,amr⟩:∃x,p1%5=x:=⟨_,rfl⟩
      obtain⟨p3,ams⟩:∃x,p2/4=x:=⟨_,rfl⟩
      obtain⟨p4,amt⟩:∃x,1+p3=x:=⟨_,rfl⟩
      obtain⟨i1,CT⟩:∃x,1+i=x:=⟨_,rfl⟩
      obtain⟨i2,rL⟩:∃x,i+1=x:=⟨_,rfl⟩
      have z0:aZ .add (.int .i64 6) (.int .i64 (i:Int))=some (.int .i64 (t:Int)):=JK (a:=6) ht ab;have z1:aZ .rem (.int .i64 (kk:Int)) (.int .i64 (j:Int))=some (.int .i64 (nn:Int)):=kv kI ab;have z2:aZ .quo (.int .i64 (kk:Int)) (.int .i64 3)=some (.int .i64 (o1:Int)):=kS xK au ab;have z3:aZ .rem (.int .i64 (o1:Int)) (.int .i64 8)=some (.int .i64 (o2:Int)):=kv ug au;have z4:aZ .quo (.int .i64 (kk:Int)) (.int .i64 24)=some (.int .i64 (p1:Int)):=kS rE au ab;have z5:aZ .rem (.int .i64 (p1:Int)) (.int .i64 5)=some (.int .i64 (p2:Int)):=kv amr au;have z6:aZ .quo (.int .i64 (p2:Int)) (.int .i64 4)=some (.int .i64 (p3:Int)):=kS ams au ab;have z7:aZ .add (.int .i64 1) (.int .i64 (p3:Int))=some (.int .i64 (p4:Int)):=JK (a:=1) amt ab;have z8:aZ .add (.int .i64 1) (.int .i64 (i:Int))=some (.int .i64 (i1:Int)):=JK (a:=1) CT ab;have z9:aZ .add (.int .i64 (i:Int)) (.int .i64 1)=some (.int .i64 (i2:Int)):=JK rL ab;have ho8:o2<8:=ab;have aCx:(o2:Int)<8:=ab
      obtain⟨ov,hov⟩:∃ov,([0,1,2,3,4,0,1,3]:List Int).getD o2 0=ov:=⟨_,rfl⟩
      have hgo:([[iA 0],[iA 1],[iA 2],[iA 3],[iA 4],[iA 0],[iA 1],[iA 3]]:List (List AC))[o2]'(by simpa using ho8)=[iA ov]:=by
       rw[<-hov]
       match o2,ho8 with
       |0,_=>rfl
       |1,_=>rfl
       |2,_=>rfl
       |3,_=>rfl
       |4,_=>rfl
       |5,_=>rfl
       |6,_=>rfl
       |7,_=>rfl
      have eJ:(JM K j i).length=i:=by simp[JM]
      have Pq:i+1<=100000000:=ab;have FF:=adI @w5 @ql @x12 @ack @wt @aCv @aCw @z0 @z1 @z2 @z3 @z4 @z5 @z6 @z7 @z8 @z9 @ho8 @aCx @hgo @eJ @Pq
      try refine aG ?_
      try clear FF
      exact⟨q7-(i+1),ab,i+1,ab,rfl,⟨_,by rw[rL]⟩,by rw[aCo,ht,gK,kI,xK,ug,hov,rE,amr,ams,amt,CT];simp⟩
     ·have ack:¬(i:Int)<(q7:Int):=ab;have GU:q7=i:=ab
      have hc:c=⟨ps,FM a2 ps.length j,rs,JM K j i,v1,v2,v3,v4⟩:=by
       simp only[aA] at h;rw[<-h,amq,Pb,ji,Vo,vM,pQ,hu3,hy3,yP,hu4,hy4,OQ,hq7,GU];rfl
      have FF:=fg @w5 @ql @x12 @ack
      try refine aG ?_
      try clear FF
      refine zE ?_;exact(by rw[hc];rfl)
end Ab
end Go.Proofs.YtkanpepkdcmpmaaGreatDoor
