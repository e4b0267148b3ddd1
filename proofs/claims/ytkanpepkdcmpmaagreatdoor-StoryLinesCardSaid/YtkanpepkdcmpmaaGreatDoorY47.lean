/- The statement Rows.StoryLinesCardSaid: the law StoryLines answers true whatever its arguments, and writes nothing that was there; no condition; the listed variables tied to the program's text. The texts were made small by a program. -/
import Derived.Test.YtkanpepkdcmpmaaGreatDoorY46
import Derived.Test.YtkanpepkdcmpmaaGreatDoorCards
import Derived.Test.YtkanpepkdcmpmaaGreatDoorTie
import Derived.SevenTiedAt
set_option maxHeartbeats 40000000
set_option maxRecDepth 100000
set_option linter.all false
namespace Go.Proofs.YtkanpepkdcmpmaaGreatDoor
section
open Go.RowKit
theorem mV.ref {e:Ev}{s:aj}(h:mV e s):qg s=(e,true):=by
 have ht:=h.text
 cases h with
 |f1 k nd r hk hn hr=>
  obtain⟨h1,h2⟩:=CY (k:=k) ab;have e1:Pq k nd r=dL.getD k []++32::(Lib.decDigits nd++32::Lib.decDigits r):=rfl;have c1:=wD h2 (Lib.decDigits nd++32::Lib.decDigits r);have c2:=wD (rF nd (c:=32) au) (Lib.decDigits r);unfold qg;simp only[];rw[e1,c1,oC,lW,qj,uK,c2,oC,lW,qj,uK,h1,Du nd ab,Du r hr,aq hk,ht,e1,beq_self_eq_true]
 |f2 k nd a b c d x hk hn ha hb hc hd hx=>
  obtain⟨h1,h2⟩:=CY (k:=k) ab;have e1:Pr k nd [a,b,c,d,x]=dL.getD k []++32::(Lib.decDigits nd++32::bI 46 ([a,b,c,d,x].map Lib.decDigits)):=rfl;have c1:=wD h2 (Lib.decDigits nd++32::bI 46 ([a,b,c,d,x].map Lib.decDigits));have c2:=wD (rF nd (c:=32) au) (bI 46 ([a,b,c,d,x].map Lib.decDigits));have c3:=anN [a,b,c,d,x] ai bq;unfold qg;simp only[];rw[e1,c1,oC,lW,qj,uK,c2,oC,lW,qj,uK,h1,Du nd ab,af ab,af ab,c3];simp only[dF,mF];simp only[dF,mF] at e1;rw[ht,e1,beq_self_eq_true,ft (show 0<k by omega)];rfl
 |f3 nd hn=>
  obtain⟨h1,h2⟩:=CY (k:=7) ab;have e1:Ps nd=dL.getD 7 []++32::Lib.decDigits nd:=rfl;have c1:=wD h2 (Lib.decDigits nd);have c2:=anK (rF nd (c:=32) au);unfold qg;simp only[];rw[e1,c1,oC,lW,qj,uK,c2,fK,Kf,List.drop_nil,h1,Du nd ab,af ab,aq rfl,ht,e1,beq_self_eq_true]
theorem aEL {s:aj}(h:(qg s).2=true):ei (qg s).1=s/\0<(qg s).1.kind:=by
 unfold qg at h⊢;simp only[] at h⊢;split at h
 ·rename_i hk;rw[aq hk] at*;exact⟨by simpa using h,by dsimp only;omega⟩
 ·split at h
  ·rename_i hk CN;rw[af hk,aq CN] at*;exact⟨by simpa using h,by dsimp only;omega⟩
  ·rename_i hk CN;rw[af hk,af CN];split at h
   ·rename_i a b c d x heq;simp only[bV,dh,DJ] at h;exact⟨h.2,by dsimp only;omega⟩
   ·cases h
theorem aEM (s:aj):(qg s).2=(gY s).isSome/\∀e,gY s=some e->qg s=(e,true):=by
 cases hp:gY s with
 |some e=>
  have h:=(akr hp).ref;exact⟨by rw[h];rfl,fun e' he=>by injection he with he;subst he;exact h⟩
 |none=>
  refine⟨?_,fun e he=>by cases he⟩
  cases hr:(qg s).2 with
  |false=>rfl
  |true=>
   obtain⟨h1,h2⟩:=aEL hr
   have hw:oX (qg s).1=true:=by
    cases hw:oX (qg s).1 with
    |true=>rfl
    |false=>
     have h3:ei (qg s).1=[]:=by unfold ei;rw[hw];rfl
     rw[h1] at h3;subst h3;exact absurd hr au
   obtain⟨t,ht⟩:=mV.zr ((Fk _).1 hw);have h4:=ht.parse;rw[<-ht.text,h1,hp] at h4;cases h4
end
section
open Go.RowKit
theorem ow.ref {q:Qn}{s:aj}(h:ow q s):th s=(q,true):=by
 have ht:=h.text
 cases h with
 |f k a b c i hk ha hb hc hi=>
  obtain⟨h1,h2⟩:=akq hk;have e1:Ml k [a,b,c] i=eh.getD k []++32::(bI 46 ([a,b,c].map Lib.decDigits)++32::Lib.decDigits i):=rfl;have c1:=wD h2 (bI 46 ([a,b,c].map Lib.decDigits)++32::Lib.decDigits i);have c2:=wD (Uv [a,b,c]) (Lib.decDigits i);have c3:=anN [a,b,c] ai bq;unfold th;simp only[];rw[e1,c1,oC,lW,qj,uK,c2,oC,lW,qj,uK,h1,Du i hi,c3];simp only[dF,mF];simp only[dF,mF] at e1;rw[af ab,ht,e1,beq_self_eq_true]
theorem aEN {s:aj}(h:(th s).2=true):gQ (th s).1=s/\0<(th s).1.kind:=by
 unfold th at h⊢;simp only[] at h⊢;split at h
 ·rename_i a b c heq;split at h
  ·cases h
  ·rename_i hk;simp only[af hk];exact⟨by simpa using h,by first|omega|(dsimp only;omega)⟩
 ·cases h
theorem aEO (s:aj):(th s).2=(jW s).isSome/\∀q,jW s=some q->th s=(q,true):=by
 cases hp:jW s with
 |some q=>
  have h:=(akt hp).ref;exact⟨by rw[h];rfl,fun e' he=>by injection he with he;subst he;exact h⟩
 |none=>
  refine⟨?_,fun e he=>by cases he⟩
  cases hr:(th s).2 with
  |false=>rfl
  |true=>
   obtain⟨h1,h2⟩:=aEN hr
   have hw:CW (th s).1=true:=by
    cases hw:CW (th s).1 with
    |true=>rfl
    |false=>
     have h3:gQ (th s).1=[]:=by unfold gQ;rw[hw];rfl
     rw[h1] at h3;subst h3;exact absurd hr au
   obtain⟨t,ht⟩:=ow.zr ((Fl _).1 hw);have h4:=ht.parse;rw[<-ht.text,h1,hp] at h4;cases h4
end
section
open Go.RowKit
theorem FO (s p:aj):Lib.index s p=0↔Lib.hasPrefix s p=true:=by
 constructor
 ·intro h
  rcases Lib.index_spec s p with⟨h1,_⟩|⟨i,h1,_,h3,_⟩
  ·rw[h1] at h;omega
  ·have:i=0:=ab;subst this;exact h3
 ·intro h;exact Lib.index_first (i:=0) (BM _) h (fun j hj=>absurd hj (Nat.not_lt_zero _))
theorem adl (s:aj):(isNum s=true/\jA s=(dK s:Int))\/(isNum s=false/\jA s= -1):=by
 unfold isNum
 cases h:num s with
 |none=>exact .inr ⟨rfl,anI h⟩
 |some n=>exact .inl ⟨rfl,by rw[anH h,aDS h]⟩
def zH (i:Nat):Int->List Int->Bool
 |_,[]=>true
 |last,x::l=>decide (0<=x) && decide (x<(i:Int)) && decide (last<x) && zH i x l
theorem anO (i:Nat):∀(ws:List aj) (last:Int) (r:RS),(RS.sI i last ws r).bad=(r.bad|| !zH i last (ws.map jA))
 |[],last,r=>by simp[RS.sI,zH]
 |w::ws,last,r=>by
  rw[RS.sI,anO i ws,dF,zH]
  rcases adl w with⟨h1,h2⟩|⟨h1,h2⟩
  ·rw[h2];simp only[RS.must,RS.number,h1];have e1:decide (0<=(dK w:Int))=true:=ft ab
   have e2:decide ((dK w:Int)<(i:Int))=decide (dK w<i):=by
    rw[rR];simp
   rw[e1,e2];cases r.bad<;>cases decide (last<(dK w:Int))<;>cases decide (dK w<i)<;>simp
  ·rw[h2];simp[RS.must,RS.number,h1]
theorem anP (i:Nat):∀(l:List Int) (last:Int),zH i last l=true↔(∀j<l.length,0<=l.getD j 0/\l.getD j 0<(i:Int)/\(0<j->l.getD (j-1) 0<l.getD j 0))/\(0<l.length->last<l.getD 0 0)
 |[],last=>by simp[zH]
 |x::l,last=>by
  rw[zH];simp only[bV,dh,anP i l x];constructor
  ·rintro⟨⟨⟨h1,h2⟩,h3⟩,h4,h5⟩;refine⟨fun j hj=> ?_,fun _=>h3⟩
   cases j with
   |zero=>exact⟨h1,h2,fun h=>absurd h (Gi 0)⟩
   |succ j=>
    obtain⟨g1,g2,g3⟩:=h4 j (by simpa using hj);refine⟨by simpa using g1,by simpa using g2,fun _=> ?_⟩
    cases j with
    |zero=>simpa using h5 (by simpa using hj)
    |succ j=>simpa using g3 ab
  ·rintro⟨h1,h2⟩;have h0:=h1 0 ai;refine⟨⟨⟨by simpa using h0.1,by simpa using h0.2.1⟩,by simpa using h2 ai⟩,fun j hj=> ?_,fun hl=> ?_⟩
   ·have Db:=h1 (j+1) (by simpa using hj);refine⟨by simpa using Db.1,by simpa using Db.2.1,fun hjp=> ?_⟩;have:=Db.2.2 ab
    cases j with
    |zero=>omega
    |succ j=>simpa using this
   ·have:=(h1 1 (by simpa using hl)).2.2 ab;simpa using this
theorem anQ (i:Nat)(l:List Int):Wc i l l.length=zH i (-1) l:=by
 unfold Wc;rw[rR,dh,anP];constructor
 ·intro h;exact⟨h,fun hl=>by have:=(h 0 hl).1;omega⟩
 ·exact fun h=>h.1
theorem JU (r:RS)(p:aj):(r.skip p).rest=(if Lib.index r.rest p=0 then r.rest.drop p.length else r.rest)/\(r.skip p).bad=r.bad:=by
 refine⟨?_,rfl⟩;unfold RS.skip;by_cases h:Lib.index r.rest p=0
 ·rw[aq h];simp[Lib.trimPrefix,(FO _ _).1 h]
 ·rw[af h]
  have:Lib.hasPrefix r.rest p=false:=by
   cases hh:Lib.hasPrefix r.rest p with
   |false=>rfl
   |true=>exact absurd ((FO _ _).2 hh) h
  simp[Lib.trimPrefix,this]
theorem QO (r:RS)(p:aj):r.has p=decide (Lib.index r.rest p=0):=by
 unfold RS.has;rw[rR,dh,FO]
theorem anR (i:Nat)(r:RS):(RS.tail i r).bad=(r.bad|| !FN i true r.rest):=by
 unfold RS.tail FN;simp only[];obtain⟨h1,h2⟩:=JU r [32,42];have h2l:([32,42]:aj).length=2:=rfl;rw[h2l] at h1;rw[<-h1];generalize r.skip [32,42]=r1 at h1 h2;rw[<-h2];clear h1 h2;rw[QO];by_cases fU:Lib.index r1.rest [32,97,102,116,101,114,32]=0
 ·rw[ft fU,aq rfl,aq fU];obtain⟨g1,g2⟩:=JU r1 [32,97,102,116,101,114,32];rw[aq fU] at g1;have h7:([32,97,102,116,101,114,32]:aj).length=7:=rfl;rw[h7] at g1;generalize r1.skip [32,97,102,116,101,114,32]=r2 at g1 g2
  have hne:(r1.rest==[])=false:=by
   cases hr:r1.rest with
   |nil=>rw[hr] at fU;exact absurd fU au
   |cons a b=>rfl
  simp only[RS.must];rw[anO,g2,anQ,hne,<-g1];by_cases hq:r2.rest=[]
  ·rw[hq];simp[rM,bW,zH,adg]
  ·have hn:rM 44 r2.rest=(bW 44 r2.rest).map jA:=by unfold rM;rw[af hq]
   have DM:0<(rM 44 r2.rest).length:=by
    rw[hn,dE];exact Dy.2 (akn 44 _)
   rw[ft DM,<-hn];simp
 ·rw[jk fU,af fU];obtain⟨g1,g2⟩:=JU r1 [32,97,102,116,101,114,32];rw[af fU] at g1;simp only[zJ,pd,RS.must,g1,g2];simp
theorem anS (i:Nat)(rest:aj):FN i false rest=false:=by
 unfold FN;simp
end
section
open Go.RowKit
variable {c:UInt8} {p:aj}
theorem Wd(r:RS)(dD:List aj)(h:c∉r.rest):c∉(r.until dD).rest:=fun hc=>h (Dx hc)
theorem anT(r:RS)(p:aj)(h:c∉r.rest):c∉(r.skip p).rest:=fun hc=>by
 rw[(JU r p).1] at hc;split at hc
 ·exact h (Dx hc)
 ·exact h hc
theorem aEP(r:RS)(h:c∉r.rest):c∉r.fP.rest:=by
 unfold RS.fP;simp only[];split
 ·exact anT _ _ (Wd _ _ h)
 ·exact Wd _ _ h
theorem aEQ(r:RS)(h:c∉r.rest):c∉r.ja.rest:=by
 unfold RS.ja;simp only[];exact anT _ _ (Wd _ _ h)
theorem aER(r:RS)(h:c∉r.rest):r.has [c]=false:=by
 cases hh:r.has [c] with
 |false=>rfl
 |true=>
  have hp:[c]<+:r.rest:=FU.1 hh;exact absurd (hp.subset ai) h
theorem aES(r:RS)(h:(93:UInt8)∉r.rest):r.mQ.bad=true:=by
 unfold RS.mQ;have h2:=aEQ _ (aEP r h);generalize r.fP.ja=r2 at h2;unfold RS.rf;simp only[];split
 ·have:=aER ((r2.until [[93]]).number (r2.text [[93]])) (Wd r2 [[93]] h2);simp[RS.must,this]
 ·simp[RS.must]
theorem We(a b:aj)(hp:(93:UInt8)∉p)(bd:Bool):RS.has ⟨a++93::b,bd⟩ p=decide (Lib.index a p=0):=by
 unfold RS.has Lib.hasPrefix;rw[adj 93 b p a hp];have:=FO a p;unfold Lib.hasPrefix at this;rw[rR,dh,this]
theorem anU{one:aj}(_hp:p≠[]):(0<=Lib.index one p/\Lib.index (one.drop (cutAt [p] one)) p=0/\p.length+cutAt [p] one<=one.length)\/(Lib.index one p= -1/\one.drop (cutAt [p] one)=[]):=by
 rw[QN]
 rcases Lib.index_spec one p with⟨h1,_⟩|⟨i,h1,h2,h3,h4⟩
 ·refine .inr ⟨h1,?_⟩;rw[h1,af ab,Kf]
 ·have hr:=Lib.index_room one p (by rw[h1];omega);rw[h1] at hr;refine .inl ⟨ab,?_,?_⟩
  ·rw[h1,aq ab,fJ,Nat.min_eq_right ab];exact(FO _ _).2 h3
  ·rw[h1,aq ab,fJ,Nat.min_eq_right ab];omega
theorem QP(hp:p≠[]):Lib.index [] p≠0:=by
 cases p with
 |nil=>exact absurd rfl hp
 |cons a p=>intro h;simp[Lib.index] at h
theorem aET(an more:aj)(h:(93:UInt8)∉an):
  ((RS.rf (RS.ja ⟨an++93::more,false⟩) (dK (RS.text ⟨an++93::more,false⟩ [[47],[93]]))).bad=!(decide (0<=jA (an.take (cutAt [[47]] an))) && decide (jA (an.take (cutAt [[47]] an))<jA ((an.drop (cutAt [[47]] an)).drop 1))))/\
  ((decide (0<=jA (an.take (cutAt [[47]] an))) && decide (jA (an.take (cutAt [[47]] an))<jA ((an.drop (cutAt [[47]] an)).drop 1)))=true->
   (RS.rf (RS.ja ⟨an++93::more,false⟩) (dK (RS.text ⟨an++93::more,false⟩ [[47],[93]]))).rest=more/\((dK (RS.text ⟨an++93::more,false⟩ [[47],[93]]):Nat):Int)=jA (an.take (cutAt [[47]] an))):=by
 have II:=anL (c:=93) (p:=[47]) au ai h more;have QQ:=acD [[47]] an;have OO:=anU (p:=[47]) (one:=an) ai
 have QR:RS.text ⟨an++93::more,false⟩ [[47],[93]]=an.take (cutAt [[47]] an):=by
  unfold RS.text;simp only[];rw[II,uE QQ]
 have adm:RS.until ⟨an++93::more,false⟩ [[47],[93]]=⟨an.drop (cutAt [[47]] an)++93::more,false⟩:=by
  unfold RS.until;simp only[];rw[II,BA QQ]
 have Ho:(93:UInt8)∉an.drop (cutAt [[47]] an):=fun hx=>h (Dx hx)
 rw[QR];unfold RS.ja;simp only[];rw[QR,adm];generalize an.drop (cutAt [[47]] an)=wE at*;generalize an.take (cutAt [[47]] an)=ns at*;have hn:=adl ns
 have aEU:∀(r:RS) (n:Nat),r.bad=true->(r.rf n).bad=true:=by
  intro r n hr;unfold RS.rf;simp only[];split<;>simp[RS.must,RS.number,RS.skip,RS.until,hr]
 have VA:RS.number ⟨wE++93::more,false⟩ ns=⟨wE++93::more,!isNum ns⟩:=by simp[RS.number]
 rw[VA,We wE more au]
 rcases OO with⟨_,g2,_⟩|⟨_,g2⟩
 ·have h1:1<=wE.length:=by
   have:=Lib.index_room wE [47] (by rw[g2];omega);rw[g2] at this;simp at this;omega
  have fU:Lib.index (wE++93::more) [47]=0:=by
   have:=We wE more (p:=[47]) au false;rw[ft g2,QO] at this;exact ni this
  have ki:=(JU (⟨wE++93::more,!isNum ns⟩:RS) [47]).1;simp only[fU,nk] at ki;have h1l:([47]:aj).length=1:=rfl;rw[h1l,BA h1] at ki
  have eC:((⟨wE++93::more,!isNum ns⟩:RS).skip [47]).must (decide (Lib.index wE [47]=0))=⟨wE.drop 1++93::more,!isNum ns⟩:=by
   rw[ft g2];unfold RS.must;rw[ki];simp[RS.skip]
  rw[eC]
  have Cu:(93:UInt8)∉wE.drop 1:=fun hx=>Ho (Dx hx)
  generalize wE.drop 1=ar at Cu;have hm:=adl ar;have FE:=wD Cu more
  have htx:∀b,RS.text ⟨ar++93::more,b⟩ [[93]]=ar:=fun b=>by
   unfold RS.text;simp only[];rw[FE,oC]
  have nT:∀b,RS.until ⟨ar++93::more,b⟩ [[93]]=⟨93::more,b⟩:=fun b=>by
   unfold RS.until;simp only[];rw[FE,lW]
  have hh:∀b,RS.has ⟨93::more,b⟩ [93]=true:=fun b=>by simp[RS.has,Lib.hasPrefix,List.isPrefixOf]
  have hs:∀b,RS.skip ⟨93::more,b⟩ [93]=⟨more,b⟩:=fun b=>by
   simp[RS.skip,Lib.trimPrefix,Lib.hasPrefix,List.isPrefixOf]
  unfold RS.rf;simp only[htx,nT,RS.number,hh,hs]
  rcases hn with⟨n1,n2⟩|⟨n1,n2⟩
  ·rcases hm with⟨m1,m2⟩|⟨m1,m2⟩
   ·rw[n1,n2,m1,m2];by_cases hlt:dK ns<dK ar
    ·have e2:((dK ns:Nat):Int)<(dK ar:Nat):=ab;simp[hlt,RS.must,e2]
    ·have e2:¬((dK ns:Nat):Int)<(dK ar:Nat):=ab;simp[hlt,RS.must]
   ·rw[n1,n2,m1,m2];have e2:¬((dK ns:Nat):Int)< -1:=ab;have e3:decide (((dK ns:Nat):Int)< -1)=false:=jk e2;rw[e3];split<;>simp[RS.must]
  ·rw[n1,n2];have e3:decide ((0:Int)≤-1)=false:=rfl;rw[e3];split<;>simp[RS.must]
 ·subst g2;have e1:decide (Lib.index ([]:aj) [47]=0)=false:=jk (QP ai);rw[e1,aEU _ _ (by simp[RS.must])];have e2:jA (List.drop 1 ([]:aj))= -1:=adg;rw[e2]
  rcases hn with⟨n1,n2⟩|⟨n1,n2⟩
  ·rw[n2];have e3:decide (((dK ns:Nat):Int)< -1)=false:=jk ab;rw[e3];simp
  ·rw[n2];have e3:decide ((0:Int)≤-1)=false:=rfl;rw[e3];simp
theorem aEV(one more:aj)(h:(93:UInt8)∉one):
  ((RS.mQ ⟨one++93::more,false⟩).bad=!(Bu (one++93::more)).2)/\
  ((Bu (one++93::more)).2=true->(RS.mQ ⟨one++93::more,false⟩).rest=more/\RS.eH ⟨one++93::more,false⟩=(Bu (one++93::more)).1):=by
 have jN:=wD h more;unfold Bu;simp only[];rw[jN,oC];have II:=anL (c:=93) (p:=[32,61,32]) au ai h more;have QQ:=acD [[32,61,32]] one;have OO:=anU (p:=[32,61,32]) (one:=one) ai
 have QR:RS.text ⟨one++93::more,false⟩ [[32,61,32],[93]]=one.take (cutAt [[32,61,32]] one):=by
  unfold RS.text;simp only[];rw[II,uE QQ]
 have adm:RS.until ⟨one++93::more,false⟩ [[32,61,32],[93]]=⟨one.drop (cutAt [[32,61,32]] one)++93::more,false⟩:=by
  unfold RS.until;simp only[];rw[II,BA QQ]
 have Ho:(93:UInt8)∉one.drop (cutAt [[32,61,32]] one):=fun hx=>h (Dx hx)
 have hA:RS.eH ⟨one++93::more,false⟩=⟨(jW (one.take (cutAt [[32,61,32]] one))).getD oU,RS.AD ⟨one++93::more,false⟩⟩:=by
  unfold RS.eH;rw[QR]
 rw[hA];unfold RS.mQ RS.AD;generalize one.drop (cutAt [[32,61,32]] one)=tp at*;generalize one.take (cutAt [[32,61,32]] one)=qs at*;have hq:=aEO qs
 have h1:RS.fP ⟨one++93::more,false⟩=if(jW qs).isSome then((⟨tp++93::more,false⟩:RS).skip [32,61,32]).must ((⟨tp++93::more,false⟩:RS).has [32,61,32]) else(⟨tp++93::more,false⟩:RS).must false:=by
  unfold RS.fP;simp only[];rw[QR,adm]
 have key:∀r:RS,r.bad=true->(r.ja.rf (dK (r.text [[47],[93]]))).bad=true:=by
  intro r hr
  have h2:r.ja.bad=true:=by simp[RS.ja,RS.must,RS.number,RS.skip,RS.until,hr]
  generalize dK (r.text [[47],[93]])=n;generalize r.ja=r2 at h2;unfold RS.rf;simp only[];split<;>simp[RS.must,RS.number,RS.skip,RS.until,h2]
 cases hp:jW qs with
 |none=>
  have eA:(th qs).2=false:=by rw[hq.1,hp];rfl
  rw[h1,hp,eA];have hb:=key ((⟨tp++93::more,false⟩:RS).must false) (by simp[RS.must]);simp only[Option.isSome_none,zJ,pd,hb];simp
 |some q=>
  have hqq:=hq.2 q hp;rw[h1,hp,hqq];simp only[Option.isSome_some,nk,BI,Bool.true_and];rw[We tp more au false]
  rcases OO with⟨_,g2,_⟩|⟨_,g2⟩
  ·
   have ki:=(JU (⟨tp++93::more,false⟩:RS) [32,61,32]).1
   have fU:Lib.index (tp++93::more) [32,61,32]=0:=by
    have:=We tp more (p:=[32,61,32]) au false;rw[ft g2,QO] at this;exact ni this
   have h3:3<=tp.length:=by
    have:=Lib.index_room tp [32,61,32] (by rw[g2];omega);rw[g2] at this;simp at this;omega
   simp only[fU,nk] at ki;have h3l:([32,61,32]:aj).length=3:=rfl;rw[h3l,BA h3] at ki
   have eC:((⟨tp++93::more,false⟩:RS).skip [32,61,32]).must (decide (Lib.index tp [32,61,32]=0))=⟨tp.drop 3++93::more,false⟩:=by
    rw[ft g2];unfold RS.must;rw[ki];simp[RS.skip]
   rw[eC]
   have Cu:(93:UInt8)∉tp.drop 3:=fun hx=>Ho (Dx hx)
   generalize tp.drop 3=an at Cu;obtain⟨k1,k2⟩:=aET an more Cu;refine⟨k1,fun hh=> ?_⟩;obtain⟨k3,k4⟩:=k2 hh;refine⟨k3,?_⟩;rw[k4]
  ·subst g2;have e1:decide (Lib.index ([]:aj) [32,61,32]=0)=false:=jk (QP ai);rw[e1,key _ (by simp[RS.must])];have e2:jA (List.take (cutAt [[47]] (List.drop 3 ([]:aj))) (List.drop 3 ([]:aj)))= -1:=adg;rw[e2];have e3:decide ((0:Int)≤-1)=false:=rfl;rw[e3];simp
end
section
open Go.RowKit
theorem anV:∀(f g:Nat) (rest:aj) (acc:List aL),rest.length<f->rest.length<g->
  ((RS.asks g ⟨rest,false⟩).2.bad=true/\(wC f true rest acc=none\/∃x y,wC f true rest acc=some (false,x,y)))\/
  ((RS.asks g ⟨rest,false⟩).2.bad=false/\wC f true rest acc=some (true,(RS.asks g ⟨rest,false⟩).2.rest,acc++(RS.asks g ⟨rest,false⟩).1))
 |0,_,_,_,h,_=>ab
 |_+1,0,_,_,_,h=>ab
 |f+1,g+1,rest,acc,hf,hg=>by
  by_cases fU:Lib.index rest [32,91]=0
  ·have nP:RS.has ⟨rest,false⟩ [32,91]=true:=by rw[QO];exact ft fU
   have h2:2<=rest.length:=by
    have:=Lib.index_room rest [32,91] (by rw[fU];omega);rw[fU] at this;simp at this;omega
   have ki:RS.skip ⟨rest,false⟩ [32,91]=⟨rest.drop 2,false⟩:=by
    have h1:=(JU ⟨rest,false⟩ [32,91]).1;simp only[fU,nk] at h1;unfold RS.skip at h1⊢;simp only[] at h1⊢;rw[h1];rfl
   rw[RS.VJ g ⟨rest,false⟩ rfl nP,ki];unfold wC;rw[aq ⟨rfl,fU⟩];have fC:(rest.drop 2).length+2=rest.length:=bq;generalize rest.drop 2=q0 at fC
   rcases abn 93 q0 with h|⟨one,more,rfl,h⟩
   ·have hb:=aES ⟨q0,false⟩ h;rw[anK h,Kf,aq rfl,RS.MN g _ hb];exact .inl ⟨hb,.inl rfl⟩
   ·obtain⟨k1,k2⟩:=aEV one more h;rw[wD h,lW,af ai,qj,uK]
    cases bU:(Bu (one++93::more)).2 with
    |false=>
     rw[bU] at k1
     have k1:(RS.mQ ⟨one++93::more,false⟩).bad=true:=by rw[k1];rfl
     rw[RS.MN g _ k1];refine .inl ⟨k1,.inr ?_⟩
     cases f with
     |zero=>simp at fC;omega
     |succ f=>exact⟨_,_,by unfold wC;rw[af ai]⟩
    |true=>
     rw[bU] at k1;obtain⟨k3,k4⟩:=k2 bU
     have hR:RS.mQ ⟨one++93::more,false⟩=⟨more,false⟩:=by
      generalize RS.mQ ⟨one++93::more,false⟩=r at k1 k3;obtain⟨a,b⟩:=r;simp at k1 k3;rw[k1,k3]
     rw[hR,k4]
     have gz:more.length<f/\more.length<g:=by simp at fC;omega
     rcases anV f g more (acc++[(Bu (one++93::more)).1]) gz.1 gz.2 with⟨j1,j2⟩|⟨j1,j2⟩
     ·exact .inl ⟨j1,j2⟩
     ·refine .inr ⟨j1,?_⟩;rw[j2];simp
  ·have nP:RS.has ⟨rest,false⟩ [32,91]=false:=by rw[QO];exact jk fU
   rw[RS.VH (g+1) ⟨rest,false⟩ nP];refine .inr ⟨rfl,?_⟩;unfold wC;rw[af (fun h=>fU h.2)];simp
theorem anW {i:Nat}{s:aj}(h:(yc i s).bad=true):line i s=none:=by
 rw[acT]
 have:(Dm i s).bad=true:=by
  unfold Dm uA;rw[RS.MN _ _ h,anR,h];rfl
 rw[this];rfl
theorem aEW (i:Nat)(s:aj):adi i s=line i s:=by
 unfold adi
 cases hp:Lib.hasPrefix s (head i) with
 |false=>
  rw[af ai];symm;apply anW;unfold yc pZ;simp[RS.must,RS.until,RS.has,hp]
 |true=>
  rw[aq rfl]
  have hH:pZ i s=⟨s.drop (head i).length,false⟩:=by
   unfold pZ;simp[RS.must,RS.has,RS.skip,Lib.trimPrefix,hp]
  have hE:zF i s=gY ((s.drop (head i).length).take (cutAt lr (s.drop (head i).length))):=by
   unfold zF;rw[hH];rfl
  have hR:yc i s=⟨(s.drop (head i).length).drop (cutAt lr (s.drop (head i).length)),!(zF i s).isSome⟩:=by
   unfold yc;rw[hH];simp[RS.must,RS.until]
  have mS:(s.drop (head i).length).length<=s.length:=ai;unfold adh;generalize s.drop (head i).length=t at*;have IQ:(t.drop (cutAt lr t)).length<=t.length:=ai;generalize t.take (cutAt lr t)=x at*;generalize t.drop (cutAt lr t)=y at*;have bT:=aEM x
  cases pG:gY x with
  |none=>
   have h2:(qg x).2=false:=by rw[bT.1,pG];rfl
   rw[h2]
   have h3:wC (t.length+1) false y []=some (false,y,[]):=by unfold wC;rw[af ai]
   rw[h3];simp only[anS];symm;apply anW;rw[hR,hE,pG];rfl
  |some e=>
   rw[bT.2 e pG];simp only[]
   have hA:uA i s=RS.asks (s.length+1) ⟨y,false⟩:=by
    unfold uA;rw[hR,hE,pG];rfl
   rw[acT,hE,pG];unfold Dm;rw[hA,anR]
   rcases anV (t.length+1) (s.length+1) y [] ab ab with⟨j1,j2|⟨a,b,j2⟩⟩|⟨j1,j2⟩
   ·rw[j2,j1];rfl
   ·rw[j2,j1];simp only[anS];rfl
   ·rw[j2,j1];simp only[Bool.false_or,BI,List.nil_append]
    cases FN i true (RS.asks (s.length+1) ⟨y,false⟩).2.rest with
    |true=>rfl
    |false=>rfl
end
section
open Go.RowKit
variable {R:aj} {c:UInt8} {k:Nat}
theorem anX (s:aj)(k:Nat):∀(dD:List aj) (a:Nat),k<=a->(∀p∈dD,∀j<k,Lib.occAt s p j=false)->
  k<=dD.foldl (fun a p=>if 0<=Lib.index s p then min a (Lib.index s p).toNat else a) a/\
  dD.foldl (fun a p=>if 0<=Lib.index s p then min a (Lib.index s p).toNat else a) a<=a/\
  (k<=s.length->(∃p∈dD,Lib.occAt s p k=true)->dD.foldl (fun a p=>if 0<=Lib.index s p then min a (Lib.index s p).toNat else a) a=k)
 |[],a,ha,_=>⟨ha,cK _,fun _ ⟨p,hp,_⟩=>by simp at hp⟩
 |p::dD,a,ha,hno=>by
  have hk:∀i:Nat,Lib.index s p=i->Lib.occAt s p i=true->k<=i:=fun i _ ho=>by
   rcases BK i k with h|h
   ·rw[hno p ai i h] at ho;cases ho
   ·exact h
  rw[zN]
  have h1:k<=(if 0<=Lib.index s p then min a (Lib.index s p).toNat else a)/\(if 0<=Lib.index s p then min a (Lib.index s p).toNat else a)<=a/\(k<=s.length->Lib.occAt s p k=true->(if 0<=Lib.index s p then min a (Lib.index s p).toNat else a)=k):=by
   rcases Lib.index_spec s p with⟨e,hn⟩|⟨i,e,hi,ho,hn⟩
   ·rw[e,af ab];refine⟨ha,cK _,fun lf ho=> ?_⟩;rw[hn k lf] at ho;cases ho
   ·have:=hk i e ho;rw[e,aq ab,fJ];refine⟨ab,ab,fun _ bU=> ?_⟩
    have:¬k<i:=fun hlt=>by rw[hn k hlt] at bU;cases bU
    omega
  obtain⟨g1,g2,g3⟩:=anX s k dD _ h1.1 (fun q hq=>hno q (jC _ hq));refine⟨g1,bj g2 h1.2.1,fun lf ⟨q,hq,hoq⟩=> ?_⟩
  rcases cz.1 hq with rfl|hq
  ·have:=h1.2.2 lf hoq;omega
  ·exact g3 lf ⟨q,hq,hoq⟩
theorem anY{dD:List aj}{s:aj}(hk:k<=s.length)(hno:∀p∈dD,∀j<k,Lib.occAt s p j=false)(IM:k=s.length\/∃p∈dD,Lib.occAt s p k=true):cutAt dD s=k:=by
 obtain⟨h1,h2,h3⟩:=anX s k dD s.length hk hno;unfold cutAt
 rcases IM with e|h
 ·omega
 ·exact h3 hk h
theorem anZ{s r:aj}{a b:UInt8}{j:Nat}(h:Lib.occAt s (a::b::r) j=true):s[j]? =some a/\s[j+1]? =some b:=by
 unfold Lib.occAt at h;have h2:=FU.1 h;obtain⟨t,ht⟩:=h2
 have e0:(s.drop j)[0]? =some a:=by rw[<-ht];rfl
 have e1:(s.drop j)[1]? =some b:=by rw[<-ht];rfl
 rw[oA] at e0 e1;exact⟨by simpa using e0,e1⟩
theorem aoa(a p t:aj):Lib.occAt (a++(p++t)) p a.length=true:=by
 unfold Lib.occAt;rw[lW];exact FU.2 ⟨t,rfl⟩
def Tl (R:aj):Prop:=R=[]\/∃p∈lr,∃t,R=p++t
theorem aEX{t:aj}(ht:NS t)(hR:Tl R):cutAt lr (t++R)=t.length:=by
 refine anY ai ?_ ?_
 ·intro p hp j hj
  cases ho:Lib.occAt (t++R) p j with
  |false=>rfl
  |true=>
   exfalso
   have key:∃b r,p=32::b::r/\(b=91\/b=42\/b=97):=by
    simp only[lr,cz,jD,kL] at hp
    rcases hp with rfl|rfl|rfl
    ·exact⟨91,[],rfl,.inl rfl⟩
    ·exact⟨42,[],rfl,.inr (.inl rfl)⟩
    ·exact⟨97,_,rfl,.inr (.inr rfl)⟩
   obtain⟨b,r,rfl,hb⟩:=key;obtain⟨e0,e1⟩:=anZ ho;rw[lT hj] at e0;obtain⟨y,hy,h1,h2⟩:=ht j e0;have yU:j+1<t.length:=(bK.1 hy).1;rw[lT yU,hy] at e1;injection e1 with e1;subst e1
   rcases hb with rfl|rfl|rfl
   ·revert h2;decide
   ·revert h1;decide
   ·revert h2;decide
 ·rcases hR with rfl|⟨p,hp,u,rfl⟩
  ·exact .inl ai
  ·exact .inr ⟨p,hp,aoa t p u⟩
theorem aEY(h:0<k/\k<4)(hc:c=61\/c=93):c∉eh.getD k []:=by
 have key:∀x:Fin 4,(61:UInt8)∉eh.getD x.val []/\(93:UInt8)∉eh.getD x.val []:=au
 rcases hc with rfl|rfl
 ·exact(key ⟨k,h.2⟩).1
 ·exact(key ⟨k,h.2⟩).2
theorem FP{n:Nat}(h:c.toNat<48\/57<c.toNat):c∉Lib.decDigits n:=fun hc=>by
 have:=SU n c hc;omega
theorem aob{l:List Nat}(h:c.toNat<46\/57<c.toNat):c∉bI 46 (l.map Lib.decDigits):=by
 induction l with
 |nil=>simp[bI]
 |cons n l ih=>
  cases l with
  |nil=>exact FP ab
  |cons m l=>
   rw[dF,uq 46 _ ai];intro hc
   rcases fL.1 hc with hc|hc
   ·exact FP ab hc
   ·rcases cz.1 hc with rfl|hc
    ·revert h;decide
    ·exact ih hc
theorem ow.aoc{q:Qn}{s:aj}(h:ow q s)(hc:c=61\/c=93):c∉s:=by
 cases h with
 |f k a b d i hk ha hb hd hi=>
  have h1:c.toNat<46\/57<c.toNat:=by rcases hc with rfl|rfl<;>decide
  have h2:c≠32:=by rcases hc with rfl|rfl<;>decide
  unfold Ml;rw[uq 32 _ ai,uq 32 _ ai];intro hm
  rcases fL.1 hm with hm|hm
  ·exact aEY hk hc hm
  ·rcases cz.1 hm with e|hm
   ·exact h2 e
   ·rcases fL.1 hm with hm|hm
    ·exact aob h1 hm
    ·rcases cz.1 hm with e|hm
     ·exact h2 e
     ·exact FP ab hm
theorem aEZ{q:aj}(h:(61:UInt8)∉q):cutAt [[32,61,32]] (q++([32,61,32]++R))=q.length:=by
 refine anY ai ?_ (.inr ⟨[32,61,32],ai,aoa q _ R⟩);intro p hp j hj;simp only[oB] at hp;subst hp
 cases ho:Lib.occAt (q++([32,61,32]++R)) [32,61,32] j with
 |false=>rfl
 |true=>
  exfalso;obtain⟨_,e1⟩:=anZ ho;by_cases yU:j+1<q.length
  ·rw[lT yU] at e1;exact h (eE e1)
  ·have Ux:j+1-q.length=0:=ab;rw[iR ab,Ux] at e1;cases e1
def yf (a:Ask):aj:=gQ a.qn++([32,61,32]++(Lib.itoa a.n++47::Lib.itoa a.arity))
theorem aod(a:Ask)(R:aj):gS a++R=[32,91]++(yf a++93::R):=by
 unfold gS yf;simp only[List.append_assoc,List.cons_append,List.nil_append]
theorem aFa{a:Ask}(h:zo a)(R:aj):(93:UInt8)∉yf a/\Bu (yf a++93::R)=(gH a,true):=by
 obtain⟨hq,h0,h1,h2⟩:=h;obtain⟨s,hs⟩:=ow.zr hq;have ht:=hs.text;have h61:=hs.aoc (.inl rfl);have h93:=hs.aoc (.inr rfl)
 obtain⟨n,hn⟩:∃n:Nat,a.n=n:=⟨a.n.toNat,ab⟩
 obtain⟨m,hm⟩:∃m:Nat,a.arity=m:=⟨a.arity.toNat,ab⟩
 have ho:yf a=s++([32,61,32]++(Lib.decDigits n++47::Lib.decDigits m)):=by
  unfold yf;rw[ht,hn,hm,Lib.itoa_nonneg,Lib.itoa_nonneg]
 have hno:(93:UInt8)∉yf a:=by
  rw[ho];intro hc;simp only[fL,cz,jD,kL] at hc
  rcases hc with hc|hc|hc|hc|hc
  ·exact h93 hc
  ·revert hc;decide
  ·exact FP (.inr au) hc
  ·revert hc;decide
  ·exact FP (.inr au) hc
 refine⟨hno,?_⟩;unfold Bu;simp only[];rw[wD hno,oC,ho,aEZ h61,oC,lW,hs.ref];rw[show([32,61,32]++(Lib.decDigits n++47::Lib.decDigits m):aj).drop 3=Lib.decDigits n++47::Lib.decDigits m from rfl];rw[wD (FP (.inl au)),oC,lW,show(47::Lib.decDigits m:aj).drop 1=Lib.decDigits m from rfl,Du n ab,Du m ab];unfold gH;rw[hn];have e1:decide ((0:Int)<=(n:Int))=true:=ft ab;have e2:decide ((n:Int)<(m:Int))=true:=ft ab;rw[e1,e2];rfl
theorem aoe:∀(l:List Ask) (f:Nat) (R:aj) (acc:List aL),(∀a∈l,zo a)->l.length<f->Lib.index R [32,91]≠0->
  wC f true (l.flatMap gS++R) acc=some (true,R,acc++l.map gH)
 |[],f,R,acc,_,hf,hR=>by
  cases f with
  |zero=>simp at hf
  |succ f=>simp[wC,hR]
 |a::l,f,R,acc,h,hf,hR=>by
  cases f with
  |zero=>simp at hf
  |succ f=>
   obtain⟨h1,h2⟩:=aFa (h a ai) (l.flatMap gS++R)
   have e0:(a::l).flatMap gS++R=[32,91]++(yf a++93::(l.flatMap gS++R)):=by
    rw[rO,List.append_assoc,aod]
   have e1:Lib.index ([32,91]++(yf a++93::(l.flatMap gS++R))) [32,91]=0:=(FO _ _).2 (by unfold Lib.hasPrefix;exact FU.2 ⟨_,rfl⟩);have e2:([32,91]++(yf a++93::(l.flatMap gS++R)):aj).drop 2=yf a++93::(l.flatMap gS++R):=rfl;rw[e0];unfold wC;rw[aq ⟨rfl,e1⟩,e2,wD h1,lW,af ai,h2];rw[show(93::(l.flatMap gS++R):aj).drop 1=l.flatMap gS++R from rfl];rw[aoe l f R _ (fun b hb=>h b (jC _ hb)) (by simp at hf;omega) hR];simp
end
section
open Go.RowKit
variable {a b p:aj} {bf:List Nat} {i:Nat}
theorem aof (i:Nat):∀(bf:List Nat) (last:Int),(∀x∈bf,x<i)->(∀x∈bf,last<(x:Int))->bf.Pairwise (·<·)->zH i last (bf.map fun n:Nat=>(n:Int))=true
 |[],_,_,_,_=>rfl
 |b::bf,last,h1,h2,h3=>by
  have hb:=h1 b ai;have hl:=h2 b ai;rw[dF];unfold zH;rw[aof i bf b (fun x hx=>h1 x (jC _ hx)) (fun x hx=>by have:=(BF.1 h3).1 x hx;omega) (BF.1 h3).2];rw[ft (show(0:Int)<=(b:Int) by omega),ft (show(b:Int)<(i:Int) by omega),ft hl];rfl
theorem aFb(l:List Nat)(h:l≠[])(hl:∀n∈l,n<=2147483647):rM 44 (bI 44 (l.map Lib.decDigits))=l.map fun n:Nat=>(n:Int):=by
 have hne:l.map Lib.decDigits≠[]:=fun e=>h (List.map_eq_nil_iff.1 e)
 unfold rM
 rw[af (anM hne (fun a ha=>by
  obtain⟨n,_,rfl⟩:=dm.1 ha
  exact Li n)),CX 44 _ hne (fun a ha=>by
  obtain⟨n,_,rfl⟩:=dm.1 ha
  exact FP (.inl au)),List.map_map]
 exact Kb (fun n hn=>Du n (hl n hn))
theorem adn{s:aj}(h:Lib.hasPrefix s p=false):Lib.index s p≠0:=fun e=>by
 rw[(FO s p).1 e] at h;cases h
theorem aog{t:aj}:Lib.index (p++t) p=0:=(FO _ _).2 (by unfold Lib.hasPrefix;exact FU.2 ⟨_,rfl⟩)
def Wf (i:Nat)(bf:List Nat):Prop:=(∀x∈bf,x<i/\x<=2147483647)/\bf.Pairwise (·<·)
theorem QS(bf:List Nat):(bf=[]/\dQ bf=[])\/(bf≠[]/\dQ bf=[32,97,102,116,101,114,32]++bI 44 (bf.map Lib.decDigits)):=by
 by_cases h:bf=[]
 ·exact .inl ⟨h,by unfold dQ;rw[aq h]⟩
 ·refine .inr ⟨h,?_⟩;unfold dQ;rw[af h,List.map_map,show bf.map (Lib.itoa∘fun n:Nat=>(n:Int))=bf.map Lib.decDigits from Kb (fun n _=>Lib.itoa_nonneg n)]
theorem aoh(h:Wf i bf):(if Lib.index (dQ bf) [32,97,102,116,101,114,32]=0 then
  (true && Wc i (rM 44 ((dQ bf).drop 7)) (rM 44 ((dQ bf).drop 7)).length) && (decide (0<(rM 44 ((dQ bf).drop 7)).length)||(dQ bf==[]))
 else true && (dQ bf==[]))=true:=by
 rcases QS bf with⟨rfl,e⟩|⟨hne,e⟩
 ·rw[e,af (QP ai)]<;>rfl
 ·rw[e,aq aog];rw[show([32,97,102,116,101,114,32]++bI 44 (bf.map Lib.decDigits):aj).drop 7=bI 44 (bf.map Lib.decDigits) from rfl];rw[aFb bf hne (fun n hn=>(h.1 n hn).2),anQ,aof i bf (-1) (fun x hx=>(h.1 x hx).1) (fun x _=>ab) h.2];have hl:0<bf.length:=Dy.2 hne;rw[dE,ft hl];rfl
theorem aFc(h:Wf i bf)(o:Bool):FN i true (mX o++dQ bf)=true:=by
 unfold FN;simp only[]
 cases o with
 |true=>
  rw[show mX true++dQ bf=[32,42]++dQ bf from rfl,aq aog,show([32,42]++dQ bf:aj).drop 2=dQ bf from rfl];exact aoh h
 |false=>
  have h1:Lib.index (mX false++dQ bf) [32,42]≠0:=by
   rw[show mX false++dQ bf=dQ bf from rfl]
   rcases QS bf with⟨_,e⟩|⟨_,e⟩
   ·rw[e];exact QP ai
   ·rw[e];exact adn rfl
  rw[af h1];exact aoh h
theorem aFd(o:Bool):Lib.index (mX o++dQ bf) [32,91]≠0:=by
 cases o with
 |true=>exact adn rfl
 |false=>
  rw[show mX false++dQ bf=dQ bf from rfl]
  rcases QS bf with⟨_,e⟩|⟨_,e⟩
  ·rw[e];exact QP ai
  ·rw[e];exact adn rfl
theorem aFe(l:List Ask)(o:Bool)(bf:List Nat):Tl (l.flatMap gS++(mX o++dQ bf)):=by
 cases l with
 |cons a l=>
  refine .inr ⟨[32,91],by simp[lr],yf a++93::(l.flatMap gS++(mX o++dQ bf)),?_⟩;rw[rO,List.append_assoc,aod]
 |nil=>
  cases o with
  |true=>exact .inr ⟨[32,42],by simp[lr],dQ bf,rfl⟩
  |false=>
   rcases QS bf with⟨_,e⟩|⟨_,e⟩
   ·exact .inl (by rw[e]<;>rfl)
   ·exact .inr ⟨[32,97,102,116,101,114,32],by simp[lr],bI 44 (bf.map Lib.decDigits),by rw[e];rfl⟩
def Bv (i:Nat)(s:ay)(bf:List Nat):Prop:=sQ s.ev/\(∀a∈s.asks,zo a)/\Wf i bf
def rN (i:Nat)(s:ay)(bf:List Nat):aj:=sV i s++lp s.asks s.asks.length++mX s.aJ++dQ bf
theorem QT(i:Nat)(s:ay)(bf:List Nat):xX i s bf=rN i s bf++[10]:=rfl
theorem aFf{s:ay}(h:Bv i s bf):line i (rN i s bf)=some (s.ev,s.asks.map gH):=by
 obtain⟨he,ha,hb⟩:=h;obtain⟨te,MR⟩:=mV.zr he
 have e0:rN i s bf=head i++(te++(s.asks.flatMap gS++(mX s.aJ++dQ bf))):=by
  unfold rN sV head lp;rw[fK,Lib.itoa_nonneg,MR.text];simp only[List.append_assoc]
 rw[<-aEW];unfold adi
 have e1:Lib.hasPrefix (rN i s bf) (head i)=true:=by
  rw[e0];unfold Lib.hasPrefix;exact FU.2 ⟨_,rfl⟩
 rw[aq e1,e0,lW];unfold adh;rw[aEX MR.ns (aFe s.asks s.aJ bf),oC,lW,MR.ref]
 have hlen:s.asks.length<(te++(s.asks.flatMap gS++(mX s.aJ++dQ bf))).length+1:=by
  have:s.asks.length<=(s.asks.flatMap gS).length:=by
   clear e0 e1 ha
   induction s.asks with
   |nil=>simp
   |cons a l ih=>
    have h2:1<=(gS a).length:=by unfold gS;simp<;>omega
    rw[rO,List.length_append,List.length_cons];omega
  simp only[List.length_append];omega
 rw[aoe s.asks _ _ [] ha hlen (aFd s.aJ)];simp only[];rw[aq (aFc hb s.aJ)];rfl
theorem ado(k:Nat)(h:k<8):(10:UInt8)∉dL.getD k []:=by
 have key:∀x:Fin 8,(10:UInt8)∉dL.getD x.val []:=au;exact key ⟨k,h⟩
theorem aFg(k:Nat)(h:k<4):(10:UInt8)∉eh.getD k []:=by
 have key:∀x:Fin 4,(10:UInt8)∉eh.getD x.val []:=au;exact key ⟨k,h⟩
theorem FQ{c:UInt8}(h1:(10:UInt8)∉a)(hc:(10:UInt8)≠c)(h2:(10:UInt8)∉b):(10:UInt8)∉a++c::b:=by
 intro h
 rcases fL.1 h with h|h
 ·exact h1 h
 ·rcases cz.1 h with h|h
  ·exact hc h
  ·exact h2 h
theorem yg(h1:(10:UInt8)∉a)(h2:(10:UInt8)∉b):(10:UInt8)∉a++b:=by
 intro h
 rcases fL.1 h with h|h
 ·exact h1 h
 ·exact h2 h
theorem Bw(n:Nat):(10:UInt8)∉Lib.decDigits n:=FP (.inl au)
theorem aoi(l:List Nat):(10:UInt8)∉bI 46 (l.map Lib.decDigits):=aob (.inl au)
theorem mV.adq{e:Ev}{s:aj}(h:mV e s):(10:UInt8)∉s:=by
 cases h with
 |f1 k nd r hk hn hr=>exact FQ (ado k ab) au (FQ (Bw nd) au (Bw r))
 |f2 k nd a b c d x hk hn ha hb hc hd hx=>exact FQ (ado k ab) au (FQ (Bw nd) au (aoi _))
 |f3 nd hn=>exact FQ (ado 7 ab) au (Bw nd)
theorem ow.adq{q:Qn}{s:aj}(h:ow q s):(10:UInt8)∉s:=by
 cases h with
 |f k a b c i hk ha hb hc hi=>exact FQ (aFg k ab) au (FQ (aoi _) au (Bw i))
theorem aFh{a:Ask}(h:zo a):(10:UInt8)∉gS a:=by
 obtain⟨hq,h0,h1,h2⟩:=h;obtain⟨s,hs⟩:=ow.zr hq;unfold gS;rw[hs.text,Py h0,Py ab];exact yg (yg (yg (yg (yg (yg au hs.adq) au) (Bw _)) au) (Bw _)) au
theorem adr{s:ay}(h:Bv i s bf):(10:UInt8)∉rN i s bf:=by
 obtain⟨he,ha,hb⟩:=h;obtain⟨te,MR⟩:=mV.zr he;unfold rN sV lp;rw[fK,Lib.itoa_nonneg,MR.text];refine yg (yg (yg (yg (yg (Bw i) au) MR.adq) ?_) (by cases s.aJ<;>decide)) ?_
 ·intro hc;obtain⟨a,h1,h2⟩:=BH.1 hc;exact aFh (ha a h1) h2
 ·rcases QS bf with⟨_,e⟩|⟨hne,e⟩
  ·rw[e];simp
  ·rw[e];refine yg au ?_;clear e hb hne
   induction bf with
   |nil=>simp[bI]
   |cons b l ih=>
    cases l with
    |nil=>exact Bw b
    |cons c l=>
     rw[dF,uq 44 _ ai];exact FQ (Bw b) au ih
def bodies (F:Nat->List Nat):Nat->List ay->List aj
 |_,[]=>[]
 |k,s::l=>rN k s (F k)::bodies F (k+1) l
theorem ads (F:Nat->List Nat):∀(l:List ay) (k:Nat),(bodies F k l).length=l.length
 |[],_=>rfl
 |_::l,k=>by simp[bodies,ads F l (k+1)]
theorem aoj (F:Nat->List Nat)(x:ay):∀(l:List ay) (k:Nat),bodies F k (l++[x])=bodies F k l++[rN (k+l.length) x (F (k+l.length))]
 |[],k=>by simp[bodies]
 |s::l,k=>by
  rw[List.cons_append];unfold bodies;rw[aoj F x l (k+1),List.cons_append,List.length_cons,show k+1+l.length=k+(l.length+1) by omega]
theorem adt (l:List ay)(F:Nat->List Nat):∀m,m<=l.length->et l F m=(bodies F 0 (l.take m)).flatMap fun b=>b++[10]
 |0,_=>by simp[et,bodies]
 |m+1,hm=>by
  rw[Bl l F m ab,adt l F m ab,List.take_succ_eq_append_getElem ab,aoj,oY,QT]
  have:(l.take m).length=m:=by rw[dN];omega
  simp[this]
theorem aok:∀(bs:List aj),bs≠[]->(bs.flatMap fun b=>b++[10])=bI 10 bs++[10]
 |[],h=>absurd rfl h
 |[b],_=>by simp[bI]
 |b::c::bs,_=>by
  rw[rO,aok (c::bs) ai,uq 10 b ai];simp
theorem aol (F:Nat->List Nat):∀(l:List ay) (k:Nat),(∀j (hj:j<l.length),Bv (k+j) l[j] (F (k+j)))->lines k (bodies F k l)=some (l.map ay.ev,l.flatMap fun s=>s.asks.map gH)
 |[],_,_=>rfl
 |s::l,k,h=>by
  have h0:=h 0 ai;unfold bodies;rw[anv,aFf (by simpa using h0)]
  rw[aol F l (k+1) (fun j hj=>by
   have:=h (j+1) (by simpa using hj);rw[show k+(j+1)=k+1+j by omega] at this
   simpa using this)]
  rfl
theorem adu:∀(bs:List aj),(∀b∈bs,(10:UInt8)∉b)->(bs.flatMap fun b=>b++[10]).count 10=bs.length
 |[],_=>rfl
 |b::bs,h=>by
  rw[rO,zM,zM,adu bs (fun c hc=>h c (jC _ hc)),List.count_eq_zero_of_not_mem (h b ai)];simp;omega
theorem adw (F:Nat->List Nat):∀(l:List ay) (k:Nat),(∀j (hj:j<l.length),Bv (k+j) l[j] (F (k+j)))->∀b∈bodies F k l,(10:UInt8)∉b/\b≠[]
 |[],_,_,_,hb=>by simp[bodies] at hb
 |s::l,k,h,b,hb=>by
  unfold bodies at hb
  rcases cz.1 hb with rfl|hb
  ·have h0:=h 0 ai;refine⟨adr (by simpa using h0),?_⟩;unfold rN sV;simp
  ·exact adw F l (k+1) (fun j hj=>by
    have:=h (j+1) (by simpa using hj);rw[show k+(j+1)=k+1+j by omega] at this
    simpa using this) b hb
theorem aFi(l:List ay)(F:Nat->List Nat)(m:Nat)(hm:m<=l.length)(Aq:m<=5000)(h:∀j (hj:j<l.length),Bv j l[j] (F j)):
  uB (et l F m)=.ok ((l.take m).map ay.ev) ((l.take m).flatMap fun s=>s.asks.map gH):=by
 have hg:∀j (hj:j<(l.take m).length),Bv (0+j) (l.take m)[j] (F (0+j)):=fun j hj=>by
  rw[dN] at hj;have:=h j ab;rw[List.getElem_take,fu];exact this
 have hb:=adw F (l.take m) 0 hg;have Jp:=ads F (l.take m) 0
 have jg:(l.take m).length=m:=by rw[dN];omega
 rw[adt l F m hm];unfold uB;have hc:=adu _ (fun b sq=>(hb b sq).1);rw[af (by rw[hc,Jp];omega)];by_cases h0:bodies F 0 (l.take m)=[]
 ·have:l.take m=[]:=by
   rw[h0] at Jp;exact BC.1 Jp.symm
  rw[h0,this];rfl
 ·rw[aok _ h0,af ai,aq ai,List.dropLast_concat,CX 10 _ h0 (fun b sq=>(hb b sq).1),aol F (l.take m) 0 hg]
theorem aFj(l:List ay)(F:Nat->List Nat)(m:Nat)(hm:m<l.length)(Aq:m<5000)(h:∀j (hj:j<l.length),Bv j l[j] (F j)):
  uB (et l F (m+1)).dropLast=.form:=by
 have hg:∀j (hj:j<(l.take (m+1)).length),Bv (0+j) (l.take (m+1))[j] (F (0+j)):=fun j hj=>by
  rw[dN] at hj;have:=h j ab;rw[List.getElem_take,fu];exact this
 have hb:=adw F (l.take (m+1)) 0 hg;have Jp:=ads F (l.take (m+1)) 0
 have jg:(l.take (m+1)).length=m+1:=by rw[dN];omega
 have hs:=Bl l F m hm
 have e1:(et l F (m+1)).dropLast=et l F m++rN m l[m] (F m):=by
  rw[hs,QT,<-List.append_assoc,List.dropLast_concat]
 have aFk:=adr (h m hm)
 have hne:rN m l[m] (F m)≠[]:=by unfold rN sV;simp
 have hc:(et l F (m+1)).count 10=m+1:=by
  rw[adt l F (m+1) ab,adu _ (fun b sq=>(hb b sq).1),Jp,jg]
 have dS:(et l F m++rN m l[m] (F m)).count 10<=m+1:=by
  rw[hs,QT,<-List.append_assoc,zM] at hc;omega
 rw[e1];unfold uB;rw[af ab,af (by simp[hne])];rw[af];intro Mg;rw[List.getLast?_append,List.getLast?_eq_some_getLast hne,Option.some_or] at Mg;injection Mg with Mg;exact aFk (Mg▸List.getLast_mem hne)
end
section
open Go.RowKit
theorem aFl (l:List ay)(i:Nat)(hi:i<l.length)(hl:l.length<=64):Wf i (aQ (lq l) i):=by
 rw[acu l i hi];constructor
 ·intro x hx;have uf:=(nj.1 hx).2;unfold vR at uf;rw[bV] at uf;have:=Il l l.length x i ab uf.1;omega
 ·exact List.pairwise_lt_range.filter _
theorem aom (l:List ay)(hl:l.length<=64)(h:∀s∈l,sQ s.ev/\∀a∈s.asks,zo a):∀j (hj:j<l.length),Bv j l[j] (aQ (lq l) j):=fun j hj=>
 ⟨(h l[j] (bP hj)).1,(h l[j] (bP hj)).2,aFl l j hj hl⟩
theorem aFm (l:List ay)(hl:l.length<=64)(h:∀s∈l,sQ s.ev/\∀a∈s.asks,zo a)(m:Nat)(hm:m<=l.length):
  uB (et l (fun i=>aQ (lq l) i) m)=.ok ((l.take m).map ay.ev) ((l.take m).flatMap fun s=>s.asks.map gH):=
 aFi l _ m hm ab (aom l hl h)
end
section
open Go.RowKit
theorem JV (c:UInt8):∀l:List aj,(bI c l).length<=(l.map fun s=>s.length+1).sum
 |[]=>by simp[bI]
 |[a]=>by simp[bI]
 |a::b::l=>by
  have h2:=JV c (b::l);rw[uq c a ai];simp only[List.length_append,List.length_cons,dF,Gg] at h2⊢;omega
theorem adx (k:Nat):(dL.getD k []).length<=7:=by
 rcases BK k 8 with h|h
 ·have key:∀x:Fin 8,(dL.getD x.val []).length<=7:=au;exact key ⟨k,h⟩
 ·rw[fo,qh (by show 8<=k;omega)];simp
theorem aFn (k:Nat):(eh.getD k []).length<=4:=by
 rcases BK k 4 with h|h
 ·have key:∀x:Fin 4,(eh.getD x.val []).length<=4:=au;exact key ⟨k,h⟩
 ·rw[fo,qh (by show 4<=k;omega)];simp
theorem Dv (n:Nat)(h:n<100):(Lib.decDigits n).length<=2:=Pp 1 n ab
theorem aFo {e:Ev}(h:sQ e):(ei e).length<=75:=by
 obtain⟨s,hs⟩:=mV.zr h;rw[hs.text]
 cases hs with
 |f1 k nd r hk hn hr=>
  have h1:=JV 32 [dL.getD k [],Lib.decDigits nd,Lib.decDigits r];have h2:=adx k;have h3:=Dv nd ab;have h4:=decl r hr;simp only[dF,mF,Gg,List.sum_nil] at h1;unfold Pq;omega
 |f2 k nd a b c d x hk hn ha hb hc hd hx=>
  have h1:=JV 32 [dL.getD k [],Lib.decDigits nd,bI 46 ([a,b,c,d,x].map Lib.decDigits)];have h0:=JV 46 ([a,b,c,d,x].map Lib.decDigits);have h2:=adx k;have h3:=Dv nd ab;have h4:=Dv a ab;have h5:=Dv b ab;have h6:=decl c hc;have h7:=decl d hd;have h8:=decl x hx;simp only[dF,mF,Gg,List.sum_nil] at h1 h0;unfold Pr;simp only[dF,mF];omega
 |f3 nd hn=>
  have h1:=JV 32 [dL.getD 7 [],Lib.decDigits nd];have h2:=adx 7;have h3:=Dv nd ab;simp only[dF,mF,Gg,List.sum_nil] at h1;unfold Ps;omega
theorem aFp {a:Ask}(h:zo a):(gS a).length<=75:=by
 obtain⟨hq,h0,h1,h2⟩:=h;obtain⟨s,hs⟩:=ow.zr hq;have ht:=hs.text
 obtain⟨n,hn⟩:∃n:Nat,a.n=n:=⟨a.n.toNat,ab⟩
 obtain⟨m,hm⟩:∃m:Nat,a.arity=m:=⟨a.arity.toNat,ab⟩
 unfold gS;rw[ht,hn,hm,Lib.itoa_nonneg,Lib.itoa_nonneg];have h3:=decl n ab;have h4:=decl m ab
 have h5:s.length<=34:=by
  generalize a.qn=q at hs
  cases hs with
  |f k a b c i hk ha hb hc hi=>
   have h1:=JV 32 [eh.getD k [],bI 46 ([a,b,c].map Lib.decDigits),Lib.decDigits i];have h0:=JV 46 ([a,b,c].map Lib.decDigits);have h2:=aFn k;have h3:=Dv a ab;have h4:=Dv b ab;have h5:=decl c hc;have h6:=decl i hi;simp only[dF,mF,Gg,List.sum_nil] at h1 h0;unfold Ml;simp only[dF,mF];omega
 simp only[List.length_append,List.length_cons,List.length_nil];omega
theorem aFq (l:List ay)(i:Nat)(hi:i<l.length)(hl:l.length<=20):(dQ (aQ (lq l) i)).length<=70:=by
 have hb:(aQ (lq l) i).length<=20/\∀n∈aQ (lq l) i,n<20:=by
  rw[acu l i hi];exact⟨bj (amB _ _ _ _) hl,fun x hx=>by have:=amC _ _ _ _ x hx;omega⟩
 obtain⟨h1,h2⟩:=hb;unfold dQ;split
 ·simp
 ·have:=Bf 44 2 (((aQ (lq l) i).map fun n:Nat=>(n:Int)).map Lib.itoa) (fun y hy=>by
   obtain⟨n,hn,rfl⟩:=dm.1 hy;obtain⟨m,hm,rfl⟩:=dm.1 hn;rw[Lib.itoa_nonneg]
   exact Dv m (by have:=h2 m hm;omega))
  simp only[dE] at this;simp only[List.length_append,List.length_cons,List.length_nil];omega
theorem aFr (l:List ay)(hl:l.length<=20)(h:∀s∈l,ME s)(m:Nat)(hm:m<=l.length):(et l (fun i=>aQ (lq l) i) m).length<=500*m:=by
 refine acw l (fun i=>aQ (lq l) i) 500 (fun i hi=> ?_) m hm;obtain⟨h1,h2,h3,_⟩:=h l[i] (bP hi);have h4:=aFq l i hi hl;have h5:=aFo h1;have h6:=abU gS 75 l[i].asks (fun a ha=>aFp (h2 a ha));have h7:=PL l[i].aJ;have h8:=Dv i ab;unfold xX sV lp;rw[fK,Lib.itoa_nonneg];simp only[List.length_append,List.length_cons,List.length_nil];omega
end
section
open Go.RowKit
theorem QU {run:List ay}{p:ay->Prop}(h:∀s∈run,p s):∀s∈fS run,p s:=fun s hs=>h s (abR (Mw run) s hs)
theorem aon (run:List ay):(fS run).length=run.length:=abQ (Mw run)
theorem aFs {run:List ay}(hl:run.length<=20)(h:∀s∈run,ME s):(zt (fS run)).length<=10000:=by
 have h1:=aon run;have:=aFr (fS run) ab (QU h) (fS run).length ax;unfold zt;omega
end
section
open Go.RowKit
theorem aFt (l:List ay)(F:Nat->List Nat):∀(m:Nat),m<=l.length->∃R,et l F l.length=et l F m++R:=by
 intro m hm
 obtain⟨d,hd⟩:∃d,l.length=m+d:=⟨l.length-m,ab⟩
 clear hm
 have:∀d,m+d<=l.length->∃R,et l F (m+d)=et l F m++R:=by
  intro d
  induction d with
  |zero=>exact fun _=>⟨[],ai⟩
  |succ d ih=>
   intro h;obtain⟨R,hR⟩:=ih ab;exact⟨R++xX (m+d) l[m+d] (F (m+d)),by rw[show m+(d+1)=m+d+1 by omega,Bl l F (m+d) ab,hR,List.append_assoc]⟩
 have h2:=this d ab;rwa[<-hd] at h2
structure Wh (T:aj)(A hd bd B:aj):Prop where
 eq:T=A++(hd++(bd++10::B))
 nb:(10:UInt8)∉hd++bd
theorem Wh.aFu {T A hd bd B:aj}(h:Wh T A hd bd B):T[A.length+(hd.length+bd.length)]? =some 10/\∀j,A.length<=j->j<A.length+(hd.length+bd.length)->T[j]? ≠some 10:=by
 have e:T=A++((hd++bd)++10::B):=by rw[h.eq,List.append_assoc]
 refine⟨?_,fun j h1 h2=> ?_⟩
 ·rw[e,iR ab,iR ai];simp
 ·rw[e,iR h1,lT bq];intro h3;exact h.nb (eE h3)
theorem aFv (l:List ay)(F:Nat->List Nat)(i:Nat)(hi:i<l.length)(h:Bv i l[i] (F i)):∃bd B,Wh (et l F l.length) (et l F i) (Lib.decDigits i++[58,32]++ei l[i].ev) bd B/\et l F (i+1)=et l F i++(Lib.decDigits i++[58,32]++ei l[i].ev)++bd++[10]:=by
 obtain⟨B,hB⟩:=aFt l F (i+1) hi;have hs:=Bl l F i hi
 have hh:sV i l[i]=Lib.decDigits i++[58,32]++ei l[i].ev:=by unfold sV;rw[Lib.itoa_nonneg]
 have hb:rN i l[i] (F i)=(Lib.decDigits i++[58,32]++ei l[i].ev)++(lp l[i].asks l[i].asks.length++(mX l[i].aJ++dQ (F i))):=by
  unfold rN;rw[hh];simp only[List.append_assoc]
 refine⟨lp l[i].asks l[i].asks.length++(mX l[i].aJ++dQ (F i)),B,⟨?_,?_⟩,?_⟩
 ·rw[hB,hs,QT,hb];simp only[List.append_assoc,List.cons_append,List.nil_append]
 ·rw[<-hb];exact adr h
 ·rw[hs,QT,hb];simp only[List.append_assoc]
theorem aFw (T a h r:aj)(e:T=a++(h++r)):(⟨T.toArray⟩:ByteArray).extract a.length (a.length+h.length)=⟨h.toArray⟩:=by
 refine SV ?_;rw[Lib.extract_data]
 show(T.drop a.length).take (a.length+h.length-a.length)=h
 rw[e,lW,QX,oC]
def zc (m:Nat)(N:List ay):aj:=match N[m]? with
 |some s=>Lib.decDigits m++[58,32]++ei s.ev
 |none=>[]
def aFx (T:aj)(N:List ay)(A:Nat->aj)(m:Nat):Prop:=∃bd B,Wh T (A m) (zc m N) bd B/\A (m+1)=A m++zc m N++bd++[10]/\(uB (A (m+1))).evs.length=m+1/\(uB (A (m+1))).code=0/\(uB (A m++zc m N++bd)).code=8
theorem aFy {run:List ay}(eF:run.length<=20)(iw:∀s∈run,ME s):∃(N:List ay) (T:aj) (A:Nat->aj),fS run=N/\zt (fS run)=T/\N.length=run.length/\T.length<=10000/\A 0=[]/\A N.length=T/\∀m,m<N.length->aFx T N A m:=by
 have ju:=aon run;have UA:=aom (fS run) ab (fun s hs=>⟨(QU iw s hs).1,(QU iw s hs).2.1⟩);refine⟨fS run,_,fun m=>et (fS run) (fun i=>aQ (lq (fS run)) i) m,rfl,rfl,ju,aFs eF iw,rfl,rfl,fun m hm=> ?_⟩;obtain⟨bd,B,h1,h2⟩:=aFv (fS run) (fun i=>aQ (lq (fS run)) i) m hm (UA m hm)
 have hh:zc m (fS run)=Lib.decDigits m++[58,32]++ei (fS run)[m].ev:=by unfold zc;rw[cw hm]
 have hst:=aFm (fS run) ab (fun s hs=>⟨(QU iw s hs).1,(QU iw s hs).2.1⟩) (m+1) ab;have hcu:=aFj (fS run) (fun i=>aQ (lq (fS run)) i) m hm ab UA;rw[<-hh] at h1 h2;refine⟨bd,B,h1,h2,?_,?_,?_⟩
 ·dsimp only;rw[hst]
  show(((fS run).take (m+1)).map ay.ev).length=m+1
  rw[dE,dN];omega
 ·dsimp only;rw[hst];rfl
 ·rw[h2,List.dropLast_concat] at hcu;dsimp only;rw[hcu];rfl
theorem aFz {s:aj}{X:World}(hg:Gl X)(hs:s.length<=10000):Calls Tryz.prog 18 #[.string ⟨s.toArray⟩] X fun e w'=>(∃k c k2 c2 n,e=.returned (.tuple #[.agg #[.slice k (uB s).evs.length c,.slice k2 n c2],I (uB s).code]))/\aw X w':=
 (aED s X hg hs).mono fun _ _ ⟨⟨k,c,k2,c2,he,_⟩,hb⟩=>⟨⟨k,c,k2,c2,_,he⟩,hb⟩
theorem aFA (l l2:List Int)(k k2:Option Addr)(c c2:Nat)(w:World)(h:br w (.slice k l.length c) l)(hc:l.length<=c)(hi:∀x∈l,bY x)(h2:br w (.slice k2 l2.length c2) l2)(dS:l2.length<=c2)(rA:∀x∈l2,bY x)(hg:Gl w):
  Calls Tryz.prog 5 #[.slice k l.length c,.slice k2 l2.length c2] w fun e w'=>e=.returned (.bool true)/\aw w w':=by
 obtain⟨run,eF,iw,HW⟩:=aci h hc hi h2 dS rA hg;have HW:=ae HW;have Hg:=ae hg;clear h hc hi h2 dS rA hg;obtain⟨N,T,A,hN,hT,ju,htx,ux,JE,uh⟩:=aFy eF iw;go_enter Tryz.func5,Tryz.ntmps5
 go_wp2_with (go_at_call 7;refine HW.out.mono ?_;rintro e w1 ⟨u,rfl,eC,aC⟩)
 have aoo:=eC;obtain⟨ua,uc,rfl,_⟩:=aoo.open;have kH:=ae aC;have fQ:=Hg.out.below aC;have HP:=ae (PU run (.slice ua run.length uc) w1 eC ab (fun s hs=>amG (iw s hs)) (fun s hs=>by have:=(iw s hs).2.2.2;omega) fQ);have HNm:=ae (fun X (hX:aw w1 X)=>alu run (.slice ua run.length uc) X (eC.kept hX ax) ab (fun s hs=>by have:=(iw s hs).2.2.1;omega) (fun s hs=>by have:=(iw s hs).2.2.2;omega));have HPa:=ae (fun X (hX:aw w1 X) (s:aj) (hs:s.length<=10000)=>aFz (s:=s) (fQ.below hX) hs);have HL:=ae (fun X (hX:aw w1 X)=>aca X (fQ.below hX));unfold Qc at HL;rw[hN] at HNm;rw[hT] at HP;unfold sv at HP;have zx:=ae ju;have FK:=ae uh;have pV:=ae ux;have HAn:=ae JE;clear aoo fQ aC hN hT uh ju ux JE HW Hg iw eC
 go_wp2_with (go_at_call 9;refine HP.out.mono ?_;rintro e w2 ⟨rfl,bg⟩)
 have aop:=ae (HNm.out w2 bg);have mD:=ae bg;clear bg HNm HP
 go_upto_region 4 with(go_at_call 15;refine aop.out.mono ?_;rintro e w3 ⟨u,rfl,Dh,fD⟩)
 have pN:=ae (mD.out.mono ax|>.trans (fD.mono mD.out.size));have cq:=Dh.sl;obtain⟨na,nc,rfl,IY⟩:=cq.open;have HN3:=ae cq;clear cq Dh fD aop;have aHo:=ae zx.out
 have aHp:N.length<=20:=by rw[zx.out];exact eF
 rw[<-zx.out] at eF⊢;go_wp2_with fail;go_loopw [8,9] (fun va vi wr=>∃m:Nat,m<=N.length/\va=.int .i64 ((A m).length:Nat)/\vi=.int .i64 m/\(A m).length<=10000/\Hid (aw w3 wr)) (fun _ vi _=>N.length-(intOf vi).toNat)
 case atStart=>exact⟨0,ab,by rw[pV.out];rfl,rfl,by rw[pV.out];simp,ae (Below.refl _ _)⟩
 case round=>
  obtain⟨m,hm,rfl,rfl,haL,HW⟩:=hrel;have jZ:=HW.out.size;have HG:=ae (fun X (hX:aw wr X)=>HPa.out X (pN.out.trans ((HW.out.trans (hX.mono HW.out.size)).mono pN.out.size)));have HLv:=ae (fun X (hX:aw wr X)=>HL.out X (pN.out.trans ((HW.out.trans (hX.mono HW.out.size)).mono pN.out.size)));have Ds:=ae (kH.out.trans ((pN.out.trans (HW.out.mono pN.out.size)).mono kH.out.size));by_cases hlt:m<N.length
  ·obtain⟨bd,B,hcut,nM,ey,ik,Iy⟩:=FK.out m hlt;obtain⟨bb,o,va,vs,rfl,-,-,y0,y1,y2,y3,y4,y5,y6,y7,-,-,-⟩:=HN3.out.at (i:=m) (s:=N[m]) (by simp[hlt])
   have dp:zc m N=Lib.decDigits m++[58,32]++ei N[m].ev:=by unfold zc;rw[cw hlt]
   have rH:=acv N[m].ev;generalize N[m].ev=ev at dp rH y0 y1 y2 y3 y4 y5 y6 y7;obtain⟨kind,node,arg,⟨m0,m1,m2,m3,m4⟩⟩:=ev;dsimp only at y0 y1 y2 y3 y4 y5 y6 y7
   have ez:(Lib.decDigits m).length<=20:=by have:=iP (m:Int) (uu m ab);rwa[Lib.itoa_nonneg] at this
   have MK:=ae (fun X=>(Bp m ab X).mono (R':=fun e w'=>e=.returned (sv (Lib.decDigits m))/\aw X w') (fun e w' h=>⟨h.1,h.2▸Below.refl _ _⟩));have mC:=ae (fun X=>amz ⟨kind,node,arg,⟨m0,m1,m2,m3,m4⟩⟩ X);generalize Lib.decDigits m=di at dp ez MK;generalize ei ⟨kind,node,arg,⟨m0,m1,m2,m3,m4⟩⟩=te at dp rH mC;generalize zc m N=hd at dp hcut nM Iy
   have HS:=ae (show∀X,aw wr X->X.cell? ⟨bb,o+m*11,none⟩=some (I kind)/\X.cell? ⟨bb,o+m*11+1,none⟩=some (I node)/\X.cell? ⟨bb,o+m*11+2,none⟩=some (I arg)/\X.cell? ⟨bb,o+m*11+3,none⟩=some (I m0)/\X.cell? ⟨bb,o+m*11+4,none⟩=some (I m1)/\X.cell? ⟨bb,o+m*11+5,none⟩=some (I m2)/\X.cell? ⟨bb,o+m*11+6,none⟩=some (I m3)/\X.cell? ⟨bb,o+m*11+7,none⟩=some (I m4) from fun X hX=>by
    have FR:=HW.out.trans (hX.mono jZ)
    exact⟨bB FR ax y0,bB FR ax y1,bB FR ax y2,bB FR ax y3,bB FR ax y4,bB FR ax y5,bB FR ax y6,bB FR ax y7⟩)
   have D0:aw wr wr.drew:=(Below.refl _ _).drew
   have hTL:T.length=(A m).length+(hd.length+(bd.length+(B.length+1))):=by
    have:=aG List.length hcut.eq;simpa only[List.length_append,List.length_cons] using this
   have PY:hd.length=di.length+2+te.length:=by rw[dp];simp only[List.length_append,List.length_cons,List.length_nil]
   have cF:¬9223372036854775807<di.length+2:=ab;have fO:¬9223372036854775807<di.length+2+te.length:=ab;have Hgd:=ae dp;have qf:=ae hcut;have QE:=ae nM;have zf:=ae ey;have EN:=ae ik;have LB:=ae Iy;clear dp hcut nM ey ik Iy y0 y1 y2 y3 y4 y5 y6 y7;unfold sv at MK mC;unfold iH at mC;dsimp only at mC;go_upto_region 10 with fail;refine kO 9 [(0,true),(3,true),(4,true),(5,true),(6,true),(7,true),(1,false),(2,true),(8,false)] (fun X=>X.cell? ⟨bb,o+m*11,none⟩=some (I kind)/\X.cell? ⟨bb,o+m*11+1,none⟩=some (I node)/\X.cell? ⟨bb,o+m*11+2,none⟩=some (I arg)/\X.cell? ⟨bb,o+m*11+3,none⟩=some (I m0)/\X.cell? ⟨bb,o+m*11+4,none⟩=some (I m1)/\X.cell? ⟨bb,o+m*11+5,none⟩=some (I m2)/\X.cell? ⟨bb,o+m*11+6,none⟩=some (I m3)/\X.cell? ⟨bb,o+m*11+7,none⟩=some (I m4)) ah rfl rfl ah (HS.out _ D0) ?_
   iterate 6 refine gA ?_
   refine kQ (fun K hK=> ?_);go_simp;go_at_call 16;refine(MK.out wr.drew).mono ?_;rintro e X1 ⟨rfl,F⟩;have D1:=Below.then D0 F;refine hK.out _ _ (HS.out _ D1) ?_;clear hK K;refine cJ ?_
   iterate 1 refine gA ?_
   refine kQ (fun K hK=> ?_);go_simp;go_at_call 17;refine(mC.out X1).mono ?_;rintro e X2 ⟨rfl,F⟩;have D2:=Below.then D1 F;refine hK.out _ _ (HS.out _ D2) ?_;clear hK K;refine cJ ?_;refine kP ?_;go_wp2_with fail;refine NoPanic.normal ?_
   have e1:(⟨di.toArray⟩++⟨[58,32].toArray⟩++⟨te.toArray⟩:ByteArray)=⟨hd.toArray⟩:=by
    rw[cH,cH,Hgd.out]
   rw[e1];clear e1 HS cF fO MK mC ez rH Hgd PY;have hzX:wr.heap.size<=X2.heap.size:=D2.size;have HD:=ae D2;clear D0 D1 D2 F;have MA:T.length<=10000:=htx;have MB:(A m).length+hd.length<=T.length:=ab;have aFB:(⟨T.toArray⟩:ByteArray).extract (A m).length ((A m).length+hd.length)=⟨hd.toArray⟩:=aFw _ _ _ _ qf.out.eq;have hhI:((A m).length:Int)+hd.length<=T.length:=ab;have hwr:IntKind.i64.wrap (((A m).length:Int)+hd.length)=((A m).length:Int)+hd.length:=IntWalk.i64_in _ ⟨ab,ab⟩;have aFC:¬((T.length:Int)<((A m).length:Int)+hd.length):=ab;have Fm:(((A m).length:Int)+hd.length).toNat=(A m).length+hd.length:=ab;go_wp2_with fail
   obtain⟨P,hP⟩:∃P,P=(A m).length+(hd.length+bd.length):=⟨_,rfl⟩
   have hPl:P<T.length:=ab;have tg:=ae qf.out.aFu;rw[<-hP] at tg;have UO:(A m).length<=P:=ab;have HP:=ae hP;have HTL:=ae hTL;clear aFB hhI hwr aFC Fm hP hTL MB;go_loop [8] (fun v=>∃j:Nat,v=.int .i64 j/\(A m).length<=j/\j<=P) (fun v=>P-(intOf v).toNat)
   case atStart=>exact⟨(A m).length,rfl,cK _,UO⟩
   case round=>
    obtain⟨j,rfl,My,hjP⟩:=hrel;have hjT:j<T.length:=ab;have hbj:(⟨T.toArray⟩:ByteArray)[j]'(by show j<T.toArray.size;simpa using hjT)=T[j]:=rfl;have Wi:T[j]? =some T[j]:=cw hjT;by_cases hlp:j<P
    ·have hne:T[j]≠10:=fun e=>tg.out.2 j My hlp (by rw[Wi,e])
     have d2:((T[j].toNat:Int) !=10)=true:=by
      rw[bne_iff_ne];intro e;exact hne (UInt8.toNat_inj.1 (by simpa using(by omega:T[j].toNat=10)))
     clear hne Wi;go_wp2;go_round
     case rel=>exact⟨j+1,by go_num,ab,ab⟩
     case measure=>simp[intOf];omega
    ·obtain rfl:j=P:=ab
     have hec:T[j]=10:=by
      have:=tg.out.1;rw[Wi] at this;exact dX this
     have d2:((T[j].toNat:Int) !=10)=false:=by rw[hec];rfl
     clear hec Wi hlp hjP
     have aHq:((j:Int)==(T.length:Int))=false:=by rw[mE];omega
     have hA1:A (m+1)=T.take (j+1):=by
      rw[QE.out,qf.out.eq,HP.out];have:(A m++(hd++(bd++10::B)))=(A m++hd++bd++[10])++B:=ai;rw[this,List.take_left' (by simp only[List.length_append,List.length_cons,List.length_nil];omega)]
     have hA2:A m++hd++bd=T.take j:=by
      rw[qf.out.eq,HP.out];have:(A m++(hd++(bd++10::B)))=(A m++hd++bd)++(10::B):=ai;rw[this,List.take_left' (by simp only[List.length_append,List.length_cons,List.length_nil];omega)]
     have XX:(⟨T.toArray⟩:ByteArray).extract 0 (j+1)=⟨(A (m+1)).toArray⟩:=by rw[acC,hA1]
     have uf:(⟨T.toArray⟩:ByteArray).extract 0 j=⟨(A m++hd++bd).toArray⟩:=by rw[acC,hA2]
     have Qj:(A (m+1)).length=j+1:=by rw[hA1,dN];omega
     have om:=ae (fun X hX=>by
      have h:=HG.out X hX (A (m+1)) ab;rw[zf.out,EN.out] at h
      exact h)
     have Ix:=ae (fun X hX=>by
      have h:=HG.out X hX (A m++hd++bd) (by rw[hA2,dN];omega);rw[LB.out] at h
      exact h)
     have HAl:=ae Qj;clear hA1 hA2 Qj QE
     obtain⟨A1,ady⟩:∃A1,A (m+1)=A1:=⟨_,rfl⟩
     rw[ady] at XX om HAl;have vQ:=ae ady;generalize(uB (A m++hd++bd)).evs.length=n2 at Ix;generalize A m++hd++bd=A2 at uf Ix;clear ady zf EN LB qf;have Db:(j:Int)+1<=T.length:=ab;have dJ:(j:Int)<=T.length:=ab
     have hjw:IntKind.i64.wrap ((j:Int)+1-1)=(j:Int):=by rw[IntKind.wrap_i64];omega
     have Ij:((m+1:Nat):Int)=(m:Int)+1:=ab
     go_upto_region 21 with(go_at_call 18;refine(om.out _ HD.out).mono ?_;rintro e w6 ⟨⟨k3,c3,k4,c4,n4,rfl⟩,fD⟩)
     have D6:=Below.then HD.out fD;have EG:=az.new w6 #[.slice k3 (m+1) c3,.slice k4 n4 c4] 49;have lN:=D6.alloc D6.size (.cells #[.slice k3 (m+1) c3,.slice k4 n4 c4] 49)
     obtain⟨W6,Iz⟩:∃W6,w6.alloc (.cells #[.slice k3 (m+1) c3,.slice k4 n4 c4] 49)=W6:=⟨_,rfl⟩
     rw[Iz] at EG lN⊢;have aoq:=EG.lt
     obtain⟨TB,hTB⟩:∃TB,w6.heap.size=TB:=⟨_,rfl⟩
     rw[hTB] at EG aoq⊢;have HBk:=ae EG;have Qd:=ae lN;clear Iz hTB fD D6 EG lN
     go_upto_region 22 with(go_at_call 18;refine(Ix.out _ Qd.out).mono ?_;rintro e w7 ⟨⟨k5,c5,k6,c6,n6,rfl⟩,eI⟩)
     have D7:=eI.alloc eI.size (.cells #[.slice k5 n2 c5,.slice k6 n6 c6] 49);have x0:=(HBk.out.kept D7 aoq).cell 0;have HB8:=ae (Below.then Qd.out D7);clear D7 eI HBk;go_wp2_with fail;go_roundw
     case rel=>exact⟨m+1,ab,by rw[vQ.out,HAl.out];rfl,by rw[Ij],by rw[vQ.out,HAl.out];omega,ae (HW.out.trans (HB8.out.mono jZ))⟩
     case measure=>simp[intOf];omega
  ·have yb:m=N.length:=ab
   have hlT:(A m).length=T.length:=by rw[yb,HAn.out]
   rw[hlT];have Vg:((T.length:Int)==(T.length:Int))=true:=ai;clear yb hlT;go_wp2_with fail;refine(HLv.out wr (Below.refl _ _)).mono ?_;rintro e w9 ⟨rfl,hB9⟩;go_wp2_with fail;go_ret;exact⟨rfl,Ds.out.trans (hB9.mono Ds.out.size)⟩
end
namespace storyLines
open Go.ChangeShapes Go.WideShapes Go.ChangeAt Go.RowKit
theorem lifted (os:Os)(started:os.Started)(H:Type)(enc:TypeId×Value->H):
  ReturnsInHanded {} Tryz.checked os 5 .any (fun w args=>(Rows.storyLinesSpec.pre enc Tryz.checked.prog Tryz.f5 [] false w args/\laidMetH Tryz.prog tX w)/\sizedMet enc Tryz.checked.prog Tryz.f5 (OpenSpec.ofChange Rows.storyLinesSpec) false w args)
   (Rows.storyLinesSpec.post enc Tryz.prog Tryz.f5 false true false false):=by
 refine YY (s:=Rows.storyLinesSpec) started ah Tryz.func5
  (ChangeSpec.witness_shaped (enc:=enc) (C:=Tryz.checked) (os:=os) (X:=fun w _=>laidMetH Tryz.prog tX w) false (World.laidAll Tryz.prog os tX) #[.slice none 0 0,.slice none 0 0] 8 (World.laidAll_os _ _ _)
   (World.shaped_of_ZipB ah ah) ah ah ah (YX os _)) ?_
 intro W base args ds gs before FG hW hG;have hval:∀(j:Nat) t v,Tryz.f5.params[j]? =some t->args[j]? =some v->Value.okWide Tryz.prog W .any base t v:=FG;have Qz:=hW;obtain⟨p,q,ux,hV,rfl,IE,cP⟩:=hW;have hA:DataW.TrodAll enc Tryz.prog W 0 (fun _=>true) true Tryz.f5.params.toList args.toList ds p:=ux;rw[Tryz.params5] at hA hval;obtain⟨v0,vs0,d0,ds0,p0,q0,Ce,rfl,rfl,h0,r0⟩:=trodAll_cons hA;obtain⟨v1,vs1,d1,ds1,p1,q1,rfl,rfl,rfl,h1,r1⟩:=trodAll_cons r0;obtain⟨rfl,rfl,rfl⟩:=trodAll_nil r1
 obtain rfl:args=#[v0,v1]:=by cases args;simp_all
 obtain⟨rfl,rfl⟩:=trodVars_none hV;have k0:=h0
 have QA:∀x∈p0,x.block<W.heap.size:=by obtain⟨m,hm⟩:=k0;exact DF m _ _ _ hm
 obtain⟨a0,c0,l0,rfl,i0,e0,b0⟩:=FA (hval 0 22 v0 rfl rfl) h0;have k1:=h1
 have Jw:∀x∈p1,x.block<W.heap.size:=by obtain⟨m,hm⟩:=k1;exact DF m _ _ _ hm
 obtain⟨a1,c1,l1,rfl,i1,e1,b1⟩:=FA (hval 1 22 v1 rfl rfl) h1;clear ux FG
 refine(aFA l0 l1 a0 a1 c0 c1 W i0 e0 b0 i1 e1 b1 hG).mono fun e W' ⟨he,wz⟩=> ?_
 subst he;exact⟨_,rfl,_,_,_,[],_,[],Qz,trodAll_mk1 (shut_bool Tryz.underlying4 _),(trodAll_cons_mk (Below.trod laidOut ah (ni ah) k0 wz QA) (trodAll_cons_mk (Below.trod laidOut ah (ni ah) k1 wz Jw) trodAll_mk0)),rfl,wz.frame _,fun h=>by cases h⟩
theorem c01:Rows.storyLinesRow.wf (OpenSpec.ofChange Rows.storyLinesSpec)=true:=ah
theorem c02:mapsRowed Tryz.checked.prog=true:=ah
theorem c03:Tryz.f5.params.all (Tryz.checked.prog.readableRec ·)=true:=ah
theorem c04:namedTie Tryz.checked.prog Rows.storyLinesRow.named Rows.storyLinesSpec.vars=true:=ah
theorem c05:(Rows.storyLinesRow.inPlace==Tryz.checked.prog.inPlace 5)=true:=ah
theorem c06:(Rows.storyLinesRow.unfollowed==Tryz.checked.prog.unfollowed 5)=true:=ah
theorem c07:(Rows.storyLinesRow.recurses==Tryz.checked.prog.recurses 5)=true:=ah
theorem c08:(Rows.storyLinesRow.named==Tryz.checked.prog.varsNamed 5)=true:=ah
theorem c09:(Rows.storyLinesRow.plainKeys==Tryz.checked.prog.plainKeys)=true:=ah
theorem c10:Tryz.checked.prog.stopsHeard=true:=ah
theorem closed:joinedFacts Tryz.checked.prog 5 Tryz.f5 Rows.storyLinesSpec Rows.storyLinesRow=true:=by
 unfold joinedFacts;rw[c01,c02,c03,c04,c05,c06,c07,c08,c09,c10,show laidOutB Tryz.checked.prog=true from laidOut];kernel_rfl
theorem over:Rows.storyLinesRow.holds Tryz.pinned (OpenSpec.ofChange Rows.storyLinesSpec):=
 OpenClaim.holds_of_wide 5 Tryz.f5 rfl rfl rfl rfl rfl rfl rfl ⟨rfl,rfl,rfl,rfl,rfl⟩ rfl rfl rfl rfl rfl ah Tryz.func5 closed
  (ni ah) (by unfold Func.isWrapper;first|(rw[aq (by decide+kernel)];kernel_rfl)|(rw[af (by decide+kernel)];exact⟨rfl,rfl⟩))
  (fun os started H enc _=>lifted os started H enc)
theorem e01:Rows.storyLinesRow.wfByText (OpenSpec.ofChange Rows.storyLinesSpec)=true:=ah
theorem e02:Tryz.pinned.checked.prog.mainIs=some (true,"88d78bb3b2d93f13657459ac48920b8bb0307b7c6a905cd56d26088ceb0a7ff2".toList):=ah
theorem e03:Tryz.prog.funcNamed "simproof/simprooflaw29.StoryLines" =some 5:=ah
theorem e04:true=Tryz.pinned.checked.prog.looks []:=ah
theorem e05:false=Rows.storyLinesRow.goesBy Tryz.pinned.checked.prog:=ah
theorem e06:([22,22].all fun u=> !Tryz.prog.wantsStandIn u)=true:=ah
theorem proved:Rows.StoryLinesCardSaid:=
 Claim7.holds_tied_plain_at .later [] [.data,.data,.data,.data,.sentinel,.sentinel,.pinned] true (true,"88d78bb3b2d93f13657459ac48920b8bb0307b7c6a905cd56d26088ceb0a7ff2") true
  over (fun _ h=>by cases h) e01 (fun _ h=>by cases h) storyLines_row_tie rfl ⟨rfl,rfl⟩ e02 rfl
  (fun f fn hf Cr=>by
   obtain rfl:f=5:=dX (e03.symm.trans hf)|>.symm
   obtain rfl:fn=Tryz.f5:=(dX (Tryz.func5.symm.trans Cr)).symm
   exact⟨e04,fun j t ht=>by
    rw[Tryz.params5] at ht
    have hm:t∈[22,22]:=by simpa using Array.mem_of_getElem? ht
    exact(show Tryz.prog.wantsStandIn t=false by simpa using fq.1 e06 t hm)⟩)
  e05
end storyLines
end Go.Proofs.YtkanpepkdcmpmaaGreatDoor
