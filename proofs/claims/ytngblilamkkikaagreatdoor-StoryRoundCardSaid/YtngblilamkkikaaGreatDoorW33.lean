import Derived.Test.YtngblilamkkikaaGreatDoorW0
set_option maxHeartbeats 40000000
set_option maxRecDepth 100000
set_option linter.all false
namespace Go.Proofs.YtngblilamkkikaaGreatDoor
section
open Go.RowKit
def kp (l:List Ask):List Int:=l.flatMap Ask.key
theorem ahG (a:Ask)(l:List Ask):kp (a::l)=a.key++kp l:=rfl
theorem awo (a b:Ask)(l m:List Ask):aK (kp (a::l)) (kp (b::m))=if aK a.key b.key !=0 then aK a.key b.key else aK (kp l) (kp m):=by
 rw[ahG,ahG,EU a.key b.key _ _ rfl]
theorem awq (l m:List Ask)(h:l=[]\/m=[]):aK (kp l) (kp m)=gB l.length m.length:=by
 rcases h with rfl|rfl
 ·cases m with
  |nil=>rfl
  |cons b m=>simp[kp,Ask.key,aK,gB]
 ·cases l with
  |nil=>rfl
  |cons b m=>simp[kp,Ask.key,aK,gB]<;>omega
theorem awr (l m:List Ask)(v u:Value)(w:World)(hl:je w v l)(hm:je w u m):
  Calls Tryz.prog 76 #[v,u,.func (.func 77) #[] #[]] w fun e w'=>e=.returned (I (aK (kp l) (kp m)))/\ay w w':=by
 obtain⟨ka,ca,rfl,jf⟩:=hl.open;obtain⟨kb,cb,rfl,mu⟩:=hm.open;have MS:(l.length<=m.length)\/(m.length<l.length):=ab
 rcases MS with hle|hle
 all_goals
  have sg:∀k,¬(k<l.length/\k<m.length)->k<=l.length->k<=m.length->l.drop k=[]\/m.drop k=[]:=by
   intro k h1 h2 h3;by_cases h4:k<l.length
   ·right;exact sV ab
   ·left;exact sV ab
  have aws:=ae sg;clear sg;go_enter Tryz.func76,Tryz.ntmps76;go_wp2_with fail;go_loopw [14] (fun i wr=>∃k:Nat,k<=l.length/\k<=m.length/\i=.int .i64 k/\ay w wr/\aK (kp l) (kp m)=aK (kp (l.drop k)) (kp (m.drop k))) (fun i _=>l.length-(intOf i).toNat)
  case atStart=>exact⟨0,ab,ab,rfl,Below.refl _ _,ai⟩
  case round=>
   obtain⟨k,hk,nJ,rfl,hB,hE⟩:=hrel;have HE:=ae hE;clear hE;by_cases hlt:k<l.length/\k<m.length
   ·obtain⟨vH,fb⟩:=hlt;obtain⟨b,o,rfl,x0,x1,x2,x3,x4,x5,x6⟩:=(hl.kept hB aA).at (i:=k) (x:=l[k]) (by simp[vH]);obtain⟨b',o',rfl,y0,y1,y2,y3,y4,y5,y6⟩:=(hm.kept hB aA).at (i:=k) (x:=m[k]) (by simp[fb])
    have Hd:=ae (show aK (kp l) (kp m)=if aK l[k].key m[k].key !=0 then aK l[k].key m[k].key else aK (kp (l.drop (k+1))) (kp (m.drop (k+1))) by
     rw[HE.out,List.drop_eq_getElem_cons vH,List.drop_eq_getElem_cons fb,awo])
    by_cases hx:aK l[k].key m[k].key=0
    ·have hq:(aK l[k].key m[k].key !=0)=false:=by simp[hx]
     have hr:=ae (Hd.out.trans (af (by simp[hx])));clear hx;go_wp2_with fail;go_still_tail 9,ah;change wpList _ _ _ _ _ wr.drew;go_wp2_with fail;refine(acs l[k] m[k] _).mono ?_;rintro e w1 ⟨rfl,aM⟩;have nw:=hB.drew.trans (aM.mono hB.size);go_wp2_with fail;go_roundw
     case rel=>exact⟨k+1,ab,ab,by go_num,nw,hr.out⟩
     case measure=>simp[intOf];omega
    ·have hq:(aK l[k].key m[k].key !=0)=true:=by simp[hx]
     have hr:=ae (Hd.out.trans (aj (by simp[hx])));clear hx;go_wp2_with fail;go_still_tail 9,ah;change wpList _ _ _ _ _ wr.drew;go_wp2_with fail;refine(acs l[k] m[k] _).mono ?_;rintro e w1 ⟨rfl,aM⟩;have nw:=hB.drew.trans (aM.mono hB.size);go_wp2_with fail;go_ret;exact⟨nF hr.out.symm,nw⟩
   ·have hr:=ae (show aK (kp l) (kp m)=gB l.length m.length by
     rw[HE.out,awq _ _ (aws.out k hlt hk nJ),nf,nf];have:((l.length-k:Nat):Int)=(l.length:Int)-k:=ab;have h2:((m.length-k:Nat):Int)=(m.length:Int)-k:=ab;rw[this,h2];simp only[gB]
     repeat' split
     all_goals omega)
    have qM:(k=l.length/\l.length<=m.length)\/(k=m.length/\m.length<l.length):=ab;go_wp2_with fail;refine(PK l.length m.length _).mono ?_;rintro e w1 ⟨rfl,rfl⟩;go_wp2_with fail;go_ret;exact⟨nF hr.out.symm,hB⟩
theorem ahH (s t:az)(v u:Value)(w:World)(hs:s.In w v)(ht:t.In w u):
  Calls Tryz.prog 30 #[v,u] w fun e w'=>e=.returned (I (aK s.key t.key))/\ay w w':=by
 obtain⟨va,vs,rfl,oM,Bm⟩:=hs;obtain⟨ka,ca,rfl,Gm⟩:=oM.open;obtain⟨kb,cb,rfl,_⟩:=Bm.open;obtain⟨ua,us,rfl,Bn,sC⟩:=ht;obtain⟨kc,cc,rfl,_⟩:=Bn.open;obtain⟨kd,cd,rfl,_⟩:=sC.open;have hsp:aK s.key t.key=if aK s.ev.ints t.ev.ints !=0 then aK s.ev.ints t.ev.ints else aK (kp s.asks) (kp t.asks):=EU s.ev.ints t.ev.ints _ _ rfl;have vM:=ae hsp;clear hsp;simp only[az.val,az.row];by_cases hx:aK s.ev.ints t.ev.ints=0
 ·have hq:(aK s.ev.ints t.ev.ints !=0)=false:=by simp[hx]
  have hr:=ae (vM.out.trans (af (by simp[hx])));clear hx;unfold Ev.ints at hq;go_enter Tryz.func30,Tryz.ntmps30;go_wp2_with fail;refine(acr _ _ _ _ _ _ _ _ _ _ _ _ _ _ _ _ _).mono ?_;rintro e w1 ⟨rfl,aM⟩;have hcc:=ym aM;have fM:=(bH.start w _ _ _).call aM;have mO:=fM.1.cell;have hd2:=fM.2.1.cell;clear hcc;go_wp2_with fail;refine(awr s.asks t.asks _ _ _ (oM.kept fM.2.2.1 aA) (Bn.kept fM.2.2.1 aA)).mono ?_;rintro e w2 ⟨rfl,cn⟩;go_wp2_with fail;go_ret;exact⟨nF hr.out.symm,(fM.call cn).2.2.1⟩
 ·have hq:(aK s.ev.ints t.ev.ints !=0)=true:=by simp[hx]
  have hr:=ae (vM.out.trans (aj (by simp[hx])));clear hx;unfold Ev.ints at hq;go_enter Tryz.func30,Tryz.ntmps30;go_wp2_with fail;refine(acr _ _ _ _ _ _ _ _ _ _ _ _ _ _ _ _ _).mono ?_;rintro e w1 ⟨rfl,aM⟩;have fM:=(bH.start w _ _ _).call aM;go_wp2_with fail;go_ret;exact⟨nF hr.out.symm,fM.2.2.1⟩
end
section
open Go.RowKit
def Gn (t:az):Bool:=t.ev.kind==3||t.ev.kind==5||t.ev.kind==6
def vN (m:bQ)(t:az):Bool:=m.copy==0 && m.node==t.ev.msg.node && m.handler==t.ev.msg.handler && m.count==t.ev.msg.count && m.index==t.ev.msg.index
theorem ahI (a b:az):fk a b=(Gn b && a.sent.any fun m=>vN m b):=rfl
end
section
open Go.RowKit
theorem awt (t:az)(v:Value)(w:World)(ht:t.In w v)(h:Gn t=false):
  Calls Tryz.prog 211 #[v] w fun e w'=>e=.returned (.pointer none)/\ay w w':=by
 obtain⟨ua,us,rfl,Bn,sC⟩:=ht;simp only[Gn,Bool.or_eq_false_iff] at h;obtain⟨⟨h3,h5⟩,h6⟩:=h;simp only[az.val,az.row];go_enter Tryz.func211,Tryz.ntmps211;go_wp2;go_ret;exact⟨rfl,dz⟩
theorem awu (t:az)(v:Value)(w:World)(ht:t.In w v)(h:Gn t=true):
  Calls Tryz.prog 211 #[v] w fun e w'=>∃g,e=.returned (.pointer (some ⟨g,0,none⟩))/\w.heap.size<=g/\
   w'.heap[g]? =some (.cells #[I t.ev.msg.node,I t.ev.msg.handler,I t.ev.msg.count,I t.ev.msg.index,I 0] 65 (0,0))/\ay w w':=by
 obtain⟨ua,us,rfl,Bn,sC⟩:=ht
 have q:((t.ev.kind==3)=true)\/((t.ev.kind==3)=false/\(t.ev.kind==5)=true)\/((t.ev.kind==3)=false/\(t.ev.kind==5)=false/\(t.ev.kind==6)=true):=by
  unfold Gn at h;revert h;cases(t.ev.kind==3)<;>cases(t.ev.kind==5)<;>cases(t.ev.kind==6)<;>simp
 clear h;simp only[az.val,az.row]
 rcases q with q1|⟨q1,q2⟩|⟨q1,q2,q3⟩
 all_goals
  go_enter Tryz.func211,Tryz.ntmps211;go_wp2;go_ret;exact⟨_,rfl,ai,heap_alloc2_new _ _ _,dz⟩
theorem awv (m:bQ)(q g:Nat)(b0 b1 b2 b3 b4:Int)(w:World)(hq:w.cell? ⟨q,0,none⟩=some (.pointer (some ⟨g,0,none⟩)))(hg:ax w g #[I b0,I b1,I b2,I b3,I b4]):
  Calls Tryz.prog 213 #[.agg #[I m.node,I m.handler,I m.count,I m.index,I m.copy],.pointer (some ⟨q,0,none⟩)] w fun e w'=>e=.returned (.bool (cF m.ints [b0,b1,b2,b3,b4]))/\ay w w':=by
 have fu:q<w.heap.size:=by simpa using eh _ _ hq
 have hb:ay w (w.alloc (.cells #[I m.node,I m.handler,I m.count,I m.index,I m.copy] 65)):=dz;have Dt:=(hb.cell (p:=⟨q,0,none⟩) fu).trans hq;have kj:=(hg.alloc (.cells #[I m.node,I m.handler,I m.count,I m.index,I m.copy] 65)).cell;have Ns:=(ax.new w #[I m.node,I m.handler,I m.count,I m.index,I m.copy] 65).cell;have Hb:=ae hb;clear hb hg;go_enter Tryz.func213,Tryz.ntmps213;go_wp2;go_quiet (fail);go_wp2;go_ret;exact⟨rfl,below_drewN Hb.out nq⟩
theorem aww (m:bQ)(t:az):cF m.ints [t.ev.msg.node,t.ev.msg.handler,t.ev.msg.count,t.ev.msg.index,0]=vN m t:=by
 rw[qy];simp[cF,vN,bQ.ints];constructor
 ·rintro⟨a,b,c,d,e⟩;exact⟨⟨⟨⟨e,a⟩,b⟩,c⟩,d⟩
 ·rintro⟨⟨⟨⟨e,a⟩,b⟩,c⟩,d⟩;exact⟨a,b,c,d,e⟩
theorem awx (l:List bQ)(t:az)(v:Value)(q g:Nat)(w:World)(hl:kD w v l)(hq:w.cell? ⟨q,0,none⟩=some (.pointer (some ⟨g,0,none⟩)))
  (hg:ax w g #[I t.ev.msg.node,I t.ev.msg.handler,I t.ev.msg.count,I t.ev.msg.index,I 0]):
  Calls Tryz.prog 245 #[v,.func (.func 213) #[] #[.pointer (some ⟨q,0,none⟩)]] w fun e w'=>∃r:Int,e=.returned (I r)/\decide (0<=r)=(l.any fun m=>vN m t)/\ay w w':=by
 obtain⟨ka,ca,rfl,jf⟩:=hl.open
 have fu:q<w.heap.size:=by simpa using eh _ _ hq
 have rA:=hg.lt
 have c:∀(m:bQ) (W:World),ay w W->Calls Tryz.prog 213 #[.agg #[I m.node,I m.handler,I m.count,I m.index,I m.copy],.pointer (some ⟨q,0,none⟩)] W fun e w'=>e=.returned (.bool (vN m t))/\ay W w':=fun m W hB=>by
  have:=awv m q g _ _ _ _ _ W ((hB.cell (p:=⟨q,0,none⟩) fu).trans hq) (hg.kept hB rA);rwa[aww] at this
 have C:=ae c;clear c hq hg;go_enter Tryz.func245,Tryz.ntmps245;go_wp2_with fail;go_loopw [8] (fun i wr=>∃k:Nat,k<=l.length/\i=.int .i64 k/\ay w wr/\(∀j<k,∀m,l[j]? =some m->vN m t=false)) (fun i _=>l.length-(intOf i).toNat)
 case atStart=>exact⟨0,ab,rfl,Below.refl _ _,fun j hj=>absurd hj ab⟩
 case round=>
  obtain⟨k,hk,rfl,hB,hE⟩:=hrel;have HE:=ae hE;clear hE;by_cases hlt:k<l.length
  ·obtain⟨b,o,rfl,x0,x1,x2,x3,x4⟩:=(hl.kept hB aA).at (i:=k) (x:=l[k]) (by simp[hlt]);have c1:=C.out l[k] wr hB;by_cases hx:vN l[k] t=true
   ·rw[hx] at c1;have C1:=ae c1;have Hx:=ae hx;clear c1 hx;go_wp2_with fail;refine C1.out.mono ?_;rintro e w1 ⟨rfl,aM⟩;have nw:=hB.trans (aM.mono hB.size);go_wp2_with fail;go_ret;refine⟨k,rfl,?_,nw⟩;have:(l.any fun m=>vN m t)=true:=Ae.2 ⟨_,cA hlt,Hx.out⟩;rw[this];simp
   ·have qL:vN l[k] t=false:=by simpa using hx
    rw[qL] at c1;have C1:=ae c1;have Hx:=ae qL;clear c1 hx qL;go_wp2_with fail;refine C1.out.mono ?_;rintro e w1 ⟨rfl,aM⟩;have nw:=hB.trans (aM.mono hB.size);go_wp2_with fail;go_roundw
    case rel=>
     refine⟨k+1,ab,by go_num,nw,?_⟩;intro j hj m hm;by_cases iC:j=k
     ·subst iC;rw[cy hlt] at hm;cases hm;exact Hx.out
     ·exact HE.out j ab m hm
    case measure=>simp[intOf];omega
  ·go_wp2_with fail;go_ret;refine⟨-1,rfl,?_,hB⟩
   have:(l.any fun m=>vN m t)=false:=by
    rw[Ls];intro h0;obtain⟨m,hm,h1⟩:=Ae.1 h0;obtain⟨j,hj⟩:=yb hm;rw[HE.out j (by have:=(bG.1 hj).1;omega) m hj] at h1;cases h1
   rw[this];simp
theorem awy (l:List bQ)(t:az)(v:Value)(q g:Nat)(w:World)(hl:kD w v l)(hq:w.cell? ⟨q,0,none⟩=some (.pointer (some ⟨g,0,none⟩)))
  (hg:ax w g #[I t.ev.msg.node,I t.ev.msg.handler,I t.ev.msg.count,I t.ev.msg.index,I 0]):
  Calls Tryz.prog 212 #[v,.func (.func 213) #[] #[.pointer (some ⟨q,0,none⟩)]] w fun e w'=>e=.returned (.bool (l.any fun m=>vN m t))/\ay w w':=by
 have C:=ae (awx l t v q g w hl hq hg);clear hl hq hg;go_enter Tryz.func212,Tryz.ntmps212;go_wp2_with fail;refine C.out.mono ?_;rintro e w1 ⟨r,rfl,hr,aM⟩;have Hr:=ae hr;clear hr;go_wp2_with fail;go_ret;exact⟨jV Hr.out,aM⟩
theorem awz (s t:az)(v u:Value)(w:World)(hs:s.In w v)(ht:t.In w u):
  Calls Tryz.prog 153 #[v,u] w fun e w'=>e=.returned (.bool (fk s t))/\ay w w':=by
 have cM:=ht;obtain⟨va,vs,rfl,oM,Bm⟩:=hs;obtain⟨ka,ca,rfl,_⟩:=oM.open;obtain⟨kb,cb,rfl,_⟩:=Bm.open;obtain⟨ua,us,rfl,Bn,sC⟩:=ht;obtain⟨kc,cc,rfl,_⟩:=Bn.open;obtain⟨kd,cd,rfl,_⟩:=sC.open;by_cases h:Gn t=true
 ·have hr:=ae (show fk s t=(s.sent.any fun m=>vN m t) by rw[ahI,h];rfl)
  have c:∀W,ay w W->_:=fun W hB=>awu t _ W (cM.kept hB aA) h
  simp only[az.val,az.row] at c⊢;have C:=ae c;clear c cM h;go_enter Tryz.func153,Tryz.ntmps153;go_wp2_with fail;refine(C.out _ dz).mono ?_;rintro e w1 ⟨g,rfl,hg,sE,aM⟩;have fM:=(bH.start w _ _ _).call aM;have mO:=(fM.alloc (.cells #[.pointer (some ⟨g,0,none⟩)] 312)).1.cell;have lu:ax (w1.alloc (.cells #[.pointer (some ⟨g,0,none⟩)] 312)) w1.heap.size #[.pointer (some ⟨g,0,none⟩)]:=ax.new _ _ _;have cC:ax (w1.alloc (.cells #[.pointer (some ⟨g,0,none⟩)] 312)) g #[I t.ev.msg.node,I t.ev.msg.handler,I t.ev.msg.count,I t.ev.msg.index,I 0]:=(ane sE).alloc _;have DB:=(fM.alloc (.cells #[.pointer (some ⟨g,0,none⟩)] 312)).2.2.1;go_wp2_with fail;refine(awy s.sent t _ _ g _ (Bm.kept DB aA) (lu.cell 0) cC).mono ?_;rintro e w2 ⟨rfl,cn⟩;go_wp2_with fail;go_ret;exact⟨jV hr.out.symm,Below.then DB cn⟩
 ·have h':Gn t=false:=by simpa using h
  have hr:=ae (show fk s t=false by rw[ahI,h'];rfl)
  have c:∀W,ay w W->_:=fun W hB=>awt t _ W (cM.kept hB aA) h'
  simp only[az.val,az.row] at c⊢;have C:=ae c;clear c cM h h';go_enter Tryz.func153,Tryz.ntmps153;go_wp2_with fail;refine(C.out _ dz).mono ?_;rintro e w1 ⟨rfl,aM⟩;have fM:=(bH.start w _ _ _).call aM;go_wp2_with fail;go_ret;exact⟨jV hr.out.symm,(fM.alloc _).2.2.1⟩
theorem ahJ {s t:az}{v u:Value}{w W:World}{x:Bool}(hs:s.In w v)(ht:t.In w u)(hB:ay w W)(hx:fk s t=x):
  Calls Tryz.prog 153 #[v,u] W fun e w'=>e=.returned (.bool x)/\ay W w':=by
 rw[<-hx];exact awz s t v u W (hs.kept hB aA) (ht.kept hB aA)
theorem awA (s t:az)(v u:Value)(w:World)(hs:s.In w v)(ht:t.In w u):
  Calls Tryz.prog 110 #[v,u] w fun e w'=>e=.returned (.bool (gJ s t))/\ay w w':=by
 have f1:∀W x,ay w W->fk s t=x->Calls Tryz.prog 153 #[v,u] W fun e w'=>e=.returned (.bool x)/\ay W w':=fun W x hB hx=>ahJ hs ht hB hx
 have f2:∀W x,ay w W->fk t s=x->Calls Tryz.prog 153 #[u,v] W fun e w'=>e=.returned (.bool x)/\ay W w':=fun W x hB hx=>ahJ ht hs hB hx
 obtain⟨va,vs,rfl,oM,Bm⟩:=hs;obtain⟨ua,us,rfl,Bn,sC⟩:=ht;obtain⟨ka,ca,rfl,_⟩:=oM.open;obtain⟨kb,cb,rfl,_⟩:=Bm.open;obtain⟨kc,cc,rfl,_⟩:=Bn.open;obtain⟨kd,cd,rfl,_⟩:=sC.open;simp only[az.val,az.row] at f1 f2⊢;have F1:=ae f1;have F2:=ae f2;clear f1 f2;by_cases h1:s.ev.node=t.ev.node
 ·have q1:(s.ev.node==t.ev.node)=true:=by simp[h1]
  have hr:=ae (show gJ s t=true by simp[gJ,h1]);clear h1;go_enter Tryz.func110,Tryz.ntmps110;go_wp2_with fail;go_ret;exact⟨jV hr.out.symm,dz⟩
 ·have q1:(s.ev.node==t.ev.node)=false:=by simp[h1]
  clear h1
  have Sh:gJ s t=((s.aX && t.aX)||fk s t||fk t s):=by
   have:gJ s t=((s.ev.node==t.ev.node)||(s.aX && t.aX)||fk s t||fk t s):=rfl;rw[this,q1];simp
  have Si:=ae Sh;clear Sh
  have key:∀so nE:Bool,Hid (s.aX=so)->Hid (t.aX=nE)->Calls Tryz.prog 110 #[.agg #[I s.ev.kind,I s.ev.node,I s.ev.arg,I s.ev.msg.node,I s.ev.msg.handler,I s.ev.msg.count,I s.ev.msg.index,I s.ev.msg.copy,.slice ka s.asks.length ca,.bool so,.slice kb s.sent.length cb],
    .agg #[I t.ev.kind,I t.ev.node,I t.ev.arg,I t.ev.msg.node,I t.ev.msg.handler,I t.ev.msg.count,I t.ev.msg.index,I t.ev.msg.copy,.slice kc t.asks.length cc,.bool nE,.slice kd t.sent.length cd]] w fun e w'=>e=.returned (.bool (gJ s t))/\ay w w':=by
   intro so nE Nt Nu;have F1:=F1.out;have F2:=F2.out;rw[Nt.out,Nu.out] at F1 F2;have F1:=ae F1;have F2:=ae F2;clear oM Bm Bn sC;cases so
   ·cases nE
    ·have hd:gJ s t=(fk s t||fk t s):=by rw[Si.out,Nt.out,Nu.out];simp
     have Hd:=ae hd;clear hd;by_cases g1:fk s t=true
     ·have hr:=ae (show gJ s t=true by rw[Hd.out,g1];simp);have G1:=ae g1;clear g1;go_enter Tryz.func110,Tryz.ntmps110
      go_wp2_with (go_at_call 153;refine(F1.out _ true dz G1.out).mono ?_;rintro e w1 ⟨rfl,aM⟩;have hcc:=ym aM)
      go_ret;exact⟨jV hr.out.symm,Below.then dz aM⟩
     ·by_cases g2:fk t s=true
      ·have hr:=ae (show gJ s t=true by rw[Hd.out,g2];simp);have G1:=ae (show fk s t=false by simpa using g1);have G2:=ae g2;clear g1 g2;go_enter Tryz.func110,Tryz.ntmps110;go_wp2_with fail;refine(F1.out _ false dz G1.out).mono ?_;rintro e w1 ⟨rfl,aM⟩;have hcc:=ym aM;go_wp2_with fail;refine(F2.out _ true (Below.then dz aM) G2.out).mono ?_;rintro e w2 ⟨rfl,cn⟩;go_wp2_with fail;go_ret;exact⟨jV hr.out.symm,Below.then (Below.then dz aM) cn⟩
      ·have hr:=ae (show gJ s t=false by rw[Hd.out];simp[g1,g2]);have G1:=ae (show fk s t=false by simpa using g1);have G2:=ae (show fk t s=false by simpa using g2);clear g1 g2;go_enter Tryz.func110,Tryz.ntmps110;go_wp2_with fail;refine(F1.out _ false dz G1.out).mono ?_;rintro e w1 ⟨rfl,aM⟩;have hcc:=ym aM;go_wp2_with fail;refine(F2.out _ false (Below.then dz aM) G2.out).mono ?_;rintro e w2 ⟨rfl,cn⟩;go_wp2_with fail;go_ret;exact⟨jV hr.out.symm,Below.then (Below.then dz aM) cn⟩
    ·have hd:gJ s t=(fk s t||fk t s):=by rw[Si.out,Nt.out,Nu.out];simp
     have Hd:=ae hd;clear hd;by_cases g1:fk s t=true
     ·have hr:=ae (show gJ s t=true by rw[Hd.out,g1];simp);have G1:=ae g1;clear g1;go_enter Tryz.func110,Tryz.ntmps110
      go_wp2_with (go_at_call 153;refine(F1.out _ true dz G1.out).mono ?_;rintro e w1 ⟨rfl,aM⟩;have hcc:=ym aM)
      go_ret;exact⟨jV hr.out.symm,Below.then dz aM⟩
     ·by_cases g2:fk t s=true
      ·have hr:=ae (show gJ s t=true by rw[Hd.out,g2];simp);have G1:=ae (show fk s t=false by simpa using g1);have G2:=ae g2;clear g1 g2;go_enter Tryz.func110,Tryz.ntmps110;go_wp2_with fail;refine(F1.out _ false dz G1.out).mono ?_;rintro e w1 ⟨rfl,aM⟩;have hcc:=ym aM;go_wp2_with fail;refine(F2.out _ true (Below.then dz aM) G2.out).mono ?_;rintro e w2 ⟨rfl,cn⟩;go_wp2_with fail;go_ret;exact⟨jV hr.out.symm,Below.then (Below.then dz aM) cn⟩
      ·have hr:=ae (show gJ s t=false by rw[Hd.out];simp[g1,g2]);have G1:=ae (show fk s t=false by simpa using g1);have G2:=ae (show fk t s=false by simpa using g2);clear g1 g2;go_enter Tryz.func110,Tryz.ntmps110;go_wp2_with fail;refine(F1.out _ false dz G1.out).mono ?_;rintro e w1 ⟨rfl,aM⟩;have hcc:=ym aM;go_wp2_with fail;refine(F2.out _ false (Below.then dz aM) G2.out).mono ?_;rintro e w2 ⟨rfl,cn⟩;go_wp2_with fail;go_ret;exact⟨jV hr.out.symm,Below.then (Below.then dz aM) cn⟩
   ·cases nE
    ·have hd:gJ s t=(fk s t||fk t s):=by rw[Si.out,Nt.out,Nu.out];simp
     have Hd:=ae hd;clear hd;by_cases g1:fk s t=true
     ·have hr:=ae (show gJ s t=true by rw[Hd.out,g1];simp);have G1:=ae g1;clear g1;go_enter Tryz.func110,Tryz.ntmps110
      go_wp2_with (go_at_call 153;refine(F1.out _ true dz G1.out).mono ?_;rintro e w1 ⟨rfl,aM⟩;have hcc:=ym aM)
      go_ret;exact⟨jV hr.out.symm,Below.then dz aM⟩
     ·by_cases g2:fk t s=true
      ·have hr:=ae (show gJ s t=true by rw[Hd.out,g2];simp);have G1:=ae (show fk s t=false by simpa using g1);have G2:=ae g2;clear g1 g2;go_enter Tryz.func110,Tryz.ntmps110;go_wp2_with fail;refine(F1.out _ false dz G1.out).mono ?_;rintro e w1 ⟨rfl,aM⟩;have hcc:=ym aM;go_wp2_with fail;refine(F2.out _ true (Below.then dz aM) G2.out).mono ?_;rintro e w2 ⟨rfl,cn⟩;go_wp2_with fail;go_ret;exact⟨jV hr.out.symm,Below.then (Below.then dz aM) cn⟩
      ·have hr:=ae (show gJ s t=false by rw[Hd.out];simp[g1,g2]);have G1:=ae (show fk s t=false by simpa using g1);have G2:=ae (show fk t s=false by simpa using g2);clear g1 g2;go_enter Tryz.func110,Tryz.ntmps110;go_wp2_with fail;refine(F1.out _ false dz G1.out).mono ?_;rintro e w1 ⟨rfl,aM⟩;have hcc:=ym aM;go_wp2_with fail;refine(F2.out _ false (Below.then dz aM) G2.out).mono ?_;rintro e w2 ⟨rfl,cn⟩;go_wp2_with fail;go_ret;exact⟨jV hr.out.symm,Below.then (Below.then dz aM) cn⟩
    ·have hr:=ae (show gJ s t=true by rw[Si.out,Nt.out,Nu.out];simp);go_enter Tryz.func110,Tryz.ntmps110;go_wp2_with fail;go_ret;exact⟨jV hr.out.symm,dz⟩
  exact key _ _ (ae rfl) (ae rfl)
end
section
open Go.RowKit
variable {B:Nat} {w w':World}
def iq:Nat:=2^64
theorem ofInt64(a:Nat)(ha:a<iq):(BitVec.ofInt 64 (a:Int)).toNat=a:=by
 rw[BitVec.ofInt_natCast,BitVec.toNat_ofNat];exact Nat.mod_eq_of_lt ha
theorem YV(x:Nat)(hx:x<iq):IntKind.u64.wrap ((x:Nat):Int)=(x:Int):=by
 have h2:((x:Nat):Int)<=18446744073709551615:=by
  have:x<18446744073709551616:=hx;omega
 exact IntWalk.u64_in _ ⟨ab,h2⟩
theorem u64_or(a b:Nat)(ha:a<iq)(hb:b<iq):bits .or .u64 (a:Int) (b:Int)=((a|||b:Nat):Int):=by
 have hx:a|||b<iq:=Lt ha hb
 show IntKind.u64.wrap ((BitVec.ofInt 64 (a:Int)|||BitVec.ofInt 64 (b:Int)).toNat:Int)=_
 rw[BitVec.toNat_or,ofInt64 a ha,ofInt64 b hb];exact YV _ hx
theorem u64_and(a b:Nat)(ha:a<iq)(hb:b<iq):bits .and .u64 (a:Int) (b:Int)=((a &&& b:Nat):Int):=by
 have hx:a &&& b<iq:=Nat.and_lt_two_pow _ hb
 show IntKind.u64.wrap ((BitVec.ofInt 64 (a:Int) &&& BitVec.ofInt 64 (b:Int)).toNat:Int)=_
 rw[BitVec.toNat_and,ofInt64 a ha,ofInt64 b hb];exact YV _ hx
theorem Sj(i:Nat)(h:i<64):2^i<iq:=Nat.pow_lt_pow_right ab h
theorem awB(m i:Nat)(hm:m<iq):(bits .and .u64 ((m:Int)/2^i) 1==1)=m.testBit i:=by
 have h1:((m:Int)/2^i)=((m/2^i:Nat):Int):=ai;have h2:m/2^i<iq:=Nat.lt_of_le_of_lt (Nat.div_le_self _ _) hm;rw[h1,show(1:Int)=((1:Nat):Int) from rfl,u64_and _ _ h2 aq,Nat.and_one_is_mod,Nat.testBit_eq_decide_div_mod_eq,qy];simp only[Cl,cP];omega
theorem ahK(b o c m i:Nat)(w:World)(hc:w.cell? ⟨b,o,none⟩=some (.int .u64 (m:Int)))(hm:m<iq)(hi:i<64):
  Calls Tryz.prog 63 #[.slice (some ⟨b,o,none⟩) 1 c,I i] w fun e w'=>e=.returned (.bool (m.testBit i))/\w=w':=by
 have h0:i/64=0:=ab;have DC:(i:Int)/64=0:=ab;have wA:(i:Int)%64=i:=ab;go_enter Tryz.func63,Tryz.ntmps63;go_wp2;go_ret;exact⟨jV (awB m i hm),rfl⟩
theorem awC(b o c m i:Nat)(w:World)(hc:w.cell? ⟨b,o,none⟩=some (.int .u64 (m:Int)))(hf:w.frozen? ⟨b,o,none⟩=false)(hm:m<iq)(hi:i<64):
  Calls Tryz.prog 107 #[.slice (some ⟨b,o,none⟩) 1 c,I i] w fun e w'=>e=.returned (.tuple #[])/\∃n,w'=(w.setCell ⟨b,o,none⟩ (.int .u64 ((m|||2^i:Nat):Int))).drewN n:=by
 have h0:i/64=0:=ab;have DC:(i:Int)/64=0:=ab;have wA:(i:Int)%64=i:=ab
 have hp:IntKind.u64.wrap ((2:Int)^i)=((2^i:Nat):Int):=by
  rw[show((2:Int)^i)=((2^i:Nat):Int) by simp];exact YV _ (Sj i hi)
 have Hr:=ae (show bits .or .u64 (m:Int) (IntKind.u64.wrap ((2:Int)^i))=((m|||2^i:Nat):Int) by rw[hp];exact u64_or m (2^i) hm (Sj i hi));clear hp;go_enter Tryz.func107,Tryz.ntmps107;go_wp2;go_region
 all_goals
  go_wp2;go_end0;refine⟨rfl,1,?_⟩;rw[Hr.out];rfl
theorem ahL(b o c b' o' c' m m':Nat)(w:World)(hc:w.cell? ⟨b,o,none⟩=some (.int .u64 (m:Int)))(hf:w.frozen? ⟨b,o,none⟩=false)(hm:m<iq)
  (hc':w.cell? ⟨b',o',none⟩=some (.int .u64 (m':Int))) (Jv:m'<iq):
  Calls Tryz.prog 62 #[.slice (some ⟨b,o,none⟩) 1 c,.slice (some ⟨b',o',none⟩) 1 c'] w fun e w'=>e=.returned (.tuple #[])/\w'=w.setCell ⟨b,o,none⟩ (.int .u64 ((m|||m':Nat):Int)):=by
 have Hr:=ae (u64_or m m' hm Jv);go_enter Tryz.func62,Tryz.ntmps62;go_wp2;refine wp_loop_rounds 2 ?_;rw[rounds_succ];go_wp2;rw[rounds_succ];go_wp2;go_end0;exact⟨rfl,by rw[Hr.out]⟩
def zx (w:World)(p:Value)(n:Nat)(f:Nat->Nat->Bool):Prop:=
 n<=64/\∃g gb c,p=.pointer (some ⟨g,0,none⟩)/\w.cell? ⟨g,0,none⟩=some (I n)/\w.cell? ⟨g,1,none⟩=some (.slice (some ⟨gb,0,none⟩) n c)/\
  ∀i<n,∃gi ci m,w.cell? ⟨gb,i,none⟩=some (.slice (some ⟨gi,0,none⟩) 1 ci)/\w.cell? ⟨gi,0,none⟩=some (.int .u64 ((m:Nat):Int))/\m<iq/\∀k<n,m.testBit k=f i k
theorem eK(hb:Below B w w')(hB:w.heap.size<=B){a:Addr}{v:Value}(h:w.cell? a=some v):w'.cell? a=some v:=by
 rw[hb.cell (p:=a) (iB (eh _ _ h) hB)];exact h
theorem zx.kept{p:Value}{n:Nat}{f:Nat->Nat->Bool}(h:zx w p n f)(hb:Below B w w')(hB:w.heap.size<=B):zx w' p n f:=by
 obtain⟨hn,g,gb,c,hp,h0,h1,hr⟩:=h;refine⟨hn,g,gb,c,hp,eK hb hB h0,eK hb hB h1,fun i hi=> ?_⟩;obtain⟨gi,ci,m,a,b,d⟩:=hr i hi;exact⟨gi,ci,m,eK hb hB a,eK hb hB b,d⟩
theorem ahM(g n i:Nat)(w:World)(h0:w.cell? ⟨g,0,none⟩=some (I n))(hi:i<n):
  Calls Tryz.prog 74 #[.pointer (some ⟨g,0,none⟩),I i] w fun e w'=>e=.returned (.bool true)/\w=w':=by
 go_enter Tryz.func74,Tryz.ntmps74;go_wp2;go_ret;exact⟨rfl,rfl⟩
theorem Kb(p:Value)(n:Nat)(f:Nat->Nat->Bool)(i k:Nat)(w:World)(h:zx w p n f)(hi:i<n)(hk:k<n):
  Calls Tryz.prog 29 #[p,I i,I k] w fun e w'=>e=.returned (.bool (f i k))/\w=w':=by
 obtain⟨hn,g,gb,c,rfl,h0,h1,hr⟩:=h;obtain⟨gi,ci,m,hc,hm,jf,hf⟩:=hr i hi;have Hf:=ae (hf k hk);have aDz:i<64:=ab;have awD:k<64:=ab;clear hr hf;go_enter Tryz.func29,Tryz.ntmps29;go_wp2_with fail;refine(ahM g n i _ h0 hi).mono ?_;rintro e w1 ⟨rfl,rfl⟩;go_wp2_with fail;refine(ahM g n k _ h0 hk).mono ?_;rintro e w1 ⟨rfl,rfl⟩;go_wp2_with fail;refine(ahK gi 0 ci m k _ hm jf awD).mono ?_;rintro e w1 ⟨rfl,rfl⟩;go_wp2_with fail;go_ret;exact⟨jV Hf.out,rfl⟩
end
end Go.Proofs.YtngblilamkkikaaGreatDoor
