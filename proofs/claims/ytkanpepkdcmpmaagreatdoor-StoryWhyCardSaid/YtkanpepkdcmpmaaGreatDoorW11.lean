import Derived.Test.YtkanpepkdcmpmaaGreatDoorW0
set_option maxHeartbeats 40000000
set_option maxRecDepth 100000
set_option linter.all false
namespace Go.Proofs.YtkanpepkdcmpmaaGreatDoor
section
open Go.RowKit
def lv (l:List Ask):List Int:=l.flatMap Ask.key
theorem ahp (a:Ask)(l:List Ask):lv (a::l)=a.key++lv l:=rfl
theorem auC (a b:Ask)(l m:List Ask):aM (lv (a::l)) (lv (b::m))=if aM a.key b.key !=0 then aM a.key b.key else aM (lv l) (lv m):=by
 rw[ahp,ahp,GH a.key b.key _ _ rfl]
theorem auD (l m:List Ask)(h:l=[]\/m=[]):aM (lv l) (lv m)=iu l.length m.length:=by
 rcases h with rfl|rfl
 ·cases m with
  |nil=>rfl
  |cons b m=>simp[lv,Ask.key,aM,iu]
 ·cases l with
  |nil=>rfl
  |cons b m=>simp[lv,Ask.key,aM,iu]<;>omega
theorem auE (l m:List Ask)(v u:Value)(w:World)(hl:jO w v l)(hm:jO w u m):
  Calls Tryz.prog 91 #[v,u,.func (.func 92) #[] #[]] w fun e w'=>e=.returned (I (aM (lv l) (lv m)))/\aw w w':=by
 obtain⟨ka,ca,rfl,gH⟩:=hl.open;obtain⟨kb,cb,rfl,kX⟩:=hm.open;have OI:(l.length<=m.length)\/(m.length<l.length):=ab
 rcases OI with hle|hle
 all_goals
  have tT:∀k,¬(k<l.length/\k<m.length)->k<=l.length->k<=m.length->l.drop k=[]\/m.drop k=[]:=by
   intro k h1 h2 h3;by_cases h4:k<l.length
   ·right;exact uG ab
   ·left;exact uG ab
  have auF:=ae tT;clear tT;go_enter Tryz.func91,Tryz.ntmps91;go_wp2_with fail;go_loopw [14] (fun i wr=>∃k:Nat,k<=l.length/\k<=m.length/\i=.int .i64 k/\aw w wr/\aM (lv l) (lv m)=aM (lv (l.drop k)) (lv (m.drop k))) (fun i _=>l.length-(intOf i).toNat)
  case atStart=>exact⟨0,ab,ab,rfl,Below.refl _ _,ai⟩
  case round=>
   obtain⟨k,hk,ow,rfl,hB,hE⟩:=hrel;have HE:=ae hE;clear hE;by_cases hlt:k<l.length/\k<m.length
   ·obtain⟨xp,db⟩:=hlt;obtain⟨b,o,rfl,x0,x1,x2,x3,x4,x5,x6⟩:=(hl.kept hB ax).at (i:=k) (x:=l[k]) (by simp[xp]);obtain⟨b',o',rfl,y0,y1,y2,y3,y4,y5,y6⟩:=(hm.kept hB ax).at (i:=k) (x:=m[k]) (by simp[db])
    have Hd:=ae (show aM (lv l) (lv m)=if aM l[k].key m[k].key !=0 then aM l[k].key m[k].key else aM (lv (l.drop (k+1))) (lv (m.drop (k+1))) by
     rw[HE.out,List.drop_eq_getElem_cons xp,List.drop_eq_getElem_cons db,auC])
    by_cases hx:aM l[k].key m[k].key=0
    ·have hq:(aM l[k].key m[k].key !=0)=false:=by simp[hx]
     have hr:=ae (Hd.out.trans (af (by simp[hx])));clear hx;go_wp2_with fail;go_still_tail 9,ah;change wpList _ _ _ _ _ wr.drew;go_wp2_with fail;refine(aef l[k] m[k] _).mono ?_;rintro e w1 ⟨rfl,aC⟩;have mJ:=hB.drew.trans (aC.mono hB.size);go_wp2_with fail;go_roundw
     case rel=>exact⟨k+1,ab,ab,by go_num,mJ,hr.out⟩
     case measure=>simp[intOf];omega
    ·have hq:(aM l[k].key m[k].key !=0)=true:=by simp[hx]
     have hr:=ae (Hd.out.trans (aj (by simp[hx])));clear hx;go_wp2_with fail;go_still_tail 9,ah;change wpList _ _ _ _ _ wr.drew;go_wp2_with fail;refine(aef l[k] m[k] _).mono ?_;rintro e w1 ⟨rfl,aC⟩;have mJ:=hB.drew.trans (aC.mono hB.size);go_wp2_with fail;go_ret;exact⟨lJ hr.out.symm,mJ⟩
   ·have hr:=ae (show aM (lv l) (lv m)=iu l.length m.length by
     rw[HE.out,auD _ _ (auF.out k hlt hk ow),ml,ml];have:((l.length-k:Nat):Int)=(l.length:Int)-k:=ab;have h2:((m.length-k:Nat):Int)=(m.length:Int)-k:=ab;rw[this,h2];simp only[iu]
     repeat' split
     all_goals omega)
    have tJ:(k=l.length/\l.length<=m.length)\/(k=m.length/\m.length<l.length):=ab;go_wp2_with fail;refine(Rv l.length m.length _).mono ?_;rintro e w1 ⟨rfl,rfl⟩;go_wp2_with fail;go_ret;exact⟨lJ hr.out.symm,hB⟩
theorem ahq (s t:az)(v u:Value)(w:World)(hs:s.In w v)(ht:t.In w u):
  Calls Tryz.prog 45 #[v,u] w fun e w'=>e=.returned (I (aM s.key t.key))/\aw w w':=by
 obtain⟨va,vs,rfl,lX,oz⟩:=hs;obtain⟨ka,ca,rfl,CD⟩:=lX.open;obtain⟨kb,cb,rfl,_⟩:=oz.open;obtain⟨ua,us,rfl,rA,ni⟩:=ht;obtain⟨kc,cc,rfl,_⟩:=rA.open;obtain⟨kd,cd,rfl,_⟩:=ni.open;have hsp:aM s.key t.key=if aM s.ev.ints t.ev.ints !=0 then aM s.ev.ints t.ev.ints else aM (lv s.asks) (lv t.asks):=GH s.ev.ints t.ev.ints _ _ rfl;have Hsp:=ae hsp;clear hsp;simp only[az.val,az.row];by_cases hx:aM s.ev.ints t.ev.ints=0
 ·have hq:(aM s.ev.ints t.ev.ints !=0)=false:=by simp[hx]
  have hr:=ae (Hsp.out.trans (af (by simp[hx])));clear hx;unfold Ev.ints at hq;go_enter Tryz.func45,Tryz.ntmps45;go_wp2_with fail;refine(aee _ _ _ _ _ _ _ _ _ _ _ _ _ _ _ _ _).mono ?_;rintro e w1 ⟨rfl,aC⟩;have hcc:=oq aC;have ej:=(bO.start w _ _ _).call aC;have jH:=ej.1.cell;have EM:=ej.2.1.cell;clear hcc;go_wp2_with fail;refine(auE s.asks t.asks _ _ _ (lX.kept ej.2.2.1 ax) (rA.kept ej.2.2.1 ax)).mono ?_;rintro e w2 ⟨rfl,bh⟩;go_wp2_with fail;go_ret;exact⟨lJ hr.out.symm,(ej.call bh).2.2.1⟩
 ·have hq:(aM s.ev.ints t.ev.ints !=0)=true:=by simp[hx]
  have hr:=ae (Hsp.out.trans (aj (by simp[hx])));clear hx;unfold Ev.ints at hq;go_enter Tryz.func45,Tryz.ntmps45;go_wp2_with fail;refine(aee _ _ _ _ _ _ _ _ _ _ _ _ _ _ _ _ _).mono ?_;rintro e w1 ⟨rfl,aC⟩;have ej:=(bO.start w _ _ _).call aC;go_wp2_with fail;go_ret;exact⟨lJ hr.out.symm,ej.2.2.1⟩
end
section
open Go.RowKit
def vI (t:az):Bool:=t.ev.kind==3||t.ev.kind==5||t.ev.kind==6
def mK (m:bR)(t:az):Bool:=m.copy==0 && m.node==t.ev.msg.node && m.handler==t.ev.msg.handler && m.count==t.ev.msg.count && m.index==t.ev.msg.index
theorem Ti (a b:az):cE a b=(vI b && a.sent.any fun m=>mK m b):=rfl
end
section
open Go.RowKit
theorem auG (t:az)(v:Value)(w:World)(ht:t.In w v)(h:vI t=false):
  Calls Tryz.prog 152 #[v] w fun e w'=>e=.returned (.pointer none)/\aw w w':=by
 obtain⟨ua,us,rfl,rA,ni⟩:=ht;simp only[vI,Bool.or_eq_false_iff] at h;obtain⟨⟨h3,h5⟩,h6⟩:=h;simp only[az.val,az.row];go_enter Tryz.func152,Tryz.ntmps152;go_wp2;go_ret;exact⟨rfl,bK⟩
theorem auH (t:az)(v:Value)(w:World)(ht:t.In w v)(h:vI t=true):
  Calls Tryz.prog 152 #[v] w fun e w'=>∃g,e=.returned (.pointer (some ⟨g,0,none⟩))/\w.heap.size<=g/\
   w'.heap[g]? =some (.cells #[I t.ev.msg.node,I t.ev.msg.handler,I t.ev.msg.count,I t.ev.msg.index,I 0] 39 (0,0))/\aw w w':=by
 obtain⟨ua,us,rfl,rA,ni⟩:=ht
 have q:((t.ev.kind==3)=true)\/((t.ev.kind==3)=false/\(t.ev.kind==5)=true)\/((t.ev.kind==3)=false/\(t.ev.kind==5)=false/\(t.ev.kind==6)=true):=by
  unfold vI at h;revert h;cases(t.ev.kind==3)<;>cases(t.ev.kind==5)<;>cases(t.ev.kind==6)<;>simp
 clear h;simp only[az.val,az.row]
 rcases q with q1|⟨q1,q2⟩|⟨q1,q2,q3⟩
 all_goals
  go_enter Tryz.func152,Tryz.ntmps152;go_wp2;go_ret;exact⟨_,rfl,ai,Km _ _ _,bK⟩
theorem auI (m:bR)(q g:Nat)(b0 b1 b2 b3 b4:Int)(w:World)(hq:w.cell? ⟨q,0,none⟩=some (.pointer (some ⟨g,0,none⟩)))(hg:ay w g #[I b0,I b1,I b2,I b3,I b4]):
  Calls Tryz.prog 154 #[.agg #[I m.node,I m.handler,I m.count,I m.index,I m.copy],.pointer (some ⟨q,0,none⟩)] w fun e w'=>e=.returned (.bool (cL m.ints [b0,b1,b2,b3,b4]))/\aw w w':=by
 have fO:q<w.heap.size:=by simpa using ez _ _ hq
 have hb:aw w (w.alloc (.cells #[I m.node,I m.handler,I m.count,I m.index,I m.copy] 39)):=bK;have EO:=(hb.cell (p:=⟨q,0,none⟩) fO).trans hq;have fX:=(hg.alloc (.cells #[I m.node,I m.handler,I m.count,I m.index,I m.copy] 39)).cell;have Iv:=(ay.new w #[I m.node,I m.handler,I m.count,I m.index,I m.copy] 39).cell;have Hb:=ae hb;clear hb hg;go_enter Tryz.func154,Tryz.ntmps154;go_wp2;go_quiet (fail);go_wp2;go_ret;exact⟨rfl,below_drewN Hb.out nq⟩
theorem auJ (m:bR)(t:az):cL m.ints [t.ev.msg.node,t.ev.msg.handler,t.ev.msg.count,t.ev.msg.index,0]=mK m t:=by
 rw[rZ];simp[cL,mK,bR.ints];constructor
 ·rintro⟨a,b,c,d,e⟩;exact⟨⟨⟨⟨e,a⟩,b⟩,c⟩,d⟩
 ·rintro⟨⟨⟨⟨e,a⟩,b⟩,c⟩,d⟩;exact⟨a,b,c,d,e⟩
theorem auK (l:List bR)(t:az)(v:Value)(q g:Nat)(w:World)(hl:lI w v l)(hq:w.cell? ⟨q,0,none⟩=some (.pointer (some ⟨g,0,none⟩)))
  (hg:ay w g #[I t.ev.msg.node,I t.ev.msg.handler,I t.ev.msg.count,I t.ev.msg.index,I 0]):
  Calls Tryz.prog 197 #[v,.func (.func 154) #[] #[.pointer (some ⟨q,0,none⟩)]] w fun e w'=>∃r:Int,e=.returned (I r)/\decide (0<=r)=(l.any fun m=>mK m t)/\aw w w':=by
 obtain⟨ka,ca,rfl,gH⟩:=hl.open
 have fO:q<w.heap.size:=by simpa using ez _ _ hq
 have sQ:=hg.lt
 have c:∀(m:bR) (W:World),aw w W->Calls Tryz.prog 154 #[.agg #[I m.node,I m.handler,I m.count,I m.index,I m.copy],.pointer (some ⟨q,0,none⟩)] W fun e w'=>e=.returned (.bool (mK m t))/\aw W w':=fun m W hB=>by
  have:=auI m q g _ _ _ _ _ W ((hB.cell (p:=⟨q,0,none⟩) fO).trans hq) (hg.kept hB sQ);rwa[auJ] at this
 have C:=ae c;clear c hq hg;go_enter Tryz.func197,Tryz.ntmps197;go_wp2_with fail;go_loopw [8] (fun i wr=>∃k:Nat,k<=l.length/\i=.int .i64 k/\aw w wr/\(∀j<k,∀m,l[j]? =some m->mK m t=false)) (fun i _=>l.length-(intOf i).toNat)
 case atStart=>exact⟨0,ab,rfl,Below.refl _ _,fun j hj=>absurd hj ab⟩
 case round=>
  obtain⟨k,hk,rfl,hB,hE⟩:=hrel;have HE:=ae hE;clear hE;by_cases hlt:k<l.length
  ·obtain⟨b,o,rfl,x0,x1,x2,x3,x4⟩:=(hl.kept hB ax).at (i:=k) (x:=l[k]) (by simp[hlt]);have c1:=C.out l[k] wr hB;by_cases hx:mK l[k] t=true
   ·rw[hx] at c1;have C1:=ae c1;have Hx:=ae hx;clear c1 hx;go_wp2_with fail;refine C1.out.mono ?_;rintro e w1 ⟨rfl,aC⟩;have mJ:=hB.trans (aC.mono hB.size);go_wp2_with fail;go_ret;refine⟨k,rfl,?_,mJ⟩;have:(l.any fun m=>mK m t)=true:=yg.2 ⟨_,bW hlt,Hx.out⟩;rw[this];simp
   ·have sF:mK l[k] t=false:=by simpa using hx
    rw[sF] at c1;have C1:=ae c1;have Hx:=ae sF;clear c1 hx sF;go_wp2_with fail;refine C1.out.mono ?_;rintro e w1 ⟨rfl,aC⟩;have mJ:=hB.trans (aC.mono hB.size);go_wp2_with fail;go_roundw
    case rel=>
     refine⟨k+1,ab,by go_num,mJ,?_⟩;intro j hj m hm;by_cases iq:j=k
     ·subst iq;rw[cz hlt] at hm;cases hm;exact Hx.out
     ·exact HE.out j ab m hm
    case measure=>simp[intOf];omega
  ·go_wp2_with fail;go_ret;refine⟨-1,rfl,?_,hB⟩
   have:(l.any fun m=>mK m t)=false:=by
    rw[Gu];intro h0;obtain⟨m,hm,h1⟩:=yg.1 h0;obtain⟨j,hj⟩:=wJ hm;rw[HE.out j (by have:=(bN.1 hj).1;omega) m hj] at h1;cases h1
   rw[this];simp
theorem auL (l:List bR)(t:az)(v:Value)(q g:Nat)(w:World)(hl:lI w v l)(hq:w.cell? ⟨q,0,none⟩=some (.pointer (some ⟨g,0,none⟩)))
  (hg:ay w g #[I t.ev.msg.node,I t.ev.msg.handler,I t.ev.msg.count,I t.ev.msg.index,I 0]):
  Calls Tryz.prog 153 #[v,.func (.func 154) #[] #[.pointer (some ⟨q,0,none⟩)]] w fun e w'=>e=.returned (.bool (l.any fun m=>mK m t))/\aw w w':=by
 have C:=ae (auK l t v q g w hl hq hg);clear hl hq hg;go_enter Tryz.func153,Tryz.ntmps153;go_wp2_with fail;refine C.out.mono ?_;rintro e w1 ⟨r,rfl,hr,aC⟩;have Hr:=ae hr;clear hr;go_wp2_with fail;go_ret;exact⟨fj Hr.out,aC⟩
theorem auM (s t:az)(v u:Value)(w:World)(hs:s.In w v)(ht:t.In w u):
  Calls Tryz.prog 114 #[v,u] w fun e w'=>e=.returned (.bool (cE s t))/\aw w w':=by
 have de:=ht;obtain⟨va,vs,rfl,lX,oz⟩:=hs;obtain⟨ka,ca,rfl,_⟩:=lX.open;obtain⟨kb,cb,rfl,_⟩:=oz.open;obtain⟨ua,us,rfl,rA,ni⟩:=ht;obtain⟨kc,cc,rfl,_⟩:=rA.open;obtain⟨kd,cd,rfl,_⟩:=ni.open;by_cases h:vI t=true
 ·have hr:=ae (show cE s t=(s.sent.any fun m=>mK m t) by rw[Ti,h];rfl)
  have c:∀W,aw w W->_:=fun W hB=>auH t _ W (de.kept hB ax) h
  simp only[az.val,az.row] at c⊢;have C:=ae c;clear c de h;go_enter Tryz.func114,Tryz.ntmps114;go_wp2_with fail;refine(C.out _ bK).mono ?_;rintro e w1 ⟨g,rfl,hg,Tj,aC⟩;have ej:=(bO.start w _ _ _).call aC;have jH:=(ej.alloc (.cells #[.pointer (some ⟨g,0,none⟩)] 239)).1.cell;have jV:ay (w1.alloc (.cells #[.pointer (some ⟨g,0,none⟩)] 239)) w1.heap.size #[.pointer (some ⟨g,0,none⟩)]:=ay.new _ _ _;have cY:ay (w1.alloc (.cells #[.pointer (some ⟨g,0,none⟩)] 239)) g #[I t.ev.msg.node,I t.ev.msg.handler,I t.ev.msg.count,I t.ev.msg.index,I 0]:=(aeb Tj).alloc _;have EP:=(ej.alloc (.cells #[.pointer (some ⟨g,0,none⟩)] 239)).2.2.1;go_wp2_with fail;refine(auL s.sent t _ _ g _ (oz.kept EP ax) (jV.cell 0) cY).mono ?_;rintro e w2 ⟨rfl,bh⟩;go_wp2_with fail;go_ret;exact⟨fj hr.out.symm,Below.then EP bh⟩
 ·have h':vI t=false:=by simpa using h
  have hr:=ae (show cE s t=false by rw[Ti,h'];rfl)
  have c:∀W,aw w W->_:=fun W hB=>auG t _ W (de.kept hB ax) h'
  simp only[az.val,az.row] at c⊢;have C:=ae c;clear c de h h';go_enter Tryz.func114,Tryz.ntmps114;go_wp2_with fail;refine(C.out _ bK).mono ?_;rintro e w1 ⟨rfl,aC⟩;have ej:=(bO.start w _ _ _).call aC;go_wp2_with fail;go_ret;exact⟨fj hr.out.symm,(ej.alloc _).2.2.1⟩
theorem ahr {s t:az}{v u:Value}{w W:World}{x:Bool}(hs:s.In w v)(ht:t.In w u)(hB:aw w W)(hx:cE s t=x):
  Calls Tryz.prog 114 #[v,u] W fun e w'=>e=.returned (.bool x)/\aw W w':=by
 rw[<-hx];exact auM s t v u W (hs.kept hB ax) (ht.kept hB ax)
theorem auN (s t:az)(v u:Value)(w:World)(hs:s.In w v)(ht:t.In w u):
  Calls Tryz.prog 57 #[v,u] w fun e w'=>e=.returned (.bool (dB s t))/\aw w w':=by
 have f1:∀W x,aw w W->cE s t=x->Calls Tryz.prog 114 #[v,u] W fun e w'=>e=.returned (.bool x)/\aw W w':=fun W x hB hx=>ahr hs ht hB hx
 have f2:∀W x,aw w W->cE t s=x->Calls Tryz.prog 114 #[u,v] W fun e w'=>e=.returned (.bool x)/\aw W w':=fun W x hB hx=>ahr ht hs hB hx
 obtain⟨va,vs,rfl,lX,oz⟩:=hs;obtain⟨ua,us,rfl,rA,ni⟩:=ht;obtain⟨ka,ca,rfl,_⟩:=lX.open;obtain⟨kb,cb,rfl,_⟩:=oz.open;obtain⟨kc,cc,rfl,_⟩:=rA.open;obtain⟨kd,cd,rfl,_⟩:=ni.open;simp only[az.val,az.row] at f1 f2⊢;have F1:=ae f1;have F2:=ae f2;clear f1 f2;by_cases h1:s.ev.node=t.ev.node
 ·have q1:(s.ev.node==t.ev.node)=true:=by simp[h1]
  have hr:=ae (show dB s t=true by simp[dB,h1]);clear h1;go_enter Tryz.func57,Tryz.ntmps57;go_wp2_with fail;go_ret;exact⟨fj hr.out.symm,bK⟩
 ·have q1:(s.ev.node==t.ev.node)=false:=by simp[h1]
  clear h1
  have Iw:dB s t=((s.aK && t.aK)||cE s t||cE t s):=by
   have:dB s t=((s.ev.node==t.ev.node)||(s.aK && t.aK)||cE s t||cE t s):=rfl;rw[this,q1];simp
  have CE:=ae Iw;clear Iw
  have key:∀so kW:Bool,Hid (s.aK=so)->Hid (t.aK=kW)->Calls Tryz.prog 57 #[.agg #[I s.ev.kind,I s.ev.node,I s.ev.arg,I s.ev.msg.node,I s.ev.msg.handler,I s.ev.msg.count,I s.ev.msg.index,I s.ev.msg.copy,.slice ka s.asks.length ca,.bool so,.slice kb s.sent.length cb],
    .agg #[I t.ev.kind,I t.ev.node,I t.ev.arg,I t.ev.msg.node,I t.ev.msg.handler,I t.ev.msg.count,I t.ev.msg.index,I t.ev.msg.copy,.slice kc t.asks.length cc,.bool kW,.slice kd t.sent.length cd]] w fun e w'=>e=.returned (.bool (dB s t))/\aw w w':=by
   intro so kW yS yT;have F1:=F1.out;have F2:=F2.out;rw[yS.out,yT.out] at F1 F2;have F1:=ae F1;have F2:=ae F2;clear lX oz rA ni;cases so
   ·cases kW
    ·have hd:dB s t=(cE s t||cE t s):=by rw[CE.out,yS.out,yT.out];simp
     have Hd:=ae hd;clear hd;by_cases g1:cE s t=true
     ·have hr:=ae (show dB s t=true by rw[Hd.out,g1];simp);have G1:=ae g1;clear g1;go_enter Tryz.func57,Tryz.ntmps57
      go_wp2_with (go_at_call 114;refine(F1.out _ true bK G1.out).mono ?_;rintro e w1 ⟨rfl,aC⟩;have hcc:=oq aC)
      go_ret;exact⟨fj hr.out.symm,Below.then bK aC⟩
     ·by_cases g2:cE t s=true
      ·have hr:=ae (show dB s t=true by rw[Hd.out,g2];simp);have G1:=ae (show cE s t=false by simpa using g1);have G2:=ae g2;clear g1 g2;go_enter Tryz.func57,Tryz.ntmps57;go_wp2_with fail;refine(F1.out _ false bK G1.out).mono ?_;rintro e w1 ⟨rfl,aC⟩;have hcc:=oq aC;go_wp2_with fail;refine(F2.out _ true (Below.then bK aC) G2.out).mono ?_;rintro e w2 ⟨rfl,bh⟩;go_wp2_with fail;go_ret;exact⟨fj hr.out.symm,Below.then (Below.then bK aC) bh⟩
      ·have hr:=ae (show dB s t=false by rw[Hd.out];simp[g1,g2]);have G1:=ae (show cE s t=false by simpa using g1);have G2:=ae (show cE t s=false by simpa using g2);clear g1 g2;go_enter Tryz.func57,Tryz.ntmps57;go_wp2_with fail;refine(F1.out _ false bK G1.out).mono ?_;rintro e w1 ⟨rfl,aC⟩;have hcc:=oq aC;go_wp2_with fail;refine(F2.out _ false (Below.then bK aC) G2.out).mono ?_;rintro e w2 ⟨rfl,bh⟩;go_wp2_with fail;go_ret;exact⟨fj hr.out.symm,Below.then (Below.then bK aC) bh⟩
    ·have hd:dB s t=(cE s t||cE t s):=by rw[CE.out,yS.out,yT.out];simp
     have Hd:=ae hd;clear hd;by_cases g1:cE s t=true
     ·have hr:=ae (show dB s t=true by rw[Hd.out,g1];simp);have G1:=ae g1;clear g1;go_enter Tryz.func57,Tryz.ntmps57
      go_wp2_with (go_at_call 114;refine(F1.out _ true bK G1.out).mono ?_;rintro e w1 ⟨rfl,aC⟩;have hcc:=oq aC)
      go_ret;exact⟨fj hr.out.symm,Below.then bK aC⟩
     ·by_cases g2:cE t s=true
      ·have hr:=ae (show dB s t=true by rw[Hd.out,g2];simp);have G1:=ae (show cE s t=false by simpa using g1);have G2:=ae g2;clear g1 g2;go_enter Tryz.func57,Tryz.ntmps57;go_wp2_with fail;refine(F1.out _ false bK G1.out).mono ?_;rintro e w1 ⟨rfl,aC⟩;have hcc:=oq aC;go_wp2_with fail;refine(F2.out _ true (Below.then bK aC) G2.out).mono ?_;rintro e w2 ⟨rfl,bh⟩;go_wp2_with fail;go_ret;exact⟨fj hr.out.symm,Below.then (Below.then bK aC) bh⟩
      ·have hr:=ae (show dB s t=false by rw[Hd.out];simp[g1,g2]);have G1:=ae (show cE s t=false by simpa using g1);have G2:=ae (show cE t s=false by simpa using g2);clear g1 g2;go_enter Tryz.func57,Tryz.ntmps57;go_wp2_with fail;refine(F1.out _ false bK G1.out).mono ?_;rintro e w1 ⟨rfl,aC⟩;have hcc:=oq aC;go_wp2_with fail;refine(F2.out _ false (Below.then bK aC) G2.out).mono ?_;rintro e w2 ⟨rfl,bh⟩;go_wp2_with fail;go_ret;exact⟨fj hr.out.symm,Below.then (Below.then bK aC) bh⟩
   ·cases kW
    ·have hd:dB s t=(cE s t||cE t s):=by rw[CE.out,yS.out,yT.out];simp
     have Hd:=ae hd;clear hd;by_cases g1:cE s t=true
     ·have hr:=ae (show dB s t=true by rw[Hd.out,g1];simp);have G1:=ae g1;clear g1;go_enter Tryz.func57,Tryz.ntmps57
      go_wp2_with (go_at_call 114;refine(F1.out _ true bK G1.out).mono ?_;rintro e w1 ⟨rfl,aC⟩;have hcc:=oq aC)
      go_ret;exact⟨fj hr.out.symm,Below.then bK aC⟩
     ·by_cases g2:cE t s=true
      ·have hr:=ae (show dB s t=true by rw[Hd.out,g2];simp);have G1:=ae (show cE s t=false by simpa using g1);have G2:=ae g2;clear g1 g2;go_enter Tryz.func57,Tryz.ntmps57;go_wp2_with fail;refine(F1.out _ false bK G1.out).mono ?_;rintro e w1 ⟨rfl,aC⟩;have hcc:=oq aC;go_wp2_with fail;refine(F2.out _ true (Below.then bK aC) G2.out).mono ?_;rintro e w2 ⟨rfl,bh⟩;go_wp2_with fail;go_ret;exact⟨fj hr.out.symm,Below.then (Below.then bK aC) bh⟩
      ·have hr:=ae (show dB s t=false by rw[Hd.out];simp[g1,g2]);have G1:=ae (show cE s t=false by simpa using g1);have G2:=ae (show cE t s=false by simpa using g2);clear g1 g2;go_enter Tryz.func57,Tryz.ntmps57;go_wp2_with fail;refine(F1.out _ false bK G1.out).mono ?_;rintro e w1 ⟨rfl,aC⟩;have hcc:=oq aC;go_wp2_with fail;refine(F2.out _ false (Below.then bK aC) G2.out).mono ?_;rintro e w2 ⟨rfl,bh⟩;go_wp2_with fail;go_ret;exact⟨fj hr.out.symm,Below.then (Below.then bK aC) bh⟩
    ·have hr:=ae (show dB s t=true by rw[CE.out,yS.out,yT.out];simp);go_enter Tryz.func57,Tryz.ntmps57;go_wp2_with fail;go_ret;exact⟨fj hr.out.symm,bK⟩
  exact key _ _ (ae rfl) (ae rfl)
end
section
open Go.RowKit
variable {B:Nat} {w w':World}
def jk:Nat:=2^64
theorem ofInt64(a:Nat)(ha:a<jk):(BitVec.ofInt 64 (a:Int)).toNat=a:=by
 rw[BitVec.ofInt_natCast,BitVec.toNat_ofNat];exact Nat.mod_eq_of_lt ha
theorem Zi(x:Nat)(hx:x<jk):IntKind.u64.wrap ((x:Nat):Int)=(x:Int):=by
 have h2:((x:Nat):Int)<=18446744073709551615:=by
  have:x<18446744073709551616:=hx;omega
 exact IntWalk.u64_in _ ⟨ab,h2⟩
theorem u64_or(a b:Nat)(ha:a<jk)(hb:b<jk):bits .or .u64 (a:Int) (b:Int)=((a|||b:Nat):Int):=by
 have hx:a|||b<jk:=Nl ha hb
 show IntKind.u64.wrap ((BitVec.ofInt 64 (a:Int)|||BitVec.ofInt 64 (b:Int)).toNat:Int)=_
 rw[BitVec.toNat_or,ofInt64 a ha,ofInt64 b hb];exact Zi _ hx
theorem u64_and(a b:Nat)(ha:a<jk)(hb:b<jk):bits .and .u64 (a:Int) (b:Int)=((a &&& b:Nat):Int):=by
 have hx:a &&& b<jk:=Nat.and_lt_two_pow _ hb
 show IntKind.u64.wrap ((BitVec.ofInt 64 (a:Int) &&& BitVec.ofInt 64 (b:Int)).toNat:Int)=_
 rw[BitVec.toNat_and,ofInt64 a ha,ofInt64 b hb];exact Zi _ hx
theorem Tm(i:Nat)(h:i<64):2^i<jk:=Nat.pow_lt_pow_right ab h
theorem auO(m i:Nat)(hm:m<jk):(bits .and .u64 ((m:Int)/2^i) 1==1)=m.testBit i:=by
 have h1:((m:Int)/2^i)=((m/2^i:Nat):Int):=ai;have h2:m/2^i<jk:=Nat.lt_of_le_of_lt (Nat.div_le_self _ _) hm;rw[h1,show(1:Int)=((1:Nat):Int) from rfl,u64_and _ _ h2 au,Nat.and_one_is_mod,Nat.testBit_eq_decide_div_mod_eq,rZ];simp only[DT,dv];omega
theorem ahs(b o c m i:Nat)(w:World)(hc:w.cell? ⟨b,o,none⟩=some (.int .u64 (m:Int)))(hm:m<jk)(hi:i<64):
  Calls Tryz.prog 71 #[.slice (some ⟨b,o,none⟩) 1 c,I i] w fun e w'=>e=.returned (.bool (m.testBit i))/\w=w':=by
 have h0:i/64=0:=ab;have CF:(i:Int)/64=0:=ab;have oO:(i:Int)%64=i:=ab;go_enter Tryz.func71,Tryz.ntmps71;go_wp2;go_ret;exact⟨fj (auO m i hm),rfl⟩
theorem auP(b o c m i:Nat)(w:World)(hc:w.cell? ⟨b,o,none⟩=some (.int .u64 (m:Int)))(hf:w.frozen? ⟨b,o,none⟩=false)(hm:m<jk)(hi:i<64):
  Calls Tryz.prog 127 #[.slice (some ⟨b,o,none⟩) 1 c,I i] w fun e w'=>e=.returned (.tuple #[])/\∃n,w'=(w.setCell ⟨b,o,none⟩ (.int .u64 ((m|||2^i:Nat):Int))).drewN n:=by
 have h0:i/64=0:=ab;have CF:(i:Int)/64=0:=ab;have oO:(i:Int)%64=i:=ab
 have hp:IntKind.u64.wrap ((2:Int)^i)=((2^i:Nat):Int):=by
  rw[show((2:Int)^i)=((2^i:Nat):Int) by simp];exact Zi _ (Tm i hi)
 have Hr:=ae (show bits .or .u64 (m:Int) (IntKind.u64.wrap ((2:Int)^i))=((m|||2^i:Nat):Int) by rw[hp];exact u64_or m (2^i) hm (Tm i hi));clear hp;go_enter Tryz.func127,Tryz.ntmps127;go_wp2;go_region
 all_goals
  go_wp2;go_end0;refine⟨rfl,1,?_⟩;rw[Hr.out];rfl
theorem aht(b o c b' o' c' m m':Nat)(w:World)(hc:w.cell? ⟨b,o,none⟩=some (.int .u64 (m:Int)))(hf:w.frozen? ⟨b,o,none⟩=false)(hm:m<jk)
  (hc':w.cell? ⟨b',o',none⟩=some (.int .u64 (m':Int))) (Ll:m'<jk):
  Calls Tryz.prog 70 #[.slice (some ⟨b,o,none⟩) 1 c,.slice (some ⟨b',o',none⟩) 1 c'] w fun e w'=>e=.returned (.tuple #[])/\w'=w.setCell ⟨b,o,none⟩ (.int .u64 ((m|||m':Nat):Int)):=by
 have Hr:=ae (u64_or m m' hm Ll);go_enter Tryz.func70,Tryz.ntmps70;go_wp2;refine wp_loop_rounds 2 ?_;rw[rounds_succ];go_wp2;rw[rounds_succ];go_wp2;go_end0;exact⟨rfl,by rw[Hr.out]⟩
def AX (w:World)(p:Value)(n:Nat)(f:Nat->Nat->Bool):Prop:=
 n<=64/\∃g gb c,p=.pointer (some ⟨g,0,none⟩)/\w.cell? ⟨g,0,none⟩=some (I n)/\w.cell? ⟨g,1,none⟩=some (.slice (some ⟨gb,0,none⟩) n c)/\
  ∀i<n,∃gi ci m,w.cell? ⟨gb,i,none⟩=some (.slice (some ⟨gi,0,none⟩) 1 ci)/\w.cell? ⟨gi,0,none⟩=some (.int .u64 ((m:Nat):Int))/\m<jk/\∀k<n,m.testBit k=f i k
theorem bE(hb:Below B w w')(hB:w.heap.size<=B){a:Addr}{v:Value}(h:w.cell? a=some v):w'.cell? a=some v:=by
 rw[hb.cell (p:=a) (ju (ez _ _ h) hB)];exact h
theorem AX.kept{p:Value}{n:Nat}{f:Nat->Nat->Bool}(h:AX w p n f)(hb:Below B w w')(hB:w.heap.size<=B):AX w' p n f:=by
 obtain⟨hn,g,gb,c,hp,h0,h1,hr⟩:=h;refine⟨hn,g,gb,c,hp,bE hb hB h0,bE hb hB h1,fun i hi=> ?_⟩;obtain⟨gi,ci,m,a,b,d⟩:=hr i hi;exact⟨gi,ci,m,bE hb hB a,bE hb hB b,d⟩
theorem ahu(g n i:Nat)(w:World)(h0:w.cell? ⟨g,0,none⟩=some (I n))(hi:i<n):
  Calls Tryz.prog 86 #[.pointer (some ⟨g,0,none⟩),I i] w fun e w'=>e=.returned (.bool true)/\w=w':=by
 go_enter Tryz.func86,Tryz.ntmps86;go_wp2;go_ret;exact⟨rfl,rfl⟩
theorem Lt(p:Value)(n:Nat)(f:Nat->Nat->Bool)(i k:Nat)(w:World)(h:AX w p n f)(hi:i<n)(hk:k<n):
  Calls Tryz.prog 43 #[p,I i,I k] w fun e w'=>e=.returned (.bool (f i k))/\w=w':=by
 obtain⟨hn,g,gb,c,rfl,h0,h1,hr⟩:=h;obtain⟨gi,ci,m,hc,hm,gH,hf⟩:=hr i hi;have Hf:=ae (hf k hk);have aGf:i<64:=ab;have auQ:k<64:=ab;clear hr hf;go_enter Tryz.func43,Tryz.ntmps43;go_wp2_with fail;refine(ahu g n i _ h0 hi).mono ?_;rintro e w1 ⟨rfl,rfl⟩;go_wp2_with fail;refine(ahu g n k _ h0 hk).mono ?_;rintro e w1 ⟨rfl,rfl⟩;go_wp2_with fail;refine(ahs gi 0 ci m k _ hm gH auQ).mono ?_;rintro e w1 ⟨rfl,rfl⟩;go_wp2_with fail;go_ret;exact⟨fj Hf.out,rfl⟩
end
end Go.Proofs.YtkanpepkdcmpmaaGreatDoor
