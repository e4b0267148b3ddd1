import Derived.Test.YtkanpepkdcmpmaaGreatDoorY0
set_option maxHeartbeats 40000000
set_option maxRecDepth 100000
set_option linter.all false
namespace Go.Proofs.YtkanpepkdcmpmaaGreatDoor
section
open Go.RowKit
def kZ (l:List Ask):List Int:=l.flatMap Ask.key
theorem ahm (a:Ask)(l:List Ask):kZ (a::l)=a.key++kZ l:=rfl
theorem auF (a b:Ask)(l m:List Ask):aK (kZ (a::l)) (kZ (b::m))=if aK a.key b.key !=0 then aK a.key b.key else aK (kZ l) (kZ m):=by
 rw[ahm,ahm,Gq a.key b.key _ _ rfl]
theorem auG (l m:List Ask)(h:l=[]\/m=[]):aK (kZ l) (kZ m)=ic l.length m.length:=by
 rcases h with rfl|rfl
 ·cases m with
  |nil=>rfl
  |cons b m=>simp[kZ,Ask.key,aK,ic]
 ·cases l with
  |nil=>rfl
  |cons b m=>simp[kZ,Ask.key,aK,ic]<;>omega
theorem auH (l m:List Ask)(v u:Value)(w:World)(hl:jG w v l)(hm:jG w u m):
  Calls Tryz.prog 91 #[v,u,.func (.func 92) #[] #[]] w fun e w'=>e=.returned (I (aK (kZ l) (kZ m)))/\aw w w':=by
 obtain⟨ka,ca,rfl,gz⟩:=hl.open;obtain⟨kb,cb,rfl,kN⟩:=hm.open;have Ox:(l.length<=m.length)\/(m.length<l.length):=ab
 rcases Ox with hle|hle
 all_goals
  have tR:∀k,¬(k<l.length/\k<m.length)->k<=l.length->k<=m.length->l.drop k=[]\/m.drop k=[]:=by
   intro k h1 h2 h3;by_cases h4:k<l.length
   ·right;exact uF ab
   ·left;exact uF ab
  have auI:=ae tR;clear tR;go_enter Tryz.func91,Tryz.ntmps91;go_wp2_with fail;go_loopw [14] (fun i wr=>∃k:Nat,k<=l.length/\k<=m.length/\i=.int .i64 k/\aw w wr/\aK (kZ l) (kZ m)=aK (kZ (l.drop k)) (kZ (m.drop k))) (fun i _=>l.length-(intOf i).toNat)
  case atStart=>exact⟨0,ab,ab,rfl,Below.refl _ _,ai⟩
  case round=>
   obtain⟨k,hk,nX,rfl,hB,hE⟩:=hrel;have HE:=ae hE;clear hE;by_cases hlt:k<l.length/\k<m.length
   ·obtain⟨xy,cY⟩:=hlt;obtain⟨b,o,rfl,x0,x1,x2,x3,x4,x5,x6⟩:=(hl.kept hB ax).at (i:=k) (x:=l[k]) (by simp[xy]);obtain⟨b',o',rfl,y0,y1,y2,y3,y4,y5,y6⟩:=(hm.kept hB ax).at (i:=k) (x:=m[k]) (by simp[cY])
    have Hd:=ae (show aK (kZ l) (kZ m)=if aK l[k].key m[k].key !=0 then aK l[k].key m[k].key else aK (kZ (l.drop (k+1))) (kZ (m.drop (k+1))) by
     rw[HE.out,List.drop_eq_getElem_cons xy,List.drop_eq_getElem_cons cY,auF])
    by_cases hx:aK l[k].key m[k].key=0
    ·have hq:(aK l[k].key m[k].key !=0)=false:=by simp[hx]
     have hr:=ae (Hd.out.trans (af (by simp[hx])));clear hx;go_wp2_with fail;go_still_tail 9,ah;change wpList _ _ _ _ _ wr.drew;go_wp2_with fail;refine(adW l[k] m[k] _).mono ?_;rintro e w1 ⟨rfl,aC⟩;have tY:=hB.drew.trans (aC.mono hB.size);go_wp2_with fail;go_roundw
     case rel=>exact⟨k+1,ab,ab,by go_num,tY,hr.out⟩
     case measure=>simp[intOf];omega
    ·have hq:(aK l[k].key m[k].key !=0)=true:=by simp[hx]
     have hr:=ae (Hd.out.trans (aq (by simp[hx])));clear hx;go_wp2_with fail;go_still_tail 9,ah;change wpList _ _ _ _ _ wr.drew;go_wp2_with fail;refine(adW l[k] m[k] _).mono ?_;rintro e w1 ⟨rfl,aC⟩;have tY:=hB.drew.trans (aC.mono hB.size);go_wp2_with fail;go_ret;exact⟨ly hr.out.symm,tY⟩
   ·have hr:=ae (show aK (kZ l) (kZ m)=ic l.length m.length by
     rw[HE.out,auG _ _ (auI.out k hlt hk nX),lU,lU];have:((l.length-k:Nat):Int)=(l.length:Int)-k:=ab;have h2:((m.length-k:Nat):Int)=(m.length:Int)-k:=ab;rw[this,h2];simp only[ic]
     repeat' split
     all_goals omega)
    have tG:(k=l.length/\l.length<=m.length)\/(k=m.length/\m.length<l.length):=ab;go_wp2_with fail;refine(Rl l.length m.length _).mono ?_;rintro e w1 ⟨rfl,rfl⟩;go_wp2_with fail;go_ret;exact⟨ly hr.out.symm,hB⟩
theorem ahn (s t:ay)(v u:Value)(w:World)(hs:s.In w v)(ht:t.In w u):
  Calls Tryz.prog 45 #[v,u] w fun e w'=>e=.returned (I (aK s.key t.key))/\aw w w':=by
 obtain⟨va,vs,rfl,lM,oc⟩:=hs;obtain⟨ka,ca,rfl,Cu⟩:=lM.open;obtain⟨kb,cb,rfl,_⟩:=oc.open;obtain⟨ua,us,rfl,og,mS⟩:=ht;obtain⟨kc,cc,rfl,_⟩:=og.open;obtain⟨kd,cd,rfl,_⟩:=mS.open;have hsp:aK s.key t.key=if aK s.ev.ints t.ev.ints !=0 then aK s.ev.ints t.ev.ints else aK (kZ s.asks) (kZ t.asks):=Gq s.ev.ints t.ev.ints _ _ rfl;have Hsp:=ae hsp;clear hsp;simp only[ay.val,ay.row];by_cases hx:aK s.ev.ints t.ev.ints=0
 ·have hq:(aK s.ev.ints t.ev.ints !=0)=false:=by simp[hx]
  have hr:=ae (Hsp.out.trans (af (by simp[hx])));clear hx;unfold Ev.ints at hq;go_enter Tryz.func45,Tryz.ntmps45;go_wp2_with fail;refine(adV _ _ _ _ _ _ _ _ _ _ _ _ _ _ _ _ _).mono ?_;rintro e w1 ⟨rfl,aC⟩;have hcc:=nU aC;have ew:=(bL.start w _ _ _).call aC;have jx:=ew.1.cell;have ED:=ew.2.1.cell;clear hcc;go_wp2_with fail;refine(auH s.asks t.asks _ _ _ (lM.kept ew.2.2.1 ax) (og.kept ew.2.2.1 ax)).mono ?_;rintro e w2 ⟨rfl,bg⟩;go_wp2_with fail;go_ret;exact⟨ly hr.out.symm,(ew.call bg).2.2.1⟩
 ·have hq:(aK s.ev.ints t.ev.ints !=0)=true:=by simp[hx]
  have hr:=ae (Hsp.out.trans (aq (by simp[hx])));clear hx;unfold Ev.ints at hq;go_enter Tryz.func45,Tryz.ntmps45;go_wp2_with fail;refine(adV _ _ _ _ _ _ _ _ _ _ _ _ _ _ _ _ _).mono ?_;rintro e w1 ⟨rfl,aC⟩;have ew:=(bL.start w _ _ _).call aC;go_wp2_with fail;go_ret;exact⟨ly hr.out.symm,ew.2.2.1⟩
end
section
open Go.RowKit
def vG (t:ay):Bool:=t.ev.kind==3||t.ev.kind==5||t.ev.kind==6
def mr (m:bQ)(t:ay):Bool:=m.copy==0 && m.node==t.ev.msg.node && m.handler==t.ev.msg.handler && m.count==t.ev.msg.count && m.index==t.ev.msg.index
theorem Tb (a b:ay):cB a b=(vG b && a.sent.any fun m=>mr m b):=rfl
end
section
open Go.RowKit
theorem auJ (t:ay)(v:Value)(w:World)(ht:t.In w v)(h:vG t=false):
  Calls Tryz.prog 152 #[v] w fun e w'=>e=.returned (.pointer none)/\aw w w':=by
 obtain⟨ua,us,rfl,og,mS⟩:=ht;simp only[vG,Bool.or_eq_false_iff] at h;obtain⟨⟨h3,h5⟩,h6⟩:=h;simp only[ay.val,ay.row];go_enter Tryz.func152,Tryz.ntmps152;go_wp2;go_ret;exact⟨rfl,bF⟩
theorem auK (t:ay)(v:Value)(w:World)(ht:t.In w v)(h:vG t=true):
  Calls Tryz.prog 152 #[v] w fun e w'=>∃g,e=.returned (.pointer (some ⟨g,0,none⟩))/\w.heap.size<=g/\
   w'.heap[g]? =some (.cells #[I t.ev.msg.node,I t.ev.msg.handler,I t.ev.msg.count,I t.ev.msg.index,I 0] 39 (0,0))/\aw w w':=by
 obtain⟨ua,us,rfl,og,mS⟩:=ht
 have q:((t.ev.kind==3)=true)\/((t.ev.kind==3)=false/\(t.ev.kind==5)=true)\/((t.ev.kind==3)=false/\(t.ev.kind==5)=false/\(t.ev.kind==6)=true):=by
  unfold vG at h;revert h;cases(t.ev.kind==3)<;>cases(t.ev.kind==5)<;>cases(t.ev.kind==6)<;>simp
 clear h;simp only[ay.val,ay.row]
 rcases q with q1|⟨q1,q2⟩|⟨q1,q2,q3⟩
 all_goals
  go_enter Tryz.func152,Tryz.ntmps152;go_wp2;go_ret;exact⟨_,rfl,ai,Kg _ _ _,bF⟩
theorem auL (m:bQ)(q g:Nat)(b0 b1 b2 b3 b4:Int)(w:World)(hq:w.cell? ⟨q,0,none⟩=some (.pointer (some ⟨g,0,none⟩)))(hg:az w g #[I b0,I b1,I b2,I b3,I b4]):
  Calls Tryz.prog 154 #[.agg #[I m.node,I m.handler,I m.count,I m.index,I m.copy],.pointer (some ⟨q,0,none⟩)] w fun e w'=>e=.returned (.bool (cS m.ints [b0,b1,b2,b3,b4]))/\aw w w':=by
 have fC:q<w.heap.size:=by simpa using iT _ _ hq
 have hb:aw w (w.alloc (.cells #[I m.node,I m.handler,I m.count,I m.index,I m.copy] 39)):=bF;have EF:=(hb.cell (p:=⟨q,0,none⟩) fC).trans hq;have fQ:=(hg.alloc (.cells #[I m.node,I m.handler,I m.count,I m.index,I m.copy] 39)).cell;have Ij:=(az.new w #[I m.node,I m.handler,I m.count,I m.index,I m.copy] 39).cell;have Hb:=ae hb;clear hb hg;go_enter Tryz.func154,Tryz.ntmps154;go_wp2;go_quiet (fail);go_wp2;go_ret;exact⟨rfl,below_drewN Hb.out nq⟩
theorem auM (m:bQ)(t:ay):cS m.ints [t.ev.msg.node,t.ev.msg.handler,t.ev.msg.count,t.ev.msg.index,0]=mr m t:=by
 rw[rR];simp[cS,mr,bQ.ints];constructor
 ·rintro⟨a,b,c,d,e⟩;exact⟨⟨⟨⟨e,a⟩,b⟩,c⟩,d⟩
 ·rintro⟨⟨⟨⟨e,a⟩,b⟩,c⟩,d⟩;exact⟨a,b,c,d,e⟩
theorem auN (l:List bQ)(t:ay)(v:Value)(q g:Nat)(w:World)(hl:lx w v l)(hq:w.cell? ⟨q,0,none⟩=some (.pointer (some ⟨g,0,none⟩)))
  (hg:az w g #[I t.ev.msg.node,I t.ev.msg.handler,I t.ev.msg.count,I t.ev.msg.index,I 0]):
  Calls Tryz.prog 197 #[v,.func (.func 154) #[] #[.pointer (some ⟨q,0,none⟩)]] w fun e w'=>∃r:Int,e=.returned (I r)/\decide (0<=r)=(l.any fun m=>mr m t)/\aw w w':=by
 obtain⟨ka,ca,rfl,gz⟩:=hl.open
 have fC:q<w.heap.size:=by simpa using iT _ _ hq
 have sL:=hg.lt
 have c:∀(m:bQ) (W:World),aw w W->Calls Tryz.prog 154 #[.agg #[I m.node,I m.handler,I m.count,I m.index,I m.copy],.pointer (some ⟨q,0,none⟩)] W fun e w'=>e=.returned (.bool (mr m t))/\aw W w':=fun m W hB=>by
  have:=auL m q g _ _ _ _ _ W ((hB.cell (p:=⟨q,0,none⟩) fC).trans hq) (hg.kept hB sL);rwa[auM] at this
 have C:=ae c;clear c hq hg;go_enter Tryz.func197,Tryz.ntmps197;go_wp2_with fail;go_loopw [8] (fun i wr=>∃k:Nat,k<=l.length/\i=.int .i64 k/\aw w wr/\(∀j<k,∀m,l[j]? =some m->mr m t=false)) (fun i _=>l.length-(intOf i).toNat)
 case atStart=>exact⟨0,ab,rfl,Below.refl _ _,fun j hj=>absurd hj ab⟩
 case round=>
  obtain⟨k,hk,rfl,hB,hE⟩:=hrel;have HE:=ae hE;clear hE;by_cases hlt:k<l.length
  ·obtain⟨b,o,rfl,x0,x1,x2,x3,x4⟩:=(hl.kept hB ax).at (i:=k) (x:=l[k]) (by simp[hlt]);have c1:=C.out l[k] wr hB;by_cases hx:mr l[k] t=true
   ·rw[hx] at c1;have C1:=ae c1;have Hx:=ae hx;clear c1 hx;go_wp2_with fail;refine C1.out.mono ?_;rintro e w1 ⟨rfl,aC⟩;have tY:=hB.trans (aC.mono hB.size);go_wp2_with fail;go_ret;refine⟨k,rfl,?_,tY⟩;have:(l.any fun m=>mr m t)=true:=yk.2 ⟨_,bP hlt,Hx.out⟩;rw[this];simp
   ·have su:mr l[k] t=false:=by simpa using hx
    rw[su] at c1;have C1:=ae c1;have Hx:=ae su;clear c1 hx su;go_wp2_with fail;refine C1.out.mono ?_;rintro e w1 ⟨rfl,aC⟩;have tY:=hB.trans (aC.mono hB.size);go_wp2_with fail;go_roundw
    case rel=>
     refine⟨k+1,ab,by go_num,tY,?_⟩;intro j hj m hm;by_cases ib:j=k
     ·subst ib;rw[cw hlt] at hm;cases hm;exact Hx.out
     ·exact HE.out j ab m hm
    case measure=>simp[intOf];omega
  ·go_wp2_with fail;go_ret;refine⟨-1,rfl,?_,hB⟩
   have:(l.any fun m=>mr m t)=false:=by
    rw[Gd];intro h0;obtain⟨m,hm,h1⟩:=yk.1 h0;obtain⟨j,hj⟩:=wH hm;rw[HE.out j (by have:=(bK.1 hj).1;omega) m hj] at h1;cases h1
   rw[this];simp
theorem auO (l:List bQ)(t:ay)(v:Value)(q g:Nat)(w:World)(hl:lx w v l)(hq:w.cell? ⟨q,0,none⟩=some (.pointer (some ⟨g,0,none⟩)))
  (hg:az w g #[I t.ev.msg.node,I t.ev.msg.handler,I t.ev.msg.count,I t.ev.msg.index,I 0]):
  Calls Tryz.prog 153 #[v,.func (.func 154) #[] #[.pointer (some ⟨q,0,none⟩)]] w fun e w'=>e=.returned (.bool (l.any fun m=>mr m t))/\aw w w':=by
 have C:=ae (auN l t v q g w hl hq hg);clear hl hq hg;go_enter Tryz.func153,Tryz.ntmps153;go_wp2_with fail;refine C.out.mono ?_;rintro e w1 ⟨r,rfl,hr,aC⟩;have Hr:=ae hr;clear hr;go_wp2_with fail;go_ret;exact⟨eY Hr.out,aC⟩
theorem auP (s t:ay)(v u:Value)(w:World)(hs:s.In w v)(ht:t.In w u):
  Calls Tryz.prog 114 #[v,u] w fun e w'=>e=.returned (.bool (cB s t))/\aw w w':=by
 have db:=ht;obtain⟨va,vs,rfl,lM,oc⟩:=hs;obtain⟨ka,ca,rfl,_⟩:=lM.open;obtain⟨kb,cb,rfl,_⟩:=oc.open;obtain⟨ua,us,rfl,og,mS⟩:=ht;obtain⟨kc,cc,rfl,_⟩:=og.open;obtain⟨kd,cd,rfl,_⟩:=mS.open;by_cases h:vG t=true
 ·have hr:=ae (show cB s t=(s.sent.any fun m=>mr m t) by rw[Tb,h];rfl)
  have c:∀W,aw w W->_:=fun W hB=>auK t _ W (db.kept hB ax) h
  simp only[ay.val,ay.row] at c⊢;have C:=ae c;clear c db h;go_enter Tryz.func114,Tryz.ntmps114;go_wp2_with fail;refine(C.out _ bF).mono ?_;rintro e w1 ⟨g,rfl,hg,Tc,aC⟩;have ew:=(bL.start w _ _ _).call aC;have jx:=(ew.alloc (.cells #[.pointer (some ⟨g,0,none⟩)] 239)).1.cell;have jN:az (w1.alloc (.cells #[.pointer (some ⟨g,0,none⟩)] 239)) w1.heap.size #[.pointer (some ⟨g,0,none⟩)]:=az.new _ _ _;have cT:az (w1.alloc (.cells #[.pointer (some ⟨g,0,none⟩)] 239)) g #[I t.ev.msg.node,I t.ev.msg.handler,I t.ev.msg.count,I t.ev.msg.index,I 0]:=(adS Tc).alloc _;have EG:=(ew.alloc (.cells #[.pointer (some ⟨g,0,none⟩)] 239)).2.2.1;go_wp2_with fail;refine(auO s.sent t _ _ g _ (oc.kept EG ax) (jN.cell 0) cT).mono ?_;rintro e w2 ⟨rfl,bg⟩;go_wp2_with fail;go_ret;exact⟨eY hr.out.symm,Below.then EG bg⟩
 ·have h':vG t=false:=by simpa using h
  have hr:=ae (show cB s t=false by rw[Tb,h'];rfl)
  have c:∀W,aw w W->_:=fun W hB=>auJ t _ W (db.kept hB ax) h'
  simp only[ay.val,ay.row] at c⊢;have C:=ae c;clear c db h h';go_enter Tryz.func114,Tryz.ntmps114;go_wp2_with fail;refine(C.out _ bF).mono ?_;rintro e w1 ⟨rfl,aC⟩;have ew:=(bL.start w _ _ _).call aC;go_wp2_with fail;go_ret;exact⟨eY hr.out.symm,(ew.alloc _).2.2.1⟩
theorem aho {s t:ay}{v u:Value}{w W:World}{x:Bool}(hs:s.In w v)(ht:t.In w u)(hB:aw w W)(hx:cB s t=x):
  Calls Tryz.prog 114 #[v,u] W fun e w'=>e=.returned (.bool x)/\aw W w':=by
 rw[<-hx];exact auP s t v u W (hs.kept hB ax) (ht.kept hB ax)
theorem auQ (s t:ay)(v u:Value)(w:World)(hs:s.In w v)(ht:t.In w u):
  Calls Tryz.prog 57 #[v,u] w fun e w'=>e=.returned (.bool (dw s t))/\aw w w':=by
 have f1:∀W x,aw w W->cB s t=x->Calls Tryz.prog 114 #[v,u] W fun e w'=>e=.returned (.bool x)/\aw W w':=fun W x hB hx=>aho hs ht hB hx
 have f2:∀W x,aw w W->cB t s=x->Calls Tryz.prog 114 #[u,v] W fun e w'=>e=.returned (.bool x)/\aw W w':=fun W x hB hx=>aho ht hs hB hx
 obtain⟨va,vs,rfl,lM,oc⟩:=hs;obtain⟨ua,us,rfl,og,mS⟩:=ht;obtain⟨ka,ca,rfl,_⟩:=lM.open;obtain⟨kb,cb,rfl,_⟩:=oc.open;obtain⟨kc,cc,rfl,_⟩:=og.open;obtain⟨kd,cd,rfl,_⟩:=mS.open;simp only[ay.val,ay.row] at f1 f2⊢;have F1:=ae f1;have F2:=ae f2;clear f1 f2;by_cases h1:s.ev.node=t.ev.node
 ·have q1:(s.ev.node==t.ev.node)=true:=by simp[h1]
  have hr:=ae (show dw s t=true by simp[dw,h1]);clear h1;go_enter Tryz.func57,Tryz.ntmps57;go_wp2_with fail;go_ret;exact⟨eY hr.out.symm,bF⟩
 ·have q1:(s.ev.node==t.ev.node)=false:=by simp[h1]
  clear h1
  have Ik:dw s t=((s.aJ && t.aJ)||cB s t||cB t s):=by
   have:dw s t=((s.ev.node==t.ev.node)||(s.aJ && t.aJ)||cB s t||cB t s):=rfl;rw[this,q1];simp
  have Cv:=ae Ik;clear Ik
  have key:∀so kM:Bool,Hid (s.aJ=so)->Hid (t.aJ=kM)->Calls Tryz.prog 57 #[.agg #[I s.ev.kind,I s.ev.node,I s.ev.arg,I s.ev.msg.node,I s.ev.msg.handler,I s.ev.msg.count,I s.ev.msg.index,I s.ev.msg.copy,.slice ka s.asks.length ca,.bool so,.slice kb s.sent.length cb],
    .agg #[I t.ev.kind,I t.ev.node,I t.ev.arg,I t.ev.msg.node,I t.ev.msg.handler,I t.ev.msg.count,I t.ev.msg.index,I t.ev.msg.copy,.slice kc t.asks.length cc,.bool kM,.slice kd t.sent.length cd]] w fun e w'=>e=.returned (.bool (dw s t))/\aw w w':=by
   intro so kM yS yT;have F1:=F1.out;have F2:=F2.out;rw[yS.out,yT.out] at F1 F2;have F1:=ae F1;have F2:=ae F2;clear lM oc og mS;cases so
   ·cases kM
    ·have hd:dw s t=(cB s t||cB t s):=by rw[Cv.out,yS.out,yT.out];simp
     have Hd:=ae hd;clear hd;by_cases g1:cB s t=true
     ·have hr:=ae (show dw s t=true by rw[Hd.out,g1];simp);have G1:=ae g1;clear g1;go_enter Tryz.func57,Tryz.ntmps57
      go_wp2_with (go_at_call 114;refine(F1.out _ true bF G1.out).mono ?_;rintro e w1 ⟨rfl,aC⟩;have hcc:=nU aC)
      go_ret;exact⟨eY hr.out.symm,Below.then bF aC⟩
     ·by_cases g2:cB t s=true
      ·have hr:=ae (show dw s t=true by rw[Hd.out,g2];simp);have G1:=ae (show cB s t=false by simpa using g1);have G2:=ae g2;clear g1 g2;go_enter Tryz.func57,Tryz.ntmps57;go_wp2_with fail;refine(F1.out _ false bF G1.out).mono ?_;rintro e w1 ⟨rfl,aC⟩;have hcc:=nU aC;go_wp2_with fail;refine(F2.out _ true (Below.then bF aC) G2.out).mono ?_;rintro e w2 ⟨rfl,bg⟩;go_wp2_with fail;go_ret;exact⟨eY hr.out.symm,Below.then (Below.then bF aC) bg⟩
      ·have hr:=ae (show dw s t=false by rw[Hd.out];simp[g1,g2]);have G1:=ae (show cB s t=false by simpa using g1);have G2:=ae (show cB t s=false by simpa using g2);clear g1 g2;go_enter Tryz.func57,Tryz.ntmps57;go_wp2_with fail;refine(F1.out _ false bF G1.out).mono ?_;rintro e w1 ⟨rfl,aC⟩;have hcc:=nU aC;go_wp2_with fail;refine(F2.out _ false (Below.then bF aC) G2.out).mono ?_;rintro e w2 ⟨rfl,bg⟩;go_wp2_with fail;go_ret;exact⟨eY hr.out.symm,Below.then (Below.then bF aC) bg⟩
    ·have hd:dw s t=(cB s t||cB t s):=by rw[Cv.out,yS.out,yT.out];simp
     have Hd:=ae hd;clear hd;by_cases g1:cB s t=true
     ·have hr:=ae (show dw s t=true by rw[Hd.out,g1];simp);have G1:=ae g1;clear g1;go_enter Tryz.func57,Tryz.ntmps57
      go_wp2_with (go_at_call 114;refine(F1.out _ true bF G1.out).mono ?_;rintro e w1 ⟨rfl,aC⟩;have hcc:=nU aC)
      go_ret;exact⟨eY hr.out.symm,Below.then bF aC⟩
     ·by_cases g2:cB t s=true
      ·have hr:=ae (show dw s t=true by rw[Hd.out,g2];simp);have G1:=ae (show cB s t=false by simpa using g1);have G2:=ae g2;clear g1 g2;go_enter Tryz.func57,Tryz.ntmps57;go_wp2_with fail;refine(F1.out _ false bF G1.out).mono ?_;rintro e w1 ⟨rfl,aC⟩;have hcc:=nU aC;go_wp2_with fail;refine(F2.out _ true (Below.then bF aC) G2.out).mono ?_;rintro e w2 ⟨rfl,bg⟩;go_wp2_with fail;go_ret;exact⟨eY hr.out.symm,Below.then (Below.then bF aC) bg⟩
      ·have hr:=ae (show dw s t=false by rw[Hd.out];simp[g1,g2]);have G1:=ae (show cB s t=false by simpa using g1);have G2:=ae (show cB t s=false by simpa using g2);clear g1 g2;go_enter Tryz.func57,Tryz.ntmps57;go_wp2_with fail;refine(F1.out _ false bF G1.out).mono ?_;rintro e w1 ⟨rfl,aC⟩;have hcc:=nU aC;go_wp2_with fail;refine(F2.out _ false (Below.then bF aC) G2.out).mono ?_;rintro e w2 ⟨rfl,bg⟩;go_wp2_with fail;go_ret;exact⟨eY hr.out.symm,Below.then (Below.then bF aC) bg⟩
   ·cases kM
    ·have hd:dw s t=(cB s t||cB t s):=by rw[Cv.out,yS.out,yT.out];simp
     have Hd:=ae hd;clear hd;by_cases g1:cB s t=true
     ·have hr:=ae (show dw s t=true by rw[Hd.out,g1];simp);have G1:=ae g1;clear g1;go_enter Tryz.func57,Tryz.ntmps57
      go_wp2_with (go_at_call 114;refine(F1.out _ true bF G1.out).mono ?_;rintro e w1 ⟨rfl,aC⟩;have hcc:=nU aC)
      go_ret;exact⟨eY hr.out.symm,Below.then bF aC⟩
     ·by_cases g2:cB t s=true
      ·have hr:=ae (show dw s t=true by rw[Hd.out,g2];simp);have G1:=ae (show cB s t=false by simpa using g1);have G2:=ae g2;clear g1 g2;go_enter Tryz.func57,Tryz.ntmps57;go_wp2_with fail;refine(F1.out _ false bF G1.out).mono ?_;rintro e w1 ⟨rfl,aC⟩;have hcc:=nU aC;go_wp2_with fail;refine(F2.out _ true (Below.then bF aC) G2.out).mono ?_;rintro e w2 ⟨rfl,bg⟩;go_wp2_with fail;go_ret;exact⟨eY hr.out.symm,Below.then (Below.then bF aC) bg⟩
      ·have hr:=ae (show dw s t=false by rw[Hd.out];simp[g1,g2]);have G1:=ae (show cB s t=false by simpa using g1);have G2:=ae (show cB t s=false by simpa using g2);clear g1 g2;go_enter Tryz.func57,Tryz.ntmps57;go_wp2_with fail;refine(F1.out _ false bF G1.out).mono ?_;rintro e w1 ⟨rfl,aC⟩;have hcc:=nU aC;go_wp2_with fail;refine(F2.out _ false (Below.then bF aC) G2.out).mono ?_;rintro e w2 ⟨rfl,bg⟩;go_wp2_with fail;go_ret;exact⟨eY hr.out.symm,Below.then (Below.then bF aC) bg⟩
    ·have hr:=ae (show dw s t=true by rw[Cv.out,yS.out,yT.out];simp);go_enter Tryz.func57,Tryz.ntmps57;go_wp2_with fail;go_ret;exact⟨eY hr.out.symm,bF⟩
  exact key _ _ (ae rfl) (ae rfl)
end
section
open Go.RowKit
variable {B:Nat} {w w':World}
def jb:Nat:=2^64
theorem ofInt64(a:Nat)(ha:a<jb):(BitVec.ofInt 64 (a:Int)).toNat=a:=by
 rw[BitVec.ofInt_natCast,BitVec.toNat_ofNat];exact Nat.mod_eq_of_lt ha
theorem Ze(x:Nat)(hx:x<jb):IntKind.u64.wrap ((x:Nat):Int)=(x:Int):=by
 have h2:((x:Nat):Int)<=18446744073709551615:=by
  have:x<18446744073709551616:=hx;omega
 exact IntWalk.u64_in _ ⟨ab,h2⟩
theorem u64_or(a b:Nat)(ha:a<jb)(hb:b<jb):bits .or .u64 (a:Int) (b:Int)=((a|||b:Nat):Int):=by
 have hx:a|||b<jb:=MY ha hb
 show IntKind.u64.wrap ((BitVec.ofInt 64 (a:Int)|||BitVec.ofInt 64 (b:Int)).toNat:Int)=_
 rw[BitVec.toNat_or,ofInt64 a ha,ofInt64 b hb];exact Ze _ hx
theorem u64_and(a b:Nat)(ha:a<jb)(hb:b<jb):bits .and .u64 (a:Int) (b:Int)=((a &&& b:Nat):Int):=by
 have hx:a &&& b<jb:=Nat.and_lt_two_pow _ hb
 show IntKind.u64.wrap ((BitVec.ofInt 64 (a:Int) &&& BitVec.ofInt 64 (b:Int)).toNat:Int)=_
 rw[BitVec.toNat_and,ofInt64 a ha,ofInt64 b hb];exact Ze _ hx
theorem Td(i:Nat)(h:i<64):2^i<jb:=Nat.pow_lt_pow_right ab h
theorem auR(m i:Nat)(hm:m<jb):(bits .and .u64 ((m:Int)/2^i) 1==1)=m.testBit i:=by
 have h1:((m:Int)/2^i)=((m/2^i:Nat):Int):=ai;have h2:m/2^i<jb:=Nat.lt_of_le_of_lt (Nat.div_le_self _ _) hm;rw[h1,show(1:Int)=((1:Nat):Int) from rfl,u64_and _ _ h2 au,Nat.and_one_is_mod,Nat.testBit_eq_decide_div_mod_eq,rR];simp only[DJ,dh];omega
theorem ahp(b o c m i:Nat)(w:World)(hc:w.cell? ⟨b,o,none⟩=some (.int .u64 (m:Int)))(hm:m<jb)(hi:i<64):
  Calls Tryz.prog 71 #[.slice (some ⟨b,o,none⟩) 1 c,I i] w fun e w'=>e=.returned (.bool (m.testBit i))/\w=w':=by
 have h0:i/64=0:=ab;have Cw:(i:Int)/64=0:=ab;have oF:(i:Int)%64=i:=ab;go_enter Tryz.func71,Tryz.ntmps71;go_wp2;go_ret;exact⟨eY (auR m i hm),rfl⟩
theorem auS(b o c m i:Nat)(w:World)(hc:w.cell? ⟨b,o,none⟩=some (.int .u64 (m:Int)))(hf:w.frozen? ⟨b,o,none⟩=false)(hm:m<jb)(hi:i<64):
  Calls Tryz.prog 127 #[.slice (some ⟨b,o,none⟩) 1 c,I i] w fun e w'=>e=.returned (.tuple #[])/\∃n,w'=(w.setCell ⟨b,o,none⟩ (.int .u64 ((m|||2^i:Nat):Int))).drewN n:=by
 have h0:i/64=0:=ab;have Cw:(i:Int)/64=0:=ab;have oF:(i:Int)%64=i:=ab
 have hp:IntKind.u64.wrap ((2:Int)^i)=((2^i:Nat):Int):=by
  rw[show((2:Int)^i)=((2^i:Nat):Int) by simp];exact Ze _ (Td i hi)
 have Hr:=ae (show bits .or .u64 (m:Int) (IntKind.u64.wrap ((2:Int)^i))=((m|||2^i:Nat):Int) by rw[hp];exact u64_or m (2^i) hm (Td i hi));clear hp;go_enter Tryz.func127,Tryz.ntmps127;go_wp2;go_region
 all_goals
  go_wp2;go_end0;refine⟨rfl,1,?_⟩;rw[Hr.out];rfl
theorem ahq(b o c b' o' c' m m':Nat)(w:World)(hc:w.cell? ⟨b,o,none⟩=some (.int .u64 (m:Int)))(hf:w.frozen? ⟨b,o,none⟩=false)(hm:m<jb)
  (hc':w.cell? ⟨b',o',none⟩=some (.int .u64 (m':Int))) (Lc:m'<jb):
  Calls Tryz.prog 70 #[.slice (some ⟨b,o,none⟩) 1 c,.slice (some ⟨b',o',none⟩) 1 c'] w fun e w'=>e=.returned (.tuple #[])/\w'=w.setCell ⟨b,o,none⟩ (.int .u64 ((m|||m':Nat):Int)):=by
 have Hr:=ae (u64_or m m' hm Lc);go_enter Tryz.func70,Tryz.ntmps70;go_wp2;refine wp_loop_rounds 2 ?_;rw[rounds_succ];go_wp2;rw[rounds_succ];go_wp2;go_end0;exact⟨rfl,by rw[Hr.out]⟩
def AG (w:World)(p:Value)(n:Nat)(f:Nat->Nat->Bool):Prop:=
 n<=64/\∃g gb c,p=.pointer (some ⟨g,0,none⟩)/\w.cell? ⟨g,0,none⟩=some (I n)/\w.cell? ⟨g,1,none⟩=some (.slice (some ⟨gb,0,none⟩) n c)/\
  ∀i<n,∃gi ci m,w.cell? ⟨gb,i,none⟩=some (.slice (some ⟨gi,0,none⟩) 1 ci)/\w.cell? ⟨gi,0,none⟩=some (.int .u64 ((m:Nat):Int))/\m<jb/\∀k<n,m.testBit k=f i k
theorem bB(hb:Below B w w')(hB:w.heap.size<=B){a:Addr}{v:Value}(h:w.cell? a=some v):w'.cell? a=some v:=by
 rw[hb.cell (p:=a) (jj (iT _ _ h) hB)];exact h
theorem AG.kept{p:Value}{n:Nat}{f:Nat->Nat->Bool}(h:AG w p n f)(hb:Below B w w')(hB:w.heap.size<=B):AG w' p n f:=by
 obtain⟨hn,g,gb,c,hp,h0,h1,hr⟩:=h;refine⟨hn,g,gb,c,hp,bB hb hB h0,bB hb hB h1,fun i hi=> ?_⟩;obtain⟨gi,ci,m,a,b,d⟩:=hr i hi;exact⟨gi,ci,m,bB hb hB a,bB hb hB b,d⟩
theorem ahr(g n i:Nat)(w:World)(h0:w.cell? ⟨g,0,none⟩=some (I n))(hi:i<n):
  Calls Tryz.prog 86 #[.pointer (some ⟨g,0,none⟩),I i] w fun e w'=>e=.returned (.bool true)/\w=w':=by
 go_enter Tryz.func86,Tryz.ntmps86;go_wp2;go_ret;exact⟨rfl,rfl⟩
theorem Ll(p:Value)(n:Nat)(f:Nat->Nat->Bool)(i k:Nat)(w:World)(h:AG w p n f)(hi:i<n)(hk:k<n):
  Calls Tryz.prog 43 #[p,I i,I k] w fun e w'=>e=.returned (.bool (f i k))/\w=w':=by
 obtain⟨hn,g,gb,c,rfl,h0,h1,hr⟩:=h;obtain⟨gi,ci,m,hc,hm,gz,hf⟩:=hr i hi;have Hf:=ae (hf k hk);have aGd:i<64:=ab;have auT:k<64:=ab;clear hr hf;go_enter Tryz.func43,Tryz.ntmps43;go_wp2_with fail;refine(ahr g n i _ h0 hi).mono ?_;rintro e w1 ⟨rfl,rfl⟩;go_wp2_with fail;refine(ahr g n k _ h0 hk).mono ?_;rintro e w1 ⟨rfl,rfl⟩;go_wp2_with fail;refine(ahp gi 0 ci m k _ hm gz auT).mono ?_;rintro e w1 ⟨rfl,rfl⟩;go_wp2_with fail;go_ret;exact⟨eY Hf.out,rfl⟩
end
end Go.Proofs.YtkanpepkdcmpmaaGreatDoor
