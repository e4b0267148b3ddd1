/- The statement Rows.StoryPrintsCardSaid: the law StoryPrints answers true whatever its arguments, and writes nothing that was there; no condition; the listed variables tied to the program's text. The texts were made small by a program. -/
import Derived.Test.YtkanpepkdcmpmaaGreatDoorY43
import Derived.Test.YtkanpepkdcmpmaaGreatDoorY42
import Derived.Test.YtkanpepkdcmpmaaGreatDoorCards
import Derived.Test.YtkanpepkdcmpmaaGreatDoorTie
import Derived.SevenTiedAt
set_option maxHeartbeats 40000000
set_option maxRecDepth 100000
set_option linter.all false
namespace Go.Proofs.YtkanpepkdcmpmaaGreatDoor
section
open Go.RowKit
theorem aDc (l:List Int)(n:Int)(v:Value)(w:World)(hl:br w v l):
  Calls Tryz.prog 80 #[v,I n] w fun e w'=>e=.returned (.bool (decide (n∈l)))/\w=w':=by
 obtain⟨ka,ca,rfl,gz⟩:=hl.open;go_enter Tryz.func80,Tryz.ntmps80;go_wp2;go_loop [5] (fun i=>∃k:Nat,k<=l.length/\i=.int .i64 k/\(∀j<k,l[j]? ≠some n)) (fun i=>l.length-(intOf i).toNat)
 case atStart=>exact⟨0,ab,rfl,fun j hj=>absurd hj ab⟩
 case round=>
  obtain⟨k,hk,rfl,hE⟩:=hrel;have HE:=ae hE;clear hE;by_cases hlt:k<l.length
  ·obtain⟨b,o,rfl,x0⟩:=hl.at (i:=k) (x:=l[k]) (by simp[hlt]);by_cases hx:l[k]=n
   ·have Hx:=ae hx
    have hq:(l[k]==n)=true:=by simp[hx]
    clear hx;go_wp2;go_ret;refine⟨eY ?_,rfl⟩;symm;rw[decide_eq_true_iff,<-Hx.out];simp
   ·have Hx:=ae hx
    have hq:(l[k]==n)=false:=by simp[hx]
    clear hx;go_wp2;go_round
    case rel=>
     refine⟨k+1,ab,by go_num,?_⟩;intro j hj;by_cases ib:j=k
     ·subst ib;simp[hlt,Hx.out]
     ·exact HE.out j ab
    case measure=>simp[intOf];omega
  ·go_wp2;go_ret;refine⟨eY ?_,rfl⟩;symm;rw[Dw];intro h;obtain⟨j,hj⟩:=wH h;exact HE.out j (by have:=(bK.1 hj).1;omega) hj
end
section
open Go.RowKit
theorem aDd (m:bQ)(w:World):Calls Tryz.prog 48 #[.agg #[I m.node,I m.handler,I m.count,I m.index,I m.copy]] w fun e w'=>
  ∃g,e=.returned (.slice (some ⟨g,0,none⟩) 5 5)/\w.heap.size<=g/\w'.heap[g]? =some (.cells #[I m.node,I m.handler,I m.count,I m.index,I m.copy] 3 (0,0))/\aw w w':=by
 go_enter Tryz.func48,Tryz.ntmps48;go_wp2;go_ret;exact⟨_,rfl,ai,Kg _ _ _,bF⟩
theorem aDe (a0 a1 a2 a3 a4:Int)(w:World):Calls Tryz.prog 184 #[.agg #[I a0,I a1,I a2,I a3,I a4]] w fun e w'=>
  ∃g,e=.returned (.slice (some ⟨g,0,none⟩) 5 5)/\w.heap.size<=g/\w'.heap[g]? =some (.cells #[I a0,I a1,I a2,I a3,I a4] 3 (0,0))/\aw w w':=by
 go_enter Tryz.func184,Tryz.ntmps184;go_wp2;go_ret;exact⟨_,rfl,ai,Kg _ _ _,bF⟩
end
section
open Go.RowKit
theorem aDf (l m:List Int)(v u:Value)(w:World)(hl:br w v l)(hm:br w u m):
  Calls Tryz.prog 135 #[v,u] w fun e w'=>e=.returned (I (aK l m))/\∃n,w'=w.drewN n:=by
 obtain⟨ka,ca,rfl,gz⟩:=hl.open;obtain⟨kb,cb,rfl,kN⟩:=hm.open;go_enter Tryz.func135,Tryz.ntmps135;go_wp2;go_loopw [5] (fun i wr=>∃k n:Nat,k<=l.length/\k<=m.length/\i=.int .i64 k/\wr=w.drewN n/\aK l m=aK (l.drop k) (m.drop k)) (fun i _=>l.length-(intOf i).toNat)
 case atStart=>exact⟨0,0,ab,ab,rfl,rfl,ai⟩
 case round=>
  obtain⟨k,n,hk,nX,rfl,rfl,hE⟩:=hrel;have HE:=ae hE;clear hE;by_cases hlt:k<l.length
  ·have q1:decide (k<l.length)=true:=by simp[hlt]
   by_cases cY:k<m.length
   ·have q2:decide (k<m.length)=true:=by simp[cY]
    obtain⟨b,o,rfl,x0⟩:=hl.at (i:=k) (x:=l[k]) (by simp[hlt]);obtain⟨b',o',rfl,y0⟩:=hm.at (i:=k) (x:=m[k]) (by simp[cY])
    have hd:aK l m=if l[k]<m[k] then -1 else if m[k]<l[k] then 1 else aK (l.drop (k+1)) (m.drop (k+1)):=by
     rw[HE.out,List.drop_eq_getElem_cons hlt,List.drop_eq_getElem_cons cY];rfl
    have Hd:=ae hd;clear hd q1 q2;by_cases h1:l[k]<m[k]
    ·have p1:decide (l[k]<m[k])=true:=by simp[h1]
     have oF:=ae h1;clear h1;go_wp2;go_quiet (fail);go_wp2;go_ret;exact⟨ly (by rw[Hd.out,aq oF.out]),n+nq,ai⟩
    ·have p1:decide (l[k]<m[k])=false:=by simp[h1]
     have oF:=ae h1;clear h1;by_cases h2:m[k]<l[k]
     ·have p2:decide (m[k]<l[k])=true:=by simp[h2]
      have hr:=ae (show aK l m=1 by rw[Hd.out,af oF.out,aq h2]);clear h2;go_wp2;go_quiet (fail);go_wp2;revert nq;intro n1;go_quiet (fail);go_wp2;go_ret;exact⟨ly hr.out.symm,n+n1+nq,ai⟩
     ·have p2:decide (m[k]<l[k])=false:=by simp[h2]
      have hr:=ae (show aK l m=aK (l.drop (k+1)) (m.drop (k+1)) by rw[Hd.out,af oF.out,af h2]);clear h2;go_wp2;go_quiet (fail);go_wp2;revert nq;intro n1;go_quiet (fail);go_wp2;go_roundw
      case rel=>exact⟨k+1,n+n1+nq,ab,ab,by go_num,by first|rfl|simp,hr.out⟩
      case measure=>simp[intOf];omega
   ·have q2:decide (k<m.length)=false:=by simp[cY]
    have vZ:k=m.length:=ab
    have hr:aK l m=1:=by
     rw[HE.out,Nr _ _ (.inr (by simp[vZ]))];simp only[lU];rw[af ab,aq ab]
    have Hr:=ae hr;have r1:decide (l.length<m.length)=false:=bq;have r2:decide (m.length<l.length)=true:=bq;clear hr vZ hlt cY;go_wp2;go_ret;exact⟨ly Hr.out.symm,n,rfl⟩
  ·have q1:decide (k<l.length)=false:=by simp[hlt]
   have vZ:k=l.length:=ab;by_cases h1:l.length<m.length
   ·have hr:aK l m= -1:=by
     rw[HE.out,Nr _ _ (.inl (by simp[vZ]))];simp only[lU];rw[aq ab]
    have Hr:=ae hr
    have r1:decide (l.length<m.length)=true:=by simp[h1]
    clear hr vZ hlt h1;go_wp2;go_ret;exact⟨ly Hr.out.symm,n,rfl⟩
   ·have hr:aK l m=0:=by
     rw[HE.out,Nr _ _ (.inl (by simp[vZ]))];simp only[lU];rw[af ab,af ab]
    have Hr:=ae hr
    have r1:decide (l.length<m.length)=false:=by simp[h1]
    have r2:decide (m.length<l.length)=false:=bq;clear hr vZ hlt h1;go_wp2;go_ret;exact⟨ly Hr.out.symm,n,rfl⟩
theorem aDg (e:Ev)(w:World):Calls Tryz.prog 183 #[.agg #[I e.kind,I e.node,I e.arg,I e.msg.node,I e.msg.handler,I e.msg.count,I e.msg.index,I e.msg.copy]] w fun r w'=>
  ∃g c,r=.returned (.slice (some ⟨g,0,none⟩) 8 c)/\w.heap.size<=g/\w'.ownsRow w.heap.size 3 1 (.slice (some ⟨g,0,none⟩) 8 c) 8 (iv e.ints)/\aw w w':=by
 go_enter Tryz.func183,Tryz.ntmps183;go_wp2
 go_region_held3 (fun w'=>w'.cell? ⟨w.heap.size,0,none⟩=some (I e.kind)/\w'.cell? ⟨w.heap.size,1,none⟩=some (I e.node)/\w'.cell? ⟨w.heap.size,2,none⟩=some (I e.arg)/\
  w'.cell? ⟨w.heap.size,3,none⟩=some (I e.msg.node)/\w'.cell? ⟨w.heap.size,4,none⟩=some (I e.msg.handler)/\w'.cell? ⟨w.heap.size,5,none⟩=some (I e.msg.count)/\w'.cell? ⟨w.heap.size,6,none⟩=some (I e.msg.index)/\w'.cell? ⟨w.heap.size,7,none⟩=some (I e.msg.copy)) (first|((repeat' apply And.intro)<;>first|assumption|(simp[*];done))|go_keep)
  (first
   |(go_at_call 48;refine(aDd ⟨e.msg.node,e.msg.handler,e.msg.count,e.msg.index,e.msg.copy⟩ _).mono ?_;rintro r w1 ⟨g,rfl,hg,hb,aC⟩;have ew:az w1 w.heap.size #[I e.kind,I e.node,I e.arg,I e.msg.node,I e.msg.handler,I e.msg.count,I e.msg.index,I e.msg.copy]:=az.kept (by first|exact az.new _ _ _|exact(az.new _ _ _).alloc _) aC (by simp only[oE,World.size_alloc];omega);have hkc:=ew.cell;have cL:=aC.size;simp only[oE,World.size_alloc] at cL hg;have nE:=Below.then (w:=w) bF aC)
   |(refine Gp eD _ _ 22 eD 3 _ 1 8 Tryz.underlying22 rT rfl ab ab w.heap.size (.slice (some ⟨w.heap.size+1,0,none⟩) 3 3) 3 [I e.kind,I e.node,I e.arg] eD (Kj (cs:=#[I e.kind,I e.node,I e.arg]) ((aC.block _ (by simp only[oE,World.size_alloc];omega)).trans (Kg w _ _)) ab rfl ab) g 5 5 #[I e.msg.node,I e.msg.handler,I e.msg.count,I e.msg.index,I e.msg.copy] 3 eD hb rfl rfl ab ab (by first|omega|(simp only[World.size_alloc];omega)) ?_
     intro g1 cap w2 fQ gE je sP tZ bg;have aDh:=(ew.grown tZ (by simp[Value.ownBlock]<;>omega)).cell
     have tY:=nE.trans bg)
   |(refine Gp eD _ _ 22 eD 3 _ 1 8 Tryz.underlying22 rT rfl ab ab w.heap.size (.slice (some ⟨w1.heap.size,0,none⟩) 3 3) 3 [I e.kind,I e.node,I e.arg] eD (Kj (cs:=#[I e.kind,I e.node,I e.arg]) (dV w1 _) ab rfl ab) g 5 5 #[I e.msg.node,I e.msg.handler,I e.msg.count,I e.msg.index,I e.msg.copy] 3 eD ((Ke w1 _ _ (ng.1 hb).1).trans hb) rfl rfl ab ab (by first|omega|(simp only[World.size_alloc];omega)) ?_
     intro g1 cap w2 fQ gE je sP tZ bg;have aDh:=((ew.alloc _).grown tZ (by simp[Value.ownBlock]<;>omega)).cell
     have tY:=(nE.alloc ab _).trans bg))
 all_goals
  go_wp2;go_ret;exact⟨g1,cap,rfl,fQ,sP,tY⟩
end
section
open Go.RowKit
theorem aDi {w:World}{g:Nat}{x:Obj}(h:w.heap[g]? =some x):g<w.heap.size:=(ng.1 h).1
theorem Vr {w:World}{B k n:Nat}{e:TypeId}{v:Value}{xs:List Value}(h:w.ownsRow B e k v n xs){g:Nat}(hg:g<B):v.ownBlock≠some g:=by
 intro hv;have:=(h.lt g hv).1;omega
theorem amH (s:ay)(v:Value)(w:World)(hs:s.In w v)(hsm:s.asks.length<=1000000):Calls Tryz.prog 136 #[v] w fun r w'=>
  ∃u,r=.returned u/\br w' u s.key/\aw w w':=by
 obtain⟨va,vs,rfl,lM,oc⟩:=hs;obtain⟨ka,ca,rfl,Cu⟩:=lM.open;simp only[ay.val,ay.row];go_enter Tryz.func136,Tryz.ntmps136;go_wp2_with fail;refine(aDg s.ev _).mono ?_;rintro e w1 ⟨g,c,rfl,hg,sP,aC⟩;have ew:az w1 w.heap.size #[I s.ev.kind,I s.ev.node,I s.ev.arg,I s.ev.msg.node,I s.ev.msg.handler,I s.ev.msg.count,I s.ev.msg.index,I s.ev.msg.copy,.slice ka s.asks.length ca,.bool s.aJ,vs]:=(az.new _ _ _).kept aC ai;have nE:=Below.then (w:=w) bF aC;have cL:=aC.size;simp only[World.size_alloc] at sP hg cL;clear aC;go_wp2_with fail
 go_loopw [3,4] (fun v i wr=>∃(k m:Nat) (xs:List Int),k<=s.asks.length/\i=.int .i64 k/\m=8+k*6/\wr.ownsRow (w.heap.size+1) 3 1 v m (iv xs)/\Hid (xs=s.ev.ints++(s.asks.take k).flatMap Ask.key)/\
   aw w wr/\w.heap.size+1<=wr.heap.size/\
   az wr w.heap.size #[I s.ev.kind,I s.ev.node,I s.ev.arg,I s.ev.msg.node,I s.ev.msg.handler,I s.ev.msg.count,I s.ev.msg.index,I s.ev.msg.copy,.slice ka s.asks.length ca,.bool s.aJ,vs]) (fun _ i _=>s.asks.length-(intOf i).toNat)
 case atStart=>exact⟨0,8,s.ev.ints,ab,rfl,rfl,sP,ae ai,nE,cL,ew⟩
 case round=>
  obtain⟨k,m,xs,hk,rfl,hm,aS,Hxs,hB,hz,xr⟩:=hrel;have Hm:=ae hm;have kN:m<=6000010:=ab;clear hm;have hcb:=xr.cell;by_cases hlt:k<s.asks.length
  ·obtain⟨b,o,rfl,x0,x1,x2,x3,x4,x5,x6⟩:=lM.at (i:=k) (x:=s.asks[k]) (by simp[hlt])
   have fc:b<w.heap.size:=by simpa using iT _ _ x0
   have hlen:(iv xs).length=m:=by have:=aS.1;simpa using this
   have gu:Kp w #[I s.ev.kind,I s.ev.node,I s.ev.arg,I s.ev.msg.node,I s.ev.msg.handler,I s.ev.msg.count,I s.ev.msg.index,I s.ev.msg.copy,.slice (some ⟨b,o,none⟩) s.asks.length ca,.bool s.aJ,vs] wr:=⟨xr,hB,hz⟩
   have amI:s.ev.ints++(s.asks.take (k+1)).flatMap Ask.key=(s.ev.ints++(s.asks.take k).flatMap Ask.key)++s.asks[k].key:=by
    rw[List.take_succ_eq_append_getElem hlt,oY,<-List.append_assoc];simp
   have aDj:=ae amI;clear amI hlen hcb xr;have hS0:=gu.S;have hcb:=hS0.1;have hcw:=hS0.2;go_wp2_with fail
   go_region_held3 (fun w'=>(∀j,w'.cell? ⟨w.heap.size,j,none⟩=(#[I s.ev.kind,I s.ev.node,I s.ev.arg,I s.ev.msg.node,I s.ev.msg.handler,I s.ev.msg.count,I s.ev.msg.index,I s.ev.msg.copy,.slice (some ⟨b,o,none⟩) s.asks.length ca,.bool s.aJ,vs]:Array Value)[j]?)/\(∀b o,b<w.heap.size->w'.cell? ⟨b,o,none⟩=w.cell? ⟨b,o,none⟩))
    ((first|exact Kp.S gu|exact Kp.S gu.drew|exact Kp.S LO|exact Kp.S jK|exact Kp.S (jK.alloc _)|exact Kp.S gJ|exact Kp.S (gJ.alloc _)|exact Kp.S (gu.alloc _).drew|exact Kp.S (gu.alloc _)))
    (first
     |(go_at_call 184;refine(aDe _ _ _ _ _ _).mono ?_;rintro e w1 ⟨gq,rfl,IV,hbq,aC⟩
       have gJ:Kp w #[I s.ev.kind,I s.ev.node,I s.ev.arg,I s.ev.msg.node,I s.ev.msg.handler,I s.ev.msg.count,I s.ev.msg.index,I s.ev.msg.copy,.slice (some ⟨b,o,none⟩) s.asks.length ca,.bool s.aJ,vs] w1:=by first|exact Kp.call gu.drew aC|exact Kp.call (gu.alloc _).drew aC
       have xS:w1.ownsRow (w.heap.size+1) 3 1 u3 m (iv xs):=by first|exact pj (w:=wr.drew) aS aC|exact pj (w:=(wr.alloc (.cells #[I s.asks[k].n] 3)).drew) (aS.alloc _) aC
       have cL:=aC.size
       simp only[oE,World.size_alloc] at cL IV)
     |(refine Gp eD _ _ 22 eD 3 _ 1 8 Tryz.underlying22 rT rfl ab ab (w.heap.size+1) u3 m (iv xs) eD (by first|exact xS|exact xS.alloc _) gq 5 5 #[I s.asks[k].node,I s.asks[k].handler,I s.asks[k].count,I s.asks[k].kind,I s.asks[k].index] 3 eD (by first|exact hbq|exact(Ke w1 _ _ (aDi hbq)).trans hbq) rfl rfl ab ab (by first|omega|(simp only[World.size_alloc];omega)) ?_
       intro g2 aDk w2 fQ gE je ug xD bg
       have jK:Kp w #[I s.ev.kind,I s.ev.node,I s.ev.arg,I s.ev.msg.node,I s.ev.msg.handler,I s.ev.msg.count,I s.ev.msg.index,I s.ev.msg.copy,.slice (some ⟨b,o,none⟩) s.asks.length ca,.bool s.aJ,vs] w2:=by first|exact gJ.app xD (Vr xS ab) bg|exact(gJ.alloc _).app xD (Vr xS ab) bg
       have fj:=bg.size
       try simp only[World.size_alloc] at fj)
     |(refine Gp eD _ _ 22 eD 3 _ 1 8 Tryz.underlying22 rT rfl ab ab (w.heap.size+1) (.slice (some ⟨g2,0,none⟩) (m+5) aDk) (m+5) _ eD (by first|exact ug|exact ug.alloc _) _ 1 1 #[I s.asks[k].n] 3 eD
        (by first|exact dV w2 _|exact(xD.block _ (by simp only[World.size_alloc];omega) (fun e=>by have:=(xS.lt _ e.symm).2;omega)).trans (dV w1 _)|exact(xD.block _ ab (fun e=>by have:=(aS.lt _ e.symm).2;omega)).trans ((aC.block _ (by simp only[oE,World.size_alloc];omega)).trans (dV wr _)))
        rfl rfl ab ab (by first|omega|(simp only[World.size_alloc];omega)) ?_
       intro g3 aHb w3 aHc aHd Fy ho3 LA fD
       have LO:Kp w #[I s.ev.kind,I s.ev.node,I s.ev.arg,I s.ev.msg.node,I s.ev.msg.handler,I s.ev.msg.count,I s.ev.msg.index,I s.ev.msg.copy,.slice (some ⟨b,o,none⟩) s.asks.length ca,.bool s.aJ,vs] w3:=by first|exact jK.app LA (Vr ug ab) fD|exact(jK.alloc _).app LA (Vr ug ab) fD))
   all_goals
    go_wp2_with fail;go_roundw
    case rel=>
     refine⟨k+1,m+5+1,xs++s.asks[k].key,ab,by go_num,by have:=Hm.out;omega,?_,?_,LO.2.1,LO.2.2,LO.1⟩
     ·have:iv (xs++s.asks[k].key)=iv xs++#[I s.asks[k].node,I s.asks[k].handler,I s.asks[k].count,I s.asks[k].kind,I s.asks[k].index].toList++#[I s.asks[k].n].toList:=by simp[iv,Ask.key]
      rw[this];exact ho3
     ·exact ae (by rw[aDj.out,Hxs.out])
    case measure=>simp[intOf];omega
  ·go_wp2;go_ret;refine⟨_,rfl,?_,hB⟩;have gC:k=s.asks.length:=ab
   have yA:xs=s.key:=by rw[Hxs.out,nh ab];rfl
   have:=Flat.eu aS;unfold br
   have hl:s.key.length=m:=by rw[<-yA];simpa [iv] using aS.1
   rw[hl,<-yA];exact this
theorem aDl (s t:ay)(v u:Value)(w:World)(hs:s.In w v)(ht:t.In w u)(hsm:s.asks.length<=1000000)(htm:t.asks.length<=1000000):Calls Tryz.prog 81 #[v,u] w fun r w'=>
  r=.returned (I (aK s.key t.key))/\aw w w':=by
 have ki:=hs;have db:=ht;obtain⟨va,vs,rfl,lM,oc⟩:=hs;obtain⟨ka,ca,rfl,Cu⟩:=lM.open;obtain⟨kb,cb,rfl,_⟩:=oc.open;obtain⟨ua,us,rfl,og,mS⟩:=ht;obtain⟨kc,cc,rfl,_⟩:=og.open;obtain⟨kd,cd,rfl,_⟩:=mS.open
 have c1:∀W,aw w W->Calls Tryz.prog 136 #[s.val (.slice ka s.asks.length ca) (.slice kb s.sent.length cb)] W fun r w'=>∃u,r=.returned u/\br w' u s.key/\aw W w':=fun W h=>amH s _ W (ki.kept h ax) hsm
 have c2:∀W,aw w W->Calls Tryz.prog 136 #[t.val (.slice kc t.asks.length cc) (.slice kd t.sent.length cd)] W fun r w'=>∃u,r=.returned u/\br w' u t.key/\aw W w':=fun W h=>amH t _ W (db.kept h ax) htm
 simp only[ay.val,ay.row] at c1 c2⊢;have C1:=ae c1;have C2:=ae c2;clear c1 c2 ki db;go_enter Tryz.func81,Tryz.ntmps81;go_wp2_with fail;have hA:az ((w.alloc (.cells #[I s.ev.kind,I s.ev.node,I s.ev.arg,I s.ev.msg.node,I s.ev.msg.handler,I s.ev.msg.count,I s.ev.msg.index,I s.ev.msg.copy,.slice ka s.asks.length ca,.bool s.aJ,.slice kb s.sent.length cb] 45)).alloc (.cells #[I t.ev.kind,I t.ev.node,I t.ev.arg,I t.ev.msg.node,I t.ev.msg.handler,I t.ev.msg.count,I t.ev.msg.index,I t.ev.msg.copy,.slice kc t.asks.length cc,.bool t.aJ,.slice kd t.sent.length cd] 45)) w.heap.size #[I s.ev.kind,I s.ev.node,I s.ev.arg,I s.ev.msg.node,I s.ev.msg.handler,I s.ev.msg.count,I s.ev.msg.index,I s.ev.msg.copy,.slice ka s.asks.length ca,.bool s.aJ,.slice kb s.sent.length cb]:=(az.new _ _ _).alloc _;have RF:az ((w.alloc (.cells #[I s.ev.kind,I s.ev.node,I s.ev.arg,I s.ev.msg.node,I s.ev.msg.handler,I s.ev.msg.count,I s.ev.msg.index,I s.ev.msg.copy,.slice ka s.asks.length ca,.bool s.aJ,.slice kb s.sent.length cb] 45)).alloc (.cells #[I t.ev.kind,I t.ev.node,I t.ev.arg,I t.ev.msg.node,I t.ev.msg.handler,I t.ev.msg.count,I t.ev.msg.index,I t.ev.msg.copy,.slice kc t.asks.length cc,.bool t.aJ,.slice kd t.sent.length cd] 45)) (w.heap.size+1) #[I t.ev.kind,I t.ev.node,I t.ev.arg,I t.ev.msg.node,I t.ev.msg.handler,I t.ev.msg.count,I t.ev.msg.index,I t.ev.msg.copy,.slice kc t.asks.length cc,.bool t.aJ,.slice kd t.sent.length cd]:=adS (Kg w _ _);have mH:=hA.cell;have Ks:=RF.cell
 go_region_held3 (fun w'=>(∀j,w'.cell? ⟨w.heap.size,j,none⟩=(#[I s.ev.kind,I s.ev.node,I s.ev.arg,I s.ev.msg.node,I s.ev.msg.handler,I s.ev.msg.count,I s.ev.msg.index,I s.ev.msg.copy,.slice ka s.asks.length ca,.bool s.aJ,.slice kb s.sent.length cb]:Array Value)[j]?)/\(∀j,w'.cell? ⟨w.heap.size+1,j,none⟩=(#[I t.ev.kind,I t.ev.node,I t.ev.arg,I t.ev.msg.node,I t.ev.msg.handler,I t.ev.msg.count,I t.ev.msg.index,I t.ev.msg.copy,.slice kc t.asks.length cc,.bool t.aJ,.slice kd t.sent.length cd]:Array Value)[j]?)) ((first|exact⟨mH,Ks⟩|exact⟨EY,aDm⟩|exact⟨hcc,aDn⟩|exact⟨fun j=>zu j,fun j=>aDo j⟩))
  (first
   |(go_at_call_of 136 (s.ev.kind);refine(C1.out _ bF).mono ?_;rintro e w1 ⟨u1,rfl,Ow,aC⟩;have amJ:=Below.then (w:=w) bF aC;have hb:=hA.drew.kept aC (by simp only[oE,World.size_alloc];omega);have sq:=RF.drew.kept aC (by simp only[oE,World.size_alloc];omega);have cL:=aC.size;simp only[oE,World.size_alloc] at cL;have EY:=hb.cell;have aDm:=sq.cell)
   |(go_at_call_of 136 (t.ev.kind);refine(C2.out _ amJ).mono ?_;rintro e w2 ⟨u2,rfl,Vd,bg⟩;have aDp:=Below.then (w:=w) amJ bg;have hc:=hb.kept bg ab;have hc':=sq.kept bg ab;have hcc:=hc.cell;have aDn:=hc'.cell)
   |(go_at_call 135;refine(aDf s.key t.key _ _ _ (Ow.kept bg ax) Vd).mono ?_;rintro e w3 ⟨rfl,n3,rfl⟩;have zu:=(hc.drewN n3).cell;have aDo:=(hc'.drewN n3).cell))
 go_wp2_with fail;go_ret;exact⟨rfl,below_drewN aDp _⟩
end
section
open Go.RowKit
theorem amK (q:Qn)(w:World):Calls Tryz.prog 83 #[.agg (pQ q)] w fun r w'=>r=.returned (.bool (CW q))/\aw w w':=by
 obtain⟨a,b,c,kind,ix⟩:=q;have HB:=ae (show aw w (w.alloc (.cells #[I a,I b,I c,I kind,I ix] 76)) from(Below.refl _ _).alloc ax _);have Hn:=ae (Qu ix);have Hc:=ae (amw a b c 41);have Hx:=ae (show∀X,Below (w.alloc (.cells #[I a,I b,I c,I kind,I ix] 76)).heap.size (w.alloc (.cells #[I a,I b,I c,I kind,I ix] 76)) X->X.cell? ⟨w.heap.size,4,none⟩=some (I ix) from fun X hX=>((az.new w _ _).kept hX (az.new w _ _).lt).cell 4);have HF:=ae (show CW ⟨a,b,c,kind,ix⟩=(decide (1<=kind) && decide (kind<=3) && uo a b c 41 && ou ix) from rfl)
 obtain⟨T,hT⟩:∃T,T=CW ⟨a,b,c,kind,ix⟩:=⟨_,rfl⟩
 rw[<-hT] at HF⊢;clear hT;unfold pQ;dsimp only;generalize ou ix=X at Hn HF;by_cases h1:1<=kind
 ·by_cases h2:kind<=3
  ·have jx:decide (1<=kind)=true:=ft h1;have ED:decide (kind<=3)=true:=ft h2;rw[jx,ED] at HF;clear jx ED
   cases hC:uo a b c 41 with
   |true=>
    rw[hC] at Hc HF;clear hC;have HF:=ae (show T=X by rw[HF.out];simp);go_enter Tryz.func83,Tryz.ntmps83
    go_wp2_with (first
     |(go_at_call 97;refine(Hc.out _).mono ?_;rintro e w1 ⟨rfl,D⟩;have cx:=Hx.out _ D;replace D:=ae D)
     |(go_at_call 96;refine(Hn.out _).mono ?_;rintro e w2 ⟨rfl,rfl⟩))
    go_ret;exact⟨by rw[HF.out];rfl,HB.out.trans (D.out.mono HB.out.size)⟩
   |false=>
    rw[hC] at Hc HF;clear hC;have HF:=ae (show T=false by rw[HF.out];simp);go_enter Tryz.func83,Tryz.ntmps83
    go_wp2_with (first
     |(go_at_call 97;refine(Hc.out _).mono ?_;rintro e w1 ⟨rfl,D⟩;have cx:=Hx.out _ D;replace D:=ae D))
    go_ret;exact⟨by rw[HF.out];rfl,HB.out.trans (D.out.mono HB.out.size)⟩
  ·have HF:=ae (show T=false by rw[HF.out];simp;omega);go_enter Tryz.func83,Tryz.ntmps83;go_wp2_with fail;go_ret;exact⟨by rw[HF.out];rfl,HB.out⟩
 ·have HF:=ae (show T=false by rw[HF.out];simp;omega);go_enter Tryz.func83,Tryz.ntmps83;go_wp2_with fail;go_ret;exact⟨by rw[HF.out];rfl,HB.out⟩
def zD:Array Value:=#[sv [],sv [100,114,97,119],sv [116,105,99,107],sv [107,101,101,112]]
theorem aDq (k:Nat)(h:k<4):zD[k]? =some (sv (eh.getD k [])):=by
 rcases(show k=0\/k=1\/k=2\/k=3 by omega) with rfl|rfl|rfl|rfl
 all_goals rfl
theorem aDr (q:Qn)(w:World):Calls Tryz.prog 37 #[.agg (pQ q)] w fun r w'=>r=.returned (sv (gQ q))/\aw w w':=by
 cases sZ:CW q with
 |false=>
  have Hw:=ae (fun X=>sZ▸amK q X);have HF:=ae (show gQ q=[] by unfold gQ;rw[sZ];rfl);rw[HF.out];clear sZ HF;obtain⟨a,b,c,kind,ix⟩:=q;have HB:=ae (show aw w (w.alloc (.cells #[I a,I b,I c,I kind,I ix] 76)) from(Below.refl _ _).alloc ax _);unfold pQ at*;dsimp only at*;go_enter Tryz.func37,Tryz.ntmps37
  go_wp2_with (go_at_call 83;refine(Hw.out _).mono ?_;rintro r w1 ⟨rfl,D⟩)
  go_ret;exact⟨rfl,HB.out.trans (D.mono HB.out.size)⟩
 |true=>
  have Hw:=ae (fun X=>sZ▸amK q X);have bU:=(Fl q).1 sZ;have HF:=ae (show gQ q=Mj q by unfold gQ;rw[aq sZ]);rw[HF.out];clear sZ HF;obtain⟨a,b,c,kind,ix⟩:=q;obtain⟨hk,⟨ha,hb,hc⟩,fU⟩:=bU;dsimp only at hk ha hb hc fU
  obtain⟨k,rfl⟩:∃k:Nat,kind=k:=⟨kind.toNat,ab⟩
  obtain⟨i,rfl⟩:∃n:Nat,ix=n:=⟨ix.toNat,ab⟩
  have yM:k<4:=ab
  obtain⟨word,Di⟩:∃x,x=eh.getD k []:=⟨_,rfl⟩
  have vO:word.length<=4:=by rw[Di];exact akm k yM
  have jd:=ae (Di▸aDq k yM);have Hr:=ae (show∀x∈[a,b,c],0<=x/\x<=2147483647 by intro x hx;simp at hx;omega)
  obtain⟨ds,Vs⟩:∃x,x=iI [a,b,c]:=⟨_,rfl⟩
  have aHe:ds.length<=36:=by rw[Vs];exact acs [a,b,c] Hr.out
  have HD:=ae (Vs▸fun v X (h:br X v [a,b,c])=>amy [a,b,c] Hr.out ai v X h)
  obtain⟨dn,ff⟩:∃x,x=Lib.decDigits i:=⟨_,rfl⟩
  have ez:dn.length<=10:=by rw[ff];exact decl i ab
  have mB:=ae (fun X=>ff▸Bp i ab X)
  have HT:=ae (show Mj ⟨a,b,c,k,i⟩=word++[32]++ds++[32]++dn by
   unfold Mj;dsimp only
   rw[fJ,fJ,<-Di,<-ff,<-Vs])
  rw[HT.out];clear HT Hr Di ff Vs ha hb hc fU;have HB:=ae (show aw w (w.alloc (.cells #[I a,I b,I c,I k,I i] 76)) from(Below.refl _ _).alloc ax _);have Qv:=ae (show az (w.alloc (.cells #[I a,I b,I c,I k,I i] 76)) w.heap.size #[I a,I b,I c,I k,I i] from az.new w _ _);unfold pQ at*;unfold sv at mB HD⊢;dsimp only at*;go_enter Tryz.func37,Tryz.ntmps37
  go_upto_region 4 with(go_at_call 83;refine(Hw.out _).mono ?_;rintro r w1 ⟨rfl,D⟩)
  have tf:az w1 w.heap.size #[I a,I b,I c,I k,I i]:=Qv.out.kept D ai;have aC:aw w w1:=HB.out.trans (D.mono HB.out.size);have ey:w.heap.size<w1.heap.size:=tf.lt;have c0:=tf.cell 0;have c1:=tf.cell 1;have c2:=tf.cell 2
  have hx:=ae (show br (w1.alloc (.cells #[I a,I b,I c] 3)) (.slice (some ⟨w1.heap.size,0,none⟩) 3 3) [a,b,c] from
   Flat.wN rfl ai (fun j u hu=>by rw[fu,(az.new w1 #[I a,I b,I c] 3).cell j];simpa [iv] using hu))
  clear HB Qv Hw D
  go_upto_region 5 with(go_at_call 47;refine(HD.out _ _ hx.out).mono ?_;rintro e w5 ⟨rfl,rfl⟩)
  have JJ:=(tf.alloc (.cells #[I a,I b,I c] 3)).drew;have JK:aw w (w1.alloc (.cells #[I a,I b,I c] 3)).drew:=(aC.alloc ab _).drew;clear hx c0 c1 c2 tf aC ey
  obtain⟨V,hV⟩:∃V,V=(w1.alloc (.cells #[I a,I b,I c] 3)).drew:=⟨_,rfl⟩
  rw[<-hV] at JJ JK;refine Rk 12 (.take 1 (.take 2 (.take 6 (.take 9 (.take 10 (.fork 0 11 (.take 3 (.fork 4 11 (.take 5 (.take 7 (.take 8 (.move 11 .nil)))) (.move 4 (.take 5 (.take 7 (.take 8 .nil)))))) (.move 0 (.take 3 (.move 4 (.take 5 (.take 7 (.take 8 .nil)))))))))))) (fun X=>(∀j,X.cell? ⟨w.heap.size,j,none⟩=(#[I a,I b,I c,I k,I i]:Array Value)[j]?)) ah rfl ah (hV▸JJ.cell) ?_;rw[<-hV];clear hV
  iterate 5 refine qu ?_
  have cF:¬9223372036854775807<word.length+1:=ab;have fO:¬9223372036854775807<word.length+1+ds.length:=ab;have xp:¬9223372036854775807<word.length+1+ds.length+1:=ab;have hl4:¬9223372036854775807<word.length+1+ds.length+1+dn.length:=ab;have Vq:(0:Int)<=k:=ab;have aDb:(k:Int)<4:=ab;refine Np ?_ ?_
  ·refine kR rfl (fun K hK=> ?_);go_simp;have ox:az (V.alloc (.cells zD 9)) V.heap.size zD:=az.new _ _ _;have ji:=JJ.alloc (.cells zD 9);have pW:aw w (V.alloc (.cells zD 9)):=JK.alloc JK.size _
   obtain⟨B,hB⟩:∃B,B=V.heap.size:=⟨_,rfl⟩
   rw[<-hB] at ox⊢;unfold zD sv at ox ji pW;generalize V.alloc _=w3 at ox ji pW⊢;clear hB JJ JK;have hc:w3.cell? ⟨B,k,none⟩=some (.string ⟨word.toArray⟩):=(ox.cell k).trans jd.out;refine hK.out _ _ ji.cell ?_;clear hK K;refine cJ ?_;refine qu ?_;refine Np ?_ ?_
   ·refine kR rfl (fun K hK=> ?_);go_simp;refine hK.out _ _ ji.cell ?_;clear hK K;refine cJ ?_
    iterate 3 refine qu ?_
    refine kR rfl (fun K hK=> ?_);go_simp;go_at_call 16;refine(mB.out _).mono ?_;rintro e w4 ⟨rfl,rfl⟩;refine hK.out _ _ ji.cell ?_;clear hK K;refine cJ ?_;refine DU ?_;go_wp2_with fail;refine NoPanic.normal ?_;go_wp2_with fail;go_ret;refine⟨aG (fun x=>Ending.returned (Value.string x)) ?_,pW⟩;rw[cH,cH,cH,cH]
   ·refine kR rfl (fun K hK=> ?_);go_simp;go_at_call 16;refine(mB.out _).mono ?_;rintro e w4 ⟨rfl,rfl⟩;refine hK.out _ _ ji.cell ?_;clear hK K;refine cJ ?_;refine kR rfl (fun K hK=> ?_);go_simp;refine hK.out _ _ ji.cell ?_;clear hK K;refine cJ ?_
    iterate 3 refine qu ?_
    refine DU ?_;go_wp2_with fail;refine NoPanic.normal ?_;go_wp2_with fail;go_ret;refine⟨aG (fun x=>Ending.returned (Value.string x)) ?_,pW⟩;rw[cH,cH,cH,cH]
  ·refine kR rfl (fun K hK=> ?_);go_simp;go_at_call 16;refine(mB.out _).mono ?_;rintro e w4 ⟨rfl,rfl⟩;refine hK.out _ _ JJ.cell ?_;clear hK K;refine cJ ?_;refine kR rfl (fun K hK=> ?_);go_simp;have ox:az (V.alloc (.cells zD 9)) V.heap.size zD:=az.new _ _ _;have ji:=JJ.alloc (.cells zD 9);have pW:aw w (V.alloc (.cells zD 9)):=JK.alloc JK.size _
   obtain⟨B,hB⟩:∃B,B=V.heap.size:=⟨_,rfl⟩
   rw[<-hB] at ox⊢;unfold zD sv at ox ji pW;generalize V.alloc _=w3 at ox ji pW⊢;clear hB JJ JK;have hc:w3.cell? ⟨B,k,none⟩=some (.string ⟨word.toArray⟩):=(ox.cell k).trans jd.out;refine hK.out _ _ ji.cell ?_;clear hK K;refine cJ ?_;refine qu ?_;refine kR rfl (fun K hK=> ?_);go_simp;refine hK.out _ _ ji.cell ?_;clear hK K;refine cJ ?_
   iterate 3 refine qu ?_
   refine DU ?_;go_wp2_with fail;refine NoPanic.normal ?_;go_wp2_with fail;go_ret;refine⟨aG (fun x=>Ending.returned (Value.string x)) ?_,pW⟩;rw[cH,cH,cH,cH]
end
section
open Go.RowKit
theorem aDs (run:List ay)(done:List Nat)(i m:Nat):xV run done i (m+1)=(xV run done i m && (!dc run m i||decide (m∈done))):=by
 unfold xV;rw[lV,List.all_append];simp
def acx (v u:Value):Prop:=v.ownBlock=none\/v.ownBlock≠u.ownBlock
def Dj (l:List Nat):List Int:=l.map Int.ofNat
theorem aDt (l:List Nat)(k:Nat):((k:Int)∈Dj l)↔k∈l:=by
 constructor
 ·intro h;obtain⟨a,ha,e⟩:=dm.1 h;have h2:((a:Nat):Int)=(k:Int):=e;have:a=k:=ab;exact this▸ha
 ·intro h;exact dm.2 ⟨k,h,rfl⟩
def amL:Value->Nat| .slice _ n _=>n|_=>0
end
section
open Go.RowKit
theorem aDu (f:Nat->Nat->Bool)(n i:Nat)(v:Value)(w:World)(h:Ql w v n f)(hn:n<=100000)(hi:i<n):
  Calls Tryz.prog 38 #[v,I i] w fun e w'=>∃u,e=.returned u/\br w' u ((mY f n i n).map fun k:Nat=>(k:Int))/\aw w w':=by
 obtain⟨g,c,rfl,hr⟩:=h;have Hr:=ae hr;clear hr;have hiI:(i:Int)<n:=ab;go_enter Tryz.func38,Tryz.ntmps38;go_wp2_with fail;go_loopw [5,6] (fun vo vi wr=>∃(k m:Nat) (av:Option Addr) (ac:Nat),k<=n/\vo=.slice av m ac/\vi=I k/\m<=k/\Hid (m=(mY f n i k).length)/\Hid (wr.ownsRow w.heap.size 3 1 (.slice av m ac) m (nv (mY f n i k)))/\Hid (aw w wr)) (fun _ vi _=>n-(intOf vi).toNat)
 case atStart=>exact⟨0,0,none,0,ab,rfl,rfl,ab,ae rfl,ae (ko _ _ _ _),ae (Below.refl _ _)⟩
 case round=>
  obtain⟨k,m,av,ac,hk,rfl,rfl,yW,Hm,gF,HB⟩:=hrel;have jZ:=HB.out.size;by_cases hlt:k<n
  ·obtain⟨gk,ck,aY,ew⟩:=Hr.out k hlt;have d0:=bB HB.out ax aY;have Hk1:=ae (show∀j,j<n->wr.cell? ⟨gk,j,none⟩=some (.bool (f k j)) from fun j hj=>bB HB.out ax (ew j hj));clear aY ew;go_wp2_with fail;go_loop [7,8] (fun v7 v8=>∃j:Nat,j<=n/\v7=.bool (xE f j k i)/\v8=I j) (fun _ v8=>n-(intOf v8).toNat)
   case atStart=>exact⟨0,ab,rfl,rfl⟩
   case round=>
    obtain⟨j,hj,rfl,rfl⟩:=hrel;by_cases dJ:j<n
    ·obtain⟨gj,cj,My,Db⟩:=Hr.out j dJ;have e0:=bB HB.out ax My;have e1:=bB HB.out ax (Db i hi);have e2:=Hk1.out j dJ;have Hs:=ae (aad f j k i);clear My Db
     cases hb:xE f j k i with
     |true=>
      rw[hb] at Hs;go_wp2_with fail;go_round
      case rel=>exact⟨j+1,ab,by rw[Hs.out];rfl,by go_num⟩
      case measure=>simp[intOf];omega
     |false=>
      rw[hb] at Hs
      cases hkj:f k j with
      |false=>
       rw[hkj] at e2 Hs;go_wp2_with fail;go_round
       case rel=>exact⟨j+1,ab,by rw[Hs.out];rfl,by go_num⟩
       case measure=>simp[intOf];omega
      |true=>
       rw[hkj] at e2 Hs;generalize f j i=x at e1 Hs;go_wp2_with fail;go_round
       case rel=>exact⟨j+1,ab,by rw[Hs.out];simp,by go_num⟩
       case measure=>simp[intOf];omega
    ·obtain rfl:j=n:=ab;have e3:=Hk1.out i hi;have Hs:=ae (amA f j i k);unfold vR at Hs
     cases lC:f k i with
     |false=>
      rw[lC] at e3 Hs;have pX:Hid (mY f j i (k+1)=mY f j i k):=ae (by rw[Hs.out];simp);clear Hs;go_wp2_with fail;go_roundw
      case rel=>exact⟨k+1,m,av,ac,ab,rfl,by go_num,ab,by rw[pX.out];exact Hm,by rw[pX.out];exact gF,HB⟩
      case measure=>simp[intOf];omega
     |true=>
      cases ID:xE f j k i with
      |true=>
       rw[lC] at e3 Hs;rw[ID] at Hs;have pX:Hid (mY f j i (k+1)=mY f j i k):=ae (by rw[Hs.out];simp);clear Hs;go_wp2_with fail;go_roundw
       case rel=>exact⟨k+1,m,av,ac,ab,rfl,by go_num,ab,by rw[pX.out];exact Hm,by rw[pX.out];exact gF,HB⟩
       case measure=>simp[intOf];omega
      |false=>
       rw[lC] at e3 Hs;rw[ID] at Hs;have pX:Hid (mY f j i (k+1)=mY f j i k++[k]):=ae (by rw[Hs.out];simp);clear Hs
       go_wp2_with (at_builtin;go_must (refine tB rfl _ _ 22 rfl 3 _ 1 8 Tryz.underlying22 rT rfl ab ab w.heap.size (.slice av m ac) m (nv (mY f j i k)) rfl (gF.out.alloc _) wr.heap.size 1 1 #[I k] 3 rfl (dV _ _) rfl rfl ab ab (by rw[World.size_alloc];omega) ?_);intro g5 ui w5 fQ gE je jy nJ eI)
       go_roundw
       case rel=>exact⟨k+1,m+1,_,ui,ab,rfl,by go_num,ab,by rw[pX.out,List.length_append,<-Hm.out];exact ae rfl,by rw[pX.out,Lq];exact ae jy,ae ((HB.out.alloc jZ _).trans eI)⟩
       case measure=>simp[intOf];omega
  ·obtain rfl:k=n:=ab;go_wp2_with fail;go_ret;refine⟨_,rfl,?_,HB.out⟩;have:=Flat.eu gF.out;rw[show nv (mY f k i k)=iv ((mY f k i k).map fun n:Nat=>(n:Int)) by simp[nv,iv]] at this;unfold br;rw[dE,<-Hm.out];exact this
end
section
open Go.RowKit
theorem amM (c:UInt8)(x:aj):∀l:List aj,l≠[]->bI c (l++[x])=bI c l++c::x
 |[],h=>absurd rfl h
 |[a],_=>rfl
 |a::b::l,_=>by
  have h1:(b::l++[x]:List aj)≠[]:=ai;rw[List.cons_append,uq c a h1,amM c x (b::l) ai,uq c a ai];simp
def mZ (bf:List Nat)(k:Nat):aj:=dQ (bf.take k)
theorem Vt (bf:List Nat):mZ bf 0=[]:=by simp[mZ,dQ]
theorem amN (bf:List Nat)(h:0<bf.length):mZ bf 1=([32,97,102,116,101,114,32]:aj)++Lib.itoa (bf[0]:Int):=by
 unfold mZ dQ
 cases bf with
 |nil=>simp at h
 |cons a l=>simp[bI]
theorem amO (bf:List Nat)(k:Nat)(h:k<bf.length)(hk:0<k):mZ bf (k+1)=mZ bf k++[44]++Lib.itoa (bf[k]:Int):=by
 unfold mZ dQ
 have h1:bf.take (k+1)≠[]:=fun e=>by
  have h9:(bf.take (k+1)).length=0:=by rw[e];rfl
  rw[dN] at h9;omega
 have h2:bf.take k≠[]:=fun e=>by
  have h9:(bf.take k).length=0:=by rw[e];rfl
  rw[dN] at h9;omega
 rw[af h1,af h2,List.take_succ_eq_append_getElem h,de,de];rw[show([bf[k]].map fun n:Nat=>(n:Int)).map Lib.itoa=[Lib.itoa (bf[k]:Int)] from rfl,amM 44 _ _ (by simpa using h2)];simp
theorem amP (q:Qn):(gQ q).length<=200:=by
 by_cases hk:CO q
 ·refine abT q ?_;obtain⟨h1,h2,h⟩:=hk;obtain⟨a,b,c,k,ix⟩:=q;dsimp only at h1 h2 h;intro x hx;simp only[Qn.ints,cz,jD,kL] at hx;unfold bY;omega
 ·have h1:gQ q=[]:=by
   unfold gQ;rw[af (fun hw=>hk ((Fl q).1 hw))]
  rw[h1];simp
def Dk (a:Ask):Prop:=0<=a.n/\a.n<=4611686018427387904/\0<=a.arity/\a.arity<=4611686018427387904
theorem aDv (a:Ask)(h:Dk a):(gS a).length<=300:=by
 obtain⟨h0,h1,h2,h3⟩:=h;have h4:=amP a.qn;have h5:=iP a.n ⟨ab,ab⟩;have h6:=iP a.arity ⟨ab,ab⟩;unfold gS;simp only[List.length_append,List.length_cons,List.length_nil];omega
theorem amQ (l:List Ask)(k:Nat)(h:∀a∈l,Dk a):(lp l k).length<=300*l.length:=by
 have h1:=abU gS 300 (l.take k) (fun a ha=>aDv a (h a (tu ha)))
 have h2:(l.take k).length<=l.length:=by rw[dN];omega
 have h3:300*(l.take k).length<=300*l.length:=nR ax h2;unfold lp;omega
theorem aDw (i:Nat)(s:ay)(hi:i<=64):(sV i s).length<=300:=by
 have h1:=iP (i:Int) (uu i ab);have h2:=acv s.ev;unfold sV;simp only[List.length_append,List.length_cons,List.length_nil];omega
theorem acy (bf:List Nat)(h:∀n∈bf,n<=64):(dQ bf).length<=10+21*bf.length:=by
 unfold dQ;split
 ·simp
 ·have:=Bf 44 20 ((bf.map fun n:Nat=>(n:Int)).map Lib.itoa) (fun y hy=>by
   obtain⟨n,hn,rfl⟩:=dm.1 hy;obtain⟨m,hm,rfl⟩:=dm.1 hn
   exact iP _ (uu m (by have:=h m hm;omega)))
  simp only[dE] at this;simp only[List.length_append,List.length_cons,List.length_nil];omega
theorem aDx (i:Nat)(s:ay)(bf:List Nat)(hi:i<=64)(h:∀a∈s.asks,Dk a)(hn:∀n∈bf,n<=64):(xX i s bf).length<=320+300*s.asks.length+21*bf.length:=by
 have h1:=aDw i s hi;have h2:=amQ s.asks s.asks.length h;have h3:=PL s.aJ;have h4:=acy bf hn;unfold xX;simp only[List.length_append,List.length_cons,List.length_nil];omega
theorem amR (l:List ay)(F F':Nat->List Nat):∀m,m<=l.length->(∀i,i<l.length->F i=F' i)->et l F m=et l F' m
 |0,_,_=>by simp[et]
 |m+1,hm,h=>by rw[Bl l F m ab,Bl l F' m ab,amR l F F' m ab h,h m ab]
end
section
open Go.RowKit
theorem aDy (run:List ay)(v:Value)(w:World)(hrun:fw w v run)(hn:run.length<=100000)(ud:∀s∈run,s.asks.length<=1000000):
  Calls Tryz.prog 35 #[v] w fun e w'=>∃u,e=.returned u/\fw w' u (fS run)/\aw w w':=by
 obtain⟨ka,ca,rfl,gz⟩:=hrun.open;have amS:=ae ud;clear ud;go_enter Tryz.func35,Tryz.ntmps35;go_wp2_with fail;refine(ack run _ _ hrun hn).mono ?_;rintro e w1 ⟨u,rfl,hmx,aC⟩;obtain⟨gm,cm,rfl,bl⟩:=hmx;have jd:=ae bl;have eC:=hrun.kept aC ax;clear bl hrun;go_wp2_with fail
 go_loopw [4,5] (fun vd vo wr=>∃(done:List Nat) (xs:List Value),done.length<=run.length/\(∀i∈done,i<run.length)/\wr.ownsRow w1.heap.size 3 1 vd done.length (iv (Dj done))/\wr.ownsRow w1.heap.size 45 11 vo done.length xs/\kr w1 (iq run done) xs/\
   acx vo vd/\Hid (Jo run=Bk run (run.length-done.length) done)/\aw w1 wr) (fun vd _ _=>run.length-amL vd)
 case atStart=>exact⟨[],[],ai,ai,ko _ _ _ _,ko _ _ _ _,rfl,.inl rfl,ae rfl,Below.refl _ _⟩
 case round=>
  obtain⟨done,xs,ez,kU,hod,hoo,hcs,Nk,Hn,hB⟩:=hrel
  obtain⟨vo,rfl⟩:∃vo:Value,vo=u5:=⟨_,rfl⟩
  obtain⟨da0,dc0,rfl,Xd⟩:=(Flat.eu hod).open;have PO:=ae kU;have Hod:=ae hod;have Hoo:=ae hoo;have ze:=ae hcs;have Hdj:=ae Nk;clear kU hod hoo hcs Nk;by_cases hlt:done.length<run.length
  ·obtain⟨aH,PQ,fc,jl⟩:=abI run done (abJ _ _ hlt);have PR:=ae PQ;have Hbd:=ae jl;clear PQ jl;go_wp2_with fail
   obtain⟨wo,rfl⟩:∃wo:World,wo=wr:=⟨_,rfl⟩
   go_loopw [6,7] (fun p q w2=>∃m:Nat,m<=run.length/\q=.int .i64 m/\p=.int .i64 (Fs (iQ run done m))/\aw wo w2) (fun _ q _=>run.length-(intOf q).toNat)
   case atStart=>exact⟨0,ab,rfl,rfl,Below.refl _ _⟩
   case round=>
    obtain⟨m,hm,rfl,rfl,bg⟩:=hrel
    obtain⟨w2,rfl⟩:∃w2:World,w2=wr:=⟨_,rfl⟩
    have nE:aw w1 w2:=hB.trans (bg.mono hB.size);by_cases cY:m<run.length
    ·have hint:br w2 (.slice da0 done.length dc0) (Dj done):=by
      have:=(Flat.eu Hod.out).kept bg ax;unfold br;simpa [Dj] using this
     have amT:∀k:Nat,Calls Tryz.prog 80 #[.slice da0 done.length dc0,I k] w2 fun e w'=>e=.returned (.bool (decide (k∈done)))/\w2=w':=fun k=>by
      have:=aDc (Dj done) k _ w2 hint
      have e:decide ((k:Int)∈Dj done)=decide (k∈done):=by rw[decide_eq_decide];exact aDt done k
      rwa[e] at this
     have acz:=ae amT;clear amT hint;go_wp2_with fail;refine(acz.out m).mono ?_;rintro e w3 ⟨rfl,rfl⟩;go_wp2_with fail;go_loop [8,9] (fun p q=>∃k:Nat,k<=run.length/\q=.int .i64 k/\p=.bool (!decide (m∈done) && xV run done m k)) (fun _ q=>run.length-(intOf q).toNat)
     case atStart=>exact⟨0,ab,rfl,by simp[xV]⟩
     case round=>
      obtain⟨k,hk,rfl,rfl⟩:=hrel;by_cases PD:k<run.length
      ·obtain⟨gi,ci,jN,dS⟩:=jd.out k PD;have d1:=bB nE ax jN;have d2:=bB nE ax (dS m cY);have pM:=aDs run done m k;clear jN dS
       cases hl:dc run k m with
       |false=>
        rw[hl] at d2 pM;have pU:=ae pM;clear hl pM;go_wp2_with fail;go_round
        case rel=>exact⟨k+1,ab,by go_num,by rw[pU.out];simp⟩
        case measure=>simp[intOf];omega
       |true=>
        rw[hl] at d2 pM;have Hck:=ae (acz.out k);by_cases nK:k∈done
        ·have pU:=ae pM;have CE:=ae nK;clear hl pM nK;go_wp2_with fail;refine Hck.out.mono ?_;rintro e w3 ⟨rfl,rfl⟩;rw[ft CE.out];go_wp2_with fail;go_round
         case rel=>exact⟨k+1,ab,by go_num,by rw[pU.out];simp[CE.out]⟩
         case measure=>simp[intOf];omega
        ·have pU:=ae pM;have CE:=ae nK;clear hl pM nK;go_wp2_with fail;refine Hck.out.mono ?_;rintro e w3 ⟨rfl,rfl⟩;rw[jk CE.out];go_wp2_with fail;go_round
         case rel=>exact⟨k+1,ab,by go_num,by rw[pU.out];simp[CE.out]⟩
         case measure=>simp[intOf];omega
      ·have OG:(!decide (m∈done) && xV run done m k)=mA run done m:=by rw[show k=run.length by omega];rfl
       rw[OG];clear OG acz
       cases dx:mA run done m with
       |false=>
        have jh:=PI run done m (.inl dx);have pS:=ae jh;clear dx jh;go_wp2_with fail;refine kO 17 [(0,true),(1,true),(2,true),(3,true),(4,true),(5,true),(6,true),(7,true),(8,true),(9,true),(10,true),(11,true),(12,true),(13,true),(14,true),(15,true),(16,true)] (fun _=>True) ah rfl rfl ah trivial ?_
        iterate 17 (first|refine gA ?_|refine BQ ?_)
        refine kP ?_;go_wp2_with fail;refine NoPanic.normal ?_;go_wp2_with fail;go_roundw
        case rel=>exact⟨m+1,ab,by go_num,by rw[pS.out],bg.drew⟩
        case measure=>simp[intOf];omega
       |true=>
        cases pT:iQ run done m with
        |none=>
         have jh:=UF run done m dx (by rw[pT];rfl);have pS:=ae jh;have wh:Fs (none:Option Nat)= -1:=rfl;rw[wh];clear dx jh pT wh;go_wp2_with fail;refine kO 17 [(0,true),(1,true),(2,true),(3,true),(4,true),(5,true),(6,true),(7,true),(8,true),(9,true),(10,true),(11,true),(12,true),(13,true),(14,true),(15,true),(16,true)] (fun _=>True) ah rfl rfl ah trivial ?_
         iterate 17 (first|refine gA ?_|refine BQ ?_)
         refine kP ?_;go_wp2_with fail;refine NoPanic.normal ?_;go_wp2_with fail;go_roundw
         case rel=>exact⟨m+1,ab,by go_num,by rw[pS.out];rfl,bg.drew⟩
         case measure=>simp[intOf];omega
        |some j=>
         have hjm:=(Mt run done m j pT).1;have My:decide ((j:Int)<0)=false:=ai;have Jq:j<run.length:=ab;obtain⟨b,o,va,vs,rfl,dU,dz,x0,x1,x2,x3,x4,x5,x6,x7,x8,x9,x10⟩:=(eC.kept nE ax).at (i:=m) (s:=run[m]) (by simp[cY]);obtain⟨b',o',ua,us,eL,sO,AQ,y0,y1,y2,y3,y4,y5,y6,y7,y8,y9,y10⟩:=(eC.kept nE ax).at (i:=j) (s:=run[j]) (by simp[Jq]);simp at eL;obtain⟨rfl,rfl⟩:=eL;obtain⟨qa,da,rfl,_⟩:=dU.open;obtain⟨qs,ds,rfl,_⟩:=dz.open;obtain⟨ra,ea,rfl,_⟩:=sO.open;obtain⟨rs,es,rfl,_⟩:=AQ.open
         have acA:=aDl run[m] run[j] (run[m].val (.slice qa run[m].asks.length da) (.slice qs run[m].sent.length ds)) (run[j].val (.slice ra run[j].asks.length ea) (.slice rs run[j].sent.length es)) w2.drew
          ⟨_,_,rfl,dU.kept (Below.refl _ _).drew ax,dz.kept (Below.refl _ _).drew ax⟩ ⟨_,_,rfl,sO.kept (Below.refl _ _).drew ax,AQ.kept (Below.refl _ _).drew ax⟩ (amS.out _ (bP cY)) (amS.out _ (bP Jq))
         simp only[ay.val,ay.row] at acA;have amU:=ae acA;clear acA dU dz sO AQ;have wh:Fs (some j)=(j:Int):=rfl;rw[wh];by_cases iM:aK run[m].key run[j].key<0
         ·have jh:=UF run done m dx (by rw[pT];simp[wb,Bj cY,Bj Jq,iM]);have pS:=ae jh;clear dx jh pT wh;go_wp2_with fail;refine kO 13 [(0,true),(1,true),(2,true),(3,true),(4,true),(5,true),(6,true),(7,true),(8,true),(9,true),(10,true),(11,true),(12,true)] (fun w'=>w'.cell? ⟨b,o+m*11,none⟩=some (I run[m].ev.kind)/\w'.cell? ⟨b,o+m*11+1,none⟩=some (I run[m].ev.node)/\w'.cell? ⟨b,o+m*11+2,none⟩=some (I run[m].ev.arg)/\w'.cell? ⟨b,o+m*11+3,none⟩=some (I run[m].ev.msg.node)/\w'.cell? ⟨b,o+m*11+4,none⟩=some (I run[m].ev.msg.handler)/\w'.cell? ⟨b,o+m*11+5,none⟩=some (I run[m].ev.msg.count)/\w'.cell? ⟨b,o+m*11+6,none⟩=some (I run[m].ev.msg.index)/\w'.cell? ⟨b,o+m*11+7,none⟩=some (I run[m].ev.msg.copy)/\w'.cell? ⟨b,o+m*11+8,none⟩=some (.slice qa run[m].asks.length da)/\w'.cell? ⟨b,o+m*11+9,none⟩=some (.bool run[m].aJ)/\w'.cell? ⟨b,o+m*11+10,none⟩=some (.slice qs run[m].sent.length ds)/\w'.cell? ⟨b,o+j*11,none⟩=some (I run[j].ev.kind)/\w'.cell? ⟨b,o+j*11+1,none⟩=some (I run[j].ev.node)/\w'.cell? ⟨b,o+j*11+2,none⟩=some (I run[j].ev.arg)/\w'.cell? ⟨b,o+j*11+3,none⟩=some (I run[j].ev.msg.node)/\w'.cell? ⟨b,o+j*11+4,none⟩=some (I run[j].ev.msg.handler)/\w'.cell? ⟨b,o+j*11+5,none⟩=some (I run[j].ev.msg.count)/\w'.cell? ⟨b,o+j*11+6,none⟩=some (I run[j].ev.msg.index)/\w'.cell? ⟨b,o+j*11+7,none⟩=some (I run[j].ev.msg.copy)/\w'.cell? ⟨b,o+j*11+8,none⟩=some (.slice ra run[j].asks.length ea)/\w'.cell? ⟨b,o+j*11+9,none⟩=some (.bool run[j].aJ)/\w'.cell? ⟨b,o+j*11+10,none⟩=some (.slice rs run[j].sent.length es)) ah rfl rfl ah ⟨x0,x1,x2,x3,x4,x5,x6,x7,x8,x9,x10,y0,y1,y2,y3,y4,y5,y6,y7,y8,y9,y10⟩ ?_
          iterate 13 (first|refine gA ?_|refine BQ ?_)
          refine kP ?_;go_wp2_with fail;refine amU.out.mono ?_;rintro e w5 ⟨rfl,eI⟩;go_wp2_with fail;refine NoPanic.normal ?_;go_wp2_with fail;go_roundw
          case rel=>exact⟨m+1,ab,by go_num,by rw[pS.out];rfl,bg.drew.trans (eI.mono bg.size)⟩
          case measure=>simp[intOf];omega
         ·have jh:=PI run done m (.inr (by rw[pT];simp[wb,Bj cY,Bj Jq,iM]));rw[pT] at jh;have pS:=ae jh;clear dx jh pT wh;go_wp2_with fail;refine kO 13 [(0,true),(1,true),(2,true),(3,true),(4,true),(5,true),(6,true),(7,true),(8,true),(9,true),(10,true),(11,true),(12,true)] (fun w'=>w'.cell? ⟨b,o+m*11,none⟩=some (I run[m].ev.kind)/\w'.cell? ⟨b,o+m*11+1,none⟩=some (I run[m].ev.node)/\w'.cell? ⟨b,o+m*11+2,none⟩=some (I run[m].ev.arg)/\w'.cell? ⟨b,o+m*11+3,none⟩=some (I run[m].ev.msg.node)/\w'.cell? ⟨b,o+m*11+4,none⟩=some (I run[m].ev.msg.handler)/\w'.cell? ⟨b,o+m*11+5,none⟩=some (I run[m].ev.msg.count)/\w'.cell? ⟨b,o+m*11+6,none⟩=some (I run[m].ev.msg.index)/\w'.cell? ⟨b,o+m*11+7,none⟩=some (I run[m].ev.msg.copy)/\w'.cell? ⟨b,o+m*11+8,none⟩=some (.slice qa run[m].asks.length da)/\w'.cell? ⟨b,o+m*11+9,none⟩=some (.bool run[m].aJ)/\w'.cell? ⟨b,o+m*11+10,none⟩=some (.slice qs run[m].sent.length ds)/\w'.cell? ⟨b,o+j*11,none⟩=some (I run[j].ev.kind)/\w'.cell? ⟨b,o+j*11+1,none⟩=some (I run[j].ev.node)/\w'.cell? ⟨b,o+j*11+2,none⟩=some (I run[j].ev.arg)/\w'.cell? ⟨b,o+j*11+3,none⟩=some (I run[j].ev.msg.node)/\w'.cell? ⟨b,o+j*11+4,none⟩=some (I run[j].ev.msg.handler)/\w'.cell? ⟨b,o+j*11+5,none⟩=some (I run[j].ev.msg.count)/\w'.cell? ⟨b,o+j*11+6,none⟩=some (I run[j].ev.msg.index)/\w'.cell? ⟨b,o+j*11+7,none⟩=some (I run[j].ev.msg.copy)/\w'.cell? ⟨b,o+j*11+8,none⟩=some (.slice ra run[j].asks.length ea)/\w'.cell? ⟨b,o+j*11+9,none⟩=some (.bool run[j].aJ)/\w'.cell? ⟨b,o+j*11+10,none⟩=some (.slice rs run[j].sent.length es)) ah rfl rfl ah ⟨x0,x1,x2,x3,x4,x5,x6,x7,x8,x9,x10,y0,y1,y2,y3,y4,y5,y6,y7,y8,y9,y10⟩ ?_
          iterate 13 (first|refine gA ?_|refine BQ ?_)
          refine kP ?_;go_wp2_with fail;refine amU.out.mono ?_;rintro e w5 ⟨rfl,eI⟩;go_wp2_with fail;refine NoPanic.normal ?_;go_wp2_with fail;go_roundw
          case rel=>exact⟨m+1,ab,by go_num,by rw[pS.out];rfl,bg.drew.trans (eI.mono bg.size)⟩
          case measure=>simp[intOf];omega
    ·have UG:m=run.length:=ab
     have PT:Fs (iQ run done m)=(aH:Int):=by rw[UG,PR.out];rfl
     rw[PT];clear PT;obtain⟨b,o,va,vs,rfl,dU,dz,x0,x1,x2,x3,x4,x5,x6,x7,x8,x9,x10⟩:=eC.at (i:=aH) (s:=run[aH]) (by simp[fc]);obtain⟨qa,da,rfl,_⟩:=dU.open;obtain⟨qs,ds,rfl,_⟩:=dz.open;have amV:=pj Hod.out bg;have acB:=pj Hoo.out bg;have jZ:=nE.size;have mu:=ae dU;have Hvs:=ae dz;have HX:=ae (show w1.cell? ⟨b,o+aH*11,none⟩=some (I run[aH].ev.kind)/\w1.cell? ⟨b,o+aH*11+1,none⟩=some (I run[aH].ev.node)/\w1.cell? ⟨b,o+aH*11+2,none⟩=some (I run[aH].ev.arg)/\w1.cell? ⟨b,o+aH*11+3,none⟩=some (I run[aH].ev.msg.node)/\w1.cell? ⟨b,o+aH*11+4,none⟩=some (I run[aH].ev.msg.handler)/\w1.cell? ⟨b,o+aH*11+5,none⟩=some (I run[aH].ev.msg.count)/\w1.cell? ⟨b,o+aH*11+6,none⟩=some (I run[aH].ev.msg.index)/\w1.cell? ⟨b,o+aH*11+7,none⟩=some (I run[aH].ev.msg.copy)/\w1.cell? ⟨b,o+aH*11+8,none⟩=some (.slice qa run[aH].asks.length da)/\w1.cell? ⟨b,o+aH*11+9,none⟩=some (.bool run[aH].aJ)/\w1.cell? ⟨b,o+aH*11+10,none⟩=some (.slice qs run[aH].sent.length ds) from⟨x0,x1,x2,x3,x4,x5,x6,x7,x8,x9,x10⟩);clear dU dz;clear x0 x1 x2 x3 x4 x5 x6 x7 x8 x9 x10
     go_upto_region 18 with(at_builtin;go_must (refine tB rfl _ _ 22 rfl 3 _ 1 8 Tryz.underlying22 rT rfl ab ab w1.heap.size _ _ _ rfl (amV.alloc _) w2.heap.size 1 1 #[I aH] 3 rfl (dV _ _) rfl rfl ab ab (by rw[World.size_alloc];omega) ?_);intro g cap w5 fQ gE je jy nJ eI)
     have amW:=(acB.alloc (.cells #[I aH] 3)).kept nJ Hdj.out
     have amX:acx vo (.slice (some ⟨g,0,none⟩) (done.length+1) cap):=by
      rcases Hdj.out with h|h
      ·exact .inl h
      ·refine .inr fun e=> ?_
       have e':vo.ownBlock=some g:=e
       rcases je with h3|h3
       ·exact h (e'.trans h3.symm)
       ·have:=(acB.lt g e').2;rw[World.size_alloc] at h3;omega
     have wy:aw w1 w5:=(nE.alloc jZ _).trans eI;have hw5:=wy.size;have Ho5:=ae jy;have aDz:=ae amW;have amY:=ae amX;have aDA:=ae wy;obtain⟨x0,x1,x2,x3,x4,x5,x6,x7,x8,x9,x10⟩:=HX.out;replace x0:=bB wy ax x0;replace x1:=bB wy ax x1;replace x2:=bB wy ax x2;replace x3:=bB wy ax x3;replace x4:=bB wy ax x4;replace x5:=bB wy ax x5;replace x6:=bB wy ax x6;replace x7:=bB wy ax x7;replace x8:=bB wy ax x8;replace x9:=bB wy ax x9;replace x10:=bB wy ax x10;clear jy amW amX nJ eI je amV acB
     go_wp2_with (at_builtin;go_must (refine tB rfl _ _ 23 rfl 45 _ 11 120 Tryz.underlying23 Rc rfl ab ab w1.heap.size _ _ xs rfl (aDz.out.alloc _) w5.heap.size 1 1 #[I run[aH].ev.kind,I run[aH].ev.node,I run[aH].ev.arg,I run[aH].ev.msg.node,I run[aH].ev.msg.handler,I run[aH].ev.msg.count,I run[aH].ev.msg.index,I run[aH].ev.msg.copy,.slice qa run[aH].asks.length da,.bool run[aH].aJ,.slice qs run[aH].sent.length ds] 45 rfl (dV _ _) rfl rfl ab ab (by rw[World.size_alloc];omega) ?_);intro g6 ry w6 aHf aHg amZ EX uk rq)
     have ana:=(Ho5.out.alloc (.cells #[I run[aH].ev.kind,I run[aH].ev.node,I run[aH].ev.arg,I run[aH].ev.msg.node,I run[aH].ev.msg.handler,I run[aH].ev.msg.count,I run[aH].ev.msg.index,I run[aH].ev.msg.copy,.slice qa run[aH].asks.length da,.bool run[aH].aJ,.slice qs run[aH].sent.length ds] 45)).kept uk (.inr fun e=>by
      rcases amY.out with h|h
      ·have:=e.trans h;cases this
      ·exact h e.symm)
     have anb:acx (.slice (some ⟨g6,0,none⟩) (done.length+1) ry) (.slice (some ⟨g,0,none⟩) (done.length+1) cap):=by
      refine .inr fun e=> ?_
      have e':g6=g:=by simpa [Value.ownBlock] using e
      rcases amZ with h3|h3
      ·rcases amY.out with h|h
       ·have:=h.symm.trans h3;cases this
       ·exact h (h3.trans (by rw[e'];rfl))
      ·rw[World.size_alloc] at h3;omega
     have anc:aw w1 w6:=(aDA.out.alloc hw5 _).trans rq;have AM:(done++[aH]).length=done.length+1:=ai;have FC:=ae AM;have aDB:=ae ana;have Ho6:=ae EX;have aDC:=ae anb;have aDD:=ae anc;clear AM ana EX anb anc uk rq amZ;go_roundw
     case rel=>
      refine⟨done++[aH],_,by rw[FC.out];omega,?_,?_,by rw[FC.out];exact Ho6.out,?_,aDC.out,?_,aDD.out⟩
      ·intro i hi
       rcases fL.1 hi with h|h
       ·exact PO.out i h
       ·rw[oB.1 h];exact fc
      ·rw[FC.out]
       have e:iv (Dj (done++[aH]))=iv (Dj done)++(#[I aH]:Array Value).toList:=by simp[iv,Dj]
       rw[e];exact aDB.out
      ·rw[ala run done aH fc];exact ze.out.append (kr.one mu.out Hvs.out)
      ·refine ae ?_;rw[Hn.out,FC.out,show run.length-done.length=(run.length-(done.length+1))+1 by omega];exact abK run done _ aH PR.out
     case measure=>simp[amL];omega
  ·have ff:done.length=run.length:=ab
   have Pa:Jo run=done:=by rw[Hn.out,ff,Nat.sub_self];rfl
   have ane:=ae Pa;clear Pa;go_wp2_with fail;go_ret;refine⟨_,rfl,⟨xs,?_,?_⟩,aC.trans (hB.mono aC.size)⟩
   ·rw[fS,ane.out];exact ze.out.kept hB ax
   ·rw[fS,ane.out,abL _ _ PO.out];exact Flat.eu Hoo.out
end
section
open Go.RowKit
theorem anf (run:List ay)(v:Value)(w:World)(hrun:fw w v run)(hn:run.length<=64)(ud:∀s∈run,s.asks.length<=1000000/\∀a∈s.asks,Dk a):
  Calls Tryz.prog 10 #[v] w fun e w'=>e=.returned (sv (zt (fS run)))/\aw w w':=by
 have HN:=ae (aDy run v w hrun ab (fun s hs=>(ud s hs).1))
 obtain⟨N,hN⟩:∃N,N=fS run:=⟨_,rfl⟩
 have EL:N.length<=64:=by rw[hN,abQ (Mw run)];exact hn
 have HI:=ae (show∀s∈N,s.asks.length<=1000000/\∀a∈s.asks,Dk a from fun s hs=>ud s (abR (Mw run) s (hN▸hs)));rw[<-hN] at HN⊢;clear hN hrun hn ud;unfold sv;go_enter Tryz.func10,Tryz.ntmps10;go_wp2_with fail;refine HN.out.mono ?_;rintro e w1 ⟨u,rfl,eC,aC⟩;obtain⟨ka,ca,rfl,gz⟩:=eC.open;clear HN;go_wp2_with fail;refine(ack N _ w1 eC ab).mono ?_;rintro e w2 ⟨mx,rfl,hmx,bg⟩;have cL:=aC.size;have HN2:=ae (eC.kept bg ax);have HM2:=ae hmx;have mD:=ae (aC.trans (bg.mono cL));have fj:=mD.out.size;have aDE:=hmx;obtain⟨mg,mc,rfl,_⟩:=aDE;clear eC hmx aC bg cL
 obtain⟨F,hF⟩:∃F:Nat->List Nat,F=fun i=>mY (dc N) N.length i N.length:=⟨_,rfl⟩
 have vF:=ae (show zt N=et N F N.length by
  rw[hF]
  exact amR N _ _ N.length ax (fun i hi=>acu N i hi))
 have HFl:=ae (show∀i,(F i).length<=64/\∀x∈F i,x<=64 by
  rw[hF]
  exact fun i=>⟨bj (amB _ _ _ _) EL,fun x hx=>by have:=amC _ _ _ _ x hx;omega⟩)
 have HL:=ae (acw N F 301000000 (fun i hi=>by
  have h1:=HI.out N[i] (bP hi);have h2:=aDx i N[i] (F i) ab h1.2 (HFl.out i).2;have h3:=(HFl.out i).1;have h4:=h1.1
  omega))
 have HC:=ae (show∀X i,i<N.length->aw w2 X->Calls Tryz.prog 38 #[.slice (some ⟨mg,0,none⟩) N.length mc,I i] X fun e w'=>∃u,e=.returned u/\br w' u ((F i).map fun k:Nat=>(k:Int))/\aw X w' by
  rw[hF]
  exact fun X i hi hX=>aDu (dc N) N.length i _ X (HM2.out.below hX) ab hi)
 clear hF HM2;go_wp2_with fail;go_loopw [5,6] (fun vt vi wr=>∃i:Nat,i<=N.length/\vt=.string ⟨(et N F i).toArray⟩/\vi=I i/\Hid (aw w2 wr)) (fun _ vi _=>N.length-(intOf vi).toNat)
 case atStart=>exact⟨0,ab,rfl,rfl,ae (Below.refl _ _)⟩
 case round=>
  obtain⟨i,hi,rfl,rfl,HB⟩:=hrel
  obtain⟨w6,rfl⟩:∃w6:World,w6=wr:=⟨_,rfl⟩
  have ZL:=HB.out.size;by_cases hlt:i<N.length
  ·obtain⟨bb,o,va,vs,rfl,dU,dz,y0,y1,y2,y3,y4,y5,y6,y7,y8,y9,y10⟩:=HN2.out.at (i:=i) (s:=N[i]) (by simp[hlt]);have pO:=HI.out N[i] (bP hlt);have MA:=HL.out i hi;have alJ:301000000*i<=301000000*64:=nR ax ab;have pU:=ae (Bl N F i hlt);have HCi:=ae (fun X hX=>HC.out X i hlt hX);obtain⟨hFl,zw⟩:=HFl.out i;generalize F i=bf at pU hFl zw HCi;generalize et N F i=T at MA pU⊢;generalize N[i]=s at dU dz y0 y1 y2 y3 y4 y5 y6 y7 y8 y9 y10 pO pU;obtain⟨⟨kind,node,arg,⟨m0,m1,m2,m3,m4⟩⟩,asks,aJ,sent⟩:=s;dsimp only at dU dz y0 y1 y2 y3 y4 y5 y6 y7 y8 y9 y10;obtain⟨PW,wm⟩:=pO;dsimp only at wm PW;obtain⟨aa,ac,rfl,uU⟩:=dU.open;obtain⟨sa,sc,rfl,_⟩:=dz.open;generalize sent.length=sl at dz y10
   have ez:(Lib.decDigits i).length<=20:=by have:=iP (i:Int) (uu i ab);rwa[Lib.itoa_nonneg] at this
   have rH:=acv ⟨kind,node,arg,⟨m0,m1,m2,m3,m4⟩⟩;have lj:=ae (fun X=>Bp i ab X);have mC:=ae (fun X=>amz ⟨kind,node,arg,⟨m0,m1,m2,m3,m4⟩⟩ X)
   have rI:Hid (et N F (i+1)=T++(Lib.decDigits i++[58,32]++ei ⟨kind,node,arg,⟨m0,m1,m2,m3,m4⟩⟩)++lp asks asks.length++mX aJ++dQ bf++[10]):=ae (by
    rw[pU.out];unfold xX sV;rw[Lib.itoa_nonneg]
    simp only[List.append_assoc])
   generalize Lib.decDigits i=di at ez lj rI;generalize ei ⟨kind,node,arg,⟨m0,m1,m2,m3,m4⟩⟩=te at rH mC rI;have mu:=ae dU;have Js:=ae wm;have x0:=bB HB.out ax y0;have x1:=bB HB.out ax y1;have x2:=bB HB.out ax y2;have x3:=bB HB.out ax y3;have x4:=bB HB.out ax y4;have x5:=bB HB.out ax y5;have x6:=bB HB.out ax y6;have x7:=bB HB.out ax y7;have x8:=bB HB.out ax y8;have x9:=bB HB.out ax y9;have x10:=bB HB.out ax y10;clear dU dz y0 y1 y2 y3 y4 y5 y6 y7 y8 y9 y10 wm pU;have JL:az (w6.alloc (.cells #[I kind,I node,I arg,I m0,I m1,I m2,I m3,I m4,.slice aa asks.length ac,.bool aJ,.slice sa sl sc] 45)).drew w6.heap.size #[I kind,I node,I arg,I m0,I m1,I m2,I m3,I m4,.slice aa asks.length ac,.bool aJ,.slice sa sl sc]:=(az.new _ _ _).drew;have hX0:aw w2 (w6.alloc (.cells #[I kind,I node,I arg,I m0,I m1,I m2,I m3,I m4,.slice aa asks.length ac,.bool aJ,.slice sa sl sc] 45)).drew:=(HB.out.alloc ZL _).drew;have HR:=ae JL;have HX:=ae hX0;clear JL hX0;have cF:¬9223372036854775807<T.length+di.length:=ab;have fO:¬9223372036854775807<T.length+di.length+2:=ab;have xp:¬9223372036854775807<T.length+di.length+2+te.length:=ab;unfold sv at lj mC;unfold iH at mC;dsimp only at mC;go_wp2_with fail;clear x0 x1 x2 x3 x4 x5 x6 x7 x8 x9 x10;refine kO 8 [(0,true),(1,true),(5,true),(6,true),(2,false),(3,true),(4,true),(7,false)] (fun X=>∀j,X.cell? ⟨w6.heap.size,j,none⟩=(#[I kind,I node,I arg,I m0,I m1,I m2,I m3,I m4,.slice aa asks.length ac,.bool aJ,.slice sa sl sc]:Array Value)[j]?) ah rfl rfl ah HR.out.cell ?_
   iterate 4 refine gA ?_
   obtain⟨V,hV⟩:∃V,V=(w6.alloc (.cells #[I kind,I node,I arg,I m0,I m1,I m2,I m3,I m4,.slice aa asks.length ac,.bool aJ,.slice sa sl sc] 45)).drew:=⟨_,rfl⟩
   rw[<-hV] at HR HX⊢;clear hV;refine kQ (fun K hK=> ?_);go_simp;go_at_call 16;refine(lj.out _).mono ?_;rintro e V1 ⟨rfl,rfl⟩;refine hK.out _ _ HR.out.cell ?_;clear hK K;refine cJ ?_
   iterate 2 refine gA ?_
   refine kQ (fun K hK=> ?_);go_simp;go_at_call 17;refine(mC.out _).mono ?_;rintro e V2 ⟨rfl,D⟩;replace HR:=ae (HR.out.kept D HR.out.lt);replace HX:=ae (HX.out.trans (D.mono HX.out.size));refine hK.out _ _ HR.out.cell ?_;clear hK K D;refine cJ ?_;refine kP ?_;go_wp2_with fail;refine NoPanic.normal ?_
   obtain⟨T1,rz⟩:∃T1,T1=T++(di++[58,32]++te):=⟨_,rfl⟩
   have alK:T1.length<=20000000000:=by
    rw[rz];simp only[List.length_append,List.length_cons,List.length_nil];omega
   have e1:(⟨T.toArray⟩++⟨di.toArray⟩++⟨[58,32].toArray⟩++⟨te.toArray⟩:ByteArray)=⟨T1.toArray⟩:=by
    rw[cH,cH,cH,rz];simp only[List.append_assoc]
   rw[<-rz] at rI;rw[e1];clear rz e1 cF fO xp lj mC ez rH MA alJ;have hq:w6.heap.size<V2.heap.size:=HR.out.lt;go_wp2_with fail;go_loopw [5,8] (fun vt vk wr=>∃k:Nat,k<=asks.length/\vt=.string ⟨(T1++lp asks k).toArray⟩/\vk=I k/\Hid (az wr w6.heap.size #[I kind,I node,I arg,I m0,I m1,I m2,I m3,I m4,.slice aa asks.length ac,.bool aJ,.slice sa sl sc])/\Hid (aw w2 wr)) (fun _ vk _=>asks.length-(intOf vk).toNat)
   case atStart=>exact⟨0,ab,by simp[lp],rfl,HR,HX⟩
   case round=>
    clear HR HX hq;obtain⟨k,hk,rfl,rfl,HR,HX⟩:=hrel;have kt:=amQ asks k Js.out;have aDF:300*asks.length<=300*1000000:=nR ax PW;have c8:=HR.out.cell 8;by_cases eb:k<asks.length
    ·obtain⟨qb,qo,rfl,z0,z1,z2,z3,z4,z5,z6⟩:=(mu.out.kept HX.out ax).at (i:=k) (x:=asks[k]) (by simp[eb]);obtain⟨q0,q1,q2,q3⟩:=Js.out asks[k] (bP eb);have Hs:=ae (aln asks k eb);generalize lp asks k=Tk at Hs kt⊢;generalize asks[k]=a at z0 z1 z2 z3 z4 z5 z6 q0 q1 q2 q3 Hs;obtain⟨n0,n1,n2,n3,n4,n5,n6⟩:=a;dsimp only at z0 z1 z2 z3 z4 z5 z6 q0 q1 q2 q3
     obtain⟨a5,rfl⟩:∃a5:Nat,n5=a5:=⟨n5.toNat,ab⟩
     obtain⟨a6,rfl⟩:∃a6:Nat,n6=a6:=⟨n6.toNat,ab⟩
     have fC:=amP ⟨n0,n1,n2,n3,n4⟩
     have hl5:(Lib.decDigits a5).length<=20:=by have:=iP (a5:Int) ⟨ab,ab⟩;rwa[Lib.itoa_nonneg] at this
     have hl6:(Lib.decDigits a6).length<=20:=by have:=iP (a6:Int) ⟨ab,ab⟩;rwa[Lib.itoa_nonneg] at this
     have xZ:=ae (fun X=>aDr ⟨n0,n1,n2,n3,n4⟩ X);have H5:=ae (fun X=>Bp a5 ab X);have H6:=ae (fun X=>Bp a6 ab X);unfold gS Ask.qn at Hs;dsimp only at Hs;rw[Lib.itoa_nonneg,Lib.itoa_nonneg] at Hs;generalize gQ ⟨n0,n1,n2,n3,n4⟩=tq at fC xZ Hs;generalize Lib.decDigits a5=d5 at hl5 H5 Hs;generalize Lib.decDigits a6=d6 at hl6 H6 Hs;unfold sv at xZ H5 H6;unfold pQ at xZ;dsimp only at xZ
     have Vu:Hid (∀X,aw wr X->X.cell? ⟨w6.heap.size,8,none⟩=some (.slice (some ⟨qb,qo,none⟩) asks.length ac)/\X.cell? ⟨qb,qo+k*7,none⟩=some (I n0)/\X.cell? ⟨qb,qo+k*7+1,none⟩=some (I n1)/\X.cell? ⟨qb,qo+k*7+2,none⟩=some (I n2)/\X.cell? ⟨qb,qo+k*7+3,none⟩=some (I n3)/\X.cell? ⟨qb,qo+k*7+4,none⟩=some (I n4)/\X.cell? ⟨qb,qo+k*7+5,none⟩=some (I a5)/\X.cell? ⟨qb,qo+k*7+6,none⟩=some (I a6)):=ae (fun X hX=>
      ⟨bB hX ax (HR.out.cell 8),bB hX ax z0,bB hX ax z1,bB hX ax z2,bB hX ax z3,bB hX ax z4,bB hX ax z5,bB hX ax z6⟩)
     have hU:T1.length+Tk.length<=30000000000:=ab
     obtain⟨U,Vv⟩:∃U,U=T1++Tk:=⟨_,rfl⟩
     have Vw:U.length<=30000000000:=by rw[Vv,List.length_append];exact hU
     rw[<-Vv];have HUe:=ae Vv;clear Vv;have cF:¬9223372036854775807<U.length+2:=ab;have fO:¬9223372036854775807<U.length+2+tq.length:=ab;have xp:¬9223372036854775807<U.length+2+tq.length+3:=ab;have hl4:¬9223372036854775807<U.length+2+tq.length+3+d6.length:=ab;have hl7:¬9223372036854775807<U.length+2+tq.length+3+d6.length+1:=ab;have Sp:¬9223372036854775807<U.length+2+tq.length+3+d6.length+1+d5.length:=ab;have yL:¬9223372036854775807<U.length+2+tq.length+3+d6.length+1+d5.length+1:=ab;clear z0 z1 z2 z3 z4 z5 z6 hU;go_wp2_with fail;clear c8;have HD:=ae (show aw wr wr.drew from(Below.refl _ _).drew);refine kO 27 [(0,true),(1,true),(2,true),(3,true),(4,true),(5,true),(6,true),(7,true),(11,true),(12,true),(13,true),(14,true),(15,true),(16,true),(20,true),(21,true),(22,true),(23,true),(24,true),(25,true),(8,false),(9,true),(10,true),(17,false),(18,true),(19,true),(26,false)] (fun X=>X.cell? ⟨w6.heap.size,8,none⟩=some (.slice (some ⟨qb,qo,none⟩) asks.length ac)/\X.cell? ⟨qb,qo+k*7,none⟩=some (I n0)/\X.cell? ⟨qb,qo+k*7+1,none⟩=some (I n1)/\X.cell? ⟨qb,qo+k*7+2,none⟩=some (I n2)/\X.cell? ⟨qb,qo+k*7+3,none⟩=some (I n3)/\X.cell? ⟨qb,qo+k*7+4,none⟩=some (I n4)/\X.cell? ⟨qb,qo+k*7+5,none⟩=some (I a5)/\X.cell? ⟨qb,qo+k*7+6,none⟩=some (I a6)) ah rfl rfl ah (Vu.out _ HD.out) ?_
     iterate 20 refine gA ?_
     obtain⟨V3,hV3⟩:∃V3,V3=wr.drew:=⟨_,rfl⟩
     rw[<-hV3] at HD⊢;clear hV3;refine kQ (fun K hK=> ?_);go_simp;go_at_call 37;refine(xZ.out _).mono ?_;rintro e V4 ⟨rfl,D⟩;replace HD:=ae (HD.out.trans (D.mono HD.out.size));refine hK.out _ _ (Vu.out _ HD.out) ?_;clear hK K D;refine cJ ?_
     iterate 2 refine gA ?_
     refine kQ (fun K hK=> ?_);go_simp;go_at_call 16;refine(H6.out _).mono ?_;rintro e V5 ⟨rfl,rfl⟩;refine hK.out _ _ (Vu.out _ HD.out) ?_;clear hK K;refine cJ ?_
     iterate 2 refine gA ?_
     refine kQ (fun K hK=> ?_);go_simp;go_at_call 16;refine(H5.out _).mono ?_;rintro e V6 ⟨rfl,rfl⟩;refine hK.out _ _ (Vu.out _ HD.out) ?_;clear hK K;refine cJ ?_;refine kP ?_;go_wp2_with fail;refine NoPanic.normal ?_;go_wp2_with fail;go_roundw
     case rel=>
      refine⟨k+1,ab,?_,by go_num,ae (HR.out.kept HD.out HR.out.lt),ae (HX.out.trans (HD.out.mono HX.out.size))⟩;rw[Hs.out]
      have e1:(⟨U.toArray⟩++⟨[32,91].toArray⟩++⟨tq.toArray⟩++⟨[32,61,32].toArray⟩++⟨d6.toArray⟩++⟨[47].toArray⟩++⟨d5.toArray⟩++⟨[93].toArray⟩:ByteArray)=⟨(T1++(Tk++([32,91]++tq++[32,61,32]++d6++[47]++d5++[93]))).toArray⟩:=by
       rw[cH,cH,cH,cH,cH,cH,cH,HUe.out];simp only[List.append_assoc]
      exact aG Value.string e1
     case measure=>simp[intOf];omega
    ·obtain rfl:k=asks.length:=ab
     obtain⟨T2,fR⟩:∃T2,T2=T1++lp asks asks.length:=⟨_,rfl⟩
     have aAL:T2.length<=30000000000:=by
      rw[fR,List.length_append];omega
     rw[<-fR] at rI⊢
     obtain⟨T3,sM⟩:∃T3,T3=T2++mX aJ:=⟨_,rfl⟩
     have aHh:T3.length<=30000000002:=by
      rw[sM,List.length_append];have:=PL aJ;omega
     rw[<-sM] at rI;clear fR kt aDF alK mu Js;have c9:=HR.out.cell 9;have cF:¬9223372036854775807<T2.length+2:=ab;have HCw:=ae (HCi.out wr HX.out)
     cases aJ with
     |true=>
      have e1:(⟨T2.toArray⟩++⟨[32,42].toArray⟩:ByteArray)=⟨T3.toArray⟩:=by rw[cH,sM];rfl
      have E1:=ae e1;clear e1 sM;go_upto_region 15 with fail;rw[E1.out];clear c8 c9
      go_wp2_with (go_at_call 38;refine HCw.out.mono ?_;rintro e w8 ⟨u,rfl,hI,D⟩;have wm:=hI.open;rw[dE] at wm;obtain⟨ua,uc,rfl,_⟩:=wm;have HI8:=ae hI;have HD8:=ae D;clear hI D)
      go_loop [5,10] (fun vt vk=>∃k:Nat,k<=bf.length/\vt=.string ⟨(T3++mZ bf k).toArray⟩/\vk=I k) (fun _ vk=>bf.length-(intOf vk).toNat)
      case atStart=>exact⟨0,ab,by rw[Vt,rS],rfl⟩
      case round=>
       obtain⟨k,hk,rfl,rfl⟩:=hrel
       have MH:(mZ bf k).length<=10+21*64:=by
        have h1:=acy (bf.take k) (fun n hn=>zw n (tu hn))
        have h2:(bf.take k).length<=64:=by rw[dN];omega
        unfold mZ;omega
       by_cases eb:k<bf.length
       ·obtain⟨b9,o9,rfl,x0⟩:=br.at HI8.out (i:=k) (x:=((bf[k]:Nat):Int)) (by simp[eb]);have nZ:=zw bf[k] (bP eb)
        have Dl:(Lib.decDigits bf[k]).length<=20:=by have:=iP ((bf[k]:Nat):Int) (uu _ ab);rwa[Lib.itoa_nonneg] at this
        have pY:=ae (Bp bf[k] ab w8);by_cases aY:k=0
        ·subst aY;have Ha:=ae (amN bf eb);rw[Lib.itoa_nonneg] at Ha;generalize bf[0]=y at x0 nZ Dl pY Ha;generalize Lib.decDigits y=dy at Dl pY Ha;rw[Vt,rS];rw[qm] at x0;have fO:¬9223372036854775807<T3.length+7:=ab;have xp:¬9223372036854775807<T3.length+7+dy.length:=ab;unfold sv at pY
         go_wp2_with (go_at_call 16;refine pY.out.mono ?_;rintro e w9 ⟨rfl,rfl⟩)
         go_round
         case rel=>
          refine⟨1,ab,?_,by go_num⟩;rw[Ha.out]
          have e1:(⟨T3.toArray⟩++⟨[32,97,102,116,101,114,32].toArray⟩++⟨dy.toArray⟩:ByteArray)=⟨(T3++([32,97,102,116,101,114,32]++dy)).toArray⟩:=by
           rw[cH,cH];simp only[List.append_assoc]
          exact aG Value.string e1
         case measure=>simp[intOf];omega
        ·have Ha:=ae (amO bf k eb ab);rw[Lib.itoa_nonneg] at Ha;have aDG:¬(k:Int)=0:=ab;generalize bf[k]=y at x0 nZ Dl pY Ha;generalize Lib.decDigits y=dy at Dl pY Ha;generalize mZ bf k=ta at MH Ha⊢
         obtain⟨U,hU⟩:∃U,U=T3++ta:=⟨_,rfl⟩
         have Vw:U.length<=40000000000:=by rw[hU,List.length_append];omega
         rw[<-hU];have HU:=ae hU;clear hU;have fO:¬9223372036854775807<U.length+1:=ab;have xp:¬9223372036854775807<U.length+1+dy.length:=ab;unfold sv at pY
         go_wp2_with (go_at_call 16;refine pY.out.mono ?_;rintro e w9 ⟨rfl,rfl⟩)
         go_round
         case rel=>
          refine⟨k+1,ab,?_,by go_num⟩;rw[Ha.out]
          have e1:(⟨U.toArray⟩++⟨[44].toArray⟩++⟨dy.toArray⟩:ByteArray)=⟨(T3++(ta++[44]++dy)).toArray⟩:=by
           rw[cH,cH,HU.out];simp only[List.append_assoc]
          exact aG Value.string e1
         case measure=>simp[intOf];omega
       ·obtain rfl:k=bf.length:=ab
        have Qw:T3++mZ bf bf.length=T3++dQ bf:=by unfold mZ;rw[fK]
        obtain⟨U,hU⟩:∃U,U=T3++mZ bf bf.length:=⟨_,rfl⟩
        have Vw:U.length<=40000000000:=by rw[hU,List.length_append];omega
        rw[<-hU];have Hl3:Hid (et N F (i+1)=U++[10]):=ae (by rw[rI.out,hU,Qw]);clear hU Qw;have fO:¬9223372036854775807<U.length+1:=ab;go_wp2_with fail;go_roundw
        case rel=>
         refine⟨i+1,ab,?_,by go_num,ae (HX.out.trans (HD8.out.mono HX.out.size))⟩;rw[Hl3.out];exact aG Value.string (cH U [10])
        case measure=>simp[intOf];omega
     |false=>
      have e1:T2=T3:=by rw[sM];simp[mX]
      have E1:=ae e1;clear e1 sM;go_upto_region 15 with fail;rw[E1.out];clear c8 c9
      go_wp2_with (go_at_call 38;refine HCw.out.mono ?_;rintro e w8 ⟨u,rfl,hI,D⟩;have wm:=hI.open;rw[dE] at wm;obtain⟨ua,uc,rfl,_⟩:=wm;have HI8:=ae hI;have HD8:=ae D;clear hI D)
      go_loop [5,10] (fun vt vk=>∃k:Nat,k<=bf.length/\vt=.string ⟨(T3++mZ bf k).toArray⟩/\vk=I k) (fun _ vk=>bf.length-(intOf vk).toNat)
      case atStart=>exact⟨0,ab,by rw[Vt,rS],rfl⟩
      case round=>
       obtain⟨k,hk,rfl,rfl⟩:=hrel
       have MH:(mZ bf k).length<=10+21*64:=by
        have h1:=acy (bf.take k) (fun n hn=>zw n (tu hn))
        have h2:(bf.take k).length<=64:=by rw[dN];omega
        unfold mZ;omega
       by_cases eb:k<bf.length
       ·obtain⟨b9,o9,rfl,x0⟩:=br.at HI8.out (i:=k) (x:=((bf[k]:Nat):Int)) (by simp[eb]);have nZ:=zw bf[k] (bP eb)
        have Dl:(Lib.decDigits bf[k]).length<=20:=by have:=iP ((bf[k]:Nat):Int) (uu _ ab);rwa[Lib.itoa_nonneg] at this
        have pY:=ae (Bp bf[k] ab w8);by_cases aY:k=0
        ·subst aY;have Ha:=ae (amN bf eb);rw[Lib.itoa_nonneg] at Ha;generalize bf[0]=y at x0 nZ Dl pY Ha;generalize Lib.decDigits y=dy at Dl pY Ha;rw[Vt,rS];rw[qm] at x0;have fO:¬9223372036854775807<T3.length+7:=ab;have xp:¬9223372036854775807<T3.length+7+dy.length:=ab;unfold sv at pY
         go_wp2_with (go_at_call 16;refine pY.out.mono ?_;rintro e w9 ⟨rfl,rfl⟩)
         go_round
         case rel=>
          refine⟨1,ab,?_,by go_num⟩;rw[Ha.out]
          have e1:(⟨T3.toArray⟩++⟨[32,97,102,116,101,114,32].toArray⟩++⟨dy.toArray⟩:ByteArray)=⟨(T3++([32,97,102,116,101,114,32]++dy)).toArray⟩:=by
           rw[cH,cH];simp only[List.append_assoc]
          exact aG Value.string e1
         case measure=>simp[intOf];omega
        ·have Ha:=ae (amO bf k eb ab);rw[Lib.itoa_nonneg] at Ha;have aDG:¬(k:Int)=0:=ab;generalize bf[k]=y at x0 nZ Dl pY Ha;generalize Lib.decDigits y=dy at Dl pY Ha;generalize mZ bf k=ta at MH Ha⊢
         obtain⟨U,hU⟩:∃U,U=T3++ta:=⟨_,rfl⟩
         have Vw:U.length<=40000000000:=by rw[hU,List.length_append];omega
         rw[<-hU];have HU:=ae hU;clear hU;have fO:¬9223372036854775807<U.length+1:=ab;have xp:¬9223372036854775807<U.length+1+dy.length:=ab;unfold sv at pY
         go_wp2_with (go_at_call 16;refine pY.out.mono ?_;rintro e w9 ⟨rfl,rfl⟩)
         go_round
         case rel=>
          refine⟨k+1,ab,?_,by go_num⟩;rw[Ha.out]
          have e1:(⟨U.toArray⟩++⟨[44].toArray⟩++⟨dy.toArray⟩:ByteArray)=⟨(T3++(ta++[44]++dy)).toArray⟩:=by
           rw[cH,cH,HU.out];simp only[List.append_assoc]
          exact aG Value.string e1
         case measure=>simp[intOf];omega
       ·obtain rfl:k=bf.length:=ab
        have Qw:T3++mZ bf bf.length=T3++dQ bf:=by unfold mZ;rw[fK]
        obtain⟨U,hU⟩:∃U,U=T3++mZ bf bf.length:=⟨_,rfl⟩
        have Vw:U.length<=40000000000:=by rw[hU,List.length_append];omega
        rw[<-hU];have Hl3:Hid (et N F (i+1)=U++[10]):=ae (by rw[rI.out,hU,Qw]);clear hU Qw;have fO:¬9223372036854775807<U.length+1:=ab;go_wp2_with fail;go_roundw
        case rel=>
         refine⟨i+1,ab,?_,by go_num,ae (HX.out.trans (HD8.out.mono HX.out.size))⟩;rw[Hl3.out];exact aG Value.string (cH U [10])
        case measure=>simp[intOf];omega
  ·obtain rfl:i=N.length:=ab;go_wp2_with fail;go_ret;exact⟨by rw[vF.out];rfl,mD.out.trans (HB.out.mono fj)⟩
end
section
open Go.RowKit
theorem aDH {s:ay}(h:Ab.Qs s):Dc s:=by
 obtain⟨h1,h2,h3,h4⟩:=h;exact⟨fun x hx=>by have:=h1 x hx;unfold Ab.Sm at this;unfold bY;omega,fun a ha x hx=>by have:=(h2 a ha).1 x hx;unfold Ab.Sm at this;unfold bY;omega,ab⟩
theorem aDI {s:ay}(h:Ab.Qs s):∀a∈s.asks,Dk a:=fun a ha=>by
 obtain⟨h1,h2,h3,h4⟩:=h;obtain⟨g1,g2,g3⟩:=h2 a ha;have:=g1 a.n (by simp[Ask.ints]);unfold Ab.Sm at this;unfold Dk;omega
theorem aDJ {s:ay}(h:ME s):∀a∈s.asks,Dk a:=fun a ha=>by
 obtain⟨_,h2,_,_⟩:=h;obtain⟨_,g2,g3,g4⟩:=h2 a ha;unfold Dk;omega
theorem aDK (l l2 l3:List Int)(k k2 k3:Option Addr)(c c2 c3:Nat)(w:World)(h:br w (.slice k l.length c) l)(hc:l.length<=c)(hi:∀x∈l,bY x)(h2:br w (.slice k2 l2.length c2) l2)(dS:l2.length<=c2)(rA:∀x∈l2,bY x)
  (h3:br w (.slice k3 l3.length c3) l3) (FE:l3.length<=c3) (Mo:∀x∈l3,bY x) (hg:Gl w):
  Calls Tryz.prog 3 #[.slice k l.length c,.slice k2 l2.length c2,.slice k3 l3.length c3] w fun e w'=>e=.returned (.bool true)/\aw w w':=by
 obtain⟨run,eF,iw,HW⟩:=aci h hc hi h2 dS rA hg;have HW:=ae HW;have Hg:=ae hg;have Qx:=ae (fun X (hX:aw w X)=>amv X (h3.kept hX ax) FE Mo 12 ab (hg.below hX));have Qy:=ae iw;clear h hc hi h2 dS rA h3 FE Mo hg iw;go_enter Tryz.func3,Tryz.ntmps3
 go_wp2_with (go_at_call 7;refine HW.out.mono ?_;rintro e w1 ⟨u,rfl,eC,aC⟩)
 have om:=ae (Qx.out w1 aC);have kH:=ae aC;have cq:=eC;obtain⟨ua,uc,rfl,_⟩:=cq.open;have Fu:=ae eC;clear cq eC aC HW Qx
 go_wp2_with (go_at_call 8;refine om.out.mono ?_;rintro e w2 ⟨u,gen,rfl,eA,sL,Fv,bg⟩)
 have mD:=ae (kH.out.trans (bg.mono kH.out.size));have MI:=Fu.out.kept bg ax;obtain⟨va,vc,rfl,_⟩:=eA.open;have gE:=Hg.out.below mD.out;have HA:=ae (fun X (hX:aw w2 X)=>PU run (.slice ua run.length uc) X (MI.kept hX ax) ab (fun s hs=>amG (Qy.out s hs)) (fun s hs=>by have:=(Qy.out s hs).2.2.2;omega) (gE.below hX));have CG:=ae (fun X (hX:aw w2 X)=>anf run (.slice ua run.length uc) X (MI.kept hX ax) ab (fun s hs=>⟨by have:=(Qy.out s hs).2.2.1;omega,aDJ (Qy.out s hs)⟩));have HC:=ae (fun X (hX:aw w2 X)=>PU gen (.slice va gen.length vc) X (eA.kept hX ax) ab (fun s hs=>aDH (Fv s hs)) (fun s hs=>by have:=(Fv s hs).2.2.2;omega) (gE.below hX));have OV:=ae (fun X (hX:aw w2 X)=>anf gen (.slice va gen.length vc) X (eA.kept hX ax) ab (fun s hs=>⟨by have:=(Fv s hs).2.2.1;omega,aDI (Fv s hs)⟩));have HL:=ae (fun X (hX:aw w2 X)=>aca X (gE.below hX));unfold Qc at HL
 obtain⟨T1,rz⟩:∃T,zt (fS run)=T:=⟨_,rfl⟩
 obtain⟨T2,fR⟩:∃T,zt (fS gen)=T:=⟨_,rfl⟩
 rw[rz] at HA CG;rw[fR] at HC OV;unfold sv at HA CG HC OV;clear MI eA gE Fv rz fR kH Fu Hg om bg Qy;refine(HA.out w2 (Below.refl _ _)).mono ?_;rintro e w3 ⟨rfl,D3⟩;go_wp2_with fail;refine(CG.out w3 D3).mono ?_;rintro e w4 ⟨rfl,F4⟩;have D4:=Below.then D3 F4;go_wp2_with fail;refine(HC.out w4 D4).mono ?_;rintro e w5 ⟨rfl,F5⟩;have D5:=Below.then D4 F5;go_wp2_with fail;refine(OV.out w5 D5).mono ?_;rintro e w6 ⟨rfl,F6⟩;have D6:=Below.then D5 F6;go_wp2_with fail;refine(HL.out w6 D6).mono ?_;rintro e w7 ⟨rfl,F7⟩;have D7:=Below.then D6 F7;go_wp2_with fail;go_ret;exact⟨rfl,mD.out.trans (D7.mono mD.out.size)⟩
end
namespace storyPrints
open Go.ChangeShapes Go.WideShapes Go.ChangeAt Go.RowKit
theorem lifted (os:Os)(started:os.Started)(H:Type)(enc:TypeId×Value->H):
  ReturnsInHanded {} Tryz.checked os 3 .any (fun w args=>(Rows.storyPrintsSpec.pre enc Tryz.checked.prog Tryz.f3 [] false w args/\laidMetH Tryz.prog tX w)/\sizedMet enc Tryz.checked.prog Tryz.f3 (OpenSpec.ofChange Rows.storyPrintsSpec) false w args)
   (Rows.storyPrintsSpec.post enc Tryz.prog Tryz.f3 false true false false):=by
 refine YY (s:=Rows.storyPrintsSpec) started ah Tryz.func3
  (ChangeSpec.witness_shaped (enc:=enc) (C:=Tryz.checked) (os:=os) (X:=fun w _=>laidMetH Tryz.prog tX w) false (World.laidAll Tryz.prog os tX) #[.slice none 0 0,.slice none 0 0,.slice none 0 0] 8 (World.laidAll_os _ _ _)
   (World.shaped_of_ZipB ah ah) ah ah ah (YX os _)) ?_
 intro W base args ds gs before FG hW hG;have hval:∀(j:Nat) t v,Tryz.f3.params[j]? =some t->args[j]? =some v->Value.okWide Tryz.prog W .any base t v:=FG;have Qz:=hW;obtain⟨p,q,ux,hV,rfl,IE,cP⟩:=hW;have hA:DataW.TrodAll enc Tryz.prog W 0 (fun _=>true) true Tryz.f3.params.toList args.toList ds p:=ux;rw[Tryz.params3] at hA hval;obtain⟨v0,vs0,d0,ds0,p0,q0,Ce,rfl,rfl,h0,r0⟩:=trodAll_cons hA;obtain⟨v1,vs1,d1,ds1,p1,q1,rfl,rfl,rfl,h1,r1⟩:=trodAll_cons r0;obtain⟨v2,vs2,d2,ds2,p2,q2,rfl,rfl,rfl,h2,r2⟩:=trodAll_cons r1;obtain⟨rfl,rfl,rfl⟩:=trodAll_nil r2
 obtain rfl:args=#[v0,v1,v2]:=by cases args;simp_all
 obtain⟨rfl,rfl⟩:=trodVars_none hV;have k0:=h0
 have QA:∀x∈p0,x.block<W.heap.size:=by obtain⟨m,hm⟩:=k0;exact DF m _ _ _ hm
 obtain⟨a0,c0,l0,rfl,i0,e0,b0⟩:=FA (hval 0 22 v0 rfl rfl) h0;have k1:=h1
 have Jw:∀x∈p1,x.block<W.heap.size:=by obtain⟨m,hm⟩:=k1;exact DF m _ _ _ hm
 obtain⟨a1,c1,l1,rfl,i1,e1,b1⟩:=FA (hval 1 22 v1 rfl rfl) h1;have k2:=h2
 have Fw:∀x∈p2,x.block<W.heap.size:=by obtain⟨m,hm⟩:=k2;exact DF m _ _ _ hm
 obtain⟨a2,c2,l2,rfl,i2,e2,b2⟩:=FA (hval 2 22 v2 rfl rfl) h2;clear ux FG
 refine(aDK l0 l1 l2 a0 a1 a2 c0 c1 c2 W i0 e0 b0 i1 e1 b1 i2 e2 b2 hG).mono fun e W' ⟨he,wz⟩=> ?_
 subst he;exact⟨_,rfl,_,_,_,[],_,[],Qz,trodAll_mk1 (shut_bool Tryz.underlying4 _),(trodAll_cons_mk (Below.trod laidOut ah (ni ah) k0 wz QA) (trodAll_cons_mk (Below.trod laidOut ah (ni ah) k1 wz Jw) (trodAll_cons_mk (Below.trod laidOut ah (ni ah) k2 wz Fw) trodAll_mk0))),rfl,wz.frame _,fun h=>by cases h⟩
theorem c01:Rows.storyPrintsRow.wf (OpenSpec.ofChange Rows.storyPrintsSpec)=true:=ah
theorem c02:mapsRowed Tryz.checked.prog=true:=ah
theorem c03:Tryz.f3.params.all (Tryz.checked.prog.readableRec ·)=true:=ah
theorem c04:namedTie Tryz.checked.prog Rows.storyPrintsRow.named Rows.storyPrintsSpec.vars=true:=ah
theorem c05:(Rows.storyPrintsRow.inPlace==Tryz.checked.prog.inPlace 3)=true:=ah
theorem c06:(Rows.storyPrintsRow.unfollowed==Tryz.checked.prog.unfollowed 3)=true:=ah
theorem c07:(Rows.storyPrintsRow.recurses==Tryz.checked.prog.recurses 3)=true:=ah
theorem c08:(Rows.storyPrintsRow.named==Tryz.checked.prog.varsNamed 3)=true:=ah
theorem c09:(Rows.storyPrintsRow.plainKeys==Tryz.checked.prog.plainKeys)=true:=ah
theorem c10:Tryz.checked.prog.stopsHeard=true:=ah
theorem closed:joinedFacts Tryz.checked.prog 3 Tryz.f3 Rows.storyPrintsSpec Rows.storyPrintsRow=true:=by
 unfold joinedFacts;rw[c01,c02,c03,c04,c05,c06,c07,c08,c09,c10,show laidOutB Tryz.checked.prog=true from laidOut];kernel_rfl
theorem over:Rows.storyPrintsRow.holds Tryz.pinned (OpenSpec.ofChange Rows.storyPrintsSpec):=
 OpenClaim.holds_of_wide 3 Tryz.f3 rfl rfl rfl rfl rfl rfl rfl ⟨rfl,rfl,rfl,rfl,rfl⟩ rfl rfl rfl rfl rfl ah Tryz.func3 closed
  (ni ah) (by unfold Func.isWrapper;first|(rw[aq (by decide+kernel)];kernel_rfl)|(rw[af (by decide+kernel)];exact⟨rfl,rfl⟩))
  (fun os started H enc _=>lifted os started H enc)
theorem e01:Rows.storyPrintsRow.wfByText (OpenSpec.ofChange Rows.storyPrintsSpec)=true:=ah
theorem e02:Tryz.pinned.checked.prog.mainIs=some (true,"88d78bb3b2d93f13657459ac48920b8bb0307b7c6a905cd56d26088ceb0a7ff2".toList):=ah
theorem e03:Tryz.prog.funcNamed "simproof/simprooflaw29.StoryPrints" =some 3:=ah
theorem e04:true=Tryz.pinned.checked.prog.looks []:=ah
theorem e05:false=Rows.storyPrintsRow.goesBy Tryz.pinned.checked.prog:=ah
theorem e06:([22,22,22].all fun u=> !Tryz.prog.wantsStandIn u)=true:=ah
theorem proved:Rows.StoryPrintsCardSaid:=
 Claim7.holds_tied_plain_at .later [] [.data,.data,.data,.data,.sentinel,.sentinel,.pinned] true (true,"88d78bb3b2d93f13657459ac48920b8bb0307b7c6a905cd56d26088ceb0a7ff2") true
  over (fun _ h=>by cases h) e01 (fun _ h=>by cases h) storyPrints_row_tie rfl ⟨rfl,rfl⟩ e02 rfl
  (fun f fn hf Cr=>by
   obtain rfl:f=3:=dX (e03.symm.trans hf)|>.symm
   obtain rfl:fn=Tryz.f3:=(dX (Tryz.func3.symm.trans Cr)).symm
   exact⟨e04,fun j t ht=>by
    rw[Tryz.params3] at ht
    have hm:t∈[22,22,22]:=by simpa using Array.mem_of_getElem? ht
    exact(show Tryz.prog.wantsStandIn t=false by simpa using fq.1 e06 t hm)⟩)
  e05
end storyPrints
end Go.Proofs.YtkanpepkdcmpmaaGreatDoor
