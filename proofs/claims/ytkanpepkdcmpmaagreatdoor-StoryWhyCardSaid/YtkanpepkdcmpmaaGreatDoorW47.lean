import Derived.Test.YtkanpepkdcmpmaaGreatDoorW46
set_option maxHeartbeats 40000000
set_option maxRecDepth 100000
set_option linter.all false
namespace Go.Proofs.YtkanpepkdcmpmaaGreatDoor
section
open Go.RowKit
theorem aCN (s t:az)(v u:Value)(w:World)(hs:s.In w v)(ht:t.In w u)(h:vI t=false):
  Calls Tryz.prog 137 #[v,u] w fun e w'=>e=.returned (.bool false)/\aw w w':=by
 obtain⟨va,vs,rfl,lX,oz⟩:=hs;obtain⟨ua,us,rfl,rA,ni⟩:=ht;simp only[vI,Bool.or_eq_false_iff,mO] at h;obtain⟨⟨h3,h5⟩,h6⟩:=h
 have q3:(t.ev.kind !=3)=true:=by simpa using h3
 have q5:(t.ev.kind !=5)=true:=by simpa using h5
 have q6:(t.ev.kind !=6)=true:=by simpa using h6
 clear h3 h5 h6;simp only[az.val,az.row];go_enter Tryz.func137,Tryz.ntmps137;go_wp2;go_ret;exact⟨rfl,bK⟩
theorem aCO (s t:az)(v u:Value)(w:World)(hs:s.In w v)(ht:t.In w u)(h:vI t=true):
  Calls Tryz.prog 137 #[v,u] w fun e w'=>e=.returned (.bool (s.sent.any fun m=>mK m t))/\aw w w':=by
 obtain⟨va,vs,rfl,lX,oz⟩:=hs;obtain⟨ua,us,rfl,rA,ni⟩:=ht;obtain⟨ka,ca,rfl,CD⟩:=oz.open;simp only[vI,uM,DT] at h;simp only[az.val,az.row]
 have key:∀K:Int,(K=3\/K=5\/K=6)->Calls Tryz.prog 137 #[.agg #[I s.ev.kind,I s.ev.node,I s.ev.arg,I s.ev.msg.node,I s.ev.msg.handler,I s.ev.msg.count,I s.ev.msg.index,I s.ev.msg.copy,va,.bool s.aK,.slice ka s.sent.length ca],
   .agg #[I K,I t.ev.node,I t.ev.arg,I t.ev.msg.node,I t.ev.msg.handler,I t.ev.msg.count,I t.ev.msg.index,I t.ev.msg.copy,ua,.bool t.aK,us]] w fun e w'=>e=.returned (.bool (s.sent.any fun m=>mK m t))/\aw w w':=by
  intro K hK
  have q:((K !=3)=false)\/((K !=3)=true/\(K !=5)=false)\/((K !=3)=true/\(K !=5)=true/\(K !=6)=false):=by
   rcases hK with rfl|rfl|rfl<;>decide
  clear hK h
  rcases q with q1|⟨q1,q2⟩|⟨q1,q2,q3⟩
  all_goals
   go_enter Tryz.func137,Tryz.ntmps137;go_wp2
   go_loopw [6] (fun i wr=>∃k:Nat,k<=s.sent.length/\i=.int .i64 k/\aw w wr/\(∀j<k,∀m,s.sent[j]? =some m->mK m t=false)/\
    ay wr w.heap.size #[I s.ev.kind,I s.ev.node,I s.ev.arg,I s.ev.msg.node,I s.ev.msg.handler,I s.ev.msg.count,I s.ev.msg.index,I s.ev.msg.copy,va,.bool s.aK,.slice ka s.sent.length ca]/\
    ay wr (w.heap.size+1) #[I K,I t.ev.node,I t.ev.arg,I t.ev.msg.node,I t.ev.msg.handler,I t.ev.msg.count,I t.ev.msg.index,I t.ev.msg.copy,ua,.bool t.aK,us]) (fun i _=>s.sent.length-(intOf i).toNat)
   case atStart=>
    refine⟨0,ab,rfl,bK,fun j hj=>absurd hj ab,(ay.new _ _ _).alloc _,?_⟩;have:=ay.new (w.alloc (.cells #[I s.ev.kind,I s.ev.node,I s.ev.arg,I s.ev.msg.node,I s.ev.msg.handler,I s.ev.msg.count,I s.ev.msg.index,I s.ev.msg.copy,va,.bool s.aK,.slice ka s.sent.length ca] 45)) #[I K,I t.ev.node,I t.ev.arg,I t.ev.msg.node,I t.ev.msg.handler,I t.ev.msg.count,I t.ev.msg.index,I t.ev.msg.copy,ua,.bool t.aK,us] 45;simpa using this
   case round=>
    obtain⟨k,hk,rfl,hB,hE,cY,fc⟩:=hrel;have HE:=ae hE;clear hE;have jV:=cY.cell;have dW:=fc.cell;by_cases hlt:k<s.sent.length
    ·obtain⟨b,o,rfl,x0,x1,x2,x3,x4⟩:=(oz.kept hB ax).at (i:=k) (x:=s.sent[k]) (by simp[hlt])
     have hno:mK s.sent[k] t=false->∀j<k+1,∀m,s.sent[j]? =some m->mK m t=false:=by
      intro h0 j hj m hm;by_cases iq:j=k
      ·subst iq;rw[cz hlt] at hm;cases hm;exact h0
      ·exact HE.out j ab m hm
     have Hno:=ae hno;clear hno;by_cases g0:s.sent[k].copy=0
     ·have p0:(s.sent[k].copy==0)=true:=by simp[g0]
      by_cases g1:[s.sent[k].node,s.sent[k].handler,s.sent[k].count]=[t.ev.msg.node,t.ev.msg.handler,t.ev.msg.count]
      ·have p1:=Kr g1;by_cases g2:s.sent[k].index=t.ev.msg.index
       ·have p2:(s.sent[k].index==t.ev.msg.index)=true:=by simp[g2]
        have amz:mK s.sent[k] t=true:=by
         simp at g1;simp[mK,g0,g1,g2]
        have aCP:=ae amz;clear g0 g1 g2 amz;go_wp2;go_quiet (fail);go_wp2;go_ret;refine⟨fj ?_,below_drewN hB nq⟩;symm;rw[yg];exact⟨_,bW hlt,aCP.out⟩
       ·have p2:(s.sent[k].index==t.ev.msg.index)=false:=by simp[g2]
        have hno:=ae (Hno.out (by simp[mK,p2]));clear g0 g1 g2;go_wp2;go_quiet (fail);go_wp2;go_roundw
        case rel=>exact⟨k+1,ab,by go_num,below_drewN hB nq,hno.out,cY.drewN nq,fc.drewN nq⟩
        case measure=>simp[intOf];omega
      ·have p1:=Ks g1
       have hno:=ae (Hno.out (by
        rw[Gu];intro h0;apply g1;simp[mK] at h0
        simp[h0]))
       clear g0 g1;go_wp2;go_quiet (fail);go_wp2;go_roundw
       case rel=>exact⟨k+1,ab,by go_num,below_drewN hB nq,hno.out,cY.drewN nq,fc.drewN nq⟩
       case measure=>simp[intOf];omega
     ·have p0:(s.sent[k].copy==0)=false:=by simp[g0]
      have hno:=ae (Hno.out (by simp[mK,p0]));clear g0;go_wp2;go_quiet (fail);go_wp2;go_roundw
      case rel=>exact⟨k+1,ab,by go_num,below_drewN hB nq,hno.out,cY.drewN nq,fc.drewN nq⟩
      case measure=>simp[intOf];omega
    ·go_wp2;go_ret;refine⟨fj ?_,hB⟩;symm;rw[Gu];intro h0;obtain⟨m,hm,h1⟩:=yg.1 h0;obtain⟨j,hj⟩:=wJ hm;rw[HE.out j (by have:=(bN.1 hj).1;omega) m hj] at h1;cases h1
 exact key _ (by rcases h with(h|h)|h<;>simp[h])
theorem aCQ (s t:az)(v u:Value)(w:World)(hs:s.In w v)(ht:t.In w u):
  Calls Tryz.prog 137 #[v,u] w fun e w'=>e=.returned (.bool (cE s t))/\aw w w':=by
 by_cases h:vI t=true
 ·refine(aCO s t v u w hs ht h).mono fun e w' ⟨h1,h2⟩=>⟨?_,h2⟩
  rw[h1,Ti,h];rfl
 ·refine(aCN s t v u w hs ht (by simpa using h)).mono fun e w' ⟨h1,h2⟩=>⟨?_,h2⟩
  rw[h1,Ti,(by simpa using h:vI t=false)];rfl
theorem amA {s t:az}{v u:Value}{w W:World}{x:Bool}(hs:s.In w v)(ht:t.In w u)(hB:aw w W)(hx:cE s t=x):
  Calls Tryz.prog 137 #[v,u] W fun e w'=>e=.returned (.bool x)/\aw W w':=by
 rw[<-hx];exact aCQ s t v u W (hs.kept hB ax) (ht.kept hB ax)
theorem dependent (s t:az)(v u:Value)(w:World)(hs:s.In w v)(ht:t.In w u):
  Calls Tryz.prog 82 #[v,u] w fun e w'=>e=.returned (.bool (dB s t))/\aw w w':=by
 have f1:∀W x,aw w W->cE s t=x->Calls Tryz.prog 137 #[v,u] W fun e w'=>e=.returned (.bool x)/\aw W w':=fun W x hB hx=>amA hs ht hB hx
 have f2:∀W x,aw w W->cE t s=x->Calls Tryz.prog 137 #[u,v] W fun e w'=>e=.returned (.bool x)/\aw W w':=fun W x hB hx=>amA ht hs hB hx
 obtain⟨va,vs,rfl,lX,oz⟩:=hs;obtain⟨ua,us,rfl,rA,ni⟩:=ht;obtain⟨ka,ca,rfl,_⟩:=lX.open;obtain⟨kb,cb,rfl,_⟩:=oz.open;obtain⟨kc,cc,rfl,_⟩:=rA.open;obtain⟨kd,cd,rfl,_⟩:=ni.open;simp only[az.val,az.row] at f1 f2⊢;have F1:=ae f1;have F2:=ae f2;clear f1 f2;by_cases h1:s.ev.node=t.ev.node
 ·have q1:(s.ev.node==t.ev.node)=true:=by simp[h1]
  have hr:=ae (show dB s t=true by simp[dB,h1]);clear h1;go_enter Tryz.func82,Tryz.ntmps82;go_wp2_with fail;go_ret;exact⟨fj hr.out.symm,bK⟩
 ·have q1:(s.ev.node==t.ev.node)=false:=by simp[h1]
  clear h1
  have Iw:dB s t=((s.aK && t.aK)||cE s t||cE t s):=by
   have:dB s t=((s.ev.node==t.ev.node)||(s.aK && t.aK)||cE s t||cE t s):=rfl;rw[this,q1];simp
  have CE:=ae Iw;clear Iw
  have key:∀so kW:Bool,Hid (s.aK=so)->Hid (t.aK=kW)->Calls Tryz.prog 82 #[.agg #[I s.ev.kind,I s.ev.node,I s.ev.arg,I s.ev.msg.node,I s.ev.msg.handler,I s.ev.msg.count,I s.ev.msg.index,I s.ev.msg.copy,.slice ka s.asks.length ca,.bool so,.slice kb s.sent.length cb],
    .agg #[I t.ev.kind,I t.ev.node,I t.ev.arg,I t.ev.msg.node,I t.ev.msg.handler,I t.ev.msg.count,I t.ev.msg.index,I t.ev.msg.copy,.slice kc t.asks.length cc,.bool kW,.slice kd t.sent.length cd]] w fun e w'=>e=.returned (.bool (dB s t))/\aw w w':=by
   intro so kW yS yT;have F1:=F1.out;have F2:=F2.out;rw[yS.out,yT.out] at F1 F2;have F1:=ae F1;have F2:=ae F2;clear lX oz rA ni;cases so
   ·cases kW
    ·have hd:dB s t=(cE s t||cE t s):=by rw[CE.out,yS.out,yT.out];simp
     have Hd:=ae hd;clear hd;by_cases g1:cE s t=true
     ·have hr:=ae (show dB s t=true by rw[Hd.out,g1];simp);have G1:=ae g1;clear g1;go_enter Tryz.func82,Tryz.ntmps82
      go_wp2_with (go_at_call 137;refine(F1.out _ true bK G1.out).mono ?_;rintro e w1 ⟨rfl,aC⟩;have hcc:=oq aC)
      go_ret;exact⟨fj hr.out.symm,Below.then bK aC⟩
     ·by_cases g2:cE t s=true
      ·have hr:=ae (show dB s t=true by rw[Hd.out,g2];simp);have G1:=ae (show cE s t=false by simpa using g1);have G2:=ae g2;clear g1 g2;go_enter Tryz.func82,Tryz.ntmps82;go_wp2_with fail;refine(F1.out _ false bK G1.out).mono ?_;rintro e w1 ⟨rfl,aC⟩;have hcc:=oq aC;go_wp2_with fail;refine(F2.out _ true (Below.then bK aC) G2.out).mono ?_;rintro e w2 ⟨rfl,bh⟩;go_wp2_with fail;go_ret;exact⟨fj hr.out.symm,Below.then (Below.then bK aC) bh⟩
      ·have hr:=ae (show dB s t=false by rw[Hd.out];simp[g1,g2]);have G1:=ae (show cE s t=false by simpa using g1);have G2:=ae (show cE t s=false by simpa using g2);clear g1 g2;go_enter Tryz.func82,Tryz.ntmps82;go_wp2_with fail;refine(F1.out _ false bK G1.out).mono ?_;rintro e w1 ⟨rfl,aC⟩;have hcc:=oq aC;go_wp2_with fail;refine(F2.out _ false (Below.then bK aC) G2.out).mono ?_;rintro e w2 ⟨rfl,bh⟩;go_wp2_with fail;go_ret;exact⟨fj hr.out.symm,Below.then (Below.then bK aC) bh⟩
    ·have hd:dB s t=(cE s t||cE t s):=by rw[CE.out,yS.out,yT.out];simp
     have Hd:=ae hd;clear hd;by_cases g1:cE s t=true
     ·have hr:=ae (show dB s t=true by rw[Hd.out,g1];simp);have G1:=ae g1;clear g1;go_enter Tryz.func82,Tryz.ntmps82
      go_wp2_with (go_at_call 137;refine(F1.out _ true bK G1.out).mono ?_;rintro e w1 ⟨rfl,aC⟩;have hcc:=oq aC)
      go_ret;exact⟨fj hr.out.symm,Below.then bK aC⟩
     ·by_cases g2:cE t s=true
      ·have hr:=ae (show dB s t=true by rw[Hd.out,g2];simp);have G1:=ae (show cE s t=false by simpa using g1);have G2:=ae g2;clear g1 g2;go_enter Tryz.func82,Tryz.ntmps82;go_wp2_with fail;refine(F1.out _ false bK G1.out).mono ?_;rintro e w1 ⟨rfl,aC⟩;have hcc:=oq aC;go_wp2_with fail;refine(F2.out _ true (Below.then bK aC) G2.out).mono ?_;rintro e w2 ⟨rfl,bh⟩;go_wp2_with fail;go_ret;exact⟨fj hr.out.symm,Below.then (Below.then bK aC) bh⟩
      ·have hr:=ae (show dB s t=false by rw[Hd.out];simp[g1,g2]);have G1:=ae (show cE s t=false by simpa using g1);have G2:=ae (show cE t s=false by simpa using g2);clear g1 g2;go_enter Tryz.func82,Tryz.ntmps82;go_wp2_with fail;refine(F1.out _ false bK G1.out).mono ?_;rintro e w1 ⟨rfl,aC⟩;have hcc:=oq aC;go_wp2_with fail;refine(F2.out _ false (Below.then bK aC) G2.out).mono ?_;rintro e w2 ⟨rfl,bh⟩;go_wp2_with fail;go_ret;exact⟨fj hr.out.symm,Below.then (Below.then bK aC) bh⟩
   ·cases kW
    ·have hd:dB s t=(cE s t||cE t s):=by rw[CE.out,yS.out,yT.out];simp
     have Hd:=ae hd;clear hd;by_cases g1:cE s t=true
     ·have hr:=ae (show dB s t=true by rw[Hd.out,g1];simp);have G1:=ae g1;clear g1;go_enter Tryz.func82,Tryz.ntmps82
      go_wp2_with (go_at_call 137;refine(F1.out _ true bK G1.out).mono ?_;rintro e w1 ⟨rfl,aC⟩;have hcc:=oq aC)
      go_ret;exact⟨fj hr.out.symm,Below.then bK aC⟩
     ·by_cases g2:cE t s=true
      ·have hr:=ae (show dB s t=true by rw[Hd.out,g2];simp);have G1:=ae (show cE s t=false by simpa using g1);have G2:=ae g2;clear g1 g2;go_enter Tryz.func82,Tryz.ntmps82;go_wp2_with fail;refine(F1.out _ false bK G1.out).mono ?_;rintro e w1 ⟨rfl,aC⟩;have hcc:=oq aC;go_wp2_with fail;refine(F2.out _ true (Below.then bK aC) G2.out).mono ?_;rintro e w2 ⟨rfl,bh⟩;go_wp2_with fail;go_ret;exact⟨fj hr.out.symm,Below.then (Below.then bK aC) bh⟩
      ·have hr:=ae (show dB s t=false by rw[Hd.out];simp[g1,g2]);have G1:=ae (show cE s t=false by simpa using g1);have G2:=ae (show cE t s=false by simpa using g2);clear g1 g2;go_enter Tryz.func82,Tryz.ntmps82;go_wp2_with fail;refine(F1.out _ false bK G1.out).mono ?_;rintro e w1 ⟨rfl,aC⟩;have hcc:=oq aC;go_wp2_with fail;refine(F2.out _ false (Below.then bK aC) G2.out).mono ?_;rintro e w2 ⟨rfl,bh⟩;go_wp2_with fail;go_ret;exact⟨fj hr.out.symm,Below.then (Below.then bK aC) bh⟩
    ·have hr:=ae (show dB s t=true by rw[CE.out,yS.out,yT.out];simp);go_enter Tryz.func82,Tryz.ntmps82;go_wp2_with fail;go_ret;exact⟨fj hr.out.symm,bK⟩
  exact key _ _ (ae rfl) (ae rfl)
end
section
open Go.RowKit
def uA (run:List az)(i K k:Nat):Bool:=(List.range K).any fun j=>decide (i<j) && qC run i j && (j==k||dh run j k)
theorem aCR (run:List az)(i k:Nat):uA run i (i+1) k=false:=by
 unfold uA;rw[List.any_eq_false];intro j hj;have:=gG.1 hj;simp;intro h1;omega
theorem Vs (run:List az)(i K k:Nat)(h:i<K):uA run i (K+1) k=(uA run i K k||(qC run i K && (K==k||dh run K k))):=by
 unfold uA;rw[mn,List.any_append];simp[h]
theorem aCS (run:List az)(i k:Nat):uA run i run.length k=dh run i k:=(OK run i k).symm
def Qy (w:World)(v:Value)(n:Nat)(f:Nat->Nat->Bool):Prop:=
 ∃g c,v=.slice (some ⟨g,0,none⟩) n c/\∀i<n,∃gi ci,w.cell? ⟨g,i,none⟩=some (.slice (some ⟨gi,0,none⟩) n ci)/\∀k<n,w.cell? ⟨gi,k,none⟩=some (.bool (f i k))
theorem aCT:(Tryz.prog.info? 105).map (fun i=>(i.zero,i.size,i.bytes))=some (some (.slice none 0 0),1,24):=ah
def Bt (wr:World)(run:List az)(arr:Array Value)(g0 gi j:Nat):Prop:=
 ∃gj,arr[j]? =some (.slice (some ⟨gj,0,none⟩) run.length run.length)/\gj≠g0/\gj≠gi/\∀c<run.length,wr.cell? ⟨gj,c,none⟩=some (.bool (dh run j c))
theorem Bt.JP {wr w':World}{run:List az}{arr:Array Value}{g0 gi j:Nat}(h:Bt wr run arr g0 gi j)(hk:∀b,b<wr.heap.size->b≠g0->b≠gi->w'.heap[b]? =wr.heap[b]?):Bt w' run arr g0 gi j:=by
 obtain⟨gj,h1,h2,h3,h4⟩:=h;refine⟨gj,h1,h2,h3,fun c hc=> ?_⟩;have h5:=h4 c hc;have h6:=ez _ _ h5;rw[Gp (w:=wr) (hk gj (by simpa using h6) h2 h3)];exact h5
theorem acu (run:List az)(v:Value)(w:World)(hrun:fH w v run)(hn:run.length<=100000):
  Calls Tryz.prog 36 #[v] w fun e w'=>∃u,e=.returned u/\Qy w' u run.length (dh run)/\aw w w':=by
 obtain⟨ka,ca,rfl,gH⟩:=hrun.open
 have yW:=fun W=>AZ (P:=Tryz.prog) 97 105 (.slice none 0 0) 24 run.length Tryz.underlying97 aCT rfl ab ab W
 have Tu:=fun W=>AZ (P:=Tryz.prog) 105 4 (.bool false) 1 run.length Tryz.underlying105 ahx rfl ab ab W
 go_enter Tryz.func36,Tryz.ntmps36;go_wp2
 go_loopw [5] (fun p wr=>∃(ii:Nat) (arr:Array Value),ii<=run.length/\p=.int .i64 ((ii:Int)-1)/\aw w wr/\w.heap.size<wr.heap.size/\ay wr w.heap.size arr/\Hid (arr.size=run.length)/\
   (∀j,ii<=j->j<run.length->Bt wr run arr w.heap.size wr.heap.size j)) (fun p _=>(intOf p+1).toNat)
 case atStart=>exact⟨run.length,_,cP _,rfl,bK,ai,ay.new _ _ _,ae (AY _ _),fun j h1 h2=>absurd h2 ab⟩
 case round=>
  obtain⟨ii,arr,Af,rfl,hB,zg,fQ,Hsz,hdone⟩:=hrel;have acv:=ae hdone;clear hdone;have Ph:=fQ.cell;have Vt:=fQ.frozen
  cases ii with
  |zero=>
   have e0:(((0:Nat):Int)-1)= -1:=ab;rw[e0];go_wp2;go_ret;refine⟨_,rfl,⟨_,_,rfl,fun i hi=> ?_⟩,hB⟩;obtain⟨gj,h1,_,_,h4⟩:=acv.out i ab hi;exact⟨gj,_,(Ph i).trans h1,h4⟩
  |succ i=>
   have e0:(((i+1:Nat):Int)-1)=(i:Int):=ab;rw[e0];clear e0;have hi:i<run.length:=ab
   obtain⟨x,hx⟩:∃x,arr[i]? =some x:=⟨arr[i]'(by rw[Hsz.out];exact hi),ai⟩
   go_wp2;have hW:ay ((wr.setCell ⟨w.heap.size,i,none⟩ (.slice (some ⟨wr.heap.size,0,none⟩) run.length run.length)).alloc (.cells (eE run.length (.bool false)) 4)) w.heap.size (arr.setIfInBounds i (.slice (some ⟨wr.heap.size,0,none⟩) run.length run.length)):=(fQ.set i _).alloc _
   have IC:ay ((wr.setCell ⟨w.heap.size,i,none⟩ (.slice (some ⟨wr.heap.size,0,none⟩) run.length run.length)).alloc (.cells (eE run.length (.bool false)) 4)) wr.heap.size (eE run.length (.bool false)):=by
    have:=ay.new (wr.setCell ⟨w.heap.size,i,none⟩ (.slice (some ⟨wr.heap.size,0,none⟩) run.length run.length)) (eE run.length (.bool false)) 4;simpa using this
   have MA:(arr.setIfInBounds i (.slice (some ⟨wr.heap.size,0,none⟩) run.length run.length))[i]? =some (.slice (some ⟨wr.heap.size,0,none⟩) run.length run.length):=by
    rw[oI (by rw[Hsz.out];exact hi)]
   obtain⟨tK,Vu⟩:∃a,a=arr.setIfInBounds i (.slice (some ⟨wr.heap.size,0,none⟩) run.length run.length):=⟨_,rfl⟩
   have EM:∀j,i<j->j<run.length->Bt ((wr.setCell ⟨w.heap.size,i,none⟩ (.slice (some ⟨wr.heap.size,0,none⟩) run.length run.length)).alloc (.cells (eE run.length (.bool false)) 4)) run tK w.heap.size wr.heap.size j:=by
    intro j h1 h2;obtain⟨gj,a1,a2,a3,a4⟩:=acv.out j ab h2
    have hgj:gj<wr.heap.size:=by simpa using ez _ _ (a4 j h2)
    refine Bt.JP (wr:=wr) ⟨gj,?_,a2,ab,a4⟩ fun b cY fc zl=> ?_
    ·rw[Vu,nz ab];exact a1
    ·rw[Kk _ _ _ (by simpa using cY)];exact uJ _ _ _ _ (by simpa using fc)
   rw[<-Vu] at hW MA;have aCU:Hid (tK.size=run.length):=ae (by rw[Vu,yc];exact Hsz.out);have Hai:=ae MA;have Hd2:=ae EM;have LP:aw w ((wr.setCell ⟨w.heap.size,i,none⟩ (.slice (some ⟨wr.heap.size,0,none⟩) run.length run.length)).alloc (.cells (eE run.length (.bool false)) 4)):=(hB.setCell ai _).alloc bz _;clear Vu MA EM hx Ph Vt acv fQ hB;generalize hgi:wr.heap.size=gi at*;have Bu:=ae hgi;clear hgi
   go_loopw [6] (fun p wr=>∃(k:Nat) (rv:Array Value),i+1<=k/\k<=run.length/\p=.int .i64 k/\aw w wr/\gi<wr.heap.size/\ay wr w.heap.size tK/\ay wr gi rv/\Hid (rv.size=run.length)/\
    (∀c,c<run.length->rv[c]? =some (.bool (uA run i k c)))/\(∀j,i<j->j<run.length->Bt wr run tK w.heap.size gi j)) (fun p _=>run.length-(intOf p).toNat)
   case atStart=>
    refine⟨i+1,_,ab,ab,by go_num,LP,by have:=Bu.out;simp;omega,hW,IC,ae (AY _ _),fun c hc=> ?_,Hd2.out⟩;rw[aCR,CH _ _ _ hc]
   case round=>
    rename_i wr0 _ _;obtain⟨k,rv,zU,hk,rfl,hB,Qz,fQ,rR,rI,bg,eK⟩:=hrel;have jm:=ae bg;have kR:=ae eK;clear bg eK;by_cases hlt:k<run.length
    ·obtain⟨b,o,va,vs,rfl,dX,dV,x0,x1,x2,x3,x4,x5,x6,x7,x8,x9,x10⟩:=(hrun.kept hB ax).at (i:=i) (s:=run[i]) (by simp[hi]);obtain⟨b',o',ua,us,eQ,sS,Bf,y0,y1,y2,y3,y4,y5,y6,y7,y8,y9,y10⟩:=(hrun.kept hB ax).at (i:=k) (s:=run[k]) (by simp[hlt]);simp at eQ;obtain⟨rfl,rfl⟩:=eQ;have c:=dependent run[i] run[k] (run[i].val va vs) (run[k].val ua us) wr.drew ⟨va,vs,rfl,dX,dV⟩ ⟨ua,us,rfl,sS,Bf⟩;have MS:=OJ hi hlt;by_cases hd:dB run[i] run[k]=true
     ·rw[hd] at c MS;simp only[az.val,az.row] at c;have C:=ae c;have Vv:=ae MS;clear c hd MS;go_wp2;go_still_tail 8,ah;change wpList _ _ _ _ _ wr.drew;go_wp2_with fail;refine C.out.mono ?_;rintro e w1 ⟨rfl,aC⟩;have OO:aw w w1:=hB.drew.trans (aC.mono hB.size);have cQ:=aC.size;simp only[oN] at cQ;have QA:ay w1 w.heap.size tK:=fQ.drew.kept aC fQ.lt;have Vw:ay w1 gi rv:=rR.drew.kept aC rR.lt
      have acf:Hid (∀j,i<j->j<run.length->Bt w1 run tK w.heap.size gi j):=ae fun j h1 h2=>(kR.out j h1 h2).JP fun b hb _ _=>aC.block b hb
      have Ph:=(QA.cell i).trans Hai.out;have hci:=(Vw.cell k).trans (jm.out k hlt);have MB:=Vw.frozen k;go_wp2_with fail;have amB:=Vw.set k (.bool true);have amC:=QA.setOther ⟨gi,k,none⟩ (.bool true) (by have:=QA.lt;have:=Bu.out;simp;omega)
      have JQ:Hid (∀j,i<j->j<run.length->Bt (w1.setCell ⟨gi,k,none⟩ (.bool true)) run tK w.heap.size gi j):=ae fun j h1 h2=>(acf.out j h1 h2).JP fun b _ _ hb=>uJ _ _ _ _ (by simpa using hb)
      go_loopw [7] (fun p w2=>∃(j:Nat) (rw:Array Value),k+1<=j/\j<=run.length/\p=.int .i64 j/\aw w w2/\gi<w2.heap.size/\ay w2 w.heap.size tK/\ay w2 gi rw/\Hid (rw.size=run.length)/\
       (∀c,c<run.length->rw[c]? =some (.bool (if c<j then uA run i (k+1) c else uA run i k c)))/\(∀j,i<j->j<run.length->Bt w2 run tK w.heap.size gi j)) (fun p _=>run.length-(intOf p).toNat)
      case atStart=>
       refine⟨k+1,_,ab,ab,by go_num,OO.setCell (by have:=Bu.out;have:=QA.lt;simp;omega) _,by simp;omega,amC,amB,ae (by rw[yc];exact rI.out),fun c hc=> ?_,JQ.out⟩;by_cases ox:c=k
       ·subst ox;rw[oI (by rw[rI.out];exact hlt),aj ab,Vs _ _ _ _ ab,Vv.out];simp
       ·rw[nz ab,jm.out c hc];by_cases dW:c<k+1
        ·rw[aj dW,Vs _ _ _ _ ab,Zm run k c ab];have:(k==c)=false:=bz;simp[this]
        ·rw[af dW]
      case round=>
       clear QA Vw Ph hci MB amB amC OO aC cQ;rename_i w2;obtain⟨j,rv2,hkj,hj,rfl,hB,Qz,fQ,rR,JR,wA,amD⟩:=hrel;have QB:=ae wA;have JQ:=ae amD;clear wA amD;by_cases db:j<run.length
       ·obtain⟨gk,a1,a2,a3,a4⟩:=JQ.out k ab hlt;have z0:=(fQ.cell i).trans Hai.out;have z1:=(fQ.cell k).trans a1;have z2:=a4 j db;have z3:=(rR.cell j).trans (QB.out j db);rw[af ab] at z3;have z4:=rR.frozen j
        have hval:uA run i (k+1) j=(uA run i k j||dh run k j):=by
         have:(k==j)=false:=bz;rw[Vs _ _ _ _ ab,Vv.out,this];simp
        cases hx:uA run i k j with
        |true=>
         rw[hx] at z3 hval;have QC:=ae (hval.trans (Bool.true_or _));clear hval hx a1 a4;go_wp2;go_region;go_wp2;go_roundw
         case rel=>
          refine⟨j+1,_,ab,ab,by go_num,(hB.setCell (p:=⟨gi,j,none⟩) (by have:=Bu.out;have:=fQ.lt;simp;omega) (.bool true)).drew,by simpa [oN] using Qz,(fQ.setOther ⟨gi,j,none⟩ (.bool true) (by have:=fQ.lt;have:=Bu.out;simp;omega)).drew,(rR.set j (.bool true)).drew,ae (by rw[yc];exact JR.out),fun c hc=> ?_,fun q h1 h2=>(JQ.out q h1 h2).JP fun b _ _ hb=>uJ _ _ _ _ (by simpa using hb)⟩;by_cases QD:c=j
          ·subst QD;rw[oI (by rw[JR.out];exact db),aj ab];exact aF (fun b=>some (Value.bool b)) QC.out.symm
          ·rw[nz ab,QB.out c hc];by_cases dW:c<j
           ·rw[aj dW,aj ab]
           ·rw[af dW,af ab]
         case measure=>simp[intOf];omega
        |false=>
         rw[hx] at z3 hval
         cases hy:dh run k j with
         |true=>
          rw[hy] at z2 hval;have QC:=ae (show uA run i (k+1) j=true from hval);clear hval hx hy a1 a4;go_wp2;go_region;go_wp2;go_roundw
          case rel=>
           refine⟨j+1,_,ab,ab,by go_num,(hB.setCell (p:=⟨gi,j,none⟩) (by have:=Bu.out;have:=fQ.lt;simp;omega) (.bool true)).drew,by simpa [oN] using Qz,(fQ.setOther ⟨gi,j,none⟩ (.bool true) (by have:=fQ.lt;have:=Bu.out;simp;omega)).drew,(rR.set j (.bool true)).drew,ae (by rw[yc];exact JR.out),fun c hc=> ?_,fun q h1 h2=>(JQ.out q h1 h2).JP fun b _ _ hb=>uJ _ _ _ _ (by simpa using hb)⟩;by_cases QD:c=j
           ·subst QD;rw[oI (by rw[JR.out];exact db),aj ab];exact aF (fun b=>some (Value.bool b)) QC.out.symm
           ·rw[nz ab,QB.out c hc];by_cases dW:c<j
            ·rw[aj dW,aj ab]
            ·rw[af dW,af ab]
          case measure=>simp[intOf];omega
         |false=>
          rw[hy] at z2 hval;have QC:=ae (show uA run i (k+1) j=false from hval);clear hval hx hy a1 a4;go_wp2;go_region;go_wp2;go_roundw
          case rel=>
           refine⟨j+1,_,ab,ab,by go_num,(hB.setCell (p:=⟨gi,j,none⟩) (by have:=Bu.out;have:=fQ.lt;simp;omega) (.bool false)).drew,by simpa [oN] using Qz,(fQ.setOther ⟨gi,j,none⟩ (.bool false) (by have:=fQ.lt;have:=Bu.out;simp;omega)).drew,(rR.set j (.bool false)).drew,ae (by rw[yc];exact JR.out),fun c hc=> ?_,fun q h1 h2=>(JQ.out q h1 h2).JP fun b _ _ hb=>uJ _ _ _ _ (by simpa using hb)⟩;by_cases QD:c=j
           ·subst QD;rw[oI (by rw[JR.out];exact db),aj ab];exact aF (fun b=>some (Value.bool b)) QC.out.symm
           ·rw[nz ab,QB.out c hc];by_cases dW:c<j
            ·rw[aj dW,aj ab]
            ·rw[af dW,af ab]
          case measure=>simp[intOf];omega
       ·go_wp2;go_roundw
        case rel=>
         refine⟨k+1,rv2,ab,ab,by go_num,hB,Qz,fQ,rR,JR,fun c hc=> ?_,JQ.out⟩;rw[QB.out c hc,aj ab]
        case measure=>simp[intOf];omega
     ·have Ak:dB run[i] run[k]=false:=by simpa using hd
      rw[Ak] at c MS;simp only[az.val,az.row] at c;have C:=ae c;have Vv:=ae MS;clear c hd Ak MS;go_wp2;go_still_tail 8,ah;change wpList _ _ _ _ _ wr.drew;go_wp2_with fail;refine C.out.mono ?_;rintro e w1 ⟨rfl,aC⟩;have cQ:=aC.size;simp only[oN] at cQ;go_wp2_with fail;go_roundw
      case rel=>
       refine⟨k+1,rv,ab,ab,by go_num,hB.drew.trans (aC.mono hB.size),ab,fQ.drew.kept aC fQ.lt,rR.drew.kept aC rR.lt,rI,fun c hc=> ?_,fun j h1 h2=>(kR.out j h1 h2).JP fun b hb _ _=>aC.block b hb⟩;rw[Vs _ _ _ _ ab,Vv.out,jm.out c hc];simp
      case measure=>simp[intOf];omega
    ·have gK:k=run.length:=ab;go_wp2;go_roundw
     case rel=>
      refine⟨i,tK,ab,rfl,hB,by have:=fQ.lt;omega,fQ,aCU,fun j h1 h2=> ?_⟩;by_cases hj:j=i
      ·subst hj;refine⟨gi,Hai.out,by have:=fQ.lt;have:=Bu.out;omega,ab,fun c hc=> ?_⟩;rw[rR.cell,jm.out c hc,gK,aCS]
      ·obtain⟨gj,a1,a2,a3,a4⟩:=kR.out j ab h2
       have hgj:gj<wr.heap.size:=by simpa using ez _ _ (a4 j h2)
       exact⟨gj,a1,a2,ab,a4⟩
     case measure=>simp[intOf]
end
section
open Go.RowKit
theorem Qy.below {w w':World}{v:Value}{n:Nat}{f:Nat->Nat->Bool}(h:Qy w v n f)(hb:aw w w'):Qy w' v n f:=by
 obtain⟨g,c,rfl,hr⟩:=h;refine⟨g,c,rfl,fun i hi=> ?_⟩;obtain⟨gi,ci,h1,h2⟩:=hr i hi;exact⟨gi,ci,bE hb ax h1,fun k hk=>bE hb ax (h2 k hk)⟩
end
namespace Ab
open Go Go.RowKit
section
variable {P:Program} {x z:fA} {Q:gV->St->Prop} {st:St}
theorem acw (Q1:List (Nat×AV)->List (Nat×Slot)->Prop)(h1:aP (lift P x) (fun e st=>e=.normal/\Q1 st.V st.S) st)(h2:∀V L S,Q1 V S->aP (lift P z) Q ⟨V,L,S⟩):aP (lift P (.seq x z)) Q st:=
 show aP (lift P x) (lT (fun st=>aP (lift P z) Q st) Q) st from vp (c:=x) (Q:=fun e st=>e=.normal/\Q1 st.V st.S) (Q':=lT (fun st=>aP (lift P z) Q st) Q) (fun e st' he=>by
  obtain⟨rfl,hq⟩:=he
  exact h2 st'.V st'.L st'.S hq) h1
theorem aCV {U:Option (List Nat)}{l:List BO}(Q1:List (Nat×AV)->List (Nat×Slot)->Prop)(h1:bB U (l.map (BO.ao P)) (fun st=>aP (lift P x) (fun e st=>e=.normal/\Q1 st.V st.S) st) st)(h2:∀V L S,Q1 V S->aP (lift P z) Q ⟨V,L,S⟩):
  bB U (l.map (BO.ao P)) (fun st=>aP (lift P (.seq x z)) Q st) st:=Sk (fun st h=>acw Q1 h h2) h1
end
attribute [local irreducible] aP bB aW
def Sm (x:Int):Prop:=0<=x/\x<=10000000
def th (e:Ev):Prop:=∀x∈e.ints,Sm x
def Vx (m:bR):Prop:=Sm m.node/\Sm m.handler/\Sm m.count/\Sm m.index/\Sm m.copy
def SmA (a:Ask):Prop:=∀x∈a.ints,Sm x
def QE (s:az):Prop:=th s.ev/\(∀a∈s.asks,SmA a/\a.arity=2/\a.n<=1)/\s.asks.length<=1/\s.sent.length<=2
theorem th.mk {k n a:Int}{m:bR}(h1:Sm k)(h2:Sm n)(h3:Sm a)(h4:Vx m):th ⟨k,n,a,m⟩:=by
 obtain⟨m1,m2,m3,m4,m5⟩:=h4;intro x hx;simp only[Ev.ints,cA,jL,kV] at hx
 rcases hx with rfl|rfl|rfl|rfl|rfl|rfl|rfl|rfl<;>assumption
theorem Sm.nat {n:Nat}(h:n<=10000000):Sm (n:Int):=by unfold Sm;omega
theorem aCW {l:List Int}(hl:∀x∈l,zB x){most:Nat}(hm:most<=60):
  bj Tryz.prog 8 [.c (ints l),.c (iA most)] (fun x=>∃run:List az,x=.w (.c (CU run))/\run.length<=most/\∀s∈run,QE s):=by
 refine cI Tryz.func8 ⟨0,[5,6,16],[],[(34,[610,611])],cZ,[(37,[8,10])],[(26,[(11,10,610,39,5),(11,8,611,78,7)])]⟩ [] [.t 4] [4,5,6,7,8,9,10,11,12,13,14,15,16] [11,12,15,5,6,16,610,611] ?_;have FF:=trivial
 try refine aG ?_
 try clear FF
 refine dA (fun n V S=>∃(i:Nat) (run:List az) (fl:List bR) (lr:List Int) (g5 g6 g7 d1 d2:Nat) (x9 x10 x11 x12 x13 x14 x15:AV) (s11 s12 s15:Slot),i<=most/\n=most-i/\run.length=i/\(∀s∈run,QE s)/\fl.length<=2*i/\(∀m∈fl,Vx m)/\lr.length=4/\(∀x∈lr,0<=x/\x<=i)/\
  V=[(0,.w (.c (ints l))),(1,.w (.c (iA most))),(4,.w (.c (.sl []))),(5,.w (.c (.own 5 g5))),(6,.w (.c (.own 6 g6))),(7,.w (.c (.own 16 g7))),(8,.w (.c (iA i))),(9,x9),(10,x10),(11,x11),(12,x12),(13,x13),(14,x14),(15,x15),(16,.w (.c (.own 16 g7)))]/\
  S=[(11,s11),(12,s12),(15,s15),(5,.row 45 11 g5 (run.map kQ)),(6,.row 39 5 g6 (fl.map ng)),(16,.row 3 1 g7 (bM lr)),(610,.dead d1),(611,.dead d2)]) (n:=most)
  ⟨0,[],[],[0,0,0,0],1,1,1,0,0,.u,.u,.u,.u,.u,.u,.u,.dead 0,.dead 0,.dead 0,ab,ab,rfl,ai,ai,ai,rfl,ai,rfl,rfl⟩ ?_
 rintro n V L S ⟨i,run,fl,lr,g5,g6,g7,d1,d2,x9,x10,x11,x12,x13,x14,x15,s11,s12,s15,hi,rfl,eJ,acx,cS,amE,dE,xJ,rfl,rfl⟩;by_cases hlt:i<l.length
 ·by_cases jr:i<most
  ·have eS:i<=1000000000:=ab
   obtain⟨x,lW⟩:∃x,l[i]=x:=⟨_,rfl⟩
   have hA:=Vn x 10000000 (hl x (lW▸bW hlt)) ab;have jF:aD.around x 10000000<10000000:=oM _ au
   obtain⟨n,hn⟩:∃n,aD.around x 10000000=n:=⟨_,rfl⟩
   rw[hn] at hA jF
   obtain⟨nd,e1⟩:∃q,n%4=q:=⟨_,rfl⟩
   obtain⟨q1,e2⟩:∃q,n/4=q:=⟨_,rfl⟩
   obtain⟨hd,e3⟩:∃q,q1%3=q:=⟨_,rfl⟩
   obtain⟨q2,e4⟩:∃q,n/12=q:=⟨_,rfl⟩
   obtain⟨kd,e5⟩:∃q,q2%8=q:=⟨_,rfl⟩
   have r1:aZ .rem (.int .i64 (n:Int)) (.int .i64 4)=some (.int .i64 (nd:Int)):=kv (b:=4) e1 ab;have r2:aZ .quo (.int .i64 (n:Int)) (.int .i64 4)=some (.int .i64 (q1:Int)):=kS (b:=4) e2 ab ab;have r3:aZ .rem (.int .i64 (q1:Int)) (.int .i64 3)=some (.int .i64 (hd:Int)):=kv (b:=3) e3 ab;have r4:aZ .quo (.int .i64 (n:Int)) (.int .i64 12)=some (.int .i64 (q2:Int)):=kS (b:=12) e4 ab ab;have r5:aZ .rem (.int .i64 (q2:Int)) (.int .i64 8)=some (.int .i64 (kd:Int)):=kv (b:=8) e5 ab;have cK:nd<4:=ab;have amF:nd<lr.length:=ab
   obtain⟨ct,Th⟩:∃ct,lr[nd]=ct:=⟨_,rfl⟩
   have hcb:=xJ ct (Th▸bW amF);have Qu:=oX (a:=ct) (b:=1) ab ab;have FF:=Nf @hlt @jr @lW @r1 @r2 @r3 @r4 @r5 @amF @Th @Qu;refine bY hA ?_
   try clear FF
   obtain⟨Bi,acy⟩:∃c2,c2=lr.set nd (ct+1):=⟨_,rfl⟩
   rw[show(bM lr).set nd [AC.v (Value.int IntKind.i64 (ct+1))]=bM Bi by rw[acy];exact(List.map_set ..).symm]
   have aCX:Bi.length=4:=by rw[acy,List.length_set,dE]
   have dW:∀x∈Bi,0<=x/\x<=((i+1:Nat):Int):=fun x hx=>by
    rw[acy] at hx
    rcases BJ hx with hx|rfl
    ·have:=xJ x hx;omega
    ·omega
   have sk:∀k:Nat,k<=10000000->Sm (k:Int):=fun k hk=>Sm.nat hk
   have m0:Vx ⟨0,0,0,0,0⟩:=⟨sk 0 ab,sk 0 ab,sk 0 ab,sk 0 ab,sk 0 ab⟩
   refine aCV (fun V S=>∃(ev:Ev) (aK:Bool) (x13:AV),th ev/\V=[(0,.w (.c (ints l))),(1,.w (.c (iA most))),(4,.w (.c (.sl []))),(5,.w (.c (.own 5 g5))),(6,.w (.c (.own 6 g6))),(7,.w (.c (.own 16 g7))),(8,.w (.c (iA i))),(9,.w (.c (iA n))),(10,.w (.c (iA nd))),(11,.pb 11 (s11.gen+1) 0),(12,.pb 12 (s12.gen+1) 0),(13,x13),(14,x14),(15,x15),(16,.w (.c (.own 16 g7)))]/\S=[(11,.box (s11.gen+1) [iA ev.kind,iA ev.node,iA ev.arg,iA ev.msg.node,iA ev.msg.handler,iA ev.msg.count,iA ev.msg.index,iA ev.msg.copy,.v (.slice none 0 0),bA aK,.v (.slice none 0 0)]),(12,.box (s12.gen+1) [iA nd,iA hd,iA ct]),(15,s15),(5,.row 45 11 g5 (run.map kQ)),(6,.row 39 5 g6 (fl.map ng)),(16,.row 3 1 g7 (bM Bi)),(610,.dead d1),(611,.dead d2)]) ?_ ?_
   ·by_cases LV:kd<4
    ·by_cases hf:0<fl.length
     ·obtain⟨q3,e6⟩:∃q,n/96=q:=⟨_,rfl⟩
      obtain⟨ix,e7⟩:∃q,q3%fl.length=q:=⟨_,rfl⟩
      obtain⟨q4,e8⟩:∃q,n/7=q:=⟨_,rfl⟩
      obtain⟨q5,e9⟩:∃q,q4%5=q:=⟨_,rfl⟩
      have r6:aZ .quo (.int .i64 (n:Int)) (.int .i64 96)=some (.int .i64 (q3:Int)):=kS (b:=96) e6 ab ab;have r7:=kv e7 hf;have r8:aZ .quo (.int .i64 (n:Int)) (.int .i64 7)=some (.int .i64 (q4:Int)):=kS (b:=7) e8 ab ab;have r9:aZ .rem (.int .i64 (q4:Int)) (.int .i64 5)=some (.int .i64 (q5:Int)):=kv (b:=5) e9 ab
      have ff:ix<fl.length:=by rw[<-e7];exact oM _ hf
      obtain⟨m,xV⟩:∃m,fl[ix]=m:=⟨_,rfl⟩
      have kX:=amE m (xV▸bW ff);obtain⟨m1,m2,m3,m4,m5⟩:=m;have aHd:fl≠[]:=List.ne_nil_of_length_pos hf;have FQ:fl.length≠0:=ab;obtain⟨b1,b2,b3,b4,b5⟩:=kX;by_cases h5:(q5:Int)=4
      ·obtain rfl|rfl|rfl|rfl:kd=0\/kd=1\/kd=2\/kd=3:=ab
       ·have FF:=oH @hf @FQ @r6 @r7 @r8 @r9 @ff @xV @h5
        try refine aG ?_
        try clear FF
        exact⟨rfl,⟨3,nd,0,⟨m1,m2,m3,m4,m5⟩⟩,false,_,th.mk (sk 3 ab) (sk nd ab) (sk 0 ab) ⟨b1,b2,b3,b4,b5⟩,rfl,rfl⟩
       ·have FF:=oH @hf @FQ @r6 @r7 @r8 @r9 @ff @xV @h5
        try refine aG ?_
        try clear FF
        exact⟨rfl,⟨3,nd,0,⟨m1,m2,m3,m4,1⟩⟩,false,_,th.mk (sk 3 ab) (sk nd ab) (sk 0 ab) ⟨b1,b2,b3,b4,sk 1 ab⟩,rfl,rfl⟩
       ·have FF:=oH @hf @FQ @r6 @r7 @r8 @r9 @ff @xV @h5
        try refine aG ?_
        try clear FF
        exact⟨rfl,⟨5,nd,0,⟨m1,m2,m3,m4,1⟩⟩,false,_,th.mk (sk 5 ab) (sk nd ab) (sk 0 ab) ⟨b1,b2,b3,b4,sk 1 ab⟩,rfl,rfl⟩
       ·have FF:=oH @hf @FQ @r6 @r7 @r8 @r9 @ff @xV @h5
        try refine aG ?_
        try clear FF
        exact⟨rfl,⟨6,nd,0,⟨m1,m2,m3,m4,1⟩⟩,false,_,th.mk (sk 6 ab) (sk nd ab) (sk 0 ab) ⟨b1,b2,b3,b4,sk 1 ab⟩,rfl,rfl⟩
      ·obtain rfl|rfl|rfl|rfl:kd=0\/kd=1\/kd=2\/kd=3:=ab
       ·have FF:=oH @hf @FQ @r6 @r7 @r8 @r9 @ff @xV @h5
        try refine aG ?_
        try clear FF
        exact⟨rfl,⟨3,nd,0,⟨m1,m2,m3,m4,m5⟩⟩,false,_,th.mk (sk 3 ab) (sk nd ab) (sk 0 ab) ⟨b1,b2,b3,b4,b5⟩,rfl,rfl⟩
       ·have FF:=oH @hf @FQ @r6 @r7 @r8 @r9 @ff @xV @h5
        try refine aG ?_
        try clear FF
        exact⟨rfl,⟨3,nd,0,⟨m1,m2,m3,m4,m5⟩⟩,false,_,th.mk (sk 3 ab) (sk nd ab) (sk 0 ab) ⟨b1,b2,b3,b4,b5⟩,rfl,rfl⟩
       ·have FF:=oH @hf @FQ @r6 @r7 @r8 @r9 @ff @xV @h5
        try refine aG ?_
        try clear FF
        exact⟨rfl,⟨5,nd,0,⟨m1,m2,m3,m4,m5⟩⟩,false,_,th.mk (sk 5 ab) (sk nd ab) (sk 0 ab) ⟨b1,b2,b3,b4,b5⟩,rfl,rfl⟩
       ·have FF:=oH @hf @FQ @r6 @r7 @r8 @r9 @ff @xV @h5
        try refine aG ?_
        try clear FF
        exact⟨rfl,⟨6,nd,0,⟨m1,m2,m3,m4,m5⟩⟩,false,_,th.mk (sk 6 ab) (sk nd ab) (sk 0 ab) ⟨b1,b2,b3,b4,b5⟩,rfl,rfl⟩
     ·have Vy:((kd:Int)<4):=ab;have QF:((kd:Int)<6):=ab
      obtain⟨q3,e6⟩:∃q,n/96=q:=⟨_,rfl⟩
      obtain⟨ar,e7⟩:∃q,q3%3=q:=⟨_,rfl⟩
      have r6:aZ .quo (.int .i64 (n:Int)) (.int .i64 96)=some (.int .i64 (q3:Int)):=kS (b:=96) e6 ab ab;have r7:aZ .rem (.int .i64 (q3:Int)) (.int .i64 3)=some (.int .i64 (ar:Int)):=kv (b:=3) e7 ab;have Vt:fl=[]:=yb ab;have FF:=gR @Vy @hf @Vt @QF @r6 @r7
      try refine aG ?_
      try clear FF
      exact⟨rfl,⟨4,nd,ar,⟨0,0,0,0,0⟩⟩,false,_,th.mk (sk 4 ab) (sk nd ab) (sk ar ab) m0,rfl,by rw[Vt];rfl⟩
    ·have Vy:¬((kd:Int)<4):=ab;by_cases hk6:kd<6
     ·have QF:((kd:Int)<6):=ab
      obtain⟨q3,e6⟩:∃q,n/96=q:=⟨_,rfl⟩
      obtain⟨ar,e7⟩:∃q,q3%3=q:=⟨_,rfl⟩
      have r6:aZ .quo (.int .i64 (n:Int)) (.int .i64 96)=some (.int .i64 (q3:Int)):=kS (b:=96) e6 ab ab;have r7:aZ .rem (.int .i64 (q3:Int)) (.int .i64 3)=some (.int .i64 (ar:Int)):=kv (b:=3) e7 ab;have FF:=fg @Vy @QF @r6 @r7
      try refine aG ?_
      try clear FF
      exact⟨rfl,⟨4,nd,ar,⟨0,0,0,0,0⟩⟩,false,_,th.mk (sk 4 ab) (sk nd ab) (sk ar ab) m0,rfl,rfl⟩
     ·have QF:¬((kd:Int)<6):=ab;have FF:=im @Vy @QF
      try refine aG ?_
      try clear FF
      exact⟨rfl,⟨2,nd,i,⟨0,0,0,0,0⟩⟩,true,_,th.mk (sk 2 ab) (sk nd ab) (sk i ab) m0,rfl,rfl⟩
   rintro V L S ⟨ev,aK,x13,aI,rfl,rfl⟩
   obtain⟨q6,e6⟩:∃q,n/11=q:=⟨_,rfl⟩
   obtain⟨q7,e7⟩:∃q,q6%6=q:=⟨_,rfl⟩
   have r6:aZ .quo (.int .i64 (n:Int)) (.int .i64 11)=some (.int .i64 (q6:Int)):=kS (b:=11) e6 ab ab;have r7:aZ .rem (.int .i64 (q6:Int)) (.int .i64 6)=some (.int .i64 (q7:Int)):=kv (b:=6) e7 ab;have FF:=im @r6 @r7
   try refine aG ?_
   try clear FF
   refine acw (fun V S=>∃(aK:Bool),V=[(0,.w (.c (ints l))),(1,.w (.c (iA most))),(4,.w (.c (.sl []))),(5,.w (.c (.own 5 g5))),(6,.w (.c (.own 6 g6))),(7,.w (.c (.own 16 g7))),(8,.w (.c (iA i))),(9,.w (.c (iA n))),(10,.w (.c (iA nd))),(11,.pb 11 (s11.gen+1) 0),(12,.pb 12 (s12.gen+1) 0),(13,x13),(14,x14),(15,x15),(16,.w (.c (.own 16 g7)))]/\S=[(11,.box (s11.gen+1) [iA ev.kind,iA ev.node,iA ev.arg,iA ev.msg.node,iA ev.msg.handler,iA ev.msg.count,iA ev.msg.index,iA ev.msg.copy,.v (.slice none 0 0),bA aK,.v (.slice none 0 0)]),(12,.box (s12.gen+1) [iA nd,iA hd,iA ct]),(15,s15),(5,.row 45 11 g5 (run.map kQ)),(6,.row 39 5 g6 (fl.map ng)),(16,.row 3 1 g7 (bM Bi)),(610,.dead d1),(611,.dead d2)]) ?_ ?_
   ·by_cases h5:(q7:Int)=5
    ·have FF:=@h5
     try refine aG ?_
     try clear FF
     exact⟨rfl,true,rfl,rfl⟩
    ·have FF:=@h5
     try refine aG ?_
     try clear FF
     exact⟨rfl,aK,rfl,rfl⟩
   clear aK;rintro V L S ⟨aK,rfl,rfl⟩
   obtain⟨q8,e8⟩:∃q,n/13=q:=⟨_,rfl⟩
   obtain⟨t3,e9⟩:∃q,q8%3=q:=⟨_,rfl⟩
   have r8:aZ .quo (.int .i64 (n:Int)) (.int .i64 13)=some (.int .i64 (q8:Int)):=kS (b:=13) e8 ab ab;have r9:aZ .rem (.int .i64 (q8:Int)) (.int .i64 3)=some (.int .i64 (t3:Int)):=kv (b:=3) e9 ab;have ht3:t3<3:=ab;have FF:=trivial
   try refine aG ?_
   try clear FF
   refine dA (fun m V S=>∃(q:Nat) (sent fm:List bR) (h0 h6:Nat) (y15:AV) (t15:Slot),q<=t3/\m=t3-q/\sent.length=q/\fm.length=fl.length+q/\(∀m∈fm,Vx m)/\V=[(0,.w (.c (ints l))),(1,.w (.c (iA most))),(4,.w (.c (.sl []))),(5,.w (.c (.own 5 g5))),(6,.w (.c (.own 6 h6))),(7,.w (.c (.own 16 g7))),(8,.w (.c (iA i))),(9,.w (.c (iA n))),(10,.w (.c (iA nd))),(11,.pb 11 (s11.gen+1) 0),(12,.pb 12 (s12.gen+1) 0),(13,x13),(14,.w (.c (iA q))),(15,y15),(16,.w (.c (.own 16 g7)))]/\S=[(11,.box (s11.gen+1) [iA ev.kind,iA ev.node,iA ev.arg,iA ev.msg.node,iA ev.msg.handler,iA ev.msg.count,iA ev.msg.index,iA ev.msg.copy,.own 611 (d2+1),bA aK,.own 610 h0]),(12,.box (s12.gen+1) [iA nd,iA hd,iA ct]),(15,t15),(5,.row 45 11 g5 (run.map kQ)),(6,.row 39 5 h6 (fm.map ng)),(16,.row 3 1 g7 (bM Bi)),(610,.row 39 5 h0 (sent.map ng)),(611,.row 78 7 (d2+1) [])]) (n:=t3)
    ⟨0,[],fl,_,g6,x15,s15,ab,ab,rfl,ab,amE,rfl,rfl⟩ ?_
   rintro m V L S ⟨q,sent,fm,h0,h6,y15,t15,hq,rfl,bF,hfm,amG,rfl,rfl⟩;by_cases hqt:q<t3
   ·have Dl:(q:Int)<(t3:Int):=ab;have hq9:q<=1000000000:=ab;have c1:sent.length<=100000000:=ab;have c2:fm.length<=100000000:=ab;have FF:=gR @r8 @r9 @Dl @c1 @c2 (bT hq9)
    try refine aG ?_
    try clear FF
    exact⟨t3-(q+1),ab,q+1,sent++[⟨nd,hd,ct,q,0⟩],fm++[⟨nd,hd,ct,q,0⟩],_,_,_,_,ab,rfl,by simp[bF],by simp[hfm];omega,fun m hm=>by
     rcases fU.1 hm with hm|hm
     ·exact amG m hm
     ·simp only[oK] at hm;subst hm
      exact⟨sk nd ab,sk hd ab,⟨by show 0<=ct;omega,by show ct<=10000000;omega⟩,sk q ab,sk 0 ab⟩,rfl,by rw[dm,dm];rfl⟩
   ·have Dl:¬(q:Int)<(t3:Int):=ab
    obtain⟨q9,e10⟩:∃q,n/17=q:=⟨_,rfl⟩
    obtain⟨p1,e11⟩:∃q,q9%3=q:=⟨_,rfl⟩
    obtain⟨p2,e12⟩:∃q,n/51=q:=⟨_,rfl⟩
    obtain⟨an,e13⟩:∃q,p2%2=q:=⟨_,rfl⟩
    have r10:aZ .quo (.int .i64 (n:Int)) (.int .i64 17)=some (.int .i64 (q9:Int)):=kS (b:=17) e10 ab ab;have r11:aZ .rem (.int .i64 (q9:Int)) (.int .i64 3)=some (.int .i64 (p1:Int)):=kv (b:=3) e11 ab;have r12:aZ .quo (.int .i64 (n:Int)) (.int .i64 51)=some (.int .i64 (p2:Int)):=kS (b:=51) e12 ab ab;have r13:aZ .rem (.int .i64 (p2:Int)) (.int .i64 2)=some (.int .i64 (an:Int)):=kv (b:=2) e13 ab;have FF:=iF @r8 @r9 @Dl @r10 @r11
    try refine aG ?_
    try clear FF
    refine acw (fun V S=>∃(asks:List Ask) (h1:Nat) (y14:AV),asks.length<=1/\(∀a∈asks,SmA a/\a.arity=2/\a.n<=1)/\V=[(0,.w (.c (ints l))),(1,.w (.c (iA most))),(4,.w (.c (.sl []))),(5,.w (.c (.own 5 g5))),(6,.w (.c (.own 6 h6))),(7,.w (.c (.own 16 g7))),(8,.w (.c (iA i))),(9,.w (.c (iA n))),(10,.w (.c (iA nd))),(11,.pb 11 (s11.gen+1) 0),(12,.pb 12 (s12.gen+1) 0),(13,x13),(14,y14),(15,y15),(16,.w (.c (.own 16 g7)))]/\S=[(11,.box (s11.gen+1) [iA ev.kind,iA ev.node,iA ev.arg,iA ev.msg.node,iA ev.msg.handler,iA ev.msg.count,iA ev.msg.index,iA ev.msg.copy,.own 611 h1,bA aK,.own 610 h0]),(12,.box (s12.gen+1) [iA nd,iA hd,iA ct]),(15,t15),(5,.row 45 11 g5 (run.map kQ)),(6,.row 39 5 h6 (fm.map ng)),(16,.row 3 1 g7 (bM Bi)),(610,.row 39 5 h0 (sent.map ng)),(611,.row 78 7 h1 (asks.map eL))]) ?_ ?_
    ·by_cases h2:(p1:Int)=2
     ·have FF:=kT @h2 @r12 @r13
      try refine aG ?_
      try clear FF
      exact⟨rfl,[⟨nd,hd,ct,1,0,2,an⟩],_,_,ai,fun a ha=>by
       simp only[oK] at ha;subst ha;refine⟨fun x hx=> ?_,rfl,by show(an:Int)<=1;omega⟩;simp only[Ask.ints,cA,jL,kV] at hx;unfold Sm
       rcases hx with rfl|rfl|rfl|rfl|rfl|rfl|rfl<;>omega,rfl,rfl⟩
     ·have FF:=@h2
      try refine aG ?_
      try clear FF
      exact⟨rfl,[],_,_,ai,fun a ha=>by simp at ha,rfl,rfl⟩
    rintro V L S ⟨asks,h1,y14,xd,ud,rfl,rfl⟩;have c3:run.length<=100000000:=ab;have FF:=im @c3 (bT eS)
    try refine aG ?_
    try clear FF
    exact⟨most-(i+1),ab,i+1,run++[⟨ev,asks,aK,sent⟩],fm,Bi,_,_,_,_,_,_,_,_,_,_,_,_,_,_,_,ab,rfl,by simp[eJ],fun s hs=>by
     rcases fU.1 hs with hs|hs
     ·exact acx s hs
     ·simp only[oK] at hs;subst hs
      exact⟨aI,ud,xd,by show sent.length<=2;omega⟩,ab,amG,aCX,dW,rfl,by rw[dm];rfl⟩
  ·have FF:=im @hlt @jr
   try refine aG ?_
   try clear FF
   refine zE ?_;exact(⟨run,rfl,ab,acx⟩)
 ·have FF:=@hlt
  try refine aG ?_
  try clear FF
  refine zE ?_;exact(⟨run,rfl,ab,acx⟩)
end Ab
section
open Go.RowKit
theorem amH {l:List Int}{k:Option Addr}{c:Nat}(w:World)(h:br w (.slice k l.length c) l)(hc:l.length<=c)(hi:∀x∈l,cJ x)(most:Nat)(hm:most<=60)(hg:Gl w):
  Calls Tryz.prog 8 #[.slice k l.length c,I most] w fun e w'=>∃u run,e=.returned u/\fH w' u run/\run.length<=most/\(∀s∈run,Ab.QE s)/\aw w w':=by
 refine(Ab.aCW (l:=l) hi hm (fun _=>False) w [.slice k l.length c,I most] ⟨fun b hb=>hb.elim,Ab.NI hg⟩ rfl (fun i x v hx hv=> ?_)).mono ?_
 ·match i,hx,hv with
  |0,hx,hv=>
   simp only[ye,aA] at hx hv;subst hx hv;exact acq h hc
  |1,hx,hv=>
   simp only[Gm,ye,aA] at hx hv;subst hx hv;exact⟨rfl,Ab.IR.v _ rfl⟩
  |i+2,hx,hv=>simp at hx
 ·rintro e w' ⟨v,r,rfl,⟨run,rfl,h1,h2⟩,hV,hF⟩;exact⟨v,run,rfl,Ab.ajE (show Ab.IR w' (fun _=>False) (Ab.CU run) v from hV.2),h1,h2,Ab.Fr.below hF⟩
end
end Go.Proofs.YtkanpepkdcmpmaaGreatDoor
