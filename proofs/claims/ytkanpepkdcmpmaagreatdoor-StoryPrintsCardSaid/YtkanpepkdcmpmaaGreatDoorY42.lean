import Derived.Test.YtkanpepkdcmpmaaGreatDoorY41
set_option maxHeartbeats 40000000
set_option maxRecDepth 100000
set_option linter.all false
namespace Go.Proofs.YtkanpepkdcmpmaaGreatDoor
section
open Go.RowKit
theorem aCH (s t:ay)(v u:Value)(w:World)(hs:s.In w v)(ht:t.In w u)(h:vG t=false):
  Calls Tryz.prog 137 #[v,u] w fun e w'=>e=.returned (.bool false)/\aw w w':=by
 obtain⟨va,vs,rfl,lM,oc⟩:=hs;obtain⟨ua,us,rfl,og,mS⟩:=ht;simp only[vG,Bool.or_eq_false_iff,mE] at h;obtain⟨⟨h3,h5⟩,h6⟩:=h
 have q3:(t.ev.kind !=3)=true:=by simpa using h3
 have q5:(t.ev.kind !=5)=true:=by simpa using h5
 have q6:(t.ev.kind !=6)=true:=by simpa using h6
 clear h3 h5 h6;simp only[ay.val,ay.row];go_enter Tryz.func137,Tryz.ntmps137;go_wp2;go_ret;exact⟨rfl,bF⟩
theorem aCI (s t:ay)(v u:Value)(w:World)(hs:s.In w v)(ht:t.In w u)(h:vG t=true):
  Calls Tryz.prog 137 #[v,u] w fun e w'=>e=.returned (.bool (s.sent.any fun m=>mr m t))/\aw w w':=by
 obtain⟨va,vs,rfl,lM,oc⟩:=hs;obtain⟨ua,us,rfl,og,mS⟩:=ht;obtain⟨ka,ca,rfl,Cu⟩:=oc.open;simp only[vG,uJ,DJ] at h;simp only[ay.val,ay.row]
 have key:∀K:Int,(K=3\/K=5\/K=6)->Calls Tryz.prog 137 #[.agg #[I s.ev.kind,I s.ev.node,I s.ev.arg,I s.ev.msg.node,I s.ev.msg.handler,I s.ev.msg.count,I s.ev.msg.index,I s.ev.msg.copy,va,.bool s.aJ,.slice ka s.sent.length ca],
   .agg #[I K,I t.ev.node,I t.ev.arg,I t.ev.msg.node,I t.ev.msg.handler,I t.ev.msg.count,I t.ev.msg.index,I t.ev.msg.copy,ua,.bool t.aJ,us]] w fun e w'=>e=.returned (.bool (s.sent.any fun m=>mr m t))/\aw w w':=by
  intro K hK
  have q:((K !=3)=false)\/((K !=3)=true/\(K !=5)=false)\/((K !=3)=true/\(K !=5)=true/\(K !=6)=false):=by
   rcases hK with rfl|rfl|rfl<;>decide
  clear hK h
  rcases q with q1|⟨q1,q2⟩|⟨q1,q2,q3⟩
  all_goals
   go_enter Tryz.func137,Tryz.ntmps137;go_wp2
   go_loopw [6] (fun i wr=>∃k:Nat,k<=s.sent.length/\i=.int .i64 k/\aw w wr/\(∀j<k,∀m,s.sent[j]? =some m->mr m t=false)/\
    az wr w.heap.size #[I s.ev.kind,I s.ev.node,I s.ev.arg,I s.ev.msg.node,I s.ev.msg.handler,I s.ev.msg.count,I s.ev.msg.index,I s.ev.msg.copy,va,.bool s.aJ,.slice ka s.sent.length ca]/\
    az wr (w.heap.size+1) #[I K,I t.ev.node,I t.ev.arg,I t.ev.msg.node,I t.ev.msg.handler,I t.ev.msg.count,I t.ev.msg.index,I t.ev.msg.copy,ua,.bool t.aJ,us]) (fun i _=>s.sent.length-(intOf i).toNat)
   case atStart=>
    refine⟨0,ab,rfl,bF,fun j hj=>absurd hj ab,(az.new _ _ _).alloc _,?_⟩;have:=az.new (w.alloc (.cells #[I s.ev.kind,I s.ev.node,I s.ev.arg,I s.ev.msg.node,I s.ev.msg.handler,I s.ev.msg.count,I s.ev.msg.index,I s.ev.msg.copy,va,.bool s.aJ,.slice ka s.sent.length ca] 45)) #[I K,I t.ev.node,I t.ev.arg,I t.ev.msg.node,I t.ev.msg.handler,I t.ev.msg.count,I t.ev.msg.index,I t.ev.msg.copy,ua,.bool t.aJ,us] 45;simpa using this
   case round=>
    obtain⟨k,hk,rfl,hB,hE,cT,eU⟩:=hrel;have HE:=ae hE;clear hE;have jN:=cT.cell;have dS:=eU.cell;by_cases hlt:k<s.sent.length
    ·obtain⟨b,o,rfl,x0,x1,x2,x3,x4⟩:=(oc.kept hB ax).at (i:=k) (x:=s.sent[k]) (by simp[hlt])
     have hno:mr s.sent[k] t=false->∀j<k+1,∀m,s.sent[j]? =some m->mr m t=false:=by
      intro h0 j hj m hm;by_cases ib:j=k
      ·subst ib;rw[cw hlt] at hm;cases hm;exact h0
      ·exact HE.out j ab m hm
     have Hno:=ae hno;clear hno;by_cases g0:s.sent[k].copy=0
     ·have p0:(s.sent[k].copy==0)=true:=by simp[g0]
      by_cases g1:[s.sent[k].node,s.sent[k].handler,s.sent[k].count]=[t.ev.msg.node,t.ev.msg.handler,t.ev.msg.count]
      ·have p1:=Ra g1;by_cases g2:s.sent[k].index=t.ev.msg.index
       ·have p2:(s.sent[k].index==t.ev.msg.index)=true:=by simp[g2]
        have amn:mr s.sent[k] t=true:=by
         simp at g1;simp[mr,g0,g1,g2]
        have aCJ:=ae amn;clear g0 g1 g2 amn;go_wp2;go_quiet (fail);go_wp2;go_ret;refine⟨eY ?_,below_drewN hB nq⟩;symm;rw[yk];exact⟨_,bP hlt,aCJ.out⟩
       ·have p2:(s.sent[k].index==t.ev.msg.index)=false:=by simp[g2]
        have hno:=ae (Hno.out (by simp[mr,p2]));clear g0 g1 g2;go_wp2;go_quiet (fail);go_wp2;go_roundw
        case rel=>exact⟨k+1,ab,by go_num,below_drewN hB nq,hno.out,cT.drewN nq,eU.drewN nq⟩
        case measure=>simp[intOf];omega
      ·have p1:=Rb g1
       have hno:=ae (Hno.out (by
        rw[Gd];intro h0;apply g1;simp[mr] at h0
        simp[h0]))
       clear g0 g1;go_wp2;go_quiet (fail);go_wp2;go_roundw
       case rel=>exact⟨k+1,ab,by go_num,below_drewN hB nq,hno.out,cT.drewN nq,eU.drewN nq⟩
       case measure=>simp[intOf];omega
     ·have p0:(s.sent[k].copy==0)=false:=by simp[g0]
      have hno:=ae (Hno.out (by simp[mr,p0]));clear g0;go_wp2;go_quiet (fail);go_wp2;go_roundw
      case rel=>exact⟨k+1,ab,by go_num,below_drewN hB nq,hno.out,cT.drewN nq,eU.drewN nq⟩
      case measure=>simp[intOf];omega
    ·go_wp2;go_ret;refine⟨eY ?_,hB⟩;symm;rw[Gd];intro h0;obtain⟨m,hm,h1⟩:=yk.1 h0;obtain⟨j,hj⟩:=wH hm;rw[HE.out j (by have:=(bK.1 hj).1;omega) m hj] at h1;cases h1
 exact key _ (by rcases h with(h|h)|h<;>simp[h])
theorem aCK (s t:ay)(v u:Value)(w:World)(hs:s.In w v)(ht:t.In w u):
  Calls Tryz.prog 137 #[v,u] w fun e w'=>e=.returned (.bool (cB s t))/\aw w w':=by
 by_cases h:vG t=true
 ·refine(aCI s t v u w hs ht h).mono fun e w' ⟨h1,h2⟩=>⟨?_,h2⟩
  rw[h1,Tb,h];rfl
 ·refine(aCH s t v u w hs ht (by simpa using h)).mono fun e w' ⟨h1,h2⟩=>⟨?_,h2⟩
  rw[h1,Tb,(by simpa using h:vG t=false)];rfl
theorem amo {s t:ay}{v u:Value}{w W:World}{x:Bool}(hs:s.In w v)(ht:t.In w u)(hB:aw w W)(hx:cB s t=x):
  Calls Tryz.prog 137 #[v,u] W fun e w'=>e=.returned (.bool x)/\aw W w':=by
 rw[<-hx];exact aCK s t v u W (hs.kept hB ax) (ht.kept hB ax)
theorem dependent (s t:ay)(v u:Value)(w:World)(hs:s.In w v)(ht:t.In w u):
  Calls Tryz.prog 82 #[v,u] w fun e w'=>e=.returned (.bool (dw s t))/\aw w w':=by
 have f1:∀W x,aw w W->cB s t=x->Calls Tryz.prog 137 #[v,u] W fun e w'=>e=.returned (.bool x)/\aw W w':=fun W x hB hx=>amo hs ht hB hx
 have f2:∀W x,aw w W->cB t s=x->Calls Tryz.prog 137 #[u,v] W fun e w'=>e=.returned (.bool x)/\aw W w':=fun W x hB hx=>amo ht hs hB hx
 obtain⟨va,vs,rfl,lM,oc⟩:=hs;obtain⟨ua,us,rfl,og,mS⟩:=ht;obtain⟨ka,ca,rfl,_⟩:=lM.open;obtain⟨kb,cb,rfl,_⟩:=oc.open;obtain⟨kc,cc,rfl,_⟩:=og.open;obtain⟨kd,cd,rfl,_⟩:=mS.open;simp only[ay.val,ay.row] at f1 f2⊢;have F1:=ae f1;have F2:=ae f2;clear f1 f2;by_cases h1:s.ev.node=t.ev.node
 ·have q1:(s.ev.node==t.ev.node)=true:=by simp[h1]
  have hr:=ae (show dw s t=true by simp[dw,h1]);clear h1;go_enter Tryz.func82,Tryz.ntmps82;go_wp2_with fail;go_ret;exact⟨eY hr.out.symm,bF⟩
 ·have q1:(s.ev.node==t.ev.node)=false:=by simp[h1]
  clear h1
  have Ik:dw s t=((s.aJ && t.aJ)||cB s t||cB t s):=by
   have:dw s t=((s.ev.node==t.ev.node)||(s.aJ && t.aJ)||cB s t||cB t s):=rfl;rw[this,q1];simp
  have Cv:=ae Ik;clear Ik
  have key:∀so kM:Bool,Hid (s.aJ=so)->Hid (t.aJ=kM)->Calls Tryz.prog 82 #[.agg #[I s.ev.kind,I s.ev.node,I s.ev.arg,I s.ev.msg.node,I s.ev.msg.handler,I s.ev.msg.count,I s.ev.msg.index,I s.ev.msg.copy,.slice ka s.asks.length ca,.bool so,.slice kb s.sent.length cb],
    .agg #[I t.ev.kind,I t.ev.node,I t.ev.arg,I t.ev.msg.node,I t.ev.msg.handler,I t.ev.msg.count,I t.ev.msg.index,I t.ev.msg.copy,.slice kc t.asks.length cc,.bool kM,.slice kd t.sent.length cd]] w fun e w'=>e=.returned (.bool (dw s t))/\aw w w':=by
   intro so kM yS yT;have F1:=F1.out;have F2:=F2.out;rw[yS.out,yT.out] at F1 F2;have F1:=ae F1;have F2:=ae F2;clear lM oc og mS;cases so
   ·cases kM
    ·have hd:dw s t=(cB s t||cB t s):=by rw[Cv.out,yS.out,yT.out];simp
     have Hd:=ae hd;clear hd;by_cases g1:cB s t=true
     ·have hr:=ae (show dw s t=true by rw[Hd.out,g1];simp);have G1:=ae g1;clear g1;go_enter Tryz.func82,Tryz.ntmps82
      go_wp2_with (go_at_call 137;refine(F1.out _ true bF G1.out).mono ?_;rintro e w1 ⟨rfl,aC⟩;have hcc:=nU aC)
      go_ret;exact⟨eY hr.out.symm,Below.then bF aC⟩
     ·by_cases g2:cB t s=true
      ·have hr:=ae (show dw s t=true by rw[Hd.out,g2];simp);have G1:=ae (show cB s t=false by simpa using g1);have G2:=ae g2;clear g1 g2;go_enter Tryz.func82,Tryz.ntmps82;go_wp2_with fail;refine(F1.out _ false bF G1.out).mono ?_;rintro e w1 ⟨rfl,aC⟩;have hcc:=nU aC;go_wp2_with fail;refine(F2.out _ true (Below.then bF aC) G2.out).mono ?_;rintro e w2 ⟨rfl,bg⟩;go_wp2_with fail;go_ret;exact⟨eY hr.out.symm,Below.then (Below.then bF aC) bg⟩
      ·have hr:=ae (show dw s t=false by rw[Hd.out];simp[g1,g2]);have G1:=ae (show cB s t=false by simpa using g1);have G2:=ae (show cB t s=false by simpa using g2);clear g1 g2;go_enter Tryz.func82,Tryz.ntmps82;go_wp2_with fail;refine(F1.out _ false bF G1.out).mono ?_;rintro e w1 ⟨rfl,aC⟩;have hcc:=nU aC;go_wp2_with fail;refine(F2.out _ false (Below.then bF aC) G2.out).mono ?_;rintro e w2 ⟨rfl,bg⟩;go_wp2_with fail;go_ret;exact⟨eY hr.out.symm,Below.then (Below.then bF aC) bg⟩
    ·have hd:dw s t=(cB s t||cB t s):=by rw[Cv.out,yS.out,yT.out];simp
     have Hd:=ae hd;clear hd;by_cases g1:cB s t=true
     ·have hr:=ae (show dw s t=true by rw[Hd.out,g1];simp);have G1:=ae g1;clear g1;go_enter Tryz.func82,Tryz.ntmps82
      go_wp2_with (go_at_call 137;refine(F1.out _ true bF G1.out).mono ?_;rintro e w1 ⟨rfl,aC⟩;have hcc:=nU aC)
      go_ret;exact⟨eY hr.out.symm,Below.then bF aC⟩
     ·by_cases g2:cB t s=true
      ·have hr:=ae (show dw s t=true by rw[Hd.out,g2];simp);have G1:=ae (show cB s t=false by simpa using g1);have G2:=ae g2;clear g1 g2;go_enter Tryz.func82,Tryz.ntmps82;go_wp2_with fail;refine(F1.out _ false bF G1.out).mono ?_;rintro e w1 ⟨rfl,aC⟩;have hcc:=nU aC;go_wp2_with fail;refine(F2.out _ true (Below.then bF aC) G2.out).mono ?_;rintro e w2 ⟨rfl,bg⟩;go_wp2_with fail;go_ret;exact⟨eY hr.out.symm,Below.then (Below.then bF aC) bg⟩
      ·have hr:=ae (show dw s t=false by rw[Hd.out];simp[g1,g2]);have G1:=ae (show cB s t=false by simpa using g1);have G2:=ae (show cB t s=false by simpa using g2);clear g1 g2;go_enter Tryz.func82,Tryz.ntmps82;go_wp2_with fail;refine(F1.out _ false bF G1.out).mono ?_;rintro e w1 ⟨rfl,aC⟩;have hcc:=nU aC;go_wp2_with fail;refine(F2.out _ false (Below.then bF aC) G2.out).mono ?_;rintro e w2 ⟨rfl,bg⟩;go_wp2_with fail;go_ret;exact⟨eY hr.out.symm,Below.then (Below.then bF aC) bg⟩
   ·cases kM
    ·have hd:dw s t=(cB s t||cB t s):=by rw[Cv.out,yS.out,yT.out];simp
     have Hd:=ae hd;clear hd;by_cases g1:cB s t=true
     ·have hr:=ae (show dw s t=true by rw[Hd.out,g1];simp);have G1:=ae g1;clear g1;go_enter Tryz.func82,Tryz.ntmps82
      go_wp2_with (go_at_call 137;refine(F1.out _ true bF G1.out).mono ?_;rintro e w1 ⟨rfl,aC⟩;have hcc:=nU aC)
      go_ret;exact⟨eY hr.out.symm,Below.then bF aC⟩
     ·by_cases g2:cB t s=true
      ·have hr:=ae (show dw s t=true by rw[Hd.out,g2];simp);have G1:=ae (show cB s t=false by simpa using g1);have G2:=ae g2;clear g1 g2;go_enter Tryz.func82,Tryz.ntmps82;go_wp2_with fail;refine(F1.out _ false bF G1.out).mono ?_;rintro e w1 ⟨rfl,aC⟩;have hcc:=nU aC;go_wp2_with fail;refine(F2.out _ true (Below.then bF aC) G2.out).mono ?_;rintro e w2 ⟨rfl,bg⟩;go_wp2_with fail;go_ret;exact⟨eY hr.out.symm,Below.then (Below.then bF aC) bg⟩
      ·have hr:=ae (show dw s t=false by rw[Hd.out];simp[g1,g2]);have G1:=ae (show cB s t=false by simpa using g1);have G2:=ae (show cB t s=false by simpa using g2);clear g1 g2;go_enter Tryz.func82,Tryz.ntmps82;go_wp2_with fail;refine(F1.out _ false bF G1.out).mono ?_;rintro e w1 ⟨rfl,aC⟩;have hcc:=nU aC;go_wp2_with fail;refine(F2.out _ false (Below.then bF aC) G2.out).mono ?_;rintro e w2 ⟨rfl,bg⟩;go_wp2_with fail;go_ret;exact⟨eY hr.out.symm,Below.then (Below.then bF aC) bg⟩
    ·have hr:=ae (show dw s t=true by rw[Cv.out,yS.out,yT.out];simp);go_enter Tryz.func82,Tryz.ntmps82;go_wp2_with fail;go_ret;exact⟨eY hr.out.symm,bF⟩
  exact key _ _ (ae rfl) (ae rfl)
end
section
open Go.RowKit
def uz (run:List ay)(i K k:Nat):Bool:=(List.range K).any fun j=>decide (i<j) && qq run i j && (j==k||dc run j k)
theorem aCL (run:List ay)(i k:Nat):uz run i (i+1) k=false:=by
 unfold uz;rw[List.any_eq_false];intro j hj;have:=gy.1 hj;simp;intro h1;omega
theorem Vi (run:List ay)(i K k:Nat)(h:i<K):uz run i (K+1) k=(uz run i K k||(qq run i K && (K==k||dc run K k))):=by
 unfold uz;rw[lV,List.any_append];simp[h]
theorem aCM (run:List ay)(i k:Nat):uz run i run.length k=dc run i k:=(Oz run i k).symm
def Ql (w:World)(v:Value)(n:Nat)(f:Nat->Nat->Bool):Prop:=
 ∃g c,v=.slice (some ⟨g,0,none⟩) n c/\∀i<n,∃gi ci,w.cell? ⟨g,i,none⟩=some (.slice (some ⟨gi,0,none⟩) n ci)/\∀k<n,w.cell? ⟨gi,k,none⟩=some (.bool (f i k))
theorem aCN:(Tryz.prog.info? 105).map (fun i=>(i.zero,i.size,i.bytes))=some (some (.slice none 0 0),1,24):=ah
def Bn (wr:World)(run:List ay)(arr:Array Value)(g0 gi j:Nat):Prop:=
 ∃gj,arr[j]? =some (.slice (some ⟨gj,0,none⟩) run.length run.length)/\gj≠g0/\gj≠gi/\∀c<run.length,wr.cell? ⟨gj,c,none⟩=some (.bool (dc run j c))
theorem Bn.JF {wr w':World}{run:List ay}{arr:Array Value}{g0 gi j:Nat}(h:Bn wr run arr g0 gi j)(hk:∀b,b<wr.heap.size->b≠g0->b≠gi->w'.heap[b]? =wr.heap[b]?):Bn w' run arr g0 gi j:=by
 obtain⟨gj,h1,h2,h3,h4⟩:=h;refine⟨gj,h1,h2,h3,fun c hc=> ?_⟩;have h5:=h4 c hc;have h6:=iT _ _ h5;rw[FY (w:=wr) (hk gj (by simpa using h6) h2 h3)];exact h5
theorem ack (run:List ay)(v:Value)(w:World)(hrun:fw w v run)(hn:run.length<=100000):
  Calls Tryz.prog 36 #[v] w fun e w'=>∃u,e=.returned u/\Ql w' u run.length (dc run)/\aw w w':=by
 obtain⟨ka,ca,rfl,gz⟩:=hrun.open
 have yW:=fun W=>AJ (P:=Tryz.prog) 97 105 (.slice none 0 0) 24 run.length Tryz.underlying97 aCN rfl ab ab W
 have Tm:=fun W=>AJ (P:=Tryz.prog) 105 4 (.bool false) 1 run.length Tryz.underlying105 ahu rfl ab ab W
 go_enter Tryz.func36,Tryz.ntmps36;go_wp2
 go_loopw [5] (fun p wr=>∃(ii:Nat) (arr:Array Value),ii<=run.length/\p=.int .i64 ((ii:Int)-1)/\aw w wr/\w.heap.size<wr.heap.size/\az wr w.heap.size arr/\Hid (arr.size=run.length)/\
   (∀j,ii<=j->j<run.length->Bn wr run arr w.heap.size wr.heap.size j)) (fun p _=>(intOf p+1).toNat)
 case atStart=>exact⟨run.length,_,cK _,rfl,bF,ai,az.new _ _ _,ae (AH _ _),fun j h1 h2=>absurd h2 ab⟩
 case round=>
  obtain⟨ii,arr,Ac,rfl,hB,zg,fE,Hsz,hdone⟩:=hrel;have acm:=ae hdone;clear hdone;have OU:=fE.cell;have Vj:=fE.frozen
  cases ii with
  |zero=>
   have e0:(((0:Nat):Int)-1)= -1:=ab;rw[e0];go_wp2;go_ret;refine⟨_,rfl,⟨_,_,rfl,fun i hi=> ?_⟩,hB⟩;obtain⟨gj,h1,_,_,h4⟩:=acm.out i ab hi;exact⟨gj,_,(OU i).trans h1,h4⟩
  |succ i=>
   have e0:(((i+1:Nat):Int)-1)=(i:Int):=ab;rw[e0];clear e0;have hi:i<run.length:=ab
   obtain⟨x,hx⟩:∃x,arr[i]? =some x:=⟨arr[i]'(by rw[Hsz.out];exact hi),ai⟩
   go_wp2;have hW:az ((wr.setCell ⟨w.heap.size,i,none⟩ (.slice (some ⟨wr.heap.size,0,none⟩) run.length run.length)).alloc (.cells (eB run.length (.bool false)) 4)) w.heap.size (arr.setIfInBounds i (.slice (some ⟨wr.heap.size,0,none⟩) run.length run.length)):=(fE.set i _).alloc _
   have Iu:az ((wr.setCell ⟨w.heap.size,i,none⟩ (.slice (some ⟨wr.heap.size,0,none⟩) run.length run.length)).alloc (.cells (eB run.length (.bool false)) 4)) wr.heap.size (eB run.length (.bool false)):=by
    have:=az.new (wr.setCell ⟨w.heap.size,i,none⟩ (.slice (some ⟨wr.heap.size,0,none⟩) run.length run.length)) (eB run.length (.bool false)) 4;simpa using this
   have hai:(arr.setIfInBounds i (.slice (some ⟨wr.heap.size,0,none⟩) run.length run.length))[i]? =some (.slice (some ⟨wr.heap.size,0,none⟩) run.length run.length):=by
    rw[oz (by rw[Hsz.out];exact hi)]
   obtain⟨tH,Vk⟩:∃a,a=arr.setIfInBounds i (.slice (some ⟨wr.heap.size,0,none⟩) run.length run.length):=⟨_,rfl⟩
   have ED:∀j,i<j->j<run.length->Bn ((wr.setCell ⟨w.heap.size,i,none⟩ (.slice (some ⟨wr.heap.size,0,none⟩) run.length run.length)).alloc (.cells (eB run.length (.bool false)) 4)) run tH w.heap.size wr.heap.size j:=by
    intro j h1 h2;obtain⟨gj,a1,a2,a3,a4⟩:=acm.out j ab h2
    have hgj:gj<wr.heap.size:=by simpa using iT _ _ (a4 j h2)
    refine Bn.JF (wr:=wr) ⟨gj,?_,a2,ab,a4⟩ fun b cT eU zl=> ?_
    ·rw[Vk,nf ab];exact a1
    ·rw[Ke _ _ _ (by simpa using cT)];exact uI _ _ _ _ (by simpa using eU)
   rw[<-Vk] at hW hai;have aCO:Hid (tH.size=run.length):=ae (by rw[Vk,yi];exact Hsz.out);have Hai:=ae hai;have Hd2:=ae ED;have LI:aw w ((wr.setCell ⟨w.heap.size,i,none⟩ (.slice (some ⟨wr.heap.size,0,none⟩) run.length run.length)).alloc (.cells (eB run.length (.bool false)) 4)):=(hB.setCell ai _).alloc bq _;clear Vk hai ED hx OU Vj acm fE hB;generalize hgi:wr.heap.size=gi at*;have Bo:=ae hgi;clear hgi
   go_loopw [6] (fun p wr=>∃(k:Nat) (rv:Array Value),i+1<=k/\k<=run.length/\p=.int .i64 k/\aw w wr/\gi<wr.heap.size/\az wr w.heap.size tH/\az wr gi rv/\Hid (rv.size=run.length)/\
    (∀c,c<run.length->rv[c]? =some (.bool (uz run i k c)))/\(∀j,i<j->j<run.length->Bn wr run tH w.heap.size gi j)) (fun p _=>run.length-(intOf p).toNat)
   case atStart=>
    refine⟨i+1,_,ab,ab,by go_num,LI,by have:=Bo.out;simp;omega,hW,Iu,ae (AH _ _),fun c hc=> ?_,Hd2.out⟩;rw[aCL,Cy _ _ _ hc]
   case round=>
    rename_i wr0 _ _;obtain⟨k,rv,zR,hk,rfl,hB,Qm,fE,rJ,ru,bl,ff⟩:=hrel;have jd:=ae bl;have mB:=ae ff;clear bl ff;by_cases hlt:k<run.length
    ·obtain⟨b,o,va,vs,rfl,dU,dz,x0,x1,x2,x3,x4,x5,x6,x7,x8,x9,x10⟩:=(hrun.kept hB ax).at (i:=i) (s:=run[i]) (by simp[hi]);obtain⟨b',o',ua,us,eL,sO,AQ,y0,y1,y2,y3,y4,y5,y6,y7,y8,y9,y10⟩:=(hrun.kept hB ax).at (i:=k) (s:=run[k]) (by simp[hlt]);simp at eL;obtain⟨rfl,rfl⟩:=eL;have c:=dependent run[i] run[k] (run[i].val va vs) (run[k].val ua us) wr.drew ⟨va,vs,rfl,dU,dz⟩ ⟨ua,us,rfl,sO,AQ⟩;have MF:=Oy hi hlt;by_cases hd:dw run[i] run[k]=true
     ·rw[hd] at c MF;simp only[ay.val,ay.row] at c;have C:=ae c;have Vl:=ae MF;clear c hd MF;go_wp2;go_still_tail 8,ah;change wpList _ _ _ _ _ wr.drew;go_wp2_with fail;refine C.out.mono ?_;rintro e w1 ⟨rfl,aC⟩;have OB:aw w w1:=hB.drew.trans (aC.mono hB.size);have cL:=aC.size;simp only[oE] at cL;have Qo:az w1 w.heap.size tH:=fE.drew.kept aC fE.lt;have Vm:az w1 gi rv:=rJ.drew.kept aC rJ.lt
      have abX:Hid (∀j,i<j->j<run.length->Bn w1 run tH w.heap.size gi j):=ae fun j h1 h2=>(mB.out j h1 h2).JF fun b hb _ _=>aC.block b hb
      have OU:=(Qo.cell i).trans Hai.out;have hci:=(Vm.cell k).trans (jd.out k hlt);have Mn:=Vm.frozen k;go_wp2_with fail;have amp:=Vm.set k (.bool true);have amq:=Qo.setOther ⟨gi,k,none⟩ (.bool true) (by have:=Qo.lt;have:=Bo.out;simp;omega)
      have JG:Hid (∀j,i<j->j<run.length->Bn (w1.setCell ⟨gi,k,none⟩ (.bool true)) run tH w.heap.size gi j):=ae fun j h1 h2=>(abX.out j h1 h2).JF fun b _ _ hb=>uI _ _ _ _ (by simpa using hb)
      go_loopw [7] (fun p w2=>∃(j:Nat) (rw:Array Value),k+1<=j/\j<=run.length/\p=.int .i64 j/\aw w w2/\gi<w2.heap.size/\az w2 w.heap.size tH/\az w2 gi rw/\Hid (rw.size=run.length)/\
       (∀c,c<run.length->rw[c]? =some (.bool (if c<j then uz run i (k+1) c else uz run i k c)))/\(∀j,i<j->j<run.length->Bn w2 run tH w.heap.size gi j)) (fun p _=>run.length-(intOf p).toNat)
      case atStart=>
       refine⟨k+1,_,ab,ab,by go_num,OB.setCell (by have:=Bo.out;have:=Qo.lt;simp;omega) _,by simp;omega,amq,amp,ae (by rw[yi];exact ru.out),fun c hc=> ?_,JG.out⟩;by_cases nY:c=k
       ·subst nY;rw[oz (by rw[ru.out];exact hlt),aq ab,Vi _ _ _ _ ab,Vl.out];simp
       ·rw[nf ab,jd.out c hc];by_cases dS:c<k+1
        ·rw[aq dS,Vi _ _ _ _ ab,Zi run k c ab];have:(k==c)=false:=bq;simp[this]
        ·rw[af dS]
      case round=>
       clear Qo Vm OU hci Mn amp amq OB aC cL;rename_i w2;obtain⟨j,rv2,hkj,hj,rfl,hB,Qm,fE,rJ,JH,wv,amr⟩:=hrel;have Qp:=ae wv;have JG:=ae amr;clear wv amr;by_cases cY:j<run.length
       ·obtain⟨gk,a1,a2,a3,a4⟩:=JG.out k ab hlt;have z0:=(fE.cell i).trans Hai.out;have z1:=(fE.cell k).trans a1;have z2:=a4 j cY;have z3:=(rJ.cell j).trans (Qp.out j cY);rw[af ab] at z3;have z4:=rJ.frozen j
        have hval:uz run i (k+1) j=(uz run i k j||dc run k j):=by
         have:(k==j)=false:=bq;rw[Vi _ _ _ _ ab,Vl.out,this];simp
        cases hx:uz run i k j with
        |true=>
         rw[hx] at z3 hval;have Qq:=ae (hval.trans (Bool.true_or _));clear hval hx a1 a4;go_wp2;go_region;go_wp2;go_roundw
         case rel=>
          refine⟨j+1,_,ab,ab,by go_num,(hB.setCell (p:=⟨gi,j,none⟩) (by have:=Bo.out;have:=fE.lt;simp;omega) (.bool true)).drew,by simpa [oE] using Qm,(fE.setOther ⟨gi,j,none⟩ (.bool true) (by have:=fE.lt;have:=Bo.out;simp;omega)).drew,(rJ.set j (.bool true)).drew,ae (by rw[yi];exact JH.out),fun c hc=> ?_,fun q h1 h2=>(JG.out q h1 h2).JF fun b _ _ hb=>uI _ _ _ _ (by simpa using hb)⟩;by_cases Qr:c=j
          ·subst Qr;rw[oz (by rw[JH.out];exact cY),aq ab];exact aG (fun b=>some (Value.bool b)) Qq.out.symm
          ·rw[nf ab,Qp.out c hc];by_cases dS:c<j
           ·rw[aq dS,aq ab]
           ·rw[af dS,af ab]
         case measure=>simp[intOf];omega
        |false=>
         rw[hx] at z3 hval
         cases hy:dc run k j with
         |true=>
          rw[hy] at z2 hval;have Qq:=ae (show uz run i (k+1) j=true from hval);clear hval hx hy a1 a4;go_wp2;go_region;go_wp2;go_roundw
          case rel=>
           refine⟨j+1,_,ab,ab,by go_num,(hB.setCell (p:=⟨gi,j,none⟩) (by have:=Bo.out;have:=fE.lt;simp;omega) (.bool true)).drew,by simpa [oE] using Qm,(fE.setOther ⟨gi,j,none⟩ (.bool true) (by have:=fE.lt;have:=Bo.out;simp;omega)).drew,(rJ.set j (.bool true)).drew,ae (by rw[yi];exact JH.out),fun c hc=> ?_,fun q h1 h2=>(JG.out q h1 h2).JF fun b _ _ hb=>uI _ _ _ _ (by simpa using hb)⟩;by_cases Qr:c=j
           ·subst Qr;rw[oz (by rw[JH.out];exact cY),aq ab];exact aG (fun b=>some (Value.bool b)) Qq.out.symm
           ·rw[nf ab,Qp.out c hc];by_cases dS:c<j
            ·rw[aq dS,aq ab]
            ·rw[af dS,af ab]
          case measure=>simp[intOf];omega
         |false=>
          rw[hy] at z2 hval;have Qq:=ae (show uz run i (k+1) j=false from hval);clear hval hx hy a1 a4;go_wp2;go_region;go_wp2;go_roundw
          case rel=>
           refine⟨j+1,_,ab,ab,by go_num,(hB.setCell (p:=⟨gi,j,none⟩) (by have:=Bo.out;have:=fE.lt;simp;omega) (.bool false)).drew,by simpa [oE] using Qm,(fE.setOther ⟨gi,j,none⟩ (.bool false) (by have:=fE.lt;have:=Bo.out;simp;omega)).drew,(rJ.set j (.bool false)).drew,ae (by rw[yi];exact JH.out),fun c hc=> ?_,fun q h1 h2=>(JG.out q h1 h2).JF fun b _ _ hb=>uI _ _ _ _ (by simpa using hb)⟩;by_cases Qr:c=j
           ·subst Qr;rw[oz (by rw[JH.out];exact cY),aq ab];exact aG (fun b=>some (Value.bool b)) Qq.out.symm
           ·rw[nf ab,Qp.out c hc];by_cases dS:c<j
            ·rw[aq dS,aq ab]
            ·rw[af dS,af ab]
          case measure=>simp[intOf];omega
       ·go_wp2;go_roundw
        case rel=>
         refine⟨k+1,rv2,ab,ab,by go_num,hB,Qm,fE,rJ,JH,fun c hc=> ?_,JG.out⟩;rw[Qp.out c hc,aq ab]
        case measure=>simp[intOf];omega
     ·have Ah:dw run[i] run[k]=false:=by simpa using hd
      rw[Ah] at c MF;simp only[ay.val,ay.row] at c;have C:=ae c;have Vl:=ae MF;clear c hd Ah MF;go_wp2;go_still_tail 8,ah;change wpList _ _ _ _ _ wr.drew;go_wp2_with fail;refine C.out.mono ?_;rintro e w1 ⟨rfl,aC⟩;have cL:=aC.size;simp only[oE] at cL;go_wp2_with fail;go_roundw
      case rel=>
       refine⟨k+1,rv,ab,ab,by go_num,hB.drew.trans (aC.mono hB.size),ab,fE.drew.kept aC fE.lt,rJ.drew.kept aC rJ.lt,ru,fun c hc=> ?_,fun j h1 h2=>(mB.out j h1 h2).JF fun b hb _ _=>aC.block b hb⟩;rw[Vi _ _ _ _ ab,Vl.out,jd.out c hc];simp
      case measure=>simp[intOf];omega
    ·have gC:k=run.length:=ab;go_wp2;go_roundw
     case rel=>
      refine⟨i,tH,ab,rfl,hB,by have:=fE.lt;omega,fE,aCO,fun j h1 h2=> ?_⟩;by_cases hj:j=i
      ·subst hj;refine⟨gi,Hai.out,by have:=fE.lt;have:=Bo.out;omega,ab,fun c hc=> ?_⟩;rw[rJ.cell,jd.out c hc,gC,aCM]
      ·obtain⟨gj,a1,a2,a3,a4⟩:=mB.out j ab h2
       have hgj:gj<wr.heap.size:=by simpa using iT _ _ (a4 j h2)
       exact⟨gj,a1,a2,ab,a4⟩
     case measure=>simp[intOf]
end
section
open Go.RowKit
theorem Ql.below {w w':World}{v:Value}{n:Nat}{f:Nat->Nat->Bool}(h:Ql w v n f)(hb:aw w w'):Ql w' v n f:=by
 obtain⟨g,c,rfl,hr⟩:=h;refine⟨g,c,rfl,fun i hi=> ?_⟩;obtain⟨gi,ci,h1,h2⟩:=hr i hi;exact⟨gi,ci,bB hb ax h1,fun k hk=>bB hb ax (h2 k hk)⟩
end
namespace Ab
open Go Go.RowKit
section
variable {P:Program} {x z:fk} {Q:gM->St->Prop} {st:St}
theorem acn (Q1:List (Nat×AV)->List (Nat×Slot)->Prop)(h1:aM (lift P x) (fun e st=>e=.normal/\Q1 st.V st.S) st)(h2:∀V L S,Q1 V S->aM (lift P z) Q ⟨V,L,S⟩):aM (lift P (.seq x z)) Q st:=
 show aM (lift P x) (lI (fun st=>aM (lift P z) Q st) Q) st from vg (c:=x) (Q:=fun e st=>e=.normal/\Q1 st.V st.S) (Q':=lI (fun st=>aM (lift P z) Q st) Q) (fun e st' he=>by
  obtain⟨rfl,hq⟩:=he
  exact h2 st'.V st'.L st'.S hq) h1
theorem aCP {U:Option (List Nat)}{l:List BO}(Q1:List (Nat×AV)->List (Nat×Slot)->Prop)(h1:bt U (l.map (BO.ao P)) (fun st=>aM (lift P x) (fun e st=>e=.normal/\Q1 st.V st.S) st) st)(h2:∀V L S,Q1 V S->aM (lift P z) Q ⟨V,L,S⟩):
  bt U (l.map (BO.ao P)) (fun st=>aM (lift P (.seq x z)) Q st) st:=RY (fun st h=>acn Q1 h h2) h1
end
attribute [local irreducible] aM bt aX
def Sm (x:Int):Prop:=0<=x/\x<=10000000
def sY (e:Ev):Prop:=∀x∈e.ints,Sm x
def Vn (m:bQ):Prop:=Sm m.node/\Sm m.handler/\Sm m.count/\Sm m.index/\Sm m.copy
def SmA (a:Ask):Prop:=∀x∈a.ints,Sm x
def Qs (s:ay):Prop:=sY s.ev/\(∀a∈s.asks,SmA a/\a.arity=2/\a.n<=1)/\s.asks.length<=1/\s.sent.length<=2
theorem sY.mk {k n a:Int}{m:bQ}(h1:Sm k)(h2:Sm n)(h3:Sm a)(h4:Vn m):sY ⟨k,n,a,m⟩:=by
 obtain⟨m1,m2,m3,m4,m5⟩:=h4;intro x hx;simp only[Ev.ints,cz,jD,kL] at hx
 rcases hx with rfl|rfl|rfl|rfl|rfl|rfl|rfl|rfl<;>assumption
theorem Sm.nat {n:Nat}(h:n<=10000000):Sm (n:Int):=by unfold Sm;omega
theorem aCQ {l:List Int}(hl:∀x∈l,zz x){most:Nat}(hm:most<=60):
  aU Tryz.prog 8 [.c (ints l),.c (iA most)] (fun x=>∃run:List ay,x=.w (.c (CK run))/\run.length<=most/\∀s∈run,Qs s):=by
 refine cC Tryz.func8 ⟨0,[5,6,16],[],[(34,[610,611])],cU,[(37,[8,10])],[(26,[(11,10,610,39,5),(11,8,611,78,7)])]⟩ [] [.t 4] [4,5,6,7,8,9,10,11,12,13,14,15,16] [11,12,15,5,6,16,610,611] ?_;have FF:=trivial
 try refine aF ?_
 try clear FF
 refine dv (fun n V S=>∃(i:Nat) (run:List ay) (fl:List bQ) (kX:List Int) (g5 g6 g7 d1 d2:Nat) (x9 x10 x11 x12 x13 x14 x15:AV) (s11 s12 s15:Slot),i<=most/\n=most-i/\run.length=i/\(∀s∈run,Qs s)/\fl.length<=2*i/\(∀m∈fl,Vn m)/\kX.length=4/\(∀x∈kX,0<=x/\x<=i)/\
  V=[(0,.w (.c (ints l))),(1,.w (.c (iA most))),(4,.w (.c (.sl []))),(5,.w (.c (.own 5 g5))),(6,.w (.c (.own 6 g6))),(7,.w (.c (.own 16 g7))),(8,.w (.c (iA i))),(9,x9),(10,x10),(11,x11),(12,x12),(13,x13),(14,x14),(15,x15),(16,.w (.c (.own 16 g7)))]/\
  S=[(11,s11),(12,s12),(15,s15),(5,.row 45 11 g5 (run.map kJ)),(6,.row 39 5 g6 (fl.map mP)),(16,.row 3 1 g7 (bH kX)),(610,.dead d1),(611,.dead d2)]) (n:=most)
  ⟨0,[],[],[0,0,0,0],1,1,1,0,0,.u,.u,.u,.u,.u,.u,.u,.dead 0,.dead 0,.dead 0,ab,ab,rfl,ai,ai,ai,rfl,ai,rfl,rfl⟩ ?_
 rintro n V L S ⟨i,run,fl,kX,g5,g6,g7,d1,d2,x9,x10,x11,x12,x13,x14,x15,s11,s12,s15,hi,rfl,eF,aco,cM,ams,dB,hcn,rfl,rfl⟩;by_cases hlt:i<l.length
 ·by_cases jg:i<most
  ·have eN:i<=1000000000:=ab
   obtain⟨x,lL⟩:∃x,l[i]=x:=⟨_,rfl⟩
   have hA:=Vc x 10000000 (hl x (lL▸bP hlt)) ab;have ju:aD.around x 10000000<10000000:=oD _ au
   obtain⟨n,hn⟩:∃n,aD.around x 10000000=n:=⟨_,rfl⟩
   rw[hn] at hA ju
   obtain⟨nd,e1⟩:∃q,n%4=q:=⟨_,rfl⟩
   obtain⟨q1,e2⟩:∃q,n/4=q:=⟨_,rfl⟩
   obtain⟨hd,e3⟩:∃q,q1%3=q:=⟨_,rfl⟩
   obtain⟨q2,e4⟩:∃q,n/12=q:=⟨_,rfl⟩
   obtain⟨kd,e5⟩:∃q,q2%8=q:=⟨_,rfl⟩
   have r1:aW .rem (.int .i64 (n:Int)) (.int .i64 4)=some (.int .i64 (nd:Int)):=kh (b:=4) e1 ab;have r2:aW .quo (.int .i64 (n:Int)) (.int .i64 4)=some (.int .i64 (q1:Int)):=kK (b:=4) e2 ab ab;have r3:aW .rem (.int .i64 (q1:Int)) (.int .i64 3)=some (.int .i64 (hd:Int)):=kh (b:=3) e3 ab;have r4:aW .quo (.int .i64 (n:Int)) (.int .i64 12)=some (.int .i64 (q2:Int)):=kK (b:=12) e4 ab ab;have r5:aW .rem (.int .i64 (q2:Int)) (.int .i64 8)=some (.int .i64 (kd:Int)):=kh (b:=8) e5 ab;have cP:nd<4:=ab;have amt:nd<kX.length:=ab
   obtain⟨ct,SX⟩:∃ct,kX[nd]=ct:=⟨_,rfl⟩
   have hcb:=hcn ct (SX▸bP amt);have Qh:=oO (a:=ct) (b:=1) ab ab;have FF:=MS @hlt @jg @lL @r1 @r2 @r3 @r4 @r5 @amt @SX @Qh;refine bJ hA ?_
   try clear FF
   obtain⟨AX,acq⟩:∃c2,c2=kX.set nd (ct+1):=⟨_,rfl⟩
   rw[show(bH kX).set nd [AC.v (Value.int IntKind.i64 (ct+1))]=bH AX by rw[acq];exact(List.map_set ..).symm]
   have aCR:AX.length=4:=by rw[acq,List.length_set,dB]
   have dS:∀x∈AX,0<=x/\x<=((i+1:Nat):Int):=fun x hx=>by
    rw[acq] at hx
    rcases BB hx with hx|rfl
    ·have:=hcn x hx;omega
    ·omega
   have sk:∀k:Nat,k<=10000000->Sm (k:Int):=fun k hk=>Sm.nat hk
   have m0:Vn ⟨0,0,0,0,0⟩:=⟨sk 0 ab,sk 0 ab,sk 0 ab,sk 0 ab,sk 0 ab⟩
   refine aCP (fun V S=>∃(ev:Ev) (aJ:Bool) (x13:AV),sY ev/\V=[(0,.w (.c (ints l))),(1,.w (.c (iA most))),(4,.w (.c (.sl []))),(5,.w (.c (.own 5 g5))),(6,.w (.c (.own 6 g6))),(7,.w (.c (.own 16 g7))),(8,.w (.c (iA i))),(9,.w (.c (iA n))),(10,.w (.c (iA nd))),(11,.pb 11 (s11.gen+1) 0),(12,.pb 12 (s12.gen+1) 0),(13,x13),(14,x14),(15,x15),(16,.w (.c (.own 16 g7)))]/\S=[(11,.box (s11.gen+1) [iA ev.kind,iA ev.node,iA ev.arg,iA ev.msg.node,iA ev.msg.handler,iA ev.msg.count,iA ev.msg.index,iA ev.msg.copy,.v (.slice none 0 0),bA aJ,.v (.slice none 0 0)]),(12,.box (s12.gen+1) [iA nd,iA hd,iA ct]),(15,s15),(5,.row 45 11 g5 (run.map kJ)),(6,.row 39 5 g6 (fl.map mP)),(16,.row 3 1 g7 (bH AX)),(610,.dead d1),(611,.dead d2)]) ?_ ?_
   ·by_cases hk4:kd<4
    ·by_cases hf:0<fl.length
     ·obtain⟨q3,e6⟩:∃q,n/96=q:=⟨_,rfl⟩
      obtain⟨ix,e7⟩:∃q,q3%fl.length=q:=⟨_,rfl⟩
      obtain⟨q4,e8⟩:∃q,n/7=q:=⟨_,rfl⟩
      obtain⟨q5,e9⟩:∃q,q4%5=q:=⟨_,rfl⟩
      have r6:aW .quo (.int .i64 (n:Int)) (.int .i64 96)=some (.int .i64 (q3:Int)):=kK (b:=96) e6 ab ab;have r7:=kh e7 hf;have r8:aW .quo (.int .i64 (n:Int)) (.int .i64 7)=some (.int .i64 (q4:Int)):=kK (b:=7) e8 ab ab;have r9:aW .rem (.int .i64 (q4:Int)) (.int .i64 5)=some (.int .i64 (q5:Int)):=kh (b:=5) e9 ab
      have fU:ix<fl.length:=by rw[<-e7];exact oD _ hf
      obtain⟨m,yb⟩:∃m,fl[ix]=m:=⟨_,rfl⟩
      have kN:=ams m (yb▸bP fU);obtain⟨m1,m2,m3,m4,m5⟩:=m;have aHa:fl≠[]:=List.ne_nil_of_length_pos hf;have FB:fl.length≠0:=ab;obtain⟨b1,b2,b3,b4,b5⟩:=kN;by_cases h5:(q5:Int)=4
      ·obtain rfl|rfl|rfl|rfl:kd=0\/kd=1\/kd=2\/kd=3:=ab
       ·have FF:=oy @hf @FB @r6 @r7 @r8 @r9 @fU @yb @h5
        try refine aF ?_
        try clear FF
        exact⟨rfl,⟨3,nd,0,⟨m1,m2,m3,m4,m5⟩⟩,false,_,sY.mk (sk 3 ab) (sk nd ab) (sk 0 ab) ⟨b1,b2,b3,b4,b5⟩,rfl,rfl⟩
       ·have FF:=oy @hf @FB @r6 @r7 @r8 @r9 @fU @yb @h5
        try refine aF ?_
        try clear FF
        exact⟨rfl,⟨3,nd,0,⟨m1,m2,m3,m4,1⟩⟩,false,_,sY.mk (sk 3 ab) (sk nd ab) (sk 0 ab) ⟨b1,b2,b3,b4,sk 1 ab⟩,rfl,rfl⟩
       ·have FF:=oy @hf @FB @r6 @r7 @r8 @r9 @fU @yb @h5
        try refine aF ?_
        try clear FF
        exact⟨rfl,⟨5,nd,0,⟨m1,m2,m3,m4,1⟩⟩,false,_,sY.mk (sk 5 ab) (sk nd ab) (sk 0 ab) ⟨b1,b2,b3,b4,sk 1 ab⟩,rfl,rfl⟩
       ·have FF:=oy @hf @FB @r6 @r7 @r8 @r9 @fU @yb @h5
        try refine aF ?_
        try clear FF
        exact⟨rfl,⟨6,nd,0,⟨m1,m2,m3,m4,1⟩⟩,false,_,sY.mk (sk 6 ab) (sk nd ab) (sk 0 ab) ⟨b1,b2,b3,b4,sk 1 ab⟩,rfl,rfl⟩
      ·obtain rfl|rfl|rfl|rfl:kd=0\/kd=1\/kd=2\/kd=3:=ab
       ·have FF:=oy @hf @FB @r6 @r7 @r8 @r9 @fU @yb @h5
        try refine aF ?_
        try clear FF
        exact⟨rfl,⟨3,nd,0,⟨m1,m2,m3,m4,m5⟩⟩,false,_,sY.mk (sk 3 ab) (sk nd ab) (sk 0 ab) ⟨b1,b2,b3,b4,b5⟩,rfl,rfl⟩
       ·have FF:=oy @hf @FB @r6 @r7 @r8 @r9 @fU @yb @h5
        try refine aF ?_
        try clear FF
        exact⟨rfl,⟨3,nd,0,⟨m1,m2,m3,m4,m5⟩⟩,false,_,sY.mk (sk 3 ab) (sk nd ab) (sk 0 ab) ⟨b1,b2,b3,b4,b5⟩,rfl,rfl⟩
       ·have FF:=oy @hf @FB @r6 @r7 @r8 @r9 @fU @yb @h5
        try refine aF ?_
        try clear FF
        exact⟨rfl,⟨5,nd,0,⟨m1,m2,m3,m4,m5⟩⟩,false,_,sY.mk (sk 5 ab) (sk nd ab) (sk 0 ab) ⟨b1,b2,b3,b4,b5⟩,rfl,rfl⟩
       ·have FF:=oy @hf @FB @r6 @r7 @r8 @r9 @fU @yb @h5
        try refine aF ?_
        try clear FF
        exact⟨rfl,⟨6,nd,0,⟨m1,m2,m3,m4,m5⟩⟩,false,_,sY.mk (sk 6 ab) (sk nd ab) (sk 0 ab) ⟨b1,b2,b3,b4,b5⟩,rfl,rfl⟩
     ·have Vo:((kd:Int)<4):=ab;have Qt:((kd:Int)<6):=ab
      obtain⟨q3,e6⟩:∃q,n/96=q:=⟨_,rfl⟩
      obtain⟨ar,e7⟩:∃q,q3%3=q:=⟨_,rfl⟩
      have r6:aW .quo (.int .i64 (n:Int)) (.int .i64 96)=some (.int .i64 (q3:Int)):=kK (b:=96) e6 ab ab;have r7:aW .rem (.int .i64 (q3:Int)) (.int .i64 3)=some (.int .i64 (ar:Int)):=kh (b:=3) e7 ab;have Vj:fl=[]:=yh ab;have FF:=gI @Vo @hf @Vj @Qt @r6 @r7
      try refine aF ?_
      try clear FF
      exact⟨rfl,⟨4,nd,ar,⟨0,0,0,0,0⟩⟩,false,_,sY.mk (sk 4 ab) (sk nd ab) (sk ar ab) m0,rfl,by rw[Vj];rfl⟩
    ·have Vo:¬((kd:Int)<4):=ab;by_cases hk6:kd<6
     ·have Qt:((kd:Int)<6):=ab
      obtain⟨q3,e6⟩:∃q,n/96=q:=⟨_,rfl⟩
      obtain⟨ar,e7⟩:∃q,q3%3=q:=⟨_,rfl⟩
      have r6:aW .quo (.int .i64 (n:Int)) (.int .i64 96)=some (.int .i64 (q3:Int)):=kK (b:=96) e6 ab ab;have r7:aW .rem (.int .i64 (q3:Int)) (.int .i64 3)=some (.int .i64 (ar:Int)):=kh (b:=3) e7 ab;have FF:=eW @Vo @Qt @r6 @r7
      try refine aF ?_
      try clear FF
      exact⟨rfl,⟨4,nd,ar,⟨0,0,0,0,0⟩⟩,false,_,sY.mk (sk 4 ab) (sk nd ab) (sk ar ab) m0,rfl,rfl⟩
     ·have Qt:¬((kd:Int)<6):=ab;have FF:=eV @Vo @Qt
      try refine aF ?_
      try clear FF
      exact⟨rfl,⟨2,nd,i,⟨0,0,0,0,0⟩⟩,true,_,sY.mk (sk 2 ab) (sk nd ab) (sk i ab) m0,rfl,rfl⟩
   rintro V L S ⟨ev,aJ,x13,bT,rfl,rfl⟩
   obtain⟨q6,e6⟩:∃q,n/11=q:=⟨_,rfl⟩
   obtain⟨q7,e7⟩:∃q,q6%6=q:=⟨_,rfl⟩
   have r6:aW .quo (.int .i64 (n:Int)) (.int .i64 11)=some (.int .i64 (q6:Int)):=kK (b:=11) e6 ab ab;have r7:aW .rem (.int .i64 (q6:Int)) (.int .i64 6)=some (.int .i64 (q7:Int)):=kh (b:=6) e7 ab;have FF:=eV @r6 @r7
   try refine aF ?_
   try clear FF
   refine acn (fun V S=>∃(aJ:Bool),V=[(0,.w (.c (ints l))),(1,.w (.c (iA most))),(4,.w (.c (.sl []))),(5,.w (.c (.own 5 g5))),(6,.w (.c (.own 6 g6))),(7,.w (.c (.own 16 g7))),(8,.w (.c (iA i))),(9,.w (.c (iA n))),(10,.w (.c (iA nd))),(11,.pb 11 (s11.gen+1) 0),(12,.pb 12 (s12.gen+1) 0),(13,x13),(14,x14),(15,x15),(16,.w (.c (.own 16 g7)))]/\S=[(11,.box (s11.gen+1) [iA ev.kind,iA ev.node,iA ev.arg,iA ev.msg.node,iA ev.msg.handler,iA ev.msg.count,iA ev.msg.index,iA ev.msg.copy,.v (.slice none 0 0),bA aJ,.v (.slice none 0 0)]),(12,.box (s12.gen+1) [iA nd,iA hd,iA ct]),(15,s15),(5,.row 45 11 g5 (run.map kJ)),(6,.row 39 5 g6 (fl.map mP)),(16,.row 3 1 g7 (bH AX)),(610,.dead d1),(611,.dead d2)]) ?_ ?_
   ·by_cases h5:(q7:Int)=5
    ·have FF:=@h5
     try refine aF ?_
     try clear FF
     exact⟨rfl,true,rfl,rfl⟩
    ·have FF:=@h5
     try refine aF ?_
     try clear FF
     exact⟨rfl,aJ,rfl,rfl⟩
   clear aJ;rintro V L S ⟨aJ,rfl,rfl⟩
   obtain⟨q8,e8⟩:∃q,n/13=q:=⟨_,rfl⟩
   obtain⟨t3,e9⟩:∃q,q8%3=q:=⟨_,rfl⟩
   have r8:aW .quo (.int .i64 (n:Int)) (.int .i64 13)=some (.int .i64 (q8:Int)):=kK (b:=13) e8 ab ab;have r9:aW .rem (.int .i64 (q8:Int)) (.int .i64 3)=some (.int .i64 (t3:Int)):=kh (b:=3) e9 ab;have ht3:t3<3:=ab;have FF:=trivial
   try refine aF ?_
   try clear FF
   refine dv (fun m V S=>∃(q:Nat) (sent fm:List bQ) (h0 h6:Nat) (y15:AV) (t15:Slot),q<=t3/\m=t3-q/\sent.length=q/\fm.length=fl.length+q/\(∀m∈fm,Vn m)/\V=[(0,.w (.c (ints l))),(1,.w (.c (iA most))),(4,.w (.c (.sl []))),(5,.w (.c (.own 5 g5))),(6,.w (.c (.own 6 h6))),(7,.w (.c (.own 16 g7))),(8,.w (.c (iA i))),(9,.w (.c (iA n))),(10,.w (.c (iA nd))),(11,.pb 11 (s11.gen+1) 0),(12,.pb 12 (s12.gen+1) 0),(13,x13),(14,.w (.c (iA q))),(15,y15),(16,.w (.c (.own 16 g7)))]/\S=[(11,.box (s11.gen+1) [iA ev.kind,iA ev.node,iA ev.arg,iA ev.msg.node,iA ev.msg.handler,iA ev.msg.count,iA ev.msg.index,iA ev.msg.copy,.own 611 (d2+1),bA aJ,.own 610 h0]),(12,.box (s12.gen+1) [iA nd,iA hd,iA ct]),(15,t15),(5,.row 45 11 g5 (run.map kJ)),(6,.row 39 5 h6 (fm.map mP)),(16,.row 3 1 g7 (bH AX)),(610,.row 39 5 h0 (sent.map mP)),(611,.row 78 7 (d2+1) [])]) (n:=t3)
    ⟨0,[],fl,_,g6,x15,s15,ab,ab,rfl,ab,ams,rfl,rfl⟩ ?_
   rintro m V L S ⟨q,sent,fm,h0,h6,y15,t15,hq,rfl,cq,hfm,amu,rfl,rfl⟩;by_cases hqt:q<t3
   ·have Dd:(q:Int)<(t3:Int):=ab;have hq9:q<=1000000000:=ab;have c1:sent.length<=100000000:=ab;have c2:fm.length<=100000000:=ab;have FF:=gI @r8 @r9 @Dd @c1 @c2 (bN hq9)
    try refine aF ?_
    try clear FF
    exact⟨t3-(q+1),ab,q+1,sent++[⟨nd,hd,ct,q,0⟩],fm++[⟨nd,hd,ct,q,0⟩],_,_,_,_,ab,rfl,by simp[cq],by simp[hfm];omega,fun m hm=>by
     rcases fL.1 hm with hm|hm
     ·exact amu m hm
     ·simp only[oB] at hm;subst hm
      exact⟨sk nd ab,sk hd ab,⟨by show 0<=ct;omega,by show ct<=10000000;omega⟩,sk q ab,sk 0 ab⟩,rfl,by rw[de,de];rfl⟩
   ·have Dd:¬(q:Int)<(t3:Int):=ab
    obtain⟨q9,e10⟩:∃q,n/17=q:=⟨_,rfl⟩
    obtain⟨p1,e11⟩:∃q,q9%3=q:=⟨_,rfl⟩
    obtain⟨p2,e12⟩:∃q,n/51=q:=⟨_,rfl⟩
    obtain⟨an,e13⟩:∃q,p2%2=q:=⟨_,rfl⟩
    have r10:aW .quo (.int .i64 (n:Int)) (.int .i64 17)=some (.int .i64 (q9:Int)):=kK (b:=17) e10 ab ab;have r11:aW .rem (.int .i64 (q9:Int)) (.int .i64 3)=some (.int .i64 (p1:Int)):=kh (b:=3) e11 ab;have r12:aW .quo (.int .i64 (n:Int)) (.int .i64 51)=some (.int .i64 (p2:Int)):=kK (b:=51) e12 ab ab;have r13:aW .rem (.int .i64 (p2:Int)) (.int .i64 2)=some (.int .i64 (an:Int)):=kh (b:=2) e13 ab;have FF:=gZ @r8 @r9 @Dd @r10 @r11
    try refine aF ?_
    try clear FF
    refine acn (fun V S=>∃(asks:List Ask) (h1:Nat) (y14:AV),asks.length<=1/\(∀a∈asks,SmA a/\a.arity=2/\a.n<=1)/\V=[(0,.w (.c (ints l))),(1,.w (.c (iA most))),(4,.w (.c (.sl []))),(5,.w (.c (.own 5 g5))),(6,.w (.c (.own 6 h6))),(7,.w (.c (.own 16 g7))),(8,.w (.c (iA i))),(9,.w (.c (iA n))),(10,.w (.c (iA nd))),(11,.pb 11 (s11.gen+1) 0),(12,.pb 12 (s12.gen+1) 0),(13,x13),(14,y14),(15,y15),(16,.w (.c (.own 16 g7)))]/\S=[(11,.box (s11.gen+1) [iA ev.kind,iA ev.node,iA ev.arg,iA ev.msg.node,iA ev.msg.handler,iA ev.msg.count,iA ev.msg.index,iA ev.msg.copy,.own 611 h1,bA aJ,.own 610 h0]),(12,.box (s12.gen+1) [iA nd,iA hd,iA ct]),(15,t15),(5,.row 45 11 g5 (run.map kJ)),(6,.row 39 5 h6 (fm.map mP)),(16,.row 3 1 g7 (bH AX)),(610,.row 39 5 h0 (sent.map mP)),(611,.row 78 7 h1 (asks.map eH))]) ?_ ?_
    ·by_cases h2:(p1:Int)=2
     ·have FF:=jB @h2 @r12 @r13
      try refine aF ?_
      try clear FF
      exact⟨rfl,[⟨nd,hd,ct,1,0,2,an⟩],_,_,ai,fun a ha=>by
       simp only[oB] at ha;subst ha;refine⟨fun x hx=> ?_,rfl,by show(an:Int)<=1;omega⟩;simp only[Ask.ints,cz,jD,kL] at hx;unfold Sm
       rcases hx with rfl|rfl|rfl|rfl|rfl|rfl|rfl<;>omega,rfl,rfl⟩
     ·have FF:=@h2
      try refine aF ?_
      try clear FF
      exact⟨rfl,[],_,_,ai,fun a ha=>by simp at ha,rfl,rfl⟩
    rintro V L S ⟨asks,h1,y14,uU,ud,rfl,rfl⟩;have c3:run.length<=100000000:=ab;have FF:=eV @c3 (bN eN)
    try refine aF ?_
    try clear FF
    exact⟨most-(i+1),ab,i+1,run++[⟨ev,asks,aJ,sent⟩],fm,AX,_,_,_,_,_,_,_,_,_,_,_,_,_,_,_,ab,rfl,by simp[eF],fun s hs=>by
     rcases fL.1 hs with hs|hs
     ·exact aco s hs
     ·simp only[oB] at hs;subst hs
      exact⟨bT,ud,uU,by show sent.length<=2;omega⟩,ab,amu,aCR,dS,rfl,by rw[de];rfl⟩
  ·have FF:=eV @hlt @jg
   try refine aF ?_
   try clear FF
   refine zE ?_;exact(⟨run,rfl,ab,aco⟩)
 ·have FF:=@hlt
  try refine aF ?_
  try clear FF
  refine zE ?_;exact(⟨run,rfl,ab,aco⟩)
end Ab
section
open Go.RowKit
theorem amv {l:List Int}{k:Option Addr}{c:Nat}(w:World)(h:br w (.slice k l.length c) l)(hc:l.length<=c)(hi:∀x∈l,bY x)(most:Nat)(hm:most<=60)(hg:Gl w):
  Calls Tryz.prog 8 #[.slice k l.length c,I most] w fun e w'=>∃u run,e=.returned u/\fw w' u run/\run.length<=most/\(∀s∈run,Ab.Qs s)/\aw w w':=by
 refine(Ab.aCQ (l:=l) hi hm (fun _=>False) w [.slice k l.length c,I most] ⟨fun b hb=>hb.elim,Ab.Kv hg⟩ rfl (fun i x v hx hv=> ?_)).mono ?_
 ·match i,hx,hv with
  |0,hx,hv=>
   simp only[wG,aA] at hx hv;subst hx hv;exact ach h hc
  |1,hx,hv=>
   simp only[FW,wG,aA] at hx hv;subst hx hv;exact⟨rfl,Ab.IR.v _ rfl⟩
  |i+2,hx,hv=>simp at hx
 ·rintro e w' ⟨v,r,rfl,⟨run,rfl,h1,h2⟩,hV,hF⟩;exact⟨v,run,rfl,Ab.aju (show Ab.IR w' (fun _=>False) (Ab.CK run) v from hV.2),h1,h2,Ab.Fr.below hF⟩
end
end Go.Proofs.YtkanpepkdcmpmaaGreatDoor
