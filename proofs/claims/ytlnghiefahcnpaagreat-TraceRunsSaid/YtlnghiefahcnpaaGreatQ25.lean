import Derived.Test.YtlnghiefahcnpaaGreatQ24
set_option maxHeartbeats 40000000
set_option maxRecDepth 100000
set_option linter.all false
namespace Go.Proofs.YtlnghiefahcnpaaGreat
section
open Go.RowKit
def px (t:af):Bool:=t.ev.kind==3||t.ev.kind==5||t.ev.kind==6
def iX (m:bm)(t:af):Bool:=m.copy==0 && m.node==t.ev.msg.node && m.handler==t.ev.msg.handler && m.count==t.ev.msg.count && m.index==t.ev.msg.index
theorem Ia (a b:af):bI a b=(px b && a.sent.any fun m=>iX m b):=rfl
theorem ajd (s t:af)(v u:Value)(w:World)(hs:s.In w v)(ht:t.In w u)(h:px t=false):
  Calls Tryz.prog 69 #[v,u] w fun e w'=>e=.returned (.bool false)/\Below w.heap.size w w':=by
 obtain⟨va,vs,rfl,eZ,fB⟩:=hs;obtain⟨ua,us,rfl,fL,gm⟩:=ht;simp only[px,Hv,Bj] at h;obtain⟨⟨h3,h5⟩,h6⟩:=h
 have q3:(t.ev.kind !=3)=true:=by simpa using h3
 have q5:(t.ev.kind !=5)=true:=by simpa using h5
 have q6:(t.ev.kind !=6)=true:=by simpa using h6
 clear h3 h5 h6;simp only[af.val,af.row];go_enter Tryz.func69,Tryz.ntmps69;go_wp2;go_ret;exact⟨rfl,bc⟩
theorem Ll (s t:af)(v u:Value)(w:World)(hs:s.In w v)(ht:t.In w u)(h:px t=true):
  Calls Tryz.prog 69 #[v,u] w fun e w'=>e=.returned (.bool (s.sent.any fun m=>iX m t))/\Below w.heap.size w w':=by
 obtain⟨va,vs,rfl,eZ,fB⟩:=hs;obtain⟨ua,us,rfl,fL,gm⟩:=ht;obtain⟨ka,ca,rfl,xH⟩:=fB.open;simp only[px,og,xE] at h;simp only[af.val,af.row]
 have key:∀K:Int,(K=3\/K=5\/K=6)->Calls Tryz.prog 69 #[.agg #[I s.ev.kind,I s.ev.node,I s.ev.arg,I s.ev.msg.node,I s.ev.msg.handler,I s.ev.msg.count,I s.ev.msg.index,I s.ev.msg.copy,va,.bool s.ax,.slice ka s.sent.length ca],
   .agg #[I K,I t.ev.node,I t.ev.arg,I t.ev.msg.node,I t.ev.msg.handler,I t.ev.msg.count,I t.ev.msg.index,I t.ev.msg.copy,ua,.bool t.ax,us]] w fun e w'=>e=.returned (.bool (s.sent.any fun m=>iX m t))/\Below w.heap.size w w':=by
  intro K hK
  have q:((K !=3)=false)\/((K !=3)=true/\(K !=5)=false)\/((K !=3)=true/\(K !=5)=true/\(K !=6)=false):=by
   rcases hK with rfl|rfl|rfl<;>decide
  clear hK h
  rcases q with q1|⟨q1,q2⟩|⟨q1,q2,q3⟩
  all_goals
   go_enter Tryz.func69,Tryz.ntmps69;go_wp2
   go_loopw [6] (fun i wr=>∃k:Nat,k<=s.sent.length/\i=.int .i64 k/\Below w.heap.size w wr/\(∀j<k,∀m,s.sent[j]? =some m->iX m t=false)/\
    az wr w.heap.size #[I s.ev.kind,I s.ev.node,I s.ev.arg,I s.ev.msg.node,I s.ev.msg.handler,I s.ev.msg.count,I s.ev.msg.index,I s.ev.msg.copy,va,.bool s.ax,.slice ka s.sent.length ca]/\
    az wr (w.heap.size+1) #[I K,I t.ev.node,I t.ev.arg,I t.ev.msg.node,I t.ev.msg.handler,I t.ev.msg.count,I t.ev.msg.index,I t.ev.msg.copy,ua,.bool t.ax,us]) (fun i _=>s.sent.length-(intOf i).toNat)
   case atStart=>
    refine⟨0,aa,rfl,bc,fun j hj=>absurd hj aa,(az.new _ _ _).alloc _,?_⟩;have:=az.new (w.alloc (.cells #[I s.ev.kind,I s.ev.node,I s.ev.arg,I s.ev.msg.node,I s.ev.msg.handler,I s.ev.msg.count,I s.ev.msg.index,I s.ev.msg.copy,va,.bool s.ax,.slice ka s.sent.length ca] 67)) #[I K,I t.ev.node,I t.ev.arg,I t.ev.msg.node,I t.ev.msg.handler,I t.ev.msg.count,I t.ev.msg.index,I t.ev.msg.copy,ua,.bool t.ax,us] 67;simpa using this
   case round=>
    obtain⟨k,hk,rfl,hB,hE,bH,fq⟩:=hrel;have HE:=ab hE;clear hE;have iI:=bH.cell;have ma:=fq.cell;by_cases hlt:k<s.sent.length
    ·obtain⟨b,o,rfl,x0,x1,x2,x3,x4⟩:=(fB.kept hB av).at (i:=k) (x:=s.sent[k]) (by simp[hlt])
     have hno:iX s.sent[k] t=false->∀j<k+1,∀m,s.sent[j]? =some m->iX m t=false:=by
      intro h0 j hj m hm;by_cases dx:j=k
      ·subst dx;rw[List.getElem?_eq_getElem hlt] at hm;cases hm;exact h0
      ·exact HE.out j aa m hm
     have Lm:=ab hno;clear hno;by_cases g0:s.sent[k].copy=0
     ·have p0:(s.sent[k].copy==0)=true:=by simp[g0]
      by_cases g1:[s.sent[k].node,s.sent[k].handler,s.sent[k].count]=[t.ev.msg.node,t.ev.msg.handler,t.ev.msg.count]
      ·have p1:=xG g1;by_cases g2:s.sent[k].index=t.ev.msg.index
       ·have p2:(s.sent[k].index==t.ev.msg.index)=true:=by simp[g2]
        have Uu:iX s.sent[k] t=true:=by
         simp at g1;simp[iX,g0,g1,g2]
        have aje:=ab Uu;clear g0 g1 g2 Uu;go_wp2;go_quiet (fail);go_wp2;go_ret;refine⟨cB ?_,below_drewN hB nq⟩;symm;rw[qy];exact⟨_,cT hlt,aje.out⟩
       ·have p2:(s.sent[k].index==t.ev.msg.index)=false:=by simp[g2]
        have hno:=ab (Lm.out (by simp[iX,p2]));clear g0 g1 g2;go_wp2;go_quiet (fail);go_wp2;go_roundw
        case rel=>exact⟨k+1,aa,by go_num,below_drewN hB nq,hno.out,bH.drewN nq,fq.drewN nq⟩
        case measure=>simp[intOf];omega
      ·have p1:=zz g1
       have hno:=ab (Lm.out (by
        rw[zt];intro h0;apply g1;simp[iX] at h0
        simp[h0]))
       clear g0 g1;go_wp2;go_quiet (fail);go_wp2;go_roundw
       case rel=>exact⟨k+1,aa,by go_num,below_drewN hB nq,hno.out,bH.drewN nq,fq.drewN nq⟩
       case measure=>simp[intOf];omega
     ·have p0:(s.sent[k].copy==0)=false:=by simp[g0]
      have hno:=ab (Lm.out (by simp[iX,p0]));clear g0;go_wp2;go_quiet (fail);go_wp2;go_roundw
      case rel=>exact⟨k+1,aa,by go_num,below_drewN hB nq,hno.out,bH.drewN nq,fq.drewN nq⟩
      case measure=>simp[intOf];omega
    ·go_wp2;go_ret;refine⟨cB ?_,hB⟩;symm;rw[zt];intro h0;obtain⟨m,hm,h1⟩:=qy.1 h0;obtain⟨j,hj⟩:=qu hm;rw[HE.out j (by have:=(bk.1 hj).1;omega) m hj] at h1;cases h1
 exact key _ (by rcases h with(h|h)|h<;>simp[h])
theorem ajf (s t:af)(v u:Value)(w:World)(hs:s.In w v)(ht:t.In w u):
  Calls Tryz.prog 69 #[v,u] w fun e w'=>e=.returned (.bool (bI s t))/\Below w.heap.size w w':=by
 by_cases h:px t=true
 ·refine(Ll s t v u w hs ht h).mono fun e w' ⟨h1,h2⟩=>⟨?_,h2⟩
  rw[h1,Ia,h];rfl
 ·refine(ajd s t v u w hs ht (by simpa using h)).mono fun e w' ⟨h1,h2⟩=>⟨?_,h2⟩
  rw[h1,Ia,(by simpa using h:px t=false)];rfl
theorem Uv {s t:af}{v u:Value}{w W:World}{x:Bool}(hs:s.In w v)(ht:t.In w u)(hB:Below w.heap.size w W)(hx:bI s t=x):
  Calls Tryz.prog 69 #[v,u] W fun e w'=>e=.returned (.bool x)/\Below W.heap.size W w':=by
 rw[<-hx];exact ajf s t v u W (hs.kept hB av) (ht.kept hB av)
theorem dependent (s t:af)(v u:Value)(w:World)(hs:s.In w v)(ht:t.In w u):
  Calls Tryz.prog 38 #[v,u] w fun e w'=>e=.returned (.bool (bP s t))/\Below w.heap.size w w':=by
 have f1:∀W x,Below w.heap.size w W->bI s t=x->Calls Tryz.prog 69 #[v,u] W fun e w'=>e=.returned (.bool x)/\Below W.heap.size W w':=fun W x hB hx=>Uv hs ht hB hx
 have f2:∀W x,Below w.heap.size w W->bI t s=x->Calls Tryz.prog 69 #[u,v] W fun e w'=>e=.returned (.bool x)/\Below W.heap.size W w':=fun W x hB hx=>Uv ht hs hB hx
 obtain⟨va,vs,rfl,eZ,fB⟩:=hs;obtain⟨ua,us,rfl,fL,gm⟩:=ht;obtain⟨ka,ca,rfl,_⟩:=eZ.open;obtain⟨kb,cb,rfl,_⟩:=fB.open;obtain⟨kc,cc,rfl,_⟩:=fL.open;obtain⟨kd,cd,rfl,_⟩:=gm.open;simp only[af.val,af.row] at f1 f2⊢;have F1:=ab f1;have F2:=ab f2;clear f1 f2;by_cases h1:s.ev.node=t.ev.node
 ·have q1:(s.ev.node==t.ev.node)=true:=by simp[h1]
  have hr:=ab (show bP s t=true by simp[bP,h1]);clear h1;go_enter Tryz.func38,Tryz.ntmps38;go_wp2_with fail;go_ret;exact⟨cB hr.out.symm,bc⟩
 ·have q1:(s.ev.node==t.ev.node)=false:=by simp[h1]
  clear h1
  have py:bP s t=((s.ax && t.ax)||bI s t||bI t s):=by
   have:bP s t=((s.ev.node==t.ev.node)||(s.ax && t.ax)||bI s t||bI t s):=rfl;rw[this,q1];simp
  have rM:=ab py;clear py
  have key:∀so eO:Bool,Hid (s.ax=so)->Hid (t.ax=eO)->Calls Tryz.prog 38 #[.agg #[I s.ev.kind,I s.ev.node,I s.ev.arg,I s.ev.msg.node,I s.ev.msg.handler,I s.ev.msg.count,I s.ev.msg.index,I s.ev.msg.copy,.slice ka s.asks.length ca,.bool so,.slice kb s.sent.length cb],
    .agg #[I t.ev.kind,I t.ev.node,I t.ev.arg,I t.ev.msg.node,I t.ev.msg.handler,I t.ev.msg.count,I t.ev.msg.index,I t.ev.msg.copy,.slice kc t.asks.length cc,.bool eO,.slice kd t.sent.length cd]] w fun e w'=>e=.returned (.bool (bP s t))/\Below w.heap.size w w':=by
   intro so eO rN rO;have F1:=F1.out;have F2:=F2.out;rw[rN.out,rO.out] at F1 F2;have F1:=ab F1;have F2:=ab F2;clear eZ fB fL gm;cases so
   ·cases eO
    ·have hd:bP s t=(bI s t||bI t s):=by rw[rM.out,rN.out,rO.out];simp
     have Hd:=ab hd;clear hd;by_cases g1:bI s t=true
     ·have hr:=ab (show bP s t=true by rw[Hd.out,g1];simp);have G1:=ab g1;clear g1;go_enter Tryz.func38,Tryz.ntmps38
      go_wp2_with (go_at_call 69;refine(F1.out _ true bc G1.out).mono ?_;rintro e w1 ⟨rfl,ay⟩;have hcc:=iW ay)
      go_ret;exact⟨cB hr.out.symm,Below.then bc ay⟩
     ·by_cases g2:bI t s=true
      ·have hr:=ab (show bP s t=true by rw[Hd.out,g2];simp);have G1:=ab (show bI s t=false by simpa using g1);have G2:=ab g2;clear g1 g2;go_enter Tryz.func38,Tryz.ntmps38;go_wp2_with fail;refine(F1.out _ false bc G1.out).mono ?_;rintro e w1 ⟨rfl,ay⟩;have hcc:=iW ay;go_wp2_with fail;refine(F2.out _ true (Below.then bc ay) G2.out).mono ?_;rintro e w2 ⟨rfl,bO⟩;go_wp2_with fail;go_ret;exact⟨cB hr.out.symm,Below.then (Below.then bc ay) bO⟩
      ·have hr:=ab (show bP s t=false by rw[Hd.out];simp[g1,g2]);have G1:=ab (show bI s t=false by simpa using g1);have G2:=ab (show bI t s=false by simpa using g2);clear g1 g2;go_enter Tryz.func38,Tryz.ntmps38;go_wp2_with fail;refine(F1.out _ false bc G1.out).mono ?_;rintro e w1 ⟨rfl,ay⟩;have hcc:=iW ay;go_wp2_with fail;refine(F2.out _ false (Below.then bc ay) G2.out).mono ?_;rintro e w2 ⟨rfl,bO⟩;go_wp2_with fail;go_ret;exact⟨cB hr.out.symm,Below.then (Below.then bc ay) bO⟩
    ·have hd:bP s t=(bI s t||bI t s):=by rw[rM.out,rN.out,rO.out];simp
     have Hd:=ab hd;clear hd;by_cases g1:bI s t=true
     ·have hr:=ab (show bP s t=true by rw[Hd.out,g1];simp);have G1:=ab g1;clear g1;go_enter Tryz.func38,Tryz.ntmps38
      go_wp2_with (go_at_call 69;refine(F1.out _ true bc G1.out).mono ?_;rintro e w1 ⟨rfl,ay⟩;have hcc:=iW ay)
      go_ret;exact⟨cB hr.out.symm,Below.then bc ay⟩
     ·by_cases g2:bI t s=true
      ·have hr:=ab (show bP s t=true by rw[Hd.out,g2];simp);have G1:=ab (show bI s t=false by simpa using g1);have G2:=ab g2;clear g1 g2;go_enter Tryz.func38,Tryz.ntmps38;go_wp2_with fail;refine(F1.out _ false bc G1.out).mono ?_;rintro e w1 ⟨rfl,ay⟩;have hcc:=iW ay;go_wp2_with fail;refine(F2.out _ true (Below.then bc ay) G2.out).mono ?_;rintro e w2 ⟨rfl,bO⟩;go_wp2_with fail;go_ret;exact⟨cB hr.out.symm,Below.then (Below.then bc ay) bO⟩
      ·have hr:=ab (show bP s t=false by rw[Hd.out];simp[g1,g2]);have G1:=ab (show bI s t=false by simpa using g1);have G2:=ab (show bI t s=false by simpa using g2);clear g1 g2;go_enter Tryz.func38,Tryz.ntmps38;go_wp2_with fail;refine(F1.out _ false bc G1.out).mono ?_;rintro e w1 ⟨rfl,ay⟩;have hcc:=iW ay;go_wp2_with fail;refine(F2.out _ false (Below.then bc ay) G2.out).mono ?_;rintro e w2 ⟨rfl,bO⟩;go_wp2_with fail;go_ret;exact⟨cB hr.out.symm,Below.then (Below.then bc ay) bO⟩
   ·cases eO
    ·have hd:bP s t=(bI s t||bI t s):=by rw[rM.out,rN.out,rO.out];simp
     have Hd:=ab hd;clear hd;by_cases g1:bI s t=true
     ·have hr:=ab (show bP s t=true by rw[Hd.out,g1];simp);have G1:=ab g1;clear g1;go_enter Tryz.func38,Tryz.ntmps38
      go_wp2_with (go_at_call 69;refine(F1.out _ true bc G1.out).mono ?_;rintro e w1 ⟨rfl,ay⟩;have hcc:=iW ay)
      go_ret;exact⟨cB hr.out.symm,Below.then bc ay⟩
     ·by_cases g2:bI t s=true
      ·have hr:=ab (show bP s t=true by rw[Hd.out,g2];simp);have G1:=ab (show bI s t=false by simpa using g1);have G2:=ab g2;clear g1 g2;go_enter Tryz.func38,Tryz.ntmps38;go_wp2_with fail;refine(F1.out _ false bc G1.out).mono ?_;rintro e w1 ⟨rfl,ay⟩;have hcc:=iW ay;go_wp2_with fail;refine(F2.out _ true (Below.then bc ay) G2.out).mono ?_;rintro e w2 ⟨rfl,bO⟩;go_wp2_with fail;go_ret;exact⟨cB hr.out.symm,Below.then (Below.then bc ay) bO⟩
      ·have hr:=ab (show bP s t=false by rw[Hd.out];simp[g1,g2]);have G1:=ab (show bI s t=false by simpa using g1);have G2:=ab (show bI t s=false by simpa using g2);clear g1 g2;go_enter Tryz.func38,Tryz.ntmps38;go_wp2_with fail;refine(F1.out _ false bc G1.out).mono ?_;rintro e w1 ⟨rfl,ay⟩;have hcc:=iW ay;go_wp2_with fail;refine(F2.out _ false (Below.then bc ay) G2.out).mono ?_;rintro e w2 ⟨rfl,bO⟩;go_wp2_with fail;go_ret;exact⟨cB hr.out.symm,Below.then (Below.then bc ay) bO⟩
    ·have hr:=ab (show bP s t=true by rw[rM.out,rN.out,rO.out];simp);go_enter Tryz.func38,Tryz.ntmps38;go_wp2_with fail;go_ret;exact⟨cB hr.out.symm,bc⟩
  exact key _ _ (ab rfl) (ab rfl)
end
section
open Go.RowKit
theorem ajg (t:af)(v:Value)(w:World)(ht:t.In w v)(h:px t=false):
  Calls Tryz.prog 156 #[v] w fun e w'=>e=.returned (.pointer none)/\Below w.heap.size w w':=by
 obtain⟨ua,us,rfl,fL,gm⟩:=ht;simp only[px,Hv] at h;obtain⟨⟨h3,h5⟩,h6⟩:=h;simp only[af.val,af.row];go_enter Tryz.func156,Tryz.ntmps156;go_wp2;go_ret;exact⟨rfl,bc⟩
theorem ajh (t:af)(v:Value)(w:World)(ht:t.In w v)(h:px t=true):
  Calls Tryz.prog 156 #[v] w fun e w'=>∃g,e=.returned (.pointer (some ⟨g,0,none⟩))/\w.heap.size<=g/\
   w'.heap[g]? =some (.cells #[I t.ev.msg.node,I t.ev.msg.handler,I t.ev.msg.count,I t.ev.msg.index,I 0] 61 (0,0))/\Below w.heap.size w w':=by
 obtain⟨ua,us,rfl,fL,gm⟩:=ht
 have q:((t.ev.kind==3)=true)\/((t.ev.kind==3)=false/\(t.ev.kind==5)=true)\/((t.ev.kind==3)=false/\(t.ev.kind==5)=false/\(t.ev.kind==6)=true):=by
  unfold px at h;revert h;cases(t.ev.kind==3)<;>cases(t.ev.kind==5)<;>cases(t.ev.kind==6)<;>simp
 clear h;simp only[af.val,af.row]
 rcases q with q1|⟨q1,q2⟩|⟨q1,q2,q3⟩
 all_goals
  go_enter Tryz.func156,Tryz.ntmps156;go_wp2;go_ret;exact⟨_,rfl,ae,heap_alloc2_new _ _ _,bc⟩
theorem aji (m:bm)(q g:Nat)(b0 b1 b2 b3 b4:Int)(w:World)(hq:w.cell? ⟨q,0,none⟩=some (.pointer (some ⟨g,0,none⟩)))(hg:az w g #[I b0,I b1,I b2,I b3,I b4]):
  Calls Tryz.prog 158 #[.agg #[I m.node,I m.handler,I m.count,I m.index,I m.copy],.pointer (some ⟨q,0,none⟩)] w fun e w'=>e=.returned (.bool (cP m.ints [b0,b1,b2,b3,b4]))/\Below w.heap.size w w':=by
 have eY:q<w.heap.size:=by simpa using ic _ _ hq
 have hb:Below w.heap.size w (w.alloc (.cells #[I m.node,I m.handler,I m.count,I m.index,I m.copy] 61)):=bc;have xX:=(hb.cell (p:=⟨q,0,none⟩) eY).trans hq;have eP:=(hg.alloc (.cells #[I m.node,I m.handler,I m.count,I m.index,I m.copy] 61)).cell;have Ln:=(az.new w #[I m.node,I m.handler,I m.count,I m.index,I m.copy] 61).cell;have Hb:=ab hb;clear hb hg;go_enter Tryz.func158,Tryz.ntmps158;go_wp2;go_quiet (fail);go_wp2;go_ret;exact⟨rfl,below_drewN Hb.out nq⟩
theorem ajj (m:bm)(t:af):cP m.ints [t.ev.msg.node,t.ev.msg.handler,t.ev.msg.count,t.ev.msg.index,0]=iX m t:=by
 rw[zu];simp[cP,iX,bm.ints];constructor
 ·rintro⟨a,b,c,d,e⟩;exact⟨⟨⟨⟨e,a⟩,b⟩,c⟩,d⟩
 ·rintro⟨⟨⟨⟨e,a⟩,b⟩,c⟩,d⟩;exact⟨a,b,c,d,e⟩
theorem ajk (l:List bm)(t:af)(v:Value)(q g:Nat)(w:World)(hl:fm w v l)(hq:w.cell? ⟨q,0,none⟩=some (.pointer (some ⟨g,0,none⟩)))
  (hg:az w g #[I t.ev.msg.node,I t.ev.msg.handler,I t.ev.msg.count,I t.ev.msg.index,I 0]):
  Calls Tryz.prog 162 #[v,.func (.func 158) #[] #[.pointer (some ⟨q,0,none⟩)]] w fun e w'=>∃r:Int,e=.returned (I r)/\decide (0<=r)=(l.any fun m=>iX m t)/\Below w.heap.size w w':=by
 obtain⟨ka,ca,rfl,ft⟩:=hl.open
 have eY:q<w.heap.size:=by simpa using ic _ _ hq
 have vZ:=hg.lt
 have c:∀(m:bm) (W:World),Below w.heap.size w W->Calls Tryz.prog 158 #[.agg #[I m.node,I m.handler,I m.count,I m.index,I m.copy],.pointer (some ⟨q,0,none⟩)] W fun e w'=>e=.returned (.bool (iX m t))/\Below W.heap.size W w':=fun m W hB=>by
  have:=aji m q g _ _ _ _ _ W ((hB.cell (p:=⟨q,0,none⟩) eY).trans hq) (hg.kept hB vZ);rwa[ajj] at this
 have C:=ab c;clear c hq hg;go_enter Tryz.func162,Tryz.ntmps162;go_wp2_with fail;go_loopw [8] (fun i wr=>∃k:Nat,k<=l.length/\i=.int .i64 k/\Below w.heap.size w wr/\(∀j<k,∀m,l[j]? =some m->iX m t=false)) (fun i _=>l.length-(intOf i).toNat)
 case atStart=>exact⟨0,aa,rfl,Below.refl _ _,fun j hj=>absurd hj aa⟩
 case round=>
  obtain⟨k,hk,rfl,hB,hE⟩:=hrel;have HE:=ab hE;clear hE;by_cases hlt:k<l.length
  ·obtain⟨b,o,rfl,x0,x1,x2,x3,x4⟩:=(hl.kept hB av).at (i:=k) (x:=l[k]) (by simp[hlt]);have c1:=C.out l[k] wr hB;by_cases hx:iX l[k] t=true
   ·rw[hx] at c1;have C1:=ab c1;have Hx:=ab hx;clear c1 hx;go_wp2_with fail;refine C1.out.mono ?_;rintro e w1 ⟨rfl,ay⟩;have jo:=hB.trans (ay.mono hB.size);go_wp2_with fail;go_ret;refine⟨k,rfl,?_,jo⟩;have:(l.any fun m=>iX m t)=true:=qy.2 ⟨_,cT hlt,Hx.out⟩;rw[this];simp
   ·have mZ:iX l[k] t=false:=by simpa using hx
    rw[mZ] at c1;have C1:=ab c1;have Hx:=ab mZ;clear c1 hx mZ;go_wp2_with fail;refine C1.out.mono ?_;rintro e w1 ⟨rfl,ay⟩;have jo:=hB.trans (ay.mono hB.size);go_wp2_with fail;go_roundw
    case rel=>
     refine⟨k+1,aa,by go_num,jo,?_⟩;intro j hj m hm;by_cases dx:j=k
     ·subst dx;rw[List.getElem?_eq_getElem hlt] at hm;cases hm;exact Hx.out
     ·exact HE.out j aa m hm
    case measure=>simp[intOf];omega
  ·go_wp2_with fail;go_ret;refine⟨-1,rfl,?_,hB⟩
   have:(l.any fun m=>iX m t)=false:=by
    rw[zt];intro h0;obtain⟨m,hm,h1⟩:=qy.1 h0;obtain⟨j,hj⟩:=qu hm;rw[HE.out j (by have:=(bk.1 hj).1;omega) m hj] at h1;cases h1
   rw[this];simp
theorem ajl (l:List bm)(t:af)(v:Value)(q g:Nat)(w:World)(hl:fm w v l)(hq:w.cell? ⟨q,0,none⟩=some (.pointer (some ⟨g,0,none⟩)))
  (hg:az w g #[I t.ev.msg.node,I t.ev.msg.handler,I t.ev.msg.count,I t.ev.msg.index,I 0]):
  Calls Tryz.prog 157 #[v,.func (.func 158) #[] #[.pointer (some ⟨q,0,none⟩)]] w fun e w'=>e=.returned (.bool (l.any fun m=>iX m t))/\Below w.heap.size w w':=by
 have C:=ab (ajk l t v q g w hl hq hg);clear hl hq hg;go_enter Tryz.func157,Tryz.ntmps157;go_wp2_with fail;refine C.out.mono ?_;rintro e w1 ⟨r,rfl,hr,ay⟩;have Hr:=ab hr;clear hr;go_wp2_with fail;go_ret;exact⟨cB Hr.out,ay⟩
theorem ajm (s t:af)(v u:Value)(w:World)(hs:s.In w v)(ht:t.In w u):
  Calls Tryz.prog 143 #[v,u] w fun e w'=>e=.returned (.bool (bI s t))/\Below w.heap.size w w':=by
 have cm:=ht;obtain⟨va,vs,rfl,eZ,fB⟩:=hs;obtain⟨ka,ca,rfl,_⟩:=eZ.open;obtain⟨kb,cb,rfl,_⟩:=fB.open;obtain⟨ua,us,rfl,fL,gm⟩:=ht;obtain⟨kc,cc,rfl,_⟩:=fL.open;obtain⟨kd,cd,rfl,_⟩:=gm.open;by_cases h:px t=true
 ·have hr:=ab (show bI s t=(s.sent.any fun m=>iX m t) by rw[Ia,h];rfl)
  have c:∀W,Below w.heap.size w W->_:=fun W hB=>ajh t _ W (cm.kept hB av) h
  simp only[af.val,af.row] at c⊢;have C:=ab c;clear c cm h;go_enter Tryz.func143,Tryz.ntmps143;go_wp2_with fail;refine(C.out _ bc).mono ?_;rintro e w1 ⟨g,rfl,hg,Yd,ay⟩;have fu:=(bJ.start w _ _ _).call ay;have Vl:=(fu.alloc (.cells #[.pointer (some ⟨g,0,none⟩)] 247)).1.cell;have iI:az (w1.alloc (.cells #[.pointer (some ⟨g,0,none⟩)] 247)) w1.heap.size #[.pointer (some ⟨g,0,none⟩)]:=az.new _ _ _;have bH:az (w1.alloc (.cells #[.pointer (some ⟨g,0,none⟩)] 247)) g #[I t.ev.msg.node,I t.ev.msg.handler,I t.ev.msg.count,I t.ev.msg.index,I 0]:=(aiW Yd).alloc _;have Uw:=(fu.alloc (.cells #[.pointer (some ⟨g,0,none⟩)] 247)).2.2.1;go_wp2_with fail;refine(ajl s.sent t _ _ g _ (fB.kept Uw av) (iI.cell 0) bH).mono ?_;rintro e w2 ⟨rfl,bO⟩;go_wp2_with fail;go_ret;exact⟨cB hr.out.symm,Below.then Uw bO⟩
 ·have h':px t=false:=by simpa using h
  have hr:=ab (show bI s t=false by rw[Ia,h'];rfl)
  have c:∀W,Below w.heap.size w W->_:=fun W hB=>ajg t _ W (cm.kept hB av) h'
  simp only[af.val,af.row] at c⊢;have C:=ab c;clear c cm h h';go_enter Tryz.func143,Tryz.ntmps143;go_wp2_with fail;refine(C.out _ bc).mono ?_;rintro e w1 ⟨rfl,ay⟩;have fu:=(bJ.start w _ _ _).call ay;go_wp2_with fail;go_ret;exact⟨cB hr.out.symm,(fu.alloc _).2.2.1⟩
theorem Ux {s t:af}{v u:Value}{w W:World}{x:Bool}(hs:s.In w v)(ht:t.In w u)(hB:Below w.heap.size w W)(hx:bI s t=x):
  Calls Tryz.prog 143 #[v,u] W fun e w'=>e=.returned (.bool x)/\Below W.heap.size W w':=by
 rw[<-hx];exact ajm s t v u W (hs.kept hB av) (ht.kept hB av)
theorem ajn (s t:af)(v u:Value)(w:World)(hs:s.In w v)(ht:t.In w u):
  Calls Tryz.prog 119 #[v,u] w fun e w'=>e=.returned (.bool (bP s t))/\Below w.heap.size w w':=by
 have f1:∀W x,Below w.heap.size w W->bI s t=x->Calls Tryz.prog 143 #[v,u] W fun e w'=>e=.returned (.bool x)/\Below W.heap.size W w':=fun W x hB hx=>Ux hs ht hB hx
 have f2:∀W x,Below w.heap.size w W->bI t s=x->Calls Tryz.prog 143 #[u,v] W fun e w'=>e=.returned (.bool x)/\Below W.heap.size W w':=fun W x hB hx=>Ux ht hs hB hx
 obtain⟨va,vs,rfl,eZ,fB⟩:=hs;obtain⟨ua,us,rfl,fL,gm⟩:=ht;obtain⟨ka,ca,rfl,_⟩:=eZ.open;obtain⟨kb,cb,rfl,_⟩:=fB.open;obtain⟨kc,cc,rfl,_⟩:=fL.open;obtain⟨kd,cd,rfl,_⟩:=gm.open;simp only[af.val,af.row] at f1 f2⊢;have F1:=ab f1;have F2:=ab f2;clear f1 f2;by_cases h1:s.ev.node=t.ev.node
 ·have q1:(s.ev.node==t.ev.node)=true:=by simp[h1]
  have hr:=ab (show bP s t=true by simp[bP,h1]);clear h1;go_enter Tryz.func119,Tryz.ntmps119;go_wp2_with fail;go_ret;exact⟨cB hr.out.symm,bc⟩
 ·have q1:(s.ev.node==t.ev.node)=false:=by simp[h1]
  clear h1
  have py:bP s t=((s.ax && t.ax)||bI s t||bI t s):=by
   have:bP s t=((s.ev.node==t.ev.node)||(s.ax && t.ax)||bI s t||bI t s):=rfl;rw[this,q1];simp
  have rM:=ab py;clear py
  have key:∀so eO:Bool,Hid (s.ax=so)->Hid (t.ax=eO)->Calls Tryz.prog 119 #[.agg #[I s.ev.kind,I s.ev.node,I s.ev.arg,I s.ev.msg.node,I s.ev.msg.handler,I s.ev.msg.count,I s.ev.msg.index,I s.ev.msg.copy,.slice ka s.asks.length ca,.bool so,.slice kb s.sent.length cb],
    .agg #[I t.ev.kind,I t.ev.node,I t.ev.arg,I t.ev.msg.node,I t.ev.msg.handler,I t.ev.msg.count,I t.ev.msg.index,I t.ev.msg.copy,.slice kc t.asks.length cc,.bool eO,.slice kd t.sent.length cd]] w fun e w'=>e=.returned (.bool (bP s t))/\Below w.heap.size w w':=by
   intro so eO rN rO;have F1:=F1.out;have F2:=F2.out;rw[rN.out,rO.out] at F1 F2;have F1:=ab F1;have F2:=ab F2;clear eZ fB fL gm;cases so
   ·cases eO
    ·have hd:bP s t=(bI s t||bI t s):=by rw[rM.out,rN.out,rO.out];simp
     have Hd:=ab hd;clear hd;by_cases g1:bI s t=true
     ·have hr:=ab (show bP s t=true by rw[Hd.out,g1];simp);have G1:=ab g1;clear g1;go_enter Tryz.func119,Tryz.ntmps119
      go_wp2_with (go_at_call 143;refine(F1.out _ true bc G1.out).mono ?_;rintro e w1 ⟨rfl,ay⟩;have hcc:=iW ay)
      go_ret;exact⟨cB hr.out.symm,Below.then bc ay⟩
     ·by_cases g2:bI t s=true
      ·have hr:=ab (show bP s t=true by rw[Hd.out,g2];simp);have G1:=ab (show bI s t=false by simpa using g1);have G2:=ab g2;clear g1 g2;go_enter Tryz.func119,Tryz.ntmps119;go_wp2_with fail;refine(F1.out _ false bc G1.out).mono ?_;rintro e w1 ⟨rfl,ay⟩;have hcc:=iW ay;go_wp2_with fail;refine(F2.out _ true (Below.then bc ay) G2.out).mono ?_;rintro e w2 ⟨rfl,bO⟩;go_wp2_with fail;go_ret;exact⟨cB hr.out.symm,Below.then (Below.then bc ay) bO⟩
      ·have hr:=ab (show bP s t=false by rw[Hd.out];simp[g1,g2]);have G1:=ab (show bI s t=false by simpa using g1);have G2:=ab (show bI t s=false by simpa using g2);clear g1 g2;go_enter Tryz.func119,Tryz.ntmps119;go_wp2_with fail;refine(F1.out _ false bc G1.out).mono ?_;rintro e w1 ⟨rfl,ay⟩;have hcc:=iW ay;go_wp2_with fail;refine(F2.out _ false (Below.then bc ay) G2.out).mono ?_;rintro e w2 ⟨rfl,bO⟩;go_wp2_with fail;go_ret;exact⟨cB hr.out.symm,Below.then (Below.then bc ay) bO⟩
    ·have hd:bP s t=(bI s t||bI t s):=by rw[rM.out,rN.out,rO.out];simp
     have Hd:=ab hd;clear hd;by_cases g1:bI s t=true
     ·have hr:=ab (show bP s t=true by rw[Hd.out,g1];simp);have G1:=ab g1;clear g1;go_enter Tryz.func119,Tryz.ntmps119
      go_wp2_with (go_at_call 143;refine(F1.out _ true bc G1.out).mono ?_;rintro e w1 ⟨rfl,ay⟩;have hcc:=iW ay)
      go_ret;exact⟨cB hr.out.symm,Below.then bc ay⟩
     ·by_cases g2:bI t s=true
      ·have hr:=ab (show bP s t=true by rw[Hd.out,g2];simp);have G1:=ab (show bI s t=false by simpa using g1);have G2:=ab g2;clear g1 g2;go_enter Tryz.func119,Tryz.ntmps119;go_wp2_with fail;refine(F1.out _ false bc G1.out).mono ?_;rintro e w1 ⟨rfl,ay⟩;have hcc:=iW ay;go_wp2_with fail;refine(F2.out _ true (Below.then bc ay) G2.out).mono ?_;rintro e w2 ⟨rfl,bO⟩;go_wp2_with fail;go_ret;exact⟨cB hr.out.symm,Below.then (Below.then bc ay) bO⟩
      ·have hr:=ab (show bP s t=false by rw[Hd.out];simp[g1,g2]);have G1:=ab (show bI s t=false by simpa using g1);have G2:=ab (show bI t s=false by simpa using g2);clear g1 g2;go_enter Tryz.func119,Tryz.ntmps119;go_wp2_with fail;refine(F1.out _ false bc G1.out).mono ?_;rintro e w1 ⟨rfl,ay⟩;have hcc:=iW ay;go_wp2_with fail;refine(F2.out _ false (Below.then bc ay) G2.out).mono ?_;rintro e w2 ⟨rfl,bO⟩;go_wp2_with fail;go_ret;exact⟨cB hr.out.symm,Below.then (Below.then bc ay) bO⟩
   ·cases eO
    ·have hd:bP s t=(bI s t||bI t s):=by rw[rM.out,rN.out,rO.out];simp
     have Hd:=ab hd;clear hd;by_cases g1:bI s t=true
     ·have hr:=ab (show bP s t=true by rw[Hd.out,g1];simp);have G1:=ab g1;clear g1;go_enter Tryz.func119,Tryz.ntmps119
      go_wp2_with (go_at_call 143;refine(F1.out _ true bc G1.out).mono ?_;rintro e w1 ⟨rfl,ay⟩;have hcc:=iW ay)
      go_ret;exact⟨cB hr.out.symm,Below.then bc ay⟩
     ·by_cases g2:bI t s=true
      ·have hr:=ab (show bP s t=true by rw[Hd.out,g2];simp);have G1:=ab (show bI s t=false by simpa using g1);have G2:=ab g2;clear g1 g2;go_enter Tryz.func119,Tryz.ntmps119;go_wp2_with fail;refine(F1.out _ false bc G1.out).mono ?_;rintro e w1 ⟨rfl,ay⟩;have hcc:=iW ay;go_wp2_with fail;refine(F2.out _ true (Below.then bc ay) G2.out).mono ?_;rintro e w2 ⟨rfl,bO⟩;go_wp2_with fail;go_ret;exact⟨cB hr.out.symm,Below.then (Below.then bc ay) bO⟩
      ·have hr:=ab (show bP s t=false by rw[Hd.out];simp[g1,g2]);have G1:=ab (show bI s t=false by simpa using g1);have G2:=ab (show bI t s=false by simpa using g2);clear g1 g2;go_enter Tryz.func119,Tryz.ntmps119;go_wp2_with fail;refine(F1.out _ false bc G1.out).mono ?_;rintro e w1 ⟨rfl,ay⟩;have hcc:=iW ay;go_wp2_with fail;refine(F2.out _ false (Below.then bc ay) G2.out).mono ?_;rintro e w2 ⟨rfl,bO⟩;go_wp2_with fail;go_ret;exact⟨cB hr.out.symm,Below.then (Below.then bc ay) bO⟩
    ·have hr:=ab (show bP s t=true by rw[rM.out,rN.out,rO.out];simp);go_enter Tryz.func119,Tryz.ntmps119;go_wp2_with fail;go_ret;exact⟨cB hr.out.symm,bc⟩
  exact key _ _ (ab rfl) (ab rfl)
end
section
open Go.RowKit
def fM:Nat:=2^64
theorem ofInt64 (a:Nat)(ha:a<fM):(BitVec.ofInt 64 (a:Int)).toNat=a:=by
 rw[BitVec.ofInt_natCast,BitVec.toNat_ofNat];exact Nat.mod_eq_of_lt ha
theorem Lo (x:Nat)(hx:x<fM):IntKind.u64.wrap ((x:Nat):Int)=(x:Int):=by
 have h2:((x:Nat):Int)<=18446744073709551615:=by
  have:x<18446744073709551616:=hx;omega
 exact IntWalk.u64_in _ ⟨aa,h2⟩
theorem u64_or (a b:Nat)(ha:a<fM)(hb:b<fM):bits .or .u64 (a:Int) (b:Int)=((a|||b:Nat):Int):=by
 have hx:a|||b<fM:=Nat.or_lt_two_pow ha hb
 show IntKind.u64.wrap ((BitVec.ofInt 64 (a:Int)|||BitVec.ofInt 64 (b:Int)).toNat:Int)=_
 rw[BitVec.toNat_or,ofInt64 a ha,ofInt64 b hb];exact Lo _ hx
theorem u64_and (a b:Nat)(ha:a<fM)(hb:b<fM):bits .and .u64 (a:Int) (b:Int)=((a &&& b:Nat):Int):=by
 have hx:a &&& b<fM:=Nat.and_lt_two_pow _ hb
 show IntKind.u64.wrap ((BitVec.ofInt 64 (a:Int) &&& BitVec.ofInt 64 (b:Int)).toNat:Int)=_
 rw[BitVec.toNat_and,ofInt64 a ha,ofInt64 b hb];exact Lo _ hx
theorem Ib (i:Nat)(h:i<64):2^i<fM:=Nat.pow_lt_pow_right aa h
theorem ajo (m i:Nat)(hm:m<fM):(bits .and .u64 ((m:Int)/2^i) 1==1)=m.testBit i:=by
 have h1:((m:Int)/2^i)=((m/2^i:Nat):Int):=ae;have h2:m/2^i<fM:=Nat.lt_of_le_of_lt (Nat.div_le_self _ _) hm;rw[h1,show(1:Int)=((1:Nat):Int) from rfl,u64_and _ _ h2 ai,Nat.and_one_is_mod,Nat.testBit_eq_decide_div_mod_eq,zu];simp only[xE,dv];omega
theorem ajp (b o c m i:Nat)(w:World)(hc:w.cell? ⟨b,o,none⟩=some (.int .u64 (m:Int)))(hm:m<fM)(hi:i<64):
  Calls Tryz.prog 77 #[.slice (some ⟨b,o,none⟩) 1 c,I i] w fun e w'=>e=.returned (.bool (m.testBit i))/\w=w':=by
 have h0:i/64=0:=aa;have h0':(i:Int)/64=0:=aa;have rL:(i:Int)%64=i:=aa;go_enter Tryz.func77,Tryz.ntmps77;go_wp2;go_ret;exact⟨cB (ajo m i hm),rfl⟩
theorem ajq (b o c m i:Nat)(w:World)(hc:w.cell? ⟨b,o,none⟩=some (.int .u64 (m:Int)))(hf:w.frozen? ⟨b,o,none⟩=false)(hm:m<fM)(hi:i<64):
  Calls Tryz.prog 115 #[.slice (some ⟨b,o,none⟩) 1 c,I i] w fun e w'=>e=.returned (.tuple #[])/\∃n,w'=(w.setCell ⟨b,o,none⟩ (.int .u64 ((m|||2^i:Nat):Int))).drewN n:=by
 have h0:i/64=0:=aa;have h0':(i:Int)/64=0:=aa;have rL:(i:Int)%64=i:=aa
 have hp:IntKind.u64.wrap ((2:Int)^i)=((2^i:Nat):Int):=by
  rw[show((2:Int)^i)=((2^i:Nat):Int) by simp];exact Lo _ (Ib i hi)
 have Hr:=ab (show bits .or .u64 (m:Int) (IntKind.u64.wrap ((2:Int)^i))=((m|||2^i:Nat):Int) by rw[hp];exact u64_or m (2^i) hm (Ib i hi));clear hp;go_enter Tryz.func115,Tryz.ntmps115;go_wp2;go_region
 all_goals
  go_wp2;go_end0;refine⟨rfl,1,?_⟩;rw[Hr.out];rfl
theorem ajr (b o c b' o' c' m m':Nat)(w:World)(hc:w.cell? ⟨b,o,none⟩=some (.int .u64 (m:Int)))(hf:w.frozen? ⟨b,o,none⟩=false)(hm:m<fM)
  (hc':w.cell? ⟨b',o',none⟩=some (.int .u64 (m':Int))) (Lp:m'<fM):
  Calls Tryz.prog 116 #[.slice (some ⟨b,o,none⟩) 1 c,.slice (some ⟨b',o',none⟩) 1 c'] w fun e w'=>e=.returned (.tuple #[])/\w'=w.setCell ⟨b,o,none⟩ (.int .u64 ((m|||m':Nat):Int)):=by
 have Hr:=ab (u64_or m m' hm Lp);go_enter Tryz.func116,Tryz.ntmps116;go_wp2;refine wp_loop_rounds 2 ?_;rw[rounds_succ];go_wp2;rw[rounds_succ];go_wp2;go_end0;exact⟨rfl,by rw[Hr.out]⟩
def zB (w:World)(p:Value)(n:Nat)(f:Nat->Nat->Bool):Prop:=
 n<=64/\∃g gb c,p=.pointer (some ⟨g,0,none⟩)/\w.cell? ⟨g,0,none⟩=some (I n)/\w.cell? ⟨g,1,none⟩=some (.slice (some ⟨gb,0,none⟩) n c)/\
  ∀i<n,∃gi ci m,w.cell? ⟨gb,i,none⟩=some (.slice (some ⟨gi,0,none⟩) 1 ci)/\w.cell? ⟨gi,0,none⟩=some (.int .u64 ((m:Nat):Int))/\m<fM/\∀k<n,m.testBit k=f i k
theorem cw {w w':World}{B:Nat}(hb:Below B w w')(hB:w.heap.size<=B){a:Addr}{v:Value}(h:w.cell? a=some v):w'.cell? a=some v:=by
 rw[hb.cell (p:=a) (jm (ic _ _ h) hB)];exact h
theorem zB.kept {w w':World}{p:Value}{n:Nat}{f:Nat->Nat->Bool}(h:zB w p n f){B:Nat}(hb:Below B w w')(hB:w.heap.size<=B):zB w' p n f:=by
 obtain⟨hn,g,gb,c,hp,h0,h1,hr⟩:=h;refine⟨hn,g,gb,c,hp,cw hb hB h0,cw hb hB h1,fun i hi=> ?_⟩;obtain⟨gi,ci,m,a,b,d⟩:=hr i hi;exact⟨gi,ci,m,cw hb hB a,cw hb hB b,d⟩
theorem Uy (g n i:Nat)(w:World)(h0:w.cell? ⟨g,0,none⟩=some (I n))(hi:i<n):
  Calls Tryz.prog 76 #[.pointer (some ⟨g,0,none⟩),I i] w fun e w'=>e=.returned (.bool true)/\w=w':=by
 go_enter Tryz.func76,Tryz.ntmps76;go_wp2;go_ret;exact⟨rfl,rfl⟩
theorem Lq (p:Value)(n:Nat)(f:Nat->Nat->Bool)(i k:Nat)(w:World)(h:zB w p n f)(hi:i<n)(hk:k<n):
  Calls Tryz.prog 41 #[p,I i,I k] w fun e w'=>e=.returned (.bool (f i k))/\w=w':=by
 obtain⟨hn,g,gb,c,rfl,h0,h1,hr⟩:=h;obtain⟨gi,ci,m,hc,hm,ft,hf⟩:=hr i hi;have Hf:=ab (hf k hk);have awm:i<64:=aa;have ajs:k<64:=aa;clear hr hf;go_enter Tryz.func41,Tryz.ntmps41;go_wp2_with fail;refine(Uy g n i _ h0 hi).mono ?_;rintro e w1 ⟨rfl,rfl⟩;go_wp2_with fail;refine(Uy g n k _ h0 hk).mono ?_;rintro e w1 ⟨rfl,rfl⟩;go_wp2_with fail;refine(ajp gi 0 ci m k _ hm ft ajs).mono ?_;rintro e w1 ⟨rfl,rfl⟩;go_wp2_with fail;go_ret;exact⟨cB Hf.out,rfl⟩
end
end Go.Proofs.YtlnghiefahcnpaaGreat
