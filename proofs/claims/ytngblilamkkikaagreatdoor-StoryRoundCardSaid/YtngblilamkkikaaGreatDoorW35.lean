import Derived.Test.YtngblilamkkikaaGreatDoorW34
import Derived.Maps.AppendAt
set_option maxHeartbeats 40000000
set_option maxRecDepth 100000
set_option linter.all false
namespace Go.Proofs.YtngblilamkkikaaGreatDoor
section
open Go.RowKit Go.Shelf
attribute [local go_sem] Oper.semAt_some
theorem axI (n:Nat)(hn:1<=n)(run:List az)(tb:Nat)(v:Value)(w0:World)(fL:w0.cell? ⟨tb,0,none⟩=some v)(hrun:gH w0 v run)(hlen:run.length<=1000000):
  SeqStopsK Fence.wide n Tryz.prog 109 #[.pointer (some ⟨tb,0,none⟩)] YX (Below w0.heap.size) (fun xs=>xs=mP run) (fun pre=>pre<+:mP run) (mP run).length w0:=by
 intro l J Jx W hW hJ hJx hY h0;obtain⟨ka,ca,rfl,jf⟩:=hrun.open
 have fB:tb<w0.heap.size:=by simpa using eh _ _ fL
 have aDP:Tryz.prog.follows .mixedOrders=true:=ah;have HY:=ae hY;clear hY;refine callsIn_of_wp Tryz.func109 rfl trivial ?_ rfl;simp only[Tryz.ntmps109,yf,List.length_cons,List.length_nil,Nat.reduceAdd,Nat.reduceSub,Iv,Iw,Iz,Iy,List.nil_append,List.cons_append];have lH:=(hW.cell (p:=⟨tb,0,none⟩) fB).trans fL
 gi_wp2
 gi_loopw [7] (fun p wr=>∃i:Nat,i<=run.length/\p=.int .i64 i/\ay w0 wr/\J (vO run i) wr) (fun p _=>run.length-(intOf p).toNat)
 case atStart=>exact⟨0,ab,rfl,hW,h0⟩
 case round=>
  obtain⟨i,hi,rfl,hB,ZV⟩:=hrel;have nr:=(hB.cell (p:=⟨tb,0,none⟩) fB).trans fL;by_cases hlt:i<run.length
  ·gi_wp2
   gi_loopw [4] (fun p wr=>∃k:Nat,i+1<=k/\k<=run.length/\p=.int .i64 k/\ay w0 wr/\J (vO run i++nR run i k) wr) (fun p _=>run.length-(intOf p).toNat)
   case atStart=>exact⟨i+1,ab,ab,by go_num,hB,by rw[awE,uO];exact ZV⟩
   case round=>
    clear hB ZV nr;obtain⟨k,Al,hk,rfl,hB,Kg⟩:=hrel;have nr:=(hB.cell (p:=⟨tb,0,none⟩) fB).trans fL;by_cases fb:k<run.length
    ·obtain⟨b,o,va,vs,rfl,gG,jI,x0,x1,x2,x3,x4,x5,x6,x7,x8,x9,x10⟩:=(hrun.kept hB aA).at (i:=i) (s:=run[i]) (by simp[hlt]);obtain⟨b',o',ua,us,dH,Bu,SC,y0,y1,y2,y3,y4,y5,y6,y7,y8,y9,y10⟩:=(hrun.kept hB aA).at (i:=k) (s:=run[k]) (by simp[fb]);simp at dH;obtain⟨rfl,rfl⟩:=dH
     have c:=fun W (SD:ay wr W)=>awA run[i] run[k] (run[i].val va vs) (run[k].val ua us) W ⟨va,vs,rfl,gG.kept SD aA,jI.kept SD aA⟩ ⟨ua,us,rfl,Bu.kept SD aA,SC.kept SD aA⟩
     have Dv:=awF run i k Al;rw[Sk hlt fb] at Dv;have Hs:=ae Dv;clear Dv;by_cases hd:gJ run[i] run[k]=true
     ·rw[hd] at c;simp only[az.val,az.row] at c;have C:=ae c;rw[hd,aj rfl] at Hs
      have Aw:vO run i++nR run i k++[(i,k)]<+:mP run:=by
       rw[List.append_assoc,<-Hs.out];exact awI run i (k+1) hlt ab ab
      have Zh:=ae (show(vO run i++nR run i k).length<(mP run).length by
       have:=Aw.length_le;simp at this⊢
       omega)
      have Hpp:=ae Aw;clear c hd Aw
      gi_wp2
      have VD:tb<wr.heap.size:=iB fB hB.size
      have axJ:b<wr.heap.size:=by simpa using eh _ _ x0
      refine UX 14 [(0,true),(1,true),(2,true),(3,true),(4,true),(5,true),(6,true),(7,true),(8,false),(9,true),(10,true),(11,true),(12,true),(13,true)] (fun w'=>∀b o,b<wr.heap.size->w'.cell? ⟨b,o,none⟩=wr.cell? ⟨b,o,none⟩) ah rfl rfl ah ah (fun _ _ _ _ h=>h) (fun _ _ _=>rfl) ?_
      iterate 8 refine IH ?_
      refine UY (fun K hK=> ?_);go_simp;refine⟨trivial,?_⟩;refine(ER.2 (C.out _ dz)).mono ?_;rintro e w1 ⟨rfl,aM⟩;have iw:ay wr w1:=Below.then (w:=wr) dz aM;have ZW:=hJ _ wr w1 none Kg ⟨iw.os,iw.tape,iw.output,iw.size,fun q hq _=>iw.block q hq⟩ (fun _ h=>by cases h);obtain⟨fn,tmps,assign,body,hy,hR⟩:=HY.out _ (i,k) w1 ZW Zh.out;dsimp only[YX] at hy;refine hK.out _ _ (fun b o hb=>iw.cell (p:=⟨b,o,none⟩) hb) ?_;clear hK K;refine bV ?_
      iterate 5 refine IH ?_
      refine PI ?_
      gi_wp2
      refine hR.mono ?_;rintro e w2 (⟨rfl,ZX,nJ⟩|⟨rfl,axK⟩)
      ·gi_wp2
       go_roundw
       case rel=>exact⟨k+1,ab,ab,by go_num,hB.trans ((iw.mono hB.size).trans nJ),by rw[Hs.out,<-List.append_assoc];exact ZX⟩
       case measure=>simp[intOf];omega
      ·gi_wp2
       refine wv (results_none rfl _ _ _) rfl ?_;exact⟨⟨_,rfl⟩,.inr ⟨_,Hpp.out,axK⟩⟩
     ·have Fq:gJ run[i] run[k]=false:=by simpa using hd
      rw[Fq] at c;simp only[az.val,az.row] at c;have C:=ae c;rw[Fq,af ai] at Hs;clear c hd Fq
      gi_wp2
      have VD:tb<wr.heap.size:=iB fB hB.size
      have axJ:b<wr.heap.size:=by simpa using eh _ _ x0
      refine UX 14 [(0,true),(1,true),(2,true),(3,true),(4,true),(5,true),(6,true),(7,true),(8,false),(9,true),(10,true),(11,true),(12,true),(13,true)] (fun w'=>∀b o,b<wr.heap.size->w'.cell? ⟨b,o,none⟩=wr.cell? ⟨b,o,none⟩) ah rfl rfl ah ah (fun _ _ _ _ h=>h) (fun _ _ _=>rfl) ?_
      iterate 8 refine IH ?_
      refine UY (fun K hK=> ?_);go_simp;refine⟨trivial,?_⟩;refine(ER.2 (C.out _ dz)).mono ?_;rintro e w1 ⟨rfl,aM⟩;have iw:ay wr w1:=Below.then (w:=wr) dz aM;have ZW:=hJ _ wr w1 none Kg ⟨iw.os,iw.tape,iw.output,iw.size,fun q hq _=>iw.block q hq⟩ (fun _ h=>by cases h);refine hK.out _ _ (fun b o hb=>iw.cell (p:=⟨b,o,none⟩) hb) ?_;clear hK K;refine bV ?_
      iterate 1 refine IH ?_
      iterate 4 refine anc ?_
      refine PI ?_
      gi_wp2
      all_goals (try refine⟨fun _ _=>trivial,?_⟩)
      all_goals gi_wp2
      go_roundw
      case rel=>exact⟨k+1,ab,ab,by go_num,hB.trans (iw.mono hB.size),by rw[Hs.out,uO];exact ZW⟩
      case measure=>simp[intOf];omega
    ·have fA:k=run.length:=ab
     gi_wp2
     go_roundw
     case rel=>exact⟨i+1,ab,by go_num,hB,by rw[YW,<-fA];exact Kg⟩
     case measure=>simp[intOf];omega
  ·have Ax:i=run.length:=ab
   gi_wp2
   go_end0;subst Ax;exact⟨⟨_,rfl⟩,.inl ⟨_,rfl,ZV⟩⟩
end
section
open Go.RowKit Go.Shelf
attribute [local go_sem] Oper.semAt_some
theorem axL {F:Fence}{nn:Nat}{P:Program}{w:World}{ops:Array Oper}{rest:List Oper}{o:Oper}{a:Act}{Q:Exit->Act->World->Prop}(db:o.guard=none)(s x:Operand)(t:TypeId)
  (ho:o.op=.call { callee:=.builtin .append,args:=#[s,x],argTypes:=#[t,t] })
  (e:TypeId) (z:Value) (k bytes:Nat) (ht:P.underlying t=some (.slice e)) (lj:(P.info? e).map (fun i=>(i.zero,i.size,i.bytes))=some (some z,k,bytes)) (nh:z.cells.size=k) (hk:0<k) (jB:bytes<=1000)
  (B:Nat) (v:Value) (n:Nat) (xs:List Value) (hs:a.eval s=v) (aV:w.ownsRow B e k v n xs)
  (b m c:Nat) (cs:Array Value) (t':TypeId) (hx:a.eval x=.slice (some ⟨b,0,none⟩) m c) (hblk:w.heap[b]? =some (.cells cs t' (0,0))) (hl:cs.size=m*k) (h1:cs.toList.all Value.oneCell'=true)
  (jW:n+m<=100000000) (kF:B<=w.heap.size)
  (h:∀u w',w'.ownsRow B e k u (n+m) (xs++cs.toList)->w.grownBy w' v.ownBlock->wpListIn F nn P ops Q rest (a.put o.dst u) w'):wpListIn F nn P ops Q (o::rest) a w:=by
 obtain⟨i0,hi,dY,dE,eB⟩:=uQ lj
 refine wpListIn_append_own w db s x t ho B e i0 z k bytes ht hi dY dE eB nh hk v n xs hs aV ⟨b,0,none⟩ m c cs.toList hx (by simpa using hl) (fun j u hu=> ?_) (fg.1 h1) (by unfold maxLen;omega)
  (bh (oY jW jB) ab) kF ?_
 ·have kC:(⟨b,0,none⟩:Addr).add j=⟨b,0+j,none⟩:=by unfold Addr.add;split<;>simp_all
  rw[kC,eM,yj w b j cs t' _ hblk];simpa using hu
 ·intro u w' h2 h3 _;exact h u w' h2 h3
def ND (W:World)(B:Nat)(x:Nat×Nat):Prop:=W.heap[B]? =some (.cells #[I x.1,I x.2] 76 (0,0))
theorem ND.lt {W:World}{B:Nat}{x:Nat×Nat}(h:ND W B x):B<W.heap.size:=(nB.1 h).1
theorem axM (B:Nat)(x:Nat×Nat):Own (fun(_:Unit) W=>ND W B x):=fun _ X Y row hs hg aW=>
 (hg.block B (ND.lt hs) (fun e=>by
  obtain⟨o,ho,hc⟩:=aW B e.symm;rw[show X.heap[B]? =_ from hs] at ho;cases ho
  cases hc)).trans hs
theorem appendSeq (run:List az)(tb:Nat)(v:Value)(w:World)(fL:w.cell? ⟨tb,0,none⟩=some v)(hrun:gH w v run)(hlen:run.length<=1000000)(ig:(mP run).length<=1000000):
  CallsIn Fence.wide 5 Tryz.prog 108 #[.slice none 0 0,.func (.func 109) #[] #[.pointer (some ⟨tb,0,none⟩)]] w fun e w'=>∃u,e=.returned u/\w'.ownsRow w.heap.size 76 2 u (mP run).length ((mP run).flatMap pc)/\ay w w':=by
 have NG:=axI (5-1) ab run tb v w fL hrun hlen;have ZY:=ae NG;clear NG;refine callsIn_of_wp_marks Tryz.func108 rfl trivial ?_ rfl;simp only[Tryz.ntmps108,yf,List.length_cons,List.length_nil,Nat.reduceAdd,Nat.reduceSub,Iv,Iw,Iz,Iy,List.nil_append,List.cons_append]
 gi_wp2
 have bS:=Boxed.new w 72 (.slice none 0 0);have kV:ay w (w.alloc (.cells #[.slice none 0 0] 72)):=(Below.refl _ w).alloc aA _;have hsz:(w.alloc (.cells #[.slice none 0 0] 72)).heap.size=w.heap.size+1:=ai
 refine wpIn_rangeFunc_ownH rfl ab (gf:=109) (lb:=#[.pointer (some ⟨tb,0,none⟩)]) rfl trivial (enters_of Tryz.func109 ah rfl)
  ZY.out belowK_t (belowK_b ai) kV (fun _=>rfl)
  (fun(pre:List (Nat×Nat)) W=>(∃u,Boxed W w.heap.size 72 u/\W.ownsRow w.heap.size 76 2 u pre.length (pre.flatMap pc)/\True)/\ay w W)
  (fun _ _ _=>False)
  (OwnFrom.and (Own.from (holdsRow_own _ _ _ _ _ (fun pre:List (Nat×Nat)=>pre.length) (fun pre=>pre.flatMap pc) (fun _ _=>True)) _) (ownFrom_below aA ai))
  (fun _ _ _ _ _ hs _ _=>hs)
  ⟨⟨_,bS,jU _ _ _ _,trivial⟩,kV⟩
  (fun x a' W=>∃Bx,w.heap.size<Bx/\ND W Bx x/\a'={ tmps:=#[.slice none 0 0,.func (.func 109) #[] #[.pointer (some ⟨tb,0,none⟩)],.pointer (some ⟨w.heap.size,0,none⟩),undef,.slice none 0 0,.pointer (some ⟨Bx,0,none⟩),.func (.func 109) #[] #[.pointer (some ⟨tb,0,none⟩)],.agg #[I x.1,I x.2],undef,undef,undef,undef,undef],defers:=[] })
  (fun x a' _ X Y row hs hg hr=>by obtain⟨Bx,h1,h2,h3⟩:=hs;exact⟨Bx,h1,axM Bx x () X Y row h2 hg (fun r e=>(hr r e).2),h3⟩)
  ?assign ?body ?done ?stop
 case assign=>
  rintro l pre x W K ⟨⟨u,b1,o1,_⟩,aM⟩ hK;dsimp only[YX]
  gi_wp2
  exact hK _ _ ((KeepsOthers.alloc _ _).from _) ((Below.refl _ W).alloc aM.size _) ⟨⟨u,b1.alloc _,o1.alloc _,trivial⟩,aM.alloc aM.size _⟩ ⟨W.heap.size,b1.lt,World.alloc_heap_new W _,rfl⟩
 case body=>
  rintro l pre x a' W hl ⟨r,hr⟩ ⟨⟨u,b1,o1,_⟩,aM⟩ ⟨Bx,hBx,bX,rfl⟩ hlt;have c1:=b1.cell;have SE:pre.length<=1000000:=ab
  have cX:=fun j=>yj W Bx j _ _ _ bX
  have ZZ:=aM.size;clear hlt
  gi_wp2_with (gi_at_builtin;refine axL rfl _ _ 72 rfl 76 _ 2 16 Tryz.underlying72 ahN rfl ab ab w.heap.size _ _ _ rfl (o1.alloc _) W.heap.size 1 1 _ 76 rfl (ej _ _) rfl rfl ab bC ?_;intro u2 w1 Bv xF;obtain⟨g',cap',rfl⟩:=ownsRow_succ Bv;obtain⟨iO,qW,fC,nJ,cK⟩:=b1.appended aq o1 ZZ aA Bv xF;have lu:=iO.cell;have hf1:=iO.frozen)
  have hh:(w1.setCell ⟨w.heap.size,0,none⟩ (.slice (some ⟨g',0,none⟩) (pre.length+1) cap')).ownsRow w.heap.size 76 2 (.slice (some ⟨g',0,none⟩) (pre.length+1) cap') (pre++[x]).length ((pre++[x]).flatMap pc):=by
   rw[List.length_append,nC];simpa [pc] using fC
  exact⟨nJ.from _,cK,⟨_,qW,by first|exact hh|exact⟨hh,trivial⟩⟩,aM.trans cK⟩
 case done=>
  rintro D ys W hD rfl ⟨⟨u,b1,o1,_⟩,aM⟩ hK;have c1:=b1.cell
  gi_wp2
  refine⟨ai,.inl ⟨_,_,rfl,run_takeDeferred hK,?_⟩⟩;exact⟨_,results_tmp rfl _ _ _,_,rfl,ownsRow_putObj o1 _ hK rfl,aM.trans (belowK_b (w:=w) aA W D _ _ (by simp at hD;omega) hK rfl rfl)⟩
 case stop=>
  rintro D c pre W hD _ hf _;exact hf.elim
end
section
open Go.RowKit
theorem air (run:List az)(a b:Nat):(a,b)∈mP run↔a<b/\b<run.length/\rQ run a b=true:=by
 unfold mP vO;rw[yh];constructor
 ·rintro⟨i,hi,h⟩;unfold nR at h;obtain⟨j,hj,e⟩:=dh.1 h;obtain⟨h1,h2⟩:=mq.1 hj;have h3:=fK.1 hi;rw[List.mem_range'_1] at h1;cases e;exact⟨ab,ab,h2⟩
 ·rintro⟨h1,h2,h3⟩;refine⟨a,fK.2 ab,?_⟩;unfold nR;refine dh.2 ⟨b,mq.2 ⟨?_,h3⟩,rfl⟩;rw[List.mem_range'_1];omega
theorem ais (run:List az)(a b:Nat):b∈aR (mP run) a↔a<b/\b<run.length/\rQ run a b=true:=by
 rw[<-air];unfold aR;constructor
 ·intro h;obtain⟨p,hp,e⟩:=dh.1 h;obtain⟨h1,h2⟩:=mq.1 hp;obtain⟨x,y⟩:=p;simp at h2 e;subst h2 e;exact h1
 ·intro h;exact dh.2 ⟨(a,b),mq.2 ⟨h,ai⟩,rfl⟩
theorem axN (run:List az)(a k:Nat):ed run a k=(aR (mP run) a).any fun b=>b==k||ed run b k:=by
 rw[Sl,qy,Ae,Ae];constructor
 ·rintro⟨j,hj,h⟩;simp only[bO,cP] at h;exact⟨j,(ais run a j).2 ⟨h.1.1,fK.1 hj,h.1.2⟩,h.2⟩
 ·rintro⟨j,hj,h⟩;obtain⟨h1,h2,h3⟩:=(ais run a j).1 hj;exact⟨j,fK.2 h2,by simp only[bO,cP];exact⟨⟨h1,h3⟩,h⟩⟩
theorem aaa {α β:Type}(f:α->List β)(c:Nat)(l:List α)(h:∀a∈l,(f a).length<=c):(l.flatMap f).length<=l.length*c:=by
 induction l with
 |nil=>simp
 |cons a l ih=>
  have h1:=h a ai;have h2:=ih (fun x hx=>h x (by simp[hx]));simp only[qu,List.length_append,List.length_cons,wy];omega
theorem ait (run:List az)(h:run.length<=64):(mP run).length<=10000:=by
 unfold mP vO
 have:=aaa (fun j=>nR run j run.length) 64 (List.range run.length) (fun j _=>by
  unfold nR;rw[dy]
  exact bh (nb _ _) (by rw[List.length_range'];omega))
 rw[Aa] at this;have h2:run.length*64<=64*64:=sW _ h;omega
theorem axO (a:Option Addr)(n c:Nat)(w:World):Calls Tryz.prog 61 #[.slice a n c] w fun e w'=>e=.returned (.func (.func 109) #[] #[.pointer (some ⟨w.heap.size,0,none⟩)])/\w'=w.alloc (.cells #[.slice a n c] 23):=by
 go_enter Tryz.func61,Tryz.ntmps61;go_wp2_with fail;go_ret;exact⟨rfl,rfl⟩
theorem collect (run:List az)(tb:Nat)(v:Value)(w:World)(fL:w.cell? ⟨tb,0,none⟩=some v)(hrun:gH w v run)(hlen:run.length<=64):
  Calls Tryz.prog 60 #[.func (.func 109) #[] #[.pointer (some ⟨tb,0,none⟩)]] w fun e w'=>∃u,e=.returned u/\w'.ownsRow w.heap.size 76 2 u (mP run).length ((mP run).flatMap pc)/\ay w w':=by
 have hp:=ait run hlen;have H:=ae (ER.1 (appendSeq run tb v w fL hrun ab ab));clear hp;go_enter Tryz.func60,Tryz.ntmps60;go_wp2_with fail;refine H.out.mono ?_;rintro e w1 ⟨u,rfl,h1,h2⟩;go_wp2_with fail;go_ret;exact⟨u,rfl,h1,h2⟩
theorem aab (run:List az)(v:Value)(w:World)(hrun:gH w v run)(hlen:run.length<=64):
  Calls Tryz.prog 19 #[v] w fun e w'=>∃p,e=.returned p/\zx w' p run.length (ed run)/\ay w w':=by
 obtain⟨ka,ca,rfl,_⟩:=hrun.open;have aM:ay w (w.alloc (.cells #[.slice ka run.length ca] 23)):=(Below.refl _ _).alloc aA _;have fL:(w.alloc (.cells #[.slice ka run.length ca] 23)).cell? ⟨w.heap.size,0,none⟩=some (.slice ka run.length ca):=(ax.new w _ 23).cell 0;have H:=ae (collect run w.heap.size _ _ fL (hrun.kept aM aA) hlen);have hp:=ait run hlen;have Hp:=ae hp;clear hp fL hrun;go_enter Tryz.func19,Tryz.ntmps19;go_wp2_with fail;refine(axO _ _ _ _).mono ?_;rintro e w1 ⟨rfl,rfl⟩;go_wp2_with fail;refine H.out.mono ?_;rintro e w2 ⟨u,rfl,h1,h2⟩;have cH:=Flat.dU h1;go_wp2_with fail
 refine(axw run.length (mP run) u w2 cH hlen (fun p hp=>by
  obtain⟨a,b⟩:=p;have:=(air run a b).1 hp
  exact⟨this.1,this.2.1⟩) Hp.out (ed run) (fun a _ k _=>axN run a k)).mono ?_
 rintro e w3 ⟨p,rfl,h3,h4⟩;go_wp2_with fail;go_ret;exact⟨p,rfl,h3,(aM.trans (h2.mono ai)).trans (h4.mono (bh aM.size (by have:=h2.size;simpa using this)))⟩
end
section
open Go.RowKit
def Bw (f:Nat->Nat->Bool)(m a c:Nat):Bool:=(List.range m).any fun b=>f a b && f b c
theorem aiu (f:Nat->Nat->Bool)(m a c:Nat):Bw f (m+1) a c=(Bw f m a c||(f a m && f m c)):=by
 unfold Bw;rw[ng,List.any_append];simp
def vR (f:Nat->Nat->Bool)(n a c:Nat):Bool:=f a c && !Bw f n a c
def kW (f:Nat->Nat->Bool)(n a m:Nat):List (Nat×Nat):=((List.range m).filter fun c=>vR f n a c).map fun c=>(a,c)
theorem aiv (f:Nat->Nat->Bool)(n a m:Nat):kW f n a (m+1)=kW f n a m++if vR f n a m then [(a,m)] else []:=by
 unfold kW;rw[ng,qq,cU];congr 1;cases h:vR f n a m<;>simp[h]
theorem aiw (f:Nat->Nat->Bool)(n a m:Nat):(kW f n a m).length<=m:=by
 unfold kW;rw[dy];exact bh (nb _ _) ai
def eU (f:Nat->Nat->Bool)(n m:Nat):List (Nat×Nat):=(List.range m).flatMap fun a=>kW f n a n
theorem aix (f:Nat->Nat->Bool)(n m:Nat):eU f n (m+1)=eU f n m++kW f n m n:=by
 unfold eU;rw[ng,nC];simp
theorem aiy (f:Nat->Nat->Bool)(n m:Nat):(eU f n m).length<=m*n:=by
 have:=aaa (fun a=>kW f n a n) n (List.range m) (fun a _=>aiw f n a n);rw[Aa] at this;exact this
theorem axP (l:List (Nat×Nat))(p:Nat×Nat):(l++[p]).flatMap pc=l.flatMap pc++[I p.1,I p.2]:=by
 rw[nC];rfl
theorem axQ (p:Value)(n:Nat)(f:Nat->Nat->Bool)(w:World)(h:zx w p n f):
  Calls Tryz.prog 20 #[p] w fun e w'=>∃v,e=.returned v/\w'.ownsRow w.heap.size 76 2 v (eU f n n).length ((eU f n n).flatMap pc)/\ay w w':=by
 have HO:=ae h;obtain⟨hn,g,gb,c,rfl,h0,h1,hr⟩:=h;have Hr:=ae hr;clear hr
 have DM:∀W:World,(Instr.makeSlice 148 (.int .i64 1) (.int .i64 1)).run Tryz.prog W=.ok (.slice (some ⟨W.heap.size,0,none⟩) 1 1) (W.alloc (.cells #[.int .u64 0] 196)):=fun W=>DI (P:=Tryz.prog) 148 196 (.int .u64 0) 8 1 Tryz.underlying148 aic rfl ab ab W
 go_enter Tryz.func20,Tryz.ntmps20;go_wp2_with fail;go_loopw [3,12] (fun vo vi wr=>∃(a:Nat) (av:Option Addr) (ac:Nat),a<=n/\vo=.slice av (eU f n a).length ac/\vi=I a/\Hid (wr.ownsRow w.heap.size 76 2 (.slice av (eU f n a).length ac) (eU f n a).length ((eU f n a).flatMap pc))/\Hid (ay w wr)) (fun _ i _=>n-(intOf i).toNat)
 case atStart=>exact⟨0,none,0,ab,rfl,rfl,ae (jU _ _ _ _),ae (Below.refl _ _)⟩
 case round=>
  obtain⟨a,av,ac,ha,rfl,rfl,iy,HB⟩:=hrel;have nT:=HB.out.size;have d0:=eK HB.out aA h0
  have rA:g<wr.heap.size:=by simpa using eh _ _ d0
  by_cases hlt:a<n
  ·have hq:((n:Int)+63)/64=1:=ab
   have zj:((n:Int)+63).tdiv 64=1:=by rw[Int.tdiv_eq_ediv_of_nonneg ab];omega
   have aDQ:(n:Int)+63<=127:=ab
   obtain⟨w1,rfl⟩:∃w1:World,w1=wr:=⟨_,rfl⟩
   go_wp2_with fail;go_loopw [26] (fun vj wc=>∃(j m:Nat),j<=n/\vj=I j/\ax wc w1.heap.size #[.int .u64 ((m:Nat):Int)]/\m<iq/\Hid (∀k<n,m.testBit k=Bw f j a k)/\Hid (ay w1 wc)) (fun j _=>n-(intOf j).toNat)
   case atStart=>exact⟨0,0,ab,rfl,ax.new _ _ _,aq,ae (fun k _=>by simp[Bw]),ae ((Below.refl _ _).alloc aA _)⟩
   case round=>
    obtain⟨j,m,hj,rfl,hG,hm,Hm,rD⟩:=hrel;have Ku:=ae (HB.out.trans (rD.out.mono nT));have c0:=eK Ku.out aA h0;have c1:=eK Ku.out aA h1;have dE:=rD.out.size;by_cases dV:j<n
    ·have ny:=ae (Kb _ n f a j wr (HO.out.kept Ku.out aA) hlt dV);obtain⟨gi,ci,m',k0,k1,Jv,hf'⟩:=Hr.out j dV;have q0:=eK Ku.out aA k0;have q1:=eK Ku.out aA k1
     cases cH:f a j with
     |false=>
      rw[cH] at ny;have Hm2:=ae (show∀k<n,m.testBit k=Bw f (j+1) a k from fun k hk=>by rw[aiu,cH,Hm.out k hk];simp);clear cH k0 k1 hf'
      go_wp2_with (go_at_call 29;refine ny.out.mono ?_;rintro e w3 ⟨rfl,rfl⟩)
      go_roundw
      case rel=>exact⟨j+1,m,ab,by go_num,hG,hm,Hm2,rD⟩
      case measure=>simp[intOf];omega
     |true=>
      rw[cH] at ny;have Hm2:=ae (show∀k<n,(m|||m').testBit k=Bw f (j+1) a k from fun k hk=>by rw[aiu,cH,Nat.testBit_or,Hm.out k hk,hf' k hk];simp);have HJ:=ae (ahL w1.heap.size 0 1 gi 0 ci m m' wr (hG.cell 0) (hG.frozen 0) hm q1 Jv);clear cH k0 k1 hf'
      go_wp2_with (first
       |(go_at_call 29;refine ny.out.mono ?_;rintro e w3 ⟨rfl,rfl⟩)
       |(go_at_call 62;refine HJ.out.mono ?_;rintro e w3 ⟨rfl,rfl⟩))
      go_roundw
      case rel=>exact⟨j+1,m|||m',ab,by go_num,hG.set 0 _,Lt hm Jv,Hm2,ae (rD.out.setCell aA _)⟩
      case measure=>simp[intOf];omega
    ·obtain rfl:j=n:=ab;have zC:=ae (rU iy.out rD.out);have dp:=aiy f j a;have aDR:a*j<=64*64:=oY ab ab
     have hav:∀b,(Value.slice av (eU f j a).length ac).ownBlock=some b->b≠w1.heap.size:=fun b hb=>by have:=iy.out.lt b hb;omega
     have Gy:=ae hav;have HG:=ae hG;clear hav hG
     obtain⟨w2,rfl⟩:∃w2:World,w2=wr:=⟨_,rfl⟩
     go_wp2_with fail;go_loopw [3,47] (fun vo vi wr=>∃(c k:Nat) (av:Option Addr) (ac:Nat),c<=j/\vo=.slice av k ac/\vi=I c/\Hid (k=(eU f j a++kW f j a c).length)/\Hid (wr.ownsRow w.heap.size 76 2 (.slice av k ac) k ((eU f j a++kW f j a c).flatMap pc))/\Hid (ay w wr)/\Hid (ax wr w1.heap.size #[.int .u64 ((m:Nat):Int)])/\Hid (∀b,(Value.slice av k ac).ownBlock=some b->b≠w1.heap.size)) (fun _ i _=>j-(intOf i).toNat)
     case atStart=>
      refine⟨0,(eU f j a).length,av,ac,ab,rfl,rfl,ae (by simp[kW]),?_,Ku,HG,Gy⟩;simpa [kW] using zC
     case round=>
      clear iy zC Gy HG c0 c1;obtain⟨c,k,av,ac,hc,rfl,rfl,Hk,iy,Kv,HG,Gy⟩:=hrel;have axR:=Kv.out.size;have hGl:=HG.out.lt;have axS:=aiw f j a c
      have aDS:k<=5000:=by rw[Hk.out,List.length_append];omega
      clear axS;by_cases aiz:c<j
      ·have ny:=ae (Kb _ j f a c wr (HO.out.kept Kv.out aA) hlt aiz);have Kw:=ae (ahK w1.heap.size 0 1 m c wr (HG.out.cell 0) hm ab);rw[Hm.out c aiz] at Kw;have vS:=ae (aiv f j a c);unfold vR at vS
       cases cH:f a c with
       |false=>
        rw[cH] at ny vS;have DU:Hid (kW f j a (c+1)=kW f j a c):=ae (by rw[vS.out];simp);clear cH vS Kw
        go_wp2_with (go_at_call 29;refine ny.out.mono ?_;rintro e w3 ⟨rfl,rfl⟩)
        go_roundw
        case rel=>exact⟨c+1,k,av,ac,ab,rfl,by go_num,by rw[DU.out];exact Hk,by rw[DU.out];exact iy,Kv,HG,Gy⟩
        case measure=>simp[intOf];omega
       |true=>
        cases SF:Bw f j a c with
        |true=>
         rw[cH] at ny vS;rw[SF] at Kw vS;have DU:Hid (kW f j a (c+1)=kW f j a c):=ae (by rw[vS.out];simp);clear cH SF vS
         go_wp2_with (first
          |(go_at_call 29;refine ny.out.mono ?_;rintro e w3 ⟨rfl,rfl⟩)
          |(go_at_call 63;refine Kw.out.mono ?_;rintro e w3 ⟨rfl,rfl⟩))
         go_roundw
         case rel=>exact⟨c+1,k,av,ac,ab,rfl,by go_num,by rw[DU.out];exact Hk,by rw[DU.out];exact iy,Kv,HG,Gy⟩
         case measure=>simp[intOf];omega
        |false=>
         rw[cH] at ny vS;rw[SF] at Kw vS;have DU:Hid (eU f j a++kW f j a (c+1)=(eU f j a++kW f j a c)++[(a,c)]):=ae (by rw[vS.out];simp);clear cH SF vS
         go_wp2_with (first
          |(go_at_call 29;refine ny.out.mono ?_;rintro e w3 ⟨rfl,rfl⟩)
          |(go_at_call 63;refine Kw.out.mono ?_;rintro e w3 ⟨rfl,rfl⟩)
          |(at_builtin;go_must (refine uT rfl _ _ 72 rfl 76 _ 2 16 Tryz.underlying72 ahN rfl ab ab w.heap.size (.slice av k ac) k ((eU f j a++kW f j a c).flatMap pc) rfl (iy.out.alloc _) wr.heap.size 1 1 #[I a,I c] 76 rfl (ej _ _) rfl rfl ab ab (by rw[World.size_alloc];omega) ?_);intro g5 BA w5 kj kS oR mQ rE iP))
         go_roundw
         case rel=>
          refine⟨c+1,k+1,some ⟨g5,0,none⟩,BA,ab,rfl,by go_num,?_,?_,ae ((Kv.out.alloc axR _).trans iP),ae ((HG.out.alloc _).grown rE (fun e=>Gy.out _ e rfl)),?_⟩
          ·rw[DU.out,List.length_append,<-Hk.out];exact ae rfl
          ·rw[DU.out,axP];exact ae mQ
          ·refine ae fun b hb=> ?_
           obtain rfl:g5=b:=by simpa [Value.ownBlock] using hb
           rcases oR with h|h
           ·exact Gy.out _ h
           ·rw[World.size_alloc] at h;omega
         case measure=>simp[intOf];omega
      ·obtain rfl:c=j:=ab;have DV:Hid (eU f c (a+1)=eU f c a++kW f c a c):=ae (aix f c a);rw[<-DV.out] at Hk iy;have Hk2:=ae Hk.out;go_wp2_with fail;go_roundw
       case rel=>
        have:=Hk2.out;subst this;exact⟨a+1,av,ac,ab,rfl,by go_num,iy,Kv⟩
       case measure=>simp[intOf];omega
  ·obtain rfl:a=n:=ab;go_wp2_with fail;go_ret;exact⟨_,rfl,iy.out,HB.out⟩
end
end Go.Proofs.YtngblilamkkikaaGreatDoor
