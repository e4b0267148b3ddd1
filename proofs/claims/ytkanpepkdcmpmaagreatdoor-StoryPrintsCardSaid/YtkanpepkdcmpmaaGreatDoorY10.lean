import Derived.Test.YtkanpepkdcmpmaaGreatDoorY9
import Derived.Maps.AppendAt
set_option maxHeartbeats 40000000
set_option maxRecDepth 100000
set_option linter.all false
namespace Go.Proofs.YtkanpepkdcmpmaaGreatDoor
section
open Go.RowKit Go.Shelf
attribute [local go_sem] Oper.semAt_some
theorem avW (n:Nat)(hn:1<=n)(run:List ay)(tb:Nat)(v:Value)(w0:World)(gK:w0.cell? ⟨tb,0,none⟩=some v)(hrun:fw w0 v run)(hlen:run.length<=1000000):
  SeqStopsK Fence.wide n Tryz.prog 129 #[.pointer (some ⟨tb,0,none⟩)] Zg (Below w0.heap.size) (fun xs=>xs=nF run) (fun pre=>pre<+:nF run) (nF run).length w0:=by
 intro l J Jx W hW hJ hJx hY h0;obtain⟨ka,ca,rfl,gz⟩:=hrun.open
 have fc:tb<w0.heap.size:=by simpa using iT _ _ gK
 have aGu:Tryz.prog.follows .mixedOrders=true:=ah;have HY:=ae hY;clear hY;refine callsIn_of_wp Tryz.func129 rfl trivial ?_ rfl;simp only[Tryz.ntmps129,zK,List.length_cons,List.length_nil,Nat.reduceAdd,Nat.reduceSub,JY,JZ,Kd,Kc,List.nil_append,List.cons_append];have fE:=(hW.cell (p:=⟨tb,0,none⟩) fc).trans gK
 gi_wp2
 gi_loopw [7] (fun p wr=>∃i:Nat,i<=run.length/\p=.int .i64 i/\aw w0 wr/\J (xz run i) wr) (fun p _=>run.length-(intOf p).toNat)
 case atStart=>exact⟨0,ab,rfl,hW,h0⟩
 case round=>
  obtain⟨i,hi,rfl,hB,hJi⟩:=hrel;have qD:=(hB.cell (p:=⟨tb,0,none⟩) fc).trans gK;by_cases hlt:i<run.length
  ·gi_wp2
   gi_loopw [4] (fun p wr=>∃k:Nat,i+1<=k/\k<=run.length/\p=.int .i64 k/\aw w0 wr/\J (xz run i++oV run i k) wr) (fun p _=>run.length-(intOf p).toNat)
   case atStart=>exact⟨i+1,ab,ab,by go_num,hB,by rw[auU,rS];exact hJi⟩
   case round=>
    clear hB hJi qD;obtain⟨k,zR,hk,rfl,hB,Lr⟩:=hrel;have qD:=(hB.cell (p:=⟨tb,0,none⟩) fc).trans gK;by_cases cY:k<run.length
    ·obtain⟨b,o,va,vs,rfl,dU,dz,x0,x1,x2,x3,x4,x5,x6,x7,x8,x9,x10⟩:=(hrun.kept hB ax).at (i:=i) (s:=run[i]) (by simp[hlt]);obtain⟨b',o',ua,us,eL,sO,AQ,y0,y1,y2,y3,y4,y5,y6,y7,y8,y9,y10⟩:=(hrun.kept hB ax).at (i:=k) (s:=run[k]) (by simp[cY]);simp at eL;obtain⟨rfl,rfl⟩:=eL
     have c:=fun W (LI:aw wr W)=>auQ run[i] run[k] (run[i].val va vs) (run[k].val ua us) W ⟨va,vs,rfl,dU.kept LI ax,dz.kept LI ax⟩ ⟨ua,us,rfl,sO.kept LI ax,AQ.kept LI ax⟩
     have pM:=auV run i k zR;rw[Oy hlt cY] at pM;have Hs:=ae pM;clear pM;by_cases hd:dw run[i] run[k]=true
     ·rw[hd] at c;simp only[ay.val,ay.row] at c;have C:=ae c;rw[hd,aq rfl] at Hs
      have GG:xz run i++oV run i k++[(i,k)]<+:nF run:=by
       rw[List.append_assoc,<-Hs.out];exact auY run i (k+1) hlt ab ab
      have Zr:=ae (show(xz run i++oV run i k).length<(nF run).length by
       have:=GG.length_le;simp at this⊢
       omega)
      have Hpp:=ae GG;clear c hd GG
      gi_wp2
      have Xk:tb<wr.heap.size:=jj fc hB.size
      have avX:b<wr.heap.size:=by simpa using iT _ _ x0
      refine WA 14 [(0,true),(1,true),(2,true),(3,true),(4,true),(5,true),(6,true),(7,true),(8,false),(9,true),(10,true),(11,true),(12,true),(13,true)] (fun w'=>∀b o,b<wr.heap.size->w'.cell? ⟨b,o,none⟩=wr.cell? ⟨b,o,none⟩) ah rfl rfl ah ah (fun _ _ _ _ h=>h) (fun _ _ _=>rfl) ?_
      iterate 8 refine Kn ?_
      refine WB (fun K hK=> ?_);go_simp;refine⟨trivial,?_⟩;refine(Gk.2 (C.out _ bF)).mono ?_;rintro e w1 ⟨rfl,aC⟩;have nI:aw wr w1:=Below.then (w:=wr) bF aC;have hJ1:=hJ _ wr w1 none Lr ⟨nI.os,nI.tape,nI.output,nI.size,fun q hq _=>nI.block q hq⟩ (fun _ h=>by cases h);obtain⟨fn,tmps,assign,body,hy,hR⟩:=HY.out _ (i,k) w1 hJ1 Zr.out;dsimp only[Zg] at hy;refine hK.out _ _ (fun b o hb=>nI.cell (p:=⟨b,o,none⟩) hb) ?_;clear hK K;refine cJ ?_
      iterate 5 refine Kn ?_
      refine Rj ?_
      gi_wp2
      refine hR.mono ?_;rintro e w2 (⟨rfl,hJ2,nX⟩|⟨rfl,avY⟩)
      ·gi_wp2
       go_roundw
       case rel=>exact⟨k+1,ab,ab,by go_num,hB.trans ((nI.mono hB.size).trans nX),by rw[Hs.out,<-List.append_assoc];exact hJ2⟩
       case measure=>simp[intOf];omega
      ·gi_wp2
       refine DI (results_none rfl _ _ _) rfl ?_;exact⟨⟨_,rfl⟩,.inr ⟨_,Hpp.out,avY⟩⟩
     ·have Ah:dw run[i] run[k]=false:=by simpa using hd
      rw[Ah] at c;simp only[ay.val,ay.row] at c;have C:=ae c;rw[Ah,af ai] at Hs;clear c hd Ah
      gi_wp2
      have Xk:tb<wr.heap.size:=jj fc hB.size
      have avX:b<wr.heap.size:=by simpa using iT _ _ x0
      refine WA 14 [(0,true),(1,true),(2,true),(3,true),(4,true),(5,true),(6,true),(7,true),(8,false),(9,true),(10,true),(11,true),(12,true),(13,true)] (fun w'=>∀b o,b<wr.heap.size->w'.cell? ⟨b,o,none⟩=wr.cell? ⟨b,o,none⟩) ah rfl rfl ah ah (fun _ _ _ _ h=>h) (fun _ _ _=>rfl) ?_
      iterate 8 refine Kn ?_
      refine WB (fun K hK=> ?_);go_simp;refine⟨trivial,?_⟩;refine(Gk.2 (C.out _ bF)).mono ?_;rintro e w1 ⟨rfl,aC⟩;have nI:aw wr w1:=Below.then (w:=wr) bF aC;have hJ1:=hJ _ wr w1 none Lr ⟨nI.os,nI.tape,nI.output,nI.size,fun q hq _=>nI.block q hq⟩ (fun _ h=>by cases h);refine hK.out _ _ (fun b o hb=>nI.cell (p:=⟨b,o,none⟩) hb) ?_;clear hK K;refine cJ ?_
      iterate 1 refine Kn ?_
      iterate 4 refine apb ?_
      refine Rj ?_
      gi_wp2
      all_goals (try refine⟨fun _ _=>trivial,?_⟩)
      all_goals gi_wp2
      go_roundw
      case rel=>exact⟨k+1,ab,ab,by go_num,hB.trans (nI.mono hB.size),by rw[Hs.out,rS];exact hJ1⟩
      case measure=>simp[intOf];omega
    ·have gC:k=run.length:=ab
     gi_wp2
     go_roundw
     case rel=>exact⟨i+1,ab,by go_num,hB,by rw[Zf,<-gC];exact Lr⟩
     case measure=>simp[intOf];omega
  ·have Ac:i=run.length:=ab
   gi_wp2
   go_end0;subst Ac;exact⟨⟨_,rfl⟩,.inl ⟨_,rfl,hJi⟩⟩
end
section
open Go.RowKit Go.Shelf
attribute [local go_sem] Oper.semAt_some
theorem avZ {F:Fence}{nn:Nat}{P:Program}{w:World}{ops:Array Oper}{rest:List Oper}{o:Oper}{a:Act}{Q:Exit->Act->World->Prop}(dp:o.guard=none)(s x:Operand)(t:TypeId)
  (ho:o.op=.call { callee:=.builtin .append,args:=#[s,x],argTypes:=#[t,t] })
  (e:TypeId) (z:Value) (k bytes:Nat) (ht:P.underlying t=some (.slice e)) (lX:(P.info? e).map (fun i=>(i.zero,i.size,i.bytes))=some (some z,k,bytes)) (nS:z.cells.size=k) (hk:0<k) (ks:bytes<=1000)
  (B:Nat) (v:Value) (n:Nat) (xs:List Value) (hs:a.eval s=v) (aS:w.ownsRow B e k v n xs)
  (b m c:Nat) (cs:Array Value) (t':TypeId) (hx:a.eval x=.slice (some ⟨b,0,none⟩) m c) (hblk:w.heap[b]? =some (.cells cs t' (0,0))) (hl:cs.size=m*k) (h1:cs.toList.all Value.oneCell'=true)
  (jl:n+m<=100000000) (lz:B<=w.heap.size)
  (h:∀u w',w'.ownsRow B e k u (n+m) (xs++cs.toList)->w.grownBy w' v.ownBlock->wpListIn F nn P ops Q rest (a.put o.dst u) w'):wpListIn F nn P ops Q (o::rest) a w:=by
 obtain⟨i0,hi,eZ,cL,fj⟩:=wL lX
 refine wpListIn_append_own w dp s x t ho B e i0 z k bytes ht hi eZ cL fj nS hk v n xs hs aS ⟨b,0,none⟩ m c cs.toList hx (by simpa using hl) (fun j u hu=> ?_) (fq.1 h1) (by unfold maxLen;omega)
  (bj (nR jl ks) ab) lz ?_
 ·have lv:(⟨b,0,none⟩:Addr).add j=⟨b,0+j,none⟩:=by unfold Addr.add;split<;>simp_all
  rw[lv,fu,zP w b j cs t' _ hblk];simpa using hu
 ·intro u w' h2 h3 _;exact h u w' h2 h3
def OJ (W:World)(B:Nat)(x:Nat×Nat):Prop:=W.heap[B]? =some (.cells #[I x.1,I x.2] 84 (0,0))
theorem OJ.lt {W:World}{B:Nat}{x:Nat×Nat}(h:OJ W B x):B<W.heap.size:=(ng.1 h).1
theorem awa (B:Nat)(x:Nat×Nat):Own (fun(_:Unit) W=>OJ W B x):=fun _ X Y row hs hg bl=>
 (hg.block B (OJ.lt hs) (fun e=>by
  obtain⟨o,ho,hc⟩:=bl B e.symm;rw[show X.heap[B]? =_ from hs] at ho;cases ho
  cases hc)).trans hs
theorem appendSeq (run:List ay)(tb:Nat)(v:Value)(w:World)(gK:w.cell? ⟨tb,0,none⟩=some v)(hrun:fw w v run)(hlen:run.length<=1000000)(iV:(nF run).length<=1000000):
  CallsIn Fence.wide 5 Tryz.prog 128 #[.slice none 0 0,.func (.func 129) #[] #[.pointer (some ⟨tb,0,none⟩)]] w fun e w'=>∃u,e=.returned u/\w'.ownsRow w.heap.size 84 2 u (nF run).length ((nF run).flatMap pc)/\aw w w':=by
 have OK:=avW (5-1) ab run tb v w gK hrun hlen;have aaa:=ae OK;clear OK;refine callsIn_of_wp_marks Tryz.func128 rfl trivial ?_ rfl;simp only[Tryz.ntmps128,zK,List.length_cons,List.length_nil,Nat.reduceAdd,Nat.reduceSub,JY,JZ,Kd,Kc,List.nil_append,List.cons_append]
 gi_wp2
 have bS:=Boxed.new w 80 (.slice none 0 0);have oh:aw w (w.alloc (.cells #[.slice none 0 0] 80)):=(Below.refl _ w).alloc ax _;have hsz:(w.alloc (.cells #[.slice none 0 0] 80)).heap.size=w.heap.size+1:=ai
 refine wpIn_rangeFunc_ownH rfl ab (gf:=129) (lb:=#[.pointer (some ⟨tb,0,none⟩)]) rfl trivial (enters_of Tryz.func129 ah rfl)
  aaa.out belowK_t (belowK_b ai) oh (fun _=>rfl)
  (fun(pre:List (Nat×Nat)) W=>(∃u,Boxed W w.heap.size 80 u/\W.ownsRow w.heap.size 84 2 u pre.length (pre.flatMap pc)/\True)/\aw w W)
  (fun _ _ _=>False)
  (OwnFrom.and (Own.from (holdsRow_own _ _ _ _ _ (fun pre:List (Nat×Nat)=>pre.length) (fun pre=>pre.flatMap pc) (fun _ _=>True)) _) (ownFrom_below ax ai))
  (fun _ _ _ _ _ hs _ _=>hs)
  ⟨⟨_,bS,ko _ _ _ _,trivial⟩,oh⟩
  (fun x a' W=>∃Bx,w.heap.size<Bx/\OJ W Bx x/\a'={ tmps:=#[.slice none 0 0,.func (.func 129) #[] #[.pointer (some ⟨tb,0,none⟩)],.pointer (some ⟨w.heap.size,0,none⟩),undef,.slice none 0 0,.pointer (some ⟨Bx,0,none⟩),.func (.func 129) #[] #[.pointer (some ⟨tb,0,none⟩)],.agg #[I x.1,I x.2],undef,undef,undef,undef,undef],defers:=[] })
  (fun x a' _ X Y row hs hg hr=>by obtain⟨Bx,h1,h2,h3⟩:=hs;exact⟨Bx,h1,awa Bx x () X Y row h2 hg (fun r e=>(hr r e).2),h3⟩)
  ?assign ?body ?done ?stop
 case assign=>
  rintro l pre x W K ⟨⟨u,b1,o1,_⟩,aC⟩ hK;dsimp only[Zg]
  gi_wp2
  exact hK _ _ ((KeepsOthers.alloc _ _).from _) ((Below.refl _ W).alloc aC.size _) ⟨⟨u,b1.alloc _,o1.alloc _,trivial⟩,aC.alloc aC.size _⟩ ⟨W.heap.size,b1.lt,World.alloc_heap_new W _,rfl⟩
 case body=>
  rintro l pre x a' W hl ⟨r,hr⟩ ⟨⟨u,b1,o1,_⟩,aC⟩ ⟨Bx,hBx,bX,rfl⟩ hlt;have c1:=b1.cell;have LJ:pre.length<=1000000:=ab
  have cX:=fun j=>zP W Bx j _ _ _ bX
  have hsW:=aC.size;clear hlt
  gi_wp2_with (gi_at_builtin;refine avZ rfl _ _ 80 rfl 84 _ 2 16 Tryz.underlying80 ahs rfl ab ab w.heap.size _ _ _ rfl (o1.alloc _) W.heap.size 1 1 _ 84 rfl (dV _ _) rfl rfl ab bq ?_;intro u2 w1 sP zd;obtain⟨g',cap',rfl⟩:=ownsRow_succ sP;obtain⟨iZ,pI,eA,nX,eU⟩:=b1.appended au o1 hsW ax sP zd;have jN:=iZ.cell;have hf1:=iZ.frozen)
  have hh:(w1.setCell ⟨w.heap.size,0,none⟩ (.slice (some ⟨g',0,none⟩) (pre.length+1) cap')).ownsRow w.heap.size 84 2 (.slice (some ⟨g',0,none⟩) (pre.length+1) cap') (pre++[x]).length ((pre++[x]).flatMap pc):=by
   rw[List.length_append,oY];simpa [pc] using eA
  exact⟨nX.from _,eU,⟨_,pI,by first|exact hh|exact⟨hh,trivial⟩⟩,aC.trans eU⟩
 case done=>
  rintro D ys W hD rfl ⟨⟨u,b1,o1,_⟩,aC⟩ hK;have c1:=b1.cell
  gi_wp2
  refine⟨ai,.inl ⟨_,_,rfl,run_takeDeferred hK,?_⟩⟩;exact⟨_,results_tmp rfl _ _ _,_,rfl,ownsRow_putObj o1 _ hK rfl,aC.trans (belowK_b (w:=w) ax W D _ _ (by simp at hD;omega) hK rfl rfl)⟩
 case stop=>
  rintro D c pre W hD _ hf _;exact hf.elim
end
section
open Go.RowKit
theorem ahV (run:List ay)(a b:Nat):(a,b)∈nF run↔a<b/\b<run.length/\qq run a b=true:=by
 unfold nF xz;rw[BH];constructor
 ·rintro⟨i,hi,h⟩;unfold oV at h;obtain⟨j,hj,e⟩:=dm.1 h;obtain⟨h1,h2⟩:=nj.1 hj;have h3:=gy.1 hi;rw[List.mem_range'_1] at h1;cases e;exact⟨ab,ab,h2⟩
 ·rintro⟨h1,h2,h3⟩;refine⟨a,gy.2 ab,?_⟩;unfold oV;refine dm.2 ⟨b,nj.2 ⟨?_,h3⟩,rfl⟩;rw[List.mem_range'_1];omega
theorem ahW (run:List ay)(a b:Nat):b∈aQ (nF run) a↔a<b/\b<run.length/\qq run a b=true:=by
 rw[<-ahV];unfold aQ;constructor
 ·intro h;obtain⟨p,hp,e⟩:=dm.1 h;obtain⟨h1,h2⟩:=nj.1 hp;obtain⟨x,y⟩:=p;simp at h2 e;subst h2 e;exact h1
 ·intro h;exact dm.2 ⟨(a,b),nj.2 ⟨h,ai⟩,rfl⟩
theorem awb (run:List ay)(a k:Nat):dc run a k=(aQ (nF run) a).any fun b=>b==k||dc run b k:=by
 rw[Oz,rR,yk,yk];constructor
 ·rintro⟨j,hj,h⟩;simp only[bV,dh] at h;exact⟨j,(ahW run a j).2 ⟨h.1.1,gy.1 hj,h.1.2⟩,h.2⟩
 ·rintro⟨j,hj,h⟩;obtain⟨h1,h2,h3⟩:=(ahW run a j).1 hj;exact⟨j,gy.2 h2,by simp only[bV,dh];exact⟨⟨h1,h3⟩,h⟩⟩
theorem aab {α β:Type}(f:α->List β)(c:Nat)(l:List α)(h:∀a∈l,(f a).length<=c):(l.flatMap f).length<=l.length*c:=by
 induction l with
 |nil=>simp
 |cons a l ih=>
  have h1:=h a ai;have h2:=ih (fun x hx=>h x (by simp[hx]));simp only[rO,List.length_append,List.length_cons,zO];omega
theorem ahX (run:List ay)(h:run.length<=64):(nF run).length<=10000:=by
 unfold nF xz
 have:=aab (fun j=>oV run j run.length) 64 (List.range run.length) (fun j _=>by
  unfold oV;rw[dE]
  exact bj (nQ _ _) (by rw[List.length_range'];omega))
 rw[BG] at this;have h2:run.length*64<=64*64:=uG _ h;omega
theorem awc (a:Option Addr)(n c:Nat)(w:World):Calls Tryz.prog 69 #[.slice a n c] w fun e w'=>e=.returned (.func (.func 129) #[] #[.pointer (some ⟨w.heap.size,0,none⟩)])/\w'=w.alloc (.cells #[.slice a n c] 23):=by
 go_enter Tryz.func69,Tryz.ntmps69;go_wp2_with fail;go_ret;exact⟨rfl,rfl⟩
theorem collect (run:List ay)(tb:Nat)(v:Value)(w:World)(gK:w.cell? ⟨tb,0,none⟩=some v)(hrun:fw w v run)(hlen:run.length<=64):
  Calls Tryz.prog 68 #[.func (.func 129) #[] #[.pointer (some ⟨tb,0,none⟩)]] w fun e w'=>∃u,e=.returned u/\w'.ownsRow w.heap.size 84 2 u (nF run).length ((nF run).flatMap pc)/\aw w w':=by
 have hp:=ahX run hlen;have H:=ae (Gk.1 (appendSeq run tb v w gK hrun ab ab));clear hp;go_enter Tryz.func68,Tryz.ntmps68;go_wp2_with fail;refine H.out.mono ?_;rintro e w1 ⟨u,rfl,h1,h2⟩;go_wp2_with fail;go_ret;exact⟨u,rfl,h1,h2⟩
theorem aac (run:List ay)(v:Value)(w:World)(hrun:fw w v run)(hlen:run.length<=64):
  Calls Tryz.prog 26 #[v] w fun e w'=>∃p,e=.returned p/\AG w' p run.length (dc run)/\aw w w':=by
 obtain⟨ka,ca,rfl,_⟩:=hrun.open;have aC:aw w (w.alloc (.cells #[.slice ka run.length ca] 23)):=(Below.refl _ _).alloc ax _;have gK:(w.alloc (.cells #[.slice ka run.length ca] 23)).cell? ⟨w.heap.size,0,none⟩=some (.slice ka run.length ca):=(az.new w _ 23).cell 0;have H:=ae (collect run w.heap.size _ _ gK (hrun.kept aC ax) hlen);have hp:=ahX run hlen;have Hp:=ae hp;clear hp gK hrun;go_enter Tryz.func26,Tryz.ntmps26;go_wp2_with fail;refine(awc _ _ _ _).mono ?_;rintro e w1 ⟨rfl,rfl⟩;go_wp2_with fail;refine H.out.mono ?_;rintro e w2 ⟨u,rfl,h1,h2⟩;have cM:=Flat.eu h1;go_wp2_with fail
 refine(avL run.length (nF run) u w2 cM hlen (fun p hp=>by
  obtain⟨a,b⟩:=p;have:=(ahV run a b).1 hp
  exact⟨this.1,this.2.1⟩) Hp.out (dc run) (fun a _ k _=>awb run a k)).mono ?_
 rintro e w3 ⟨p,rfl,h3,h4⟩;go_wp2_with fail;go_ret;exact⟨p,rfl,h3,(aC.trans (h2.mono ai)).trans (h4.mono (bj aC.size (by have:=h2.size;simpa using this)))⟩
end
section
open Go.RowKit
def xE (f:Nat->Nat->Bool)(m a c:Nat):Bool:=(List.range m).any fun b=>f a b && f b c
theorem aad (f:Nat->Nat->Bool)(m a c:Nat):xE f (m+1) a c=(xE f m a c||(f a m && f m c)):=by
 unfold xE;rw[lV,List.any_append];simp
def vR (f:Nat->Nat->Bool)(n a c:Nat):Bool:=f a c && !xE f n a c
def lO (f:Nat->Nat->Bool)(n a m:Nat):List (Nat×Nat):=((List.range m).filter fun c=>vR f n a c).map fun c=>(a,c)
theorem ahY (f:Nat->Nat->Bool)(n a m:Nat):lO f n a (m+1)=lO f n a m++if vR f n a m then [(a,m)] else []:=by
 unfold lO;rw[lV,qk,de];congr 1;cases h:vR f n a m<;>simp[h]
theorem ahZ (f:Nat->Nat->Bool)(n a m:Nat):(lO f n a m).length<=m:=by
 unfold lO;rw[dE];exact bj (nQ _ _) ai
def fF (f:Nat->Nat->Bool)(n m:Nat):List (Nat×Nat):=(List.range m).flatMap fun a=>lO f n a n
theorem aia (f:Nat->Nat->Bool)(n m:Nat):fF f n (m+1)=fF f n m++lO f n m n:=by
 unfold fF;rw[lV,oY];simp
theorem aib (f:Nat->Nat->Bool)(n m:Nat):(fF f n m).length<=m*n:=by
 have:=aab (fun a=>lO f n a n) n (List.range m) (fun a _=>ahZ f n a n);rw[BG] at this;exact this
theorem awd (l:List (Nat×Nat))(p:Nat×Nat):(l++[p]).flatMap pc=l.flatMap pc++[I p.1,I p.2]:=by
 rw[oY];rfl
theorem awe (p:Value)(n:Nat)(f:Nat->Nat->Bool)(w:World)(h:AG w p n f):
  Calls Tryz.prog 27 #[p] w fun e w'=>∃v,e=.returned v/\w'.ownsRow w.heap.size 84 2 v (fF f n n).length ((fF f n n).flatMap pc)/\aw w w':=by
 have HO:=ae h;obtain⟨hn,g,gb,c,rfl,h0,h1,hr⟩:=h;have Hr:=ae hr;clear hr
 have yW:∀W:World,(Instr.makeSlice 148 (.int .i64 1) (.int .i64 1)).run Tryz.prog W=.ok (.slice (some ⟨W.heap.size,0,none⟩) 1 1) (W.alloc (.cells #[.int .u64 0] 222)):=fun W=>AJ (P:=Tryz.prog) 148 222 (.int .u64 0) 8 1 Tryz.underlying148 ahI rfl ab ab W
 go_enter Tryz.func27,Tryz.ntmps27;go_wp2_with fail;go_loopw [3,12] (fun vo vi wr=>∃(a:Nat) (av:Option Addr) (ac:Nat),a<=n/\vo=.slice av (fF f n a).length ac/\vi=I a/\Hid (wr.ownsRow w.heap.size 84 2 (.slice av (fF f n a).length ac) (fF f n a).length ((fF f n a).flatMap pc))/\Hid (aw w wr)) (fun _ i _=>n-(intOf i).toNat)
 case atStart=>exact⟨0,none,0,ab,rfl,rfl,ae (ko _ _ _ _),ae (Below.refl _ _)⟩
 case round=>
  obtain⟨a,av,ac,ha,rfl,rfl,gF,HB⟩:=hrel;have jZ:=HB.out.size;have d0:=bB HB.out ax h0
  have sL:g<wr.heap.size:=by simpa using iT _ _ d0
  by_cases hlt:a<n
  ·have hq:((n:Int)+63)/64=1:=ab
   have AP:((n:Int)+63).tdiv 64=1:=by rw[Wn ab];omega
   have aGv:(n:Int)+63<=127:=ab
   obtain⟨w1,rfl⟩:∃w1:World,w1=wr:=⟨_,rfl⟩
   go_wp2_with fail;go_loopw [26] (fun vj wc=>∃(j m:Nat),j<=n/\vj=I j/\az wc w1.heap.size #[.int .u64 ((m:Nat):Int)]/\m<jb/\Hid (∀k<n,m.testBit k=xE f j a k)/\Hid (aw w1 wc)) (fun j _=>n-(intOf j).toNat)
   case atStart=>exact⟨0,0,ab,rfl,az.new _ _ _,au,ae (fun k _=>by simp[xE]),ae ((Below.refl _ _).alloc ax _)⟩
   case round=>
    obtain⟨j,m,hj,rfl,hG,hm,Hm,kH⟩:=hrel;have LK:=ae (HB.out.trans (kH.out.mono jZ));have c0:=bB LK.out ax h0;have c1:=bB LK.out ax h1;have cL:=kH.out.size;by_cases dJ:j<n
    ·have oq:=ae (Ll _ n f a j wr (HO.out.kept LK.out ax) hlt dJ);obtain⟨gi,ci,m',k0,k1,Lc,IB⟩:=Hr.out j dJ;have q0:=bB LK.out ax k0;have q1:=bB LK.out ax k1
     cases cM:f a j with
     |false=>
      rw[cM] at oq;have Hm2:=ae (show∀k<n,m.testBit k=xE f (j+1) a k from fun k hk=>by rw[aad,cM,Hm.out k hk];simp);clear cM k0 k1 IB
      go_wp2_with (go_at_call 43;refine oq.out.mono ?_;rintro e w3 ⟨rfl,rfl⟩)
      go_roundw
      case rel=>exact⟨j+1,m,ab,by go_num,hG,hm,Hm2,kH⟩
      case measure=>simp[intOf];omega
     |true=>
      rw[cM] at oq;have Hm2:=ae (show∀k<n,(m|||m').testBit k=xE f (j+1) a k from fun k hk=>by rw[aad,cM,Nat.testBit_or,Hm.out k hk,IB k hk];simp);have HJ:=ae (ahq w1.heap.size 0 1 gi 0 ci m m' wr (hG.cell 0) (hG.frozen 0) hm q1 Lc);clear cM k0 k1 IB
      go_wp2_with (first
       |(go_at_call 43;refine oq.out.mono ?_;rintro e w3 ⟨rfl,rfl⟩)
       |(go_at_call 70;refine HJ.out.mono ?_;rintro e w3 ⟨rfl,rfl⟩))
      go_roundw
      case rel=>exact⟨j+1,m|||m',ab,by go_num,hG.set 0 _,MY hm Lc,Hm2,ae (kH.out.setCell ax _)⟩
      case measure=>simp[intOf];omega
    ·obtain rfl:j=n:=ab;have AR:=ae (pj gF.out kH.out);have dB:=aib f j a;have aGw:a*j<=64*64:=nR ab ab
     have hav:∀b,(Value.slice av (fF f j a).length ac).ownBlock=some b->b≠w1.heap.size:=fun b hb=>by have:=gF.out.lt b hb;omega
     have IC:=ae hav;have HG:=ae hG;clear hav hG
     obtain⟨w2,rfl⟩:∃w2:World,w2=wr:=⟨_,rfl⟩
     go_wp2_with fail;go_loopw [3,47] (fun vo vi wr=>∃(c k:Nat) (av:Option Addr) (ac:Nat),c<=j/\vo=.slice av k ac/\vi=I c/\Hid (k=(fF f j a++lO f j a c).length)/\Hid (wr.ownsRow w.heap.size 84 2 (.slice av k ac) k ((fF f j a++lO f j a c).flatMap pc))/\Hid (aw w wr)/\Hid (az wr w1.heap.size #[.int .u64 ((m:Nat):Int)])/\Hid (∀b,(Value.slice av k ac).ownBlock=some b->b≠w1.heap.size)) (fun _ i _=>j-(intOf i).toNat)
     case atStart=>
      refine⟨0,(fF f j a).length,av,ac,ab,rfl,rfl,ae (by simp[lO]),?_,LK,HG,IC⟩;simpa [lO] using AR
     case round=>
      clear gF AR IC HG c0 c1;obtain⟨c,k,av,ac,hc,rfl,rfl,Hk,gF,pN,HG,IC⟩:=hrel;have awf:=pN.out.size;have hGl:=HG.out.lt;have awg:=ahZ f j a c
      have aGx:k<=5000:=by rw[Hk.out,List.length_append];omega
      clear awg;by_cases aic:c<j
      ·have oq:=ae (Ll _ j f a c wr (HO.out.kept pN.out ax) hlt aic);have LL:=ae (ahp w1.heap.size 0 1 m c wr (HG.out.cell 0) hm ab);rw[Hm.out c aic] at LL;have ru:=ae (ahY f j a c);unfold vR at ru
       cases cM:f a c with
       |false=>
        rw[cM] at oq ru;have EO:Hid (lO f j a (c+1)=lO f j a c):=ae (by rw[ru.out];simp);clear cM ru LL
        go_wp2_with (go_at_call 43;refine oq.out.mono ?_;rintro e w3 ⟨rfl,rfl⟩)
        go_roundw
        case rel=>exact⟨c+1,k,av,ac,ab,rfl,by go_num,by rw[EO.out];exact Hk,by rw[EO.out];exact gF,pN,HG,IC⟩
        case measure=>simp[intOf];omega
       |true=>
        cases ID:xE f j a c with
        |true=>
         rw[cM] at oq ru;rw[ID] at LL ru;have EO:Hid (lO f j a (c+1)=lO f j a c):=ae (by rw[ru.out];simp);clear cM ID ru
         go_wp2_with (first
          |(go_at_call 43;refine oq.out.mono ?_;rintro e w3 ⟨rfl,rfl⟩)
          |(go_at_call 71;refine LL.out.mono ?_;rintro e w3 ⟨rfl,rfl⟩))
         go_roundw
         case rel=>exact⟨c+1,k,av,ac,ab,rfl,by go_num,by rw[EO.out];exact Hk,by rw[EO.out];exact gF,pN,HG,IC⟩
         case measure=>simp[intOf];omega
        |false=>
         rw[cM] at oq ru;rw[ID] at LL ru;have EO:Hid (fF f j a++lO f j a (c+1)=(fF f j a++lO f j a c)++[(a,c)]):=ae (by rw[ru.out];simp);clear cM ID ru
         go_wp2_with (first
          |(go_at_call 43;refine oq.out.mono ?_;rintro e w3 ⟨rfl,rfl⟩)
          |(go_at_call 71;refine LL.out.mono ?_;rintro e w3 ⟨rfl,rfl⟩)
          |(at_builtin;go_must (refine tB rfl _ _ 80 rfl 84 _ 2 16 Tryz.underlying80 ahs rfl ab ab w.heap.size (.slice av k ac) k ((fF f j a++lO f j a c).flatMap pc) rfl (gF.out.alloc _) wr.heap.size 1 1 #[I a,I c] 84 rfl (dV _ _) rfl rfl ab ab (by rw[World.size_alloc];omega) ?_);intro g5 ui w5 fQ gE je jy nJ eI))
         go_roundw
         case rel=>
          refine⟨c+1,k+1,some ⟨g5,0,none⟩,ui,ab,rfl,by go_num,?_,?_,ae ((pN.out.alloc awf _).trans eI),ae ((HG.out.alloc _).grown nJ (fun e=>IC.out _ e rfl)),?_⟩
          ·rw[EO.out,List.length_append,<-Hk.out];exact ae rfl
          ·rw[EO.out,awd];exact ae jy
          ·refine ae fun b hb=> ?_
           obtain rfl:g5=b:=by simpa [Value.ownBlock] using hb
           rcases je with h|h
           ·exact IC.out _ h
           ·rw[World.size_alloc] at h;omega
         case measure=>simp[intOf];omega
      ·obtain rfl:c=j:=ab;have ze:Hid (fF f c (a+1)=fF f c a++lO f c a c):=ae (aia f c a);rw[<-ze.out] at Hk gF;have Hk2:=ae Hk.out;go_wp2_with fail;go_roundw
       case rel=>
        have:=Hk2.out;subst this;exact⟨a+1,av,ac,ab,rfl,by go_num,gF,pN⟩
       case measure=>simp[intOf];omega
  ·obtain rfl:a=n:=ab;go_wp2_with fail;go_ret;exact⟨_,rfl,gF.out,HB.out⟩
end
end Go.Proofs.YtkanpepkdcmpmaaGreatDoor
