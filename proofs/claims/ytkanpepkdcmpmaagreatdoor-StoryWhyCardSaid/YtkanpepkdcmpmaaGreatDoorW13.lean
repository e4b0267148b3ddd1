import Derived.Test.YtkanpepkdcmpmaaGreatDoorW12
import Derived.Maps.AppendAt
set_option maxHeartbeats 40000000
set_option maxRecDepth 100000
set_option linter.all false
namespace Go.Proofs.YtkanpepkdcmpmaaGreatDoor
section
open Go.RowKit Go.Shelf
attribute [local go_sem] Oper.semAt_some
theorem avT (n:Nat)(hn:1<=n)(run:List az)(tb:Nat)(v:Value)(w0:World)(gT:w0.cell? ⟨tb,0,none⟩=some v)(hrun:fH w0 v run)(hlen:run.length<=1000000):
  SeqStopsK Fence.wide n Tryz.prog 129 #[.pointer (some ⟨tb,0,none⟩)] Zk (Below w0.heap.size) (fun xs=>xs=nQ run) (fun pre=>pre<+:nQ run) (nQ run).length w0:=by
 intro l J Jx W hW hJ hJx hY h0;obtain⟨ka,ca,rfl,gH⟩:=hrun.open
 have fq:tb<w0.heap.size:=by simpa using ez _ _ gT
 have aGw:Tryz.prog.follows .mixedOrders=true:=ah;have HY:=ae hY;clear hY;refine callsIn_of_wp Tryz.func129 rfl trivial ?_ rfl;simp only[Tryz.ntmps129,zM,List.length_cons,List.length_nil,Nat.reduceAdd,Nat.reduceSub,Ke,Kf,Kj,Ki,List.nil_append,List.cons_append];have fQ:=(hW.cell (p:=⟨tb,0,none⟩) fq).trans gT
 gi_wp2
 gi_loopw [7] (fun p wr=>∃i:Nat,i<=run.length/\p=.int .i64 i/\aw w0 wr/\J (xq run i) wr) (fun p _=>run.length-(intOf p).toNat)
 case atStart=>exact⟨0,ab,rfl,hW,h0⟩
 case round=>
  obtain⟨i,hi,rfl,hB,hJi⟩:=hrel;have qL:=(hB.cell (p:=⟨tb,0,none⟩) fq).trans gT;by_cases hlt:i<run.length
  ·gi_wp2
   gi_loopw [4] (fun p wr=>∃k:Nat,i+1<=k/\k<=run.length/\p=.int .i64 k/\aw w0 wr/\J (xq run i++pf run i k) wr) (fun p _=>run.length-(intOf p).toNat)
   case atStart=>exact⟨i+1,ab,ab,by go_num,hB,by rw[auR,sb];exact hJi⟩
   case round=>
    clear hB hJi qL;obtain⟨k,zU,hk,rfl,hB,Lz⟩:=hrel;have qL:=(hB.cell (p:=⟨tb,0,none⟩) fq).trans gT;by_cases db:k<run.length
    ·obtain⟨b,o,va,vs,rfl,dX,dV,x0,x1,x2,x3,x4,x5,x6,x7,x8,x9,x10⟩:=(hrun.kept hB ax).at (i:=i) (s:=run[i]) (by simp[hlt]);obtain⟨b',o',ua,us,eQ,sS,Bf,y0,y1,y2,y3,y4,y5,y6,y7,y8,y9,y10⟩:=(hrun.kept hB ax).at (i:=k) (s:=run[k]) (by simp[db]);simp at eQ;obtain⟨rfl,rfl⟩:=eQ
     have c:=fun W (LP:aw wr W)=>auN run[i] run[k] (run[i].val va vs) (run[k].val ua us) W ⟨va,vs,rfl,dX.kept LP ax,dV.kept LP ax⟩ ⟨ua,us,rfl,sS.kept LP ax,Bf.kept LP ax⟩
     have pW:=auS run i k zU;rw[OJ hlt db] at pW;have Hs:=ae pW;clear pW;by_cases hd:dB run[i] run[k]=true
     ·rw[hd] at c;simp only[az.val,az.row] at c;have C:=ae c;rw[hd,aj rfl] at Hs
      have Cj:xq run i++pf run i k++[(i,k)]<+:nQ run:=by
       rw[List.append_assoc,<-Hs.out];exact auV run i (k+1) hlt ab ab
      have Zu:=ae (show(xq run i++pf run i k).length<(nQ run).length by
       have:=Cj.length_le;simp at this⊢
       omega)
      have Hpp:=ae Cj;clear c hd Cj
      gi_wp2
      have Xs:tb<wr.heap.size:=ju fq hB.size
      have avU:b<wr.heap.size:=by simpa using ez _ _ x0
      refine WK 14 [(0,true),(1,true),(2,true),(3,true),(4,true),(5,true),(6,true),(7,true),(8,false),(9,true),(10,true),(11,true),(12,true),(13,true)] (fun w'=>∀b o,b<wr.heap.size->w'.cell? ⟨b,o,none⟩=wr.cell? ⟨b,o,none⟩) ah rfl rfl ah ah (fun _ _ _ _ h=>h) (fun _ _ _=>rfl) ?_
      iterate 8 refine Ky ?_
      refine WL (fun K hK=> ?_);go_simp;refine⟨trivial,?_⟩;refine(GC.2 (C.out _ bK)).mono ?_;rintro e w1 ⟨rfl,aC⟩;have nS:aw wr w1:=Below.then (w:=wr) bK aC;have hJ1:=hJ _ wr w1 none Lz ⟨nS.os,nS.tape,nS.output,nS.size,fun q hq _=>nS.block q hq⟩ (fun _ h=>by cases h);obtain⟨fn,tmps,assign,body,hy,hR⟩:=HY.out _ (i,k) w1 hJ1 Zu.out;dsimp only[Zk] at hy;refine hK.out _ _ (fun b o hb=>nS.cell (p:=⟨b,o,none⟩) hb) ?_;clear hK K;refine bC ?_
      iterate 5 refine Ky ?_
      refine Ru ?_
      gi_wp2
      refine hR.mono ?_;rintro e w2 (⟨rfl,hJ2,ow⟩|⟨rfl,avV⟩)
      ·gi_wp2
       go_roundw
       case rel=>exact⟨k+1,ab,ab,by go_num,hB.trans ((nS.mono hB.size).trans ow),by rw[Hs.out,<-List.append_assoc];exact hJ2⟩
       case measure=>simp[intOf];omega
      ·gi_wp2
       refine DR (results_none rfl _ _ _) rfl ?_;exact⟨⟨_,rfl⟩,.inr ⟨_,Hpp.out,avV⟩⟩
     ·have Ak:dB run[i] run[k]=false:=by simpa using hd
      rw[Ak] at c;simp only[az.val,az.row] at c;have C:=ae c;rw[Ak,af ai] at Hs;clear c hd Ak
      gi_wp2
      have Xs:tb<wr.heap.size:=ju fq hB.size
      have avU:b<wr.heap.size:=by simpa using ez _ _ x0
      refine WK 14 [(0,true),(1,true),(2,true),(3,true),(4,true),(5,true),(6,true),(7,true),(8,false),(9,true),(10,true),(11,true),(12,true),(13,true)] (fun w'=>∀b o,b<wr.heap.size->w'.cell? ⟨b,o,none⟩=wr.cell? ⟨b,o,none⟩) ah rfl rfl ah ah (fun _ _ _ _ h=>h) (fun _ _ _=>rfl) ?_
      iterate 8 refine Ky ?_
      refine WL (fun K hK=> ?_);go_simp;refine⟨trivial,?_⟩;refine(GC.2 (C.out _ bK)).mono ?_;rintro e w1 ⟨rfl,aC⟩;have nS:aw wr w1:=Below.then (w:=wr) bK aC;have hJ1:=hJ _ wr w1 none Lz ⟨nS.os,nS.tape,nS.output,nS.size,fun q hq _=>nS.block q hq⟩ (fun _ h=>by cases h);refine hK.out _ _ (fun b o hb=>nS.cell (p:=⟨b,o,none⟩) hb) ?_;clear hK K;refine bC ?_
      iterate 1 refine Ky ?_
      iterate 4 refine apj ?_
      refine Ru ?_
      gi_wp2
      all_goals (try refine⟨fun _ _=>trivial,?_⟩)
      all_goals gi_wp2
      go_roundw
      case rel=>exact⟨k+1,ab,ab,by go_num,hB.trans (nS.mono hB.size),by rw[Hs.out,sb];exact hJ1⟩
      case measure=>simp[intOf];omega
    ·have gK:k=run.length:=ab
     gi_wp2
     go_roundw
     case rel=>exact⟨i+1,ab,by go_num,hB,by rw[Zj,<-gK];exact Lz⟩
     case measure=>simp[intOf];omega
  ·have Af:i=run.length:=ab
   gi_wp2
   go_end0;subst Af;exact⟨⟨_,rfl⟩,.inl ⟨_,rfl,hJi⟩⟩
end
section
open Go.RowKit Go.Shelf
attribute [local go_sem] Oper.semAt_some
theorem avW {F:Fence}{nn:Nat}{P:Program}{w:World}{ops:Array Oper}{rest:List Oper}{o:Oper}{a:Act}{Q:Exit->Act->World->Prop}(dw:o.guard=none)(s x:Operand)(t:TypeId)
  (ho:o.op=.call { callee:=.builtin .append,args:=#[s,x],argTypes:=#[t,t] })
  (e:TypeId) (z:Value) (k bytes:Nat) (ht:P.underlying t=some (.slice e)) (mq:(P.info? e).map (fun i=>(i.zero,i.size,i.bytes))=some (some z,k,bytes)) (oh:z.cells.size=k) (hk:0<k) (kC:bytes<=1000)
  (B:Nat) (v:Value) (n:Nat) (xs:List Value) (hs:a.eval s=v) (aT:w.ownsRow B e k v n xs)
  (b m c:Nat) (cs:Array Value) (t':TypeId) (hx:a.eval x=.slice (some ⟨b,0,none⟩) m c) (hblk:w.heap[b]? =some (.cells cs t' (0,0))) (hl:cs.size=m*k) (h1:cs.toList.all Value.oneCell'=true)
  (jx:n+m<=100000000) (lK:B<=w.heap.size)
  (h:∀u w',w'.ownsRow B e k u (n+m) (xs++cs.toList)->w.grownBy w' v.ownBlock->wpListIn F nn P ops Q rest (a.put o.dst u) w'):wpListIn F nn P ops Q (o::rest) a w:=by
 obtain⟨i0,hi,fk,cQ,fy⟩:=wN mq
 refine wpListIn_append_own w dw s x t ho B e i0 z k bytes ht hi fk cQ fy oh hk v n xs hs aT ⟨b,0,none⟩ m c cs.toList hx (by simpa using hl) (fun j u hu=> ?_) (fE.1 h1) (by unfold maxLen;omega)
  (bm (og jx kC) ab) lK ?_
 ·have lH:(⟨b,0,none⟩:Addr).add j=⟨b,0+j,none⟩:=by unfold Addr.add;split<;>simp_all
  rw[lH,eP,zR w b j cs t' _ hblk];simpa using hu
 ·intro u w' h2 h3 _;exact h u w' h2 h3
def OX (W:World)(B:Nat)(x:Nat×Nat):Prop:=W.heap[B]? =some (.cells #[I x.1,I x.2] 84 (0,0))
theorem OX.lt {W:World}{B:Nat}{x:Nat×Nat}(h:OX W B x):B<W.heap.size:=(nA.1 h).1
theorem avX (B:Nat)(x:Nat×Nat):Own (fun(_:Unit) W=>OX W B x):=fun _ X Y row hs hg bg=>
 (hg.block B (OX.lt hs) (fun e=>by
  obtain⟨o,ho,hc⟩:=bg B e.symm;rw[show X.heap[B]? =_ from hs] at ho;cases ho
  cases hc)).trans hs
theorem appendSeq (run:List az)(tb:Nat)(v:Value)(w:World)(gT:w.cell? ⟨tb,0,none⟩=some v)(hrun:fH w v run)(hlen:run.length<=1000000)(je:(nQ run).length<=1000000):
  CallsIn Fence.wide 5 Tryz.prog 128 #[.slice none 0 0,.func (.func 129) #[] #[.pointer (some ⟨tb,0,none⟩)]] w fun e w'=>∃u,e=.returned u/\w'.ownsRow w.heap.size 84 2 u (nQ run).length ((nQ run).flatMap pc)/\aw w w':=by
 have OY:=avT (5-1) ab run tb v w gT hrun hlen;have aaa:=ae OY;clear OY;refine callsIn_of_wp_marks Tryz.func128 rfl trivial ?_ rfl;simp only[Tryz.ntmps128,zM,List.length_cons,List.length_nil,Nat.reduceAdd,Nat.reduceSub,Ke,Kf,Kj,Ki,List.nil_append,List.cons_append]
 gi_wp2
 have bS:=Boxed.new w 80 (.slice none 0 0);have oA:aw w (w.alloc (.cells #[.slice none 0 0] 80)):=(Below.refl _ w).alloc ax _;have hsz:(w.alloc (.cells #[.slice none 0 0] 80)).heap.size=w.heap.size+1:=ai
 refine wpIn_rangeFunc_ownH rfl ab (gf:=129) (lb:=#[.pointer (some ⟨tb,0,none⟩)]) rfl trivial (enters_of Tryz.func129 ah rfl)
  aaa.out belowK_t (belowK_b ai) oA (fun _=>rfl)
  (fun(pre:List (Nat×Nat)) W=>(∃u,Boxed W w.heap.size 80 u/\W.ownsRow w.heap.size 84 2 u pre.length (pre.flatMap pc)/\True)/\aw w W)
  (fun _ _ _=>False)
  (OwnFrom.and (Own.from (holdsRow_own _ _ _ _ _ (fun pre:List (Nat×Nat)=>pre.length) (fun pre=>pre.flatMap pc) (fun _ _=>True)) _) (ownFrom_below ax ai))
  (fun _ _ _ _ _ hs _ _=>hs)
  ⟨⟨_,bS,kz _ _ _ _,trivial⟩,oA⟩
  (fun x a' W=>∃Bx,w.heap.size<Bx/\OX W Bx x/\a'={ tmps:=#[.slice none 0 0,.func (.func 129) #[] #[.pointer (some ⟨tb,0,none⟩)],.pointer (some ⟨w.heap.size,0,none⟩),undef,.slice none 0 0,.pointer (some ⟨Bx,0,none⟩),.func (.func 129) #[] #[.pointer (some ⟨tb,0,none⟩)],.agg #[I x.1,I x.2],undef,undef,undef,undef,undef],defers:=[] })
  (fun x a' _ X Y row hs hg hr=>by obtain⟨Bx,h1,h2,h3⟩:=hs;exact⟨Bx,h1,avX Bx x () X Y row h2 hg (fun r e=>(hr r e).2),h3⟩)
  ?assign ?body ?done ?stop
 case assign=>
  rintro l pre x W K ⟨⟨u,b1,o1,_⟩,aC⟩ hK;dsimp only[Zk]
  gi_wp2
  exact hK _ _ ((KeepsOthers.alloc _ _).from _) ((Below.refl _ W).alloc aC.size _) ⟨⟨u,b1.alloc _,o1.alloc _,trivial⟩,aC.alloc aC.size _⟩ ⟨W.heap.size,b1.lt,World.alloc_heap_new W _,rfl⟩
 case body=>
  rintro l pre x a' W hl ⟨r,hr⟩ ⟨⟨u,b1,o1,_⟩,aC⟩ ⟨Bx,hBx,bX,rfl⟩ hlt;have c1:=b1.cell;have LQ:pre.length<=1000000:=ab
  have cX:=fun j=>zR W Bx j _ _ _ bX
  have hsW:=aC.size;clear hlt
  gi_wp2_with (gi_at_builtin;refine avW rfl _ _ 80 rfl 84 _ 2 16 Tryz.underlying80 ahv rfl ab ab w.heap.size _ _ _ rfl (o1.alloc _) W.heap.size 1 1 _ 84 rfl (dY _ _) rfl rfl ab bz ?_;intro u2 w1 sT zd;obtain⟨g',cap',rfl⟩:=ownsRow_succ sT;obtain⟨ji,pQ,eD,ow,fc⟩:=b1.appended au o1 hsW ax sT zd;have jV:=ji.cell;have hf1:=ji.frozen)
  have hh:(w1.setCell ⟨w.heap.size,0,none⟩ (.slice (some ⟨g',0,none⟩) (pre.length+1) cap')).ownsRow w.heap.size 84 2 (.slice (some ⟨g',0,none⟩) (pre.length+1) cap') (pre++[x]).length ((pre++[x]).flatMap pc):=by
   rw[List.length_append,pw];simpa [pc] using eD
  exact⟨ow.from _,fc,⟨_,pQ,by first|exact hh|exact⟨hh,trivial⟩⟩,aC.trans fc⟩
 case done=>
  rintro D ys W hD rfl ⟨⟨u,b1,o1,_⟩,aC⟩ hK;have c1:=b1.cell
  gi_wp2
  refine⟨ai,.inl ⟨_,_,rfl,run_takeDeferred hK,?_⟩⟩;exact⟨_,results_tmp rfl _ _ _,_,rfl,ownsRow_putObj o1 _ hK rfl,aC.trans (belowK_b (w:=w) ax W D _ _ (by simp at hD;omega) hK rfl rfl)⟩
 case stop=>
  rintro D c pre W hD _ hf _;exact hf.elim
end
section
open Go.RowKit
theorem ahX (run:List az)(a b:Nat):(a,b)∈nQ run↔a<b/\b<run.length/\qC run a b=true:=by
 unfold nQ xq;rw[BP];constructor
 ·rintro⟨i,hi,h⟩;unfold pf at h;obtain⟨j,hj,e⟩:=dp.1 h;obtain⟨h1,h2⟩:=nD.1 hj;have h3:=gG.1 hi;rw[List.mem_range'_1] at h1;cases e;exact⟨ab,ab,h2⟩
 ·rintro⟨h1,h2,h3⟩;refine⟨a,gG.2 ab,?_⟩;unfold pf;refine dp.2 ⟨b,nD.2 ⟨?_,h3⟩,rfl⟩;rw[List.mem_range'_1];omega
theorem ahY (run:List az)(a b:Nat):b∈aR (nQ run) a↔a<b/\b<run.length/\qC run a b=true:=by
 rw[<-ahX];unfold aR;constructor
 ·intro h;obtain⟨p,hp,e⟩:=dp.1 h;obtain⟨h1,h2⟩:=nD.1 hp;obtain⟨x,y⟩:=p;simp at h2 e;subst h2 e;exact h1
 ·intro h;exact dp.2 ⟨(a,b),nD.2 ⟨h,ai⟩,rfl⟩
theorem avY (run:List az)(a k:Nat):dh run a k=(aR (nQ run) a).any fun b=>b==k||dh run b k:=by
 rw[OK,rZ,yg,yg];constructor
 ·rintro⟨j,hj,h⟩;simp only[bZ,dv] at h;exact⟨j,(ahY run a j).2 ⟨h.1.1,gG.1 hj,h.1.2⟩,h.2⟩
 ·rintro⟨j,hj,h⟩;obtain⟨h1,h2,h3⟩:=(ahY run a j).1 hj;exact⟨j,gG.2 h2,by simp only[bZ,dv];exact⟨⟨h1,h3⟩,h⟩⟩
theorem aab {α β:Type}(f:α->List β)(c:Nat)(l:List α)(h:∀a∈l,(f a).length<=c):(l.flatMap f).length<=l.length*c:=by
 induction l with
 |nil=>simp
 |cons a l ih=>
  have h1:=h a ai;have h2:=ih (fun x hx=>h x (by simp[hx]));simp only[uK,List.length_append,List.length_cons,zQ];omega
theorem ahZ (run:List az)(h:run.length<=64):(nQ run).length<=10000:=by
 unfold nQ xq
 have:=aab (fun j=>pf run j run.length) 64 (List.range run.length) (fun j _=>by
  unfold pf;rw[dI]
  exact bm (oc _ _) (by rw[List.length_range'];omega))
 rw[BN] at this;have h2:run.length*64<=64*64:=uH _ h;omega
theorem avZ (a:Option Addr)(n c:Nat)(w:World):Calls Tryz.prog 69 #[.slice a n c] w fun e w'=>e=.returned (.func (.func 129) #[] #[.pointer (some ⟨w.heap.size,0,none⟩)])/\w'=w.alloc (.cells #[.slice a n c] 23):=by
 go_enter Tryz.func69,Tryz.ntmps69;go_wp2_with fail;go_ret;exact⟨rfl,rfl⟩
theorem collect (run:List az)(tb:Nat)(v:Value)(w:World)(gT:w.cell? ⟨tb,0,none⟩=some v)(hrun:fH w v run)(hlen:run.length<=64):
  Calls Tryz.prog 68 #[.func (.func 129) #[] #[.pointer (some ⟨tb,0,none⟩)]] w fun e w'=>∃u,e=.returned u/\w'.ownsRow w.heap.size 84 2 u (nQ run).length ((nQ run).flatMap pc)/\aw w w':=by
 have hp:=ahZ run hlen;have H:=ae (GC.1 (appendSeq run tb v w gT hrun ab ab));clear hp;go_enter Tryz.func68,Tryz.ntmps68;go_wp2_with fail;refine H.out.mono ?_;rintro e w1 ⟨u,rfl,h1,h2⟩;go_wp2_with fail;go_ret;exact⟨u,rfl,h1,h2⟩
theorem aac (run:List az)(v:Value)(w:World)(hrun:fH w v run)(hlen:run.length<=64):
  Calls Tryz.prog 26 #[v] w fun e w'=>∃p,e=.returned p/\AX w' p run.length (dh run)/\aw w w':=by
 obtain⟨ka,ca,rfl,_⟩:=hrun.open;have aC:aw w (w.alloc (.cells #[.slice ka run.length ca] 23)):=(Below.refl _ _).alloc ax _;have gT:(w.alloc (.cells #[.slice ka run.length ca] 23)).cell? ⟨w.heap.size,0,none⟩=some (.slice ka run.length ca):=(ay.new w _ 23).cell 0;have H:=ae (collect run w.heap.size _ _ gT (hrun.kept aC ax) hlen);have hp:=ahZ run hlen;have Hp:=ae hp;clear hp gT hrun;go_enter Tryz.func26,Tryz.ntmps26;go_wp2_with fail;refine(avZ _ _ _ _).mono ?_;rintro e w1 ⟨rfl,rfl⟩;go_wp2_with fail;refine H.out.mono ?_;rintro e w2 ⟨u,rfl,h1,h2⟩;have cS:=Flat.eB h1;go_wp2_with fail
 refine(avI run.length (nQ run) u w2 cS hlen (fun p hp=>by
  obtain⟨a,b⟩:=p;have:=(ahX run a b).1 hp
  exact⟨this.1,this.2.1⟩) Hp.out (dh run) (fun a _ k _=>avY run a k)).mono ?_
 rintro e w3 ⟨p,rfl,h3,h4⟩;go_wp2_with fail;go_ret;exact⟨p,rfl,h3,(aC.trans (h2.mono ai)).trans (h4.mono (bm aC.size (by have:=h2.size;simpa using this)))⟩
end
section
open Go.RowKit
def xx (f:Nat->Nat->Bool)(m a c:Nat):Bool:=(List.range m).any fun b=>f a b && f b c
theorem aad (f:Nat->Nat->Bool)(m a c:Nat):xx f (m+1) a c=(xx f m a c||(f a m && f m c)):=by
 unfold xx;rw[mn,List.any_append];simp
def vS (f:Nat->Nat->Bool)(n a c:Nat):Bool:=f a c && !xx f n a c
def ma (f:Nat->Nat->Bool)(n a m:Nat):List (Nat×Nat):=((List.range m).filter fun c=>vS f n a c).map fun c=>(a,c)
theorem aia (f:Nat->Nat->Bool)(n a m:Nat):ma f n a (m+1)=ma f n a m++if vS f n a m then [(a,m)] else []:=by
 unfold ma;rw[mn,qz,dm];congr 1;cases h:vS f n a m<;>simp[h]
theorem aib (f:Nat->Nat->Bool)(n a m:Nat):(ma f n a m).length<=m:=by
 unfold ma;rw[dI];exact bm (oc _ _) ai
def fR (f:Nat->Nat->Bool)(n m:Nat):List (Nat×Nat):=(List.range m).flatMap fun a=>ma f n a n
theorem aic (f:Nat->Nat->Bool)(n m:Nat):fR f n (m+1)=fR f n m++ma f n m n:=by
 unfold fR;rw[mn,pw];simp
theorem aid (f:Nat->Nat->Bool)(n m:Nat):(fR f n m).length<=m*n:=by
 have:=aab (fun a=>ma f n a n) n (List.range m) (fun a _=>aib f n a n);rw[BN] at this;exact this
theorem awa (l:List (Nat×Nat))(p:Nat×Nat):(l++[p]).flatMap pc=l.flatMap pc++[I p.1,I p.2]:=by
 rw[pw];rfl
theorem awb (p:Value)(n:Nat)(f:Nat->Nat->Bool)(w:World)(h:AX w p n f):
  Calls Tryz.prog 27 #[p] w fun e w'=>∃v,e=.returned v/\w'.ownsRow w.heap.size 84 2 v (fR f n n).length ((fR f n n).flatMap pc)/\aw w w':=by
 have HO:=ae h;obtain⟨hn,g,gb,c,rfl,h0,h1,hr⟩:=h;have Hr:=ae hr;clear hr
 have yW:∀W:World,(Instr.makeSlice 148 (.int .i64 1) (.int .i64 1)).run Tryz.prog W=.ok (.slice (some ⟨W.heap.size,0,none⟩) 1 1) (W.alloc (.cells #[.int .u64 0] 222)):=fun W=>AZ (P:=Tryz.prog) 148 222 (.int .u64 0) 8 1 Tryz.underlying148 ahK rfl ab ab W
 go_enter Tryz.func27,Tryz.ntmps27;go_wp2_with fail;go_loopw [3,12] (fun vo vi wr=>∃(a:Nat) (av:Option Addr) (ac:Nat),a<=n/\vo=.slice av (fR f n a).length ac/\vi=I a/\Hid (wr.ownsRow w.heap.size 84 2 (.slice av (fR f n a).length ac) (fR f n a).length ((fR f n a).flatMap pc))/\Hid (aw w wr)) (fun _ i _=>n-(intOf i).toNat)
 case atStart=>exact⟨0,none,0,ab,rfl,rfl,ae (kz _ _ _ _),ae (Below.refl _ _)⟩
 case round=>
  obtain⟨a,av,ac,ha,rfl,rfl,gM,HB⟩:=hrel;have jo:=HB.out.size;have d0:=bE HB.out ax h0
  have sQ:g<wr.heap.size:=by simpa using ez _ _ d0
  by_cases hlt:a<n
  ·have hq:((n:Int)+63)/64=1:=ab
   have Be:((n:Int)+63).tdiv 64=1:=by rw[Ww ab];omega
   have aGx:(n:Int)+63<=127:=ab
   obtain⟨w1,rfl⟩:∃w1:World,w1=wr:=⟨_,rfl⟩
   go_wp2_with fail;go_loopw [26] (fun vj wc=>∃(j m:Nat),j<=n/\vj=I j/\ay wc w1.heap.size #[.int .u64 ((m:Nat):Int)]/\m<jk/\Hid (∀k<n,m.testBit k=xx f j a k)/\Hid (aw w1 wc)) (fun j _=>n-(intOf j).toNat)
   case atStart=>exact⟨0,0,ab,rfl,ay.new _ _ _,au,ae (fun k _=>by simp[xx]),ae ((Below.refl _ _).alloc ax _)⟩
   case round=>
    obtain⟨j,m,hj,rfl,hG,hm,Hm,kO⟩:=hrel;have LR:=ae (HB.out.trans (kO.out.mono jo));have c0:=bE LR.out ax h0;have c1:=bE LR.out ax h1;have cQ:=kO.out.size;by_cases eb:j<n
    ·have oC:=ae (Lt _ n f a j wr (HO.out.kept LR.out ax) hlt eb);obtain⟨gi,ci,m',k0,k1,Ll,IJ⟩:=Hr.out j eb;have q0:=bE LR.out ax k0;have q1:=bE LR.out ax k1
     cases cS:f a j with
     |false=>
      rw[cS] at oC;have Hm2:=ae (show∀k<n,m.testBit k=xx f (j+1) a k from fun k hk=>by rw[aad,cS,Hm.out k hk];simp);clear cS k0 k1 IJ
      go_wp2_with (go_at_call 43;refine oC.out.mono ?_;rintro e w3 ⟨rfl,rfl⟩)
      go_roundw
      case rel=>exact⟨j+1,m,ab,by go_num,hG,hm,Hm2,kO⟩
      case measure=>simp[intOf];omega
     |true=>
      rw[cS] at oC;have Hm2:=ae (show∀k<n,(m|||m').testBit k=xx f (j+1) a k from fun k hk=>by rw[aad,cS,Nat.testBit_or,Hm.out k hk,IJ k hk];simp);have HJ:=ae (aht w1.heap.size 0 1 gi 0 ci m m' wr (hG.cell 0) (hG.frozen 0) hm q1 Ll);clear cS k0 k1 IJ
      go_wp2_with (first
       |(go_at_call 43;refine oC.out.mono ?_;rintro e w3 ⟨rfl,rfl⟩)
       |(go_at_call 70;refine HJ.out.mono ?_;rintro e w3 ⟨rfl,rfl⟩))
      go_roundw
      case rel=>exact⟨j+1,m|||m',ab,by go_num,hG.set 0 _,Nl hm Ll,Hm2,ae (kO.out.setCell ax _)⟩
      case measure=>simp[intOf];omega
    ·obtain rfl:j=n:=ab;have Bg:=ae (pB gM.out kO.out);have dE:=aid f j a;have aGy:a*j<=64*64:=og ab ab
     have hav:∀b,(Value.slice av (fR f j a).length ac).ownBlock=some b->b≠w1.heap.size:=fun b hb=>by have:=gM.out.lt b hb;omega
     have IK:=ae hav;have HG:=ae hG;clear hav hG
     obtain⟨w2,rfl⟩:∃w2:World,w2=wr:=⟨_,rfl⟩
     go_wp2_with fail;go_loopw [3,47] (fun vo vi wr=>∃(c k:Nat) (av:Option Addr) (ac:Nat),c<=j/\vo=.slice av k ac/\vi=I c/\Hid (k=(fR f j a++ma f j a c).length)/\Hid (wr.ownsRow w.heap.size 84 2 (.slice av k ac) k ((fR f j a++ma f j a c).flatMap pc))/\Hid (aw w wr)/\Hid (ay wr w1.heap.size #[.int .u64 ((m:Nat):Int)])/\Hid (∀b,(Value.slice av k ac).ownBlock=some b->b≠w1.heap.size)) (fun _ i _=>j-(intOf i).toNat)
     case atStart=>
      refine⟨0,(fR f j a).length,av,ac,ab,rfl,rfl,ae (by simp[ma]),?_,LR,HG,IK⟩;simpa [ma] using Bg
     case round=>
      clear gM Bg IK HG c0 c1;obtain⟨c,k,av,ac,hc,rfl,rfl,Hk,gM,pX,HG,IK⟩:=hrel;have awc:=pX.out.size;have hGl:=HG.out.lt;have awd:=aib f j a c
      have aGz:k<=5000:=by rw[Hk.out,List.length_append];omega
      clear awd;by_cases aie:c<j
      ·have oC:=ae (Lt _ j f a c wr (HO.out.kept pX.out ax) hlt aie);have LS:=ae (ahs w1.heap.size 0 1 m c wr (HG.out.cell 0) hm ab);rw[Hm.out c aie] at LS;have rI:=ae (aia f j a c);unfold vS at rI
       cases cS:f a c with
       |false=>
        rw[cS] at oC rI;have Fa:Hid (ma f j a (c+1)=ma f j a c):=ae (by rw[rI.out];simp);clear cS rI LS
        go_wp2_with (go_at_call 43;refine oC.out.mono ?_;rintro e w3 ⟨rfl,rfl⟩)
        go_roundw
        case rel=>exact⟨c+1,k,av,ac,ab,rfl,by go_num,by rw[Fa.out];exact Hk,by rw[Fa.out];exact gM,pX,HG,IK⟩
        case measure=>simp[intOf];omega
       |true=>
        cases IL:xx f j a c with
        |true=>
         rw[cS] at oC rI;rw[IL] at LS rI;have Fa:Hid (ma f j a (c+1)=ma f j a c):=ae (by rw[rI.out];simp);clear cS IL rI
         go_wp2_with (first
          |(go_at_call 43;refine oC.out.mono ?_;rintro e w3 ⟨rfl,rfl⟩)
          |(go_at_call 71;refine LS.out.mono ?_;rintro e w3 ⟨rfl,rfl⟩))
         go_roundw
         case rel=>exact⟨c+1,k,av,ac,ab,rfl,by go_num,by rw[Fa.out];exact Hk,by rw[Fa.out];exact gM,pX,HG,IK⟩
         case measure=>simp[intOf];omega
        |false=>
         rw[cS] at oC rI;rw[IL] at LS rI;have Fa:Hid (fR f j a++ma f j a (c+1)=(fR f j a++ma f j a c)++[(a,c)]):=ae (by rw[rI.out];simp);clear cS IL rI
         go_wp2_with (first
          |(go_at_call 43;refine oC.out.mono ?_;rintro e w3 ⟨rfl,rfl⟩)
          |(go_at_call 71;refine LS.out.mono ?_;rintro e w3 ⟨rfl,rfl⟩)
          |(at_builtin;go_must (refine tF rfl _ _ 80 rfl 84 _ 2 16 Tryz.underlying80 ahv rfl ab ab w.heap.size (.slice av k ac) k ((fR f j a++ma f j a c).flatMap pc) rfl (gM.out.alloc _) wr.heap.size 1 1 #[I a,I c] 84 rfl (dY _ _) rfl rfl ab ab (by rw[World.size_alloc];omega) ?_);intro g5 ui w5 fX gL jn jI nT eM))
         go_roundw
         case rel=>
          refine⟨c+1,k+1,some ⟨g5,0,none⟩,ui,ab,rfl,by go_num,?_,?_,ae ((pX.out.alloc awc _).trans eM),ae ((HG.out.alloc _).grown nT (fun e=>IK.out _ e rfl)),?_⟩
          ·rw[Fa.out,List.length_append,<-Hk.out];exact ae rfl
          ·rw[Fa.out,awa];exact ae jI
          ·refine ae fun b hb=> ?_
           obtain rfl:g5=b:=by simpa [Value.ownBlock] using hb
           rcases jn with h|h
           ·exact IK.out _ h
           ·rw[World.size_alloc] at h;omega
         case measure=>simp[intOf];omega
      ·obtain rfl:c=j:=ab;have ze:Hid (fR f c (a+1)=fR f c a++ma f c a c):=ae (aic f c a);rw[<-ze.out] at Hk gM;have Hk2:=ae Hk.out;go_wp2_with fail;go_roundw
       case rel=>
        have:=Hk2.out;subst this;exact⟨a+1,av,ac,ab,rfl,by go_num,gM,pX⟩
       case measure=>simp[intOf];omega
  ·obtain rfl:a=n:=ab;go_wp2_with fail;go_ret;exact⟨_,rfl,gM.out,HB.out⟩
end
end Go.Proofs.YtkanpepkdcmpmaaGreatDoor
