import Derived.Test.YtlnghiefahcnpaaGreatQ26
import Derived.Maps.AppendAt
set_option maxHeartbeats 40000000
set_option maxRecDepth 100000
set_option linter.all false
namespace Go.Proofs.YtlnghiefahcnpaaGreat
section
open Go.RowKit Go.Shelf
attribute [local go_sem] Oper.semAt_some
theorem akA (n:Nat)(hn:1<=n)(run:List af)(tb:Nat)(v:Value)(w0:World)(iY:w0.cell? ⟨tb,0,none⟩=some v)(hrun:bU w0 v run)(hlen:run.length<=1000000):
  SeqStopsK Fence.wide n Tryz.prog 118 #[.pointer (some ⟨tb,0,none⟩)] Ls (Below w0.heap.size) (fun xs=>xs=jK run) (fun pre=>pre<+:jK run) (jK run).length w0:=by
 intro l J Jx W hW hJ hJx hY h0;obtain⟨ka,ca,rfl,ft⟩:=hrun.open
 have fC:tb<w0.heap.size:=by simpa using ic _ _ iY
 have awF:Tryz.prog.follows .mixedOrders=true:=ah;have HY:=ab hY;clear hY;refine callsIn_of_wp Tryz.func118 rfl trivial ?_ rfl;simp only[Tryz.ntmps118,zr,List.length_cons,List.length_nil,Nat.reduceAdd,Nat.reduceSub,Hw,Hy,List.push_toArray,HD,List.nil_append,List.cons_append];have Ip:=(hW.cell (p:=⟨tb,0,none⟩) fC).trans iY
 gi_wp2
 gi_loopw [7] (fun p wr=>∃i:Nat,i<=run.length/\p=.int .i64 i/\Below w0.heap.size w0 wr/\J (qK run i) wr) (fun p _=>run.length-(intOf p).toNat)
 case atStart=>exact⟨0,aa,rfl,hW,h0⟩
 case round=>
  obtain⟨i,hi,rfl,hB,Mg⟩:=hrel;have ya:=(hB.cell (p:=⟨tb,0,none⟩) fC).trans iY;by_cases hlt:i<run.length
  ·gi_wp2
   gi_loopw [4] (fun p wr=>∃k:Nat,i+1<=k/\k<=run.length/\p=.int .i64 k/\Below w0.heap.size w0 wr/\J (qK run i++kI run i k) wr) (fun p _=>run.length-(intOf p).toNat)
   case atStart=>exact⟨i+1,aa,aa,by go_num,hB,by rw[ajt,vS];exact Mg⟩
   case round=>
    clear hB Mg ya;obtain⟨k,Eg,hk,rfl,hB,BQ⟩:=hrel;have ya:=(hB.cell (p:=⟨tb,0,none⟩) fC).trans iY;by_cases cH:k<run.length
    ·obtain⟨b,o,va,vs,rfl,dy,dk,x0,x1,x2,x3,x4,x5,x6,x7,x8,x9,x10⟩:=(hrun.kept hB av).at (i:=i) (s:=run[i]) (by simp[hlt]);obtain⟨b',o',ua,us,ed,oh,om,y0,y1,y2,y3,y4,y5,y6,y7,y8,y9,y10⟩:=(hrun.kept hB av).at (i:=k) (s:=run[k]) (by simp[cH]);simp at ed;obtain⟨rfl,rfl⟩:=ed
     have c:=fun W (IC:Below wr.heap.size wr W)=>ajn run[i] run[k] (run[i].val va vs) (run[k].val ua us) W ⟨va,vs,rfl,dy.kept IC av,dk.kept IC av⟩ ⟨ua,us,rfl,oh.kept IC av,om.kept IC av⟩
     have ye:=aju run i k Eg;rw[Ic hlt cH] at ye;have Hs:=ab ye;clear ye;by_cases hd:bP run[i] run[k]=true
     ·rw[hd] at c;simp only[af.val,af.row] at c;have C:=ab c;rw[hd,if_pos rfl] at Hs
      have wA:qK run i++kI run i k++[(i,k)]<+:jK run:=by
       rw[List.append_assoc,<-Hs.out];exact ajx run i (k+1) hlt aa aa
      have LC:=ab (show(qK run i++kI run i k).length<(jK run).length by
       have:=wA.length_le;simp at this⊢
       omega)
      have Hpp:=ab wA;clear c hd wA
      gi_wp2
      have Mh:tb<wr.heap.size:=jm fC hB.size
      have akB:b<wr.heap.size:=by simpa using ic _ _ x0
      refine Lf 14 [(0,true),(1,true),(2,true),(3,true),(4,true),(5,true),(6,true),(7,true),(8,false),(9,true),(10,true),(11,true),(12,true),(13,true)] (fun w'=>∀b o,b<wr.heap.size->w'.cell? ⟨b,o,none⟩=wr.cell? ⟨b,o,none⟩) ah rfl rfl ah ah (fun _ _ _ _ h=>h) (fun _ _ _=>rfl) ?_
      iterate 8 refine BC ?_
      refine Lg (fun K hK=> ?_);go_simp;refine⟨trivial,?_⟩;refine(callsIn_wide.2 (C.out _ bc)).mono ?_;rintro e w1 ⟨rfl,ay⟩;have nh:Below wr.heap.size wr w1:=Below.then (w:=wr) bc ay;have Mi:=hJ _ wr w1 none BQ ⟨nh.os,nh.tape,nh.output,nh.size,fun q hq _=>nh.block q hq⟩ (fun _ h=>by cases h);obtain⟨fn,tmps,assign,body,hy,hR⟩:=HY.out _ (i,k) w1 Mi LC.out;dsimp only[Ls] at hy;refine hK.out _ _ (fun b o hb=>nh.cell (p:=⟨b,o,none⟩) hb) ?_;clear hK K
      (try simp only[Act.put,List.setIfInBounds_toArray,List.set_cons_zero,List.set_cons_succ])
      iterate 5 refine BC ?_
      refine HP ?_
      gi_wp2
      refine hR.mono ?_;rintro e w2 (⟨rfl,hJ2,mY⟩|⟨rfl,akC⟩)
      ·gi_wp2
       go_roundw
       case rel=>exact⟨k+1,aa,aa,by go_num,hB.trans ((nh.mono hB.size).trans mY),by rw[Hs.out,<-List.append_assoc];exact hJ2⟩
       case measure=>simp[intOf];omega
      ·gi_wp2
       refine bodyPost_ret (results_none rfl _ _ _) rfl ?_;exact⟨⟨_,rfl⟩,.inr ⟨_,Hpp.out,akC⟩⟩
     ·have sb:bP run[i] run[k]=false:=by simpa using hd
      rw[sb] at c;simp only[af.val,af.row] at c;have C:=ab c;rw[sb,if_neg ae] at Hs;clear c hd sb
      gi_wp2
      have Mh:tb<wr.heap.size:=jm fC hB.size
      have akB:b<wr.heap.size:=by simpa using ic _ _ x0
      refine Lf 14 [(0,true),(1,true),(2,true),(3,true),(4,true),(5,true),(6,true),(7,true),(8,false),(9,true),(10,true),(11,true),(12,true),(13,true)] (fun w'=>∀b o,b<wr.heap.size->w'.cell? ⟨b,o,none⟩=wr.cell? ⟨b,o,none⟩) ah rfl rfl ah ah (fun _ _ _ _ h=>h) (fun _ _ _=>rfl) ?_
      iterate 8 refine BC ?_
      refine Lg (fun K hK=> ?_);go_simp;refine⟨trivial,?_⟩;refine(callsIn_wide.2 (C.out _ bc)).mono ?_;rintro e w1 ⟨rfl,ay⟩;have nh:Below wr.heap.size wr w1:=Below.then (w:=wr) bc ay;have Mi:=hJ _ wr w1 none BQ ⟨nh.os,nh.tape,nh.output,nh.size,fun q hq _=>nh.block q hq⟩ (fun _ h=>by cases h);refine hK.out _ _ (fun b o hb=>nh.cell (p:=⟨b,o,none⟩) hb) ?_;clear hK K
      (try simp only[Act.put,List.setIfInBounds_toArray,List.set_cons_zero,List.set_cons_succ])
      iterate 1 refine BC ?_
      iterate 4 refine aiV ?_
      refine HP ?_
      gi_wp2
      all_goals (try refine⟨fun _ _=>trivial,?_⟩)
      all_goals gi_wp2
      go_roundw
      case rel=>exact⟨k+1,aa,aa,by go_num,hB.trans (nh.mono hB.size),by rw[Hs.out,vS];exact Mi⟩
      case measure=>simp[intOf];omega
    ·have eQ:k=run.length:=aa
     gi_wp2
     go_roundw
     case rel=>exact⟨i+1,aa,by go_num,hB,by rw[Lr,<-eQ];exact BQ⟩
     case measure=>simp[intOf];omega
  ·have wj:i=run.length:=aa
   gi_wp2
   go_end0;subst wj;exact⟨⟨_,rfl⟩,.inl ⟨_,rfl,Mg⟩⟩
end
section
open Go.RowKit Go.Shelf
attribute [local go_sem] Oper.semAt_some
theorem akD {F:Fence}{nn:Nat}{P:Program}{w:World}{ops:Array Oper}{rest:List Oper}{o:Oper}{a:Act}{Q:Exit->Act->World->Prop}(ez:o.guard=none)(s x:Operand)(t:TypeId)
  (ho:o.op=.call { callee:=.builtin .append,args:=#[s,x],argTypes:=#[t,t] })
  (e:TypeId) (z:Value) (k bytes:Nat) (ht:P.underlying t=some (.slice e)) (mO:(P.info? e).map (fun i=>(i.zero,i.size,i.bytes))=some (some z,k,bytes)) (po:z.cells.size=k) (hk:0<k) (kq:bytes<=1000)
  (B:Nat) (v:Value) (n:Nat) (xs:List Value) (hs:a.eval s=v) (bE:w.ownsRow B e k v n xs)
  (b m c:Nat) (cs:Array Value) (t':TypeId) (hx:a.eval x=.slice (some ⟨b,0,none⟩) m c) (eN:w.heap[b]? =some (.cells cs t' (0,0))) (hl:cs.size=m*k) (h1:cs.toList.all Value.oneCell'=true)
  (kE:n+m<=100000000) (lY:B<=w.heap.size)
  (h:∀u w',w'.ownsRow B e k u (n+m) (xs++cs.toList)->w.grownBy w' v.ownBlock->wpListIn F nn P ops Q rest (a.put o.dst u) w'):wpListIn F nn P ops Q (o::rest) a w:=by
 obtain⟨i0,hi,jn,ij,kF⟩:=info_parts mO
 refine wpListIn_append_own w ez s x t ho B e i0 z k bytes ht hi jn ij kF po hk v n xs hs bE ⟨b,0,none⟩ m c cs.toList hx (by simpa using hl) (fun j u hu=> ?_) (dY.1 h1) (by unfold maxLen;omega)
  (Nat.le_trans (Nat.mul_le_mul kE kq) aa) lY ?_
 ·have lq:(⟨b,0,none⟩:Addr).add j=⟨b,0+j,none⟩:=by unfold Addr.add;split<;>simp_all
  rw[lq,fK,cell_of_row w b j cs t' _ eN];simpa using hu
 ·intro u w' h2 h3 _;exact h u w' h2 h3
def Ex (W:World)(B:Nat)(x:Nat×Nat):Prop:=W.heap[B]? =some (.cells #[I x.1,I x.2] 168 (0,0))
theorem Ex.lt {W:World}{B:Nat}{x:Nat×Nat}(h:Ex W B x):B<W.heap.size:=(vM.1 h).1
theorem akE (B:Nat)(x:Nat×Nat):Own (fun(_:Unit) W=>Ex W B x):=fun _ X Y row hs hg bD=>
 (hg.block B (Ex.lt hs) (fun e=>by
  obtain⟨o,ho,hc⟩:=bD B e.symm;rw[show X.heap[B]? =_ from hs] at ho;cases ho
  cases hc)).trans hs
theorem appendSeq (run:List af)(tb:Nat)(v:Value)(w:World)(iY:w.cell? ⟨tb,0,none⟩=some v)(hrun:bU w v run)(hlen:run.length<=1000000)(fF:(jK run).length<=1000000):
  CallsIn Fence.wide 5 Tryz.prog 117 #[.slice none 0 0,.func (.func 118) #[] #[.pointer (some ⟨tb,0,none⟩)]] w fun e w'=>∃u,e=.returned u/\w'.ownsRow w.heap.size 168 2 u (jK run).length ((jK run).flatMap pc)/\Below w.heap.size w w':=by
 have Wh:=akA (5-1) aa run tb v w iY hrun hlen;have akF:=ab Wh;clear Wh;refine callsIn_of_wp_marks Tryz.func117 rfl trivial ?_ rfl;simp only[Tryz.ntmps117,zr,List.length_cons,List.length_nil,Nat.reduceAdd,Nat.reduceSub,Hw,Hy,List.push_toArray,HD,List.nil_append,List.cons_append]
 gi_wp2
 have bS:=Boxed.new w 166 (.slice none 0 0);have rT:Below w.heap.size w (w.alloc (.cells #[.slice none 0 0] 166)):=(Below.refl _ w).alloc av _;have hsz:(w.alloc (.cells #[.slice none 0 0] 166)).heap.size=w.heap.size+1:=ae
 refine wpIn_rangeFunc_ownH rfl aa (gf:=118) (lb:=#[.pointer (some ⟨tb,0,none⟩)]) rfl trivial (enters_of Tryz.func118 ah rfl)
  akF.out belowK_t (belowK_b ae) rT (fun _=>rfl)
  (fun(pre:List (Nat×Nat)) W=>(∃u,Boxed W w.heap.size 166 u/\W.ownsRow w.heap.size 168 2 u pre.length (pre.flatMap pc)/\True)/\Below w.heap.size w W)
  (fun _ _ _=>False)
  (OwnFrom.and (Own.from (holdsRow_own _ _ _ _ _ (fun pre:List (Nat×Nat)=>pre.length) (fun pre=>pre.flatMap pc) (fun _ _=>True)) _) (ownFrom_below av ae))
  (fun _ _ _ _ _ hs _ _=>hs)
  ⟨⟨_,bS,lf _ _ _ _,trivial⟩,rT⟩
  (fun x a' W=>∃Bx,w.heap.size<Bx/\Ex W Bx x/\a'={ tmps:=#[.slice none 0 0,.func (.func 118) #[] #[.pointer (some ⟨tb,0,none⟩)],.pointer (some ⟨w.heap.size,0,none⟩),undef,.slice none 0 0,.pointer (some ⟨Bx,0,none⟩),.func (.func 118) #[] #[.pointer (some ⟨tb,0,none⟩)],.agg #[I x.1,I x.2],undef,undef,undef,undef,undef],defers:=[] })
  (fun x a' _ X Y row hs hg hr=>by obtain⟨Bx,h1,h2,h3⟩:=hs;exact⟨Bx,h1,akE Bx x () X Y row h2 hg (fun r e=>(hr r e).2),h3⟩)
  ?assign ?body ?done ?stop
 case assign=>
  rintro l pre x W K ⟨⟨u,b1,o1,_⟩,ay⟩ hK;dsimp only[Ls]
  gi_wp2
  exact hK _ _ ((KeepsOthers.alloc _ _).from _) ((Below.refl _ W).alloc ay.size _) ⟨⟨u,b1.alloc _,o1.alloc _,trivial⟩,ay.alloc ay.size _⟩ ⟨W.heap.size,b1.lt,World.alloc_heap_new W _,rfl⟩
 case body=>
  rintro l pre x a' W hl ⟨r,hr⟩ ⟨⟨u,b1,o1,_⟩,ay⟩ ⟨Bx,hBx,bX,rfl⟩ hlt;have c1:=b1.cell;have awG:pre.length<=1000000:=aa
  have cX:=fun j=>cell_of_row W Bx j _ _ _ bX
  have hsW:=ay.size;clear hlt
  gi_wp2_with (gi_at_builtin;refine akD rfl _ _ 166 rfl 168 _ 2 16 Tryz.underlying166 ajy rfl aa aa w.heap.size _ _ _ rfl (o1.alloc _) W.heap.size 1 1 _ 168 rfl (jH _ _) rfl rfl aa (by simp;omega) ?_;intro u2 w1 xV akG;obtain⟨g',cap',rfl⟩:=ownsRow_succ xV;obtain⟨jt,rV,oB,mY,fq⟩:=b1.appended ai o1 hsW av xV akG;have iI:=jt.cell;have Wi:=jt.frozen)
  have hh:(w1.setCell ⟨w.heap.size,0,none⟩ (.slice (some ⟨g',0,none⟩) (pre.length+1) cap')).ownsRow w.heap.size 168 2 (.slice (some ⟨g',0,none⟩) (pre.length+1) cap') (pre++[x]).length ((pre++[x]).flatMap pc):=by
   rw[List.length_append,Bi];simpa [pc] using oB
  exact⟨mY.from _,fq,⟨_,rV,by first|exact hh|exact⟨hh,trivial⟩⟩,ay.trans fq⟩
 case done=>
  rintro D ys W hD rfl ⟨⟨u,b1,o1,_⟩,ay⟩ hK;have c1:=b1.cell
  gi_wp2
  refine⟨ae,.inl ⟨_,_,rfl,run_takeDeferred hK,?_⟩⟩;exact⟨_,results_tmp rfl _ _ _,_,rfl,ownsRow_putObj o1 _ hK rfl,ay.trans (belowK_b (w:=w) av W D _ _ (by simp at hD;omega) hK rfl rfl)⟩
 case stop=>
  rintro D c pre W hD _ hf _;exact hf.elim
end
section
open Go.RowKit
theorem Wj (run:List af)(a b:Nat):(a,b)∈jK run↔a<b/\b<run.length/\ow run a b=true:=by
 unfold jK qK;rw[DU];constructor
 ·rintro⟨i,hi,h⟩;unfold kI at h;obtain⟨j,hj,e⟩:=fZ.1 h;obtain⟨h1,h2⟩:=jG.1 hj;have h3:=eF.1 hi;rw[List.mem_range'_1] at h1;cases e;exact⟨aa,aa,h2⟩
 ·rintro⟨h1,h2,h3⟩;refine⟨a,eF.2 aa,?_⟩;unfold kI;refine fZ.2 ⟨b,jG.2 ⟨?_,h3⟩,rfl⟩;rw[List.mem_range'_1];omega
theorem Wk (run:List af)(a b:Nat):b∈bu (jK run) a↔a<b/\b<run.length/\ow run a b=true:=by
 rw[<-Wj];unfold bu;constructor
 ·intro h;obtain⟨p,hp,e⟩:=fZ.1 h;obtain⟨h1,h2⟩:=jG.1 hp;obtain⟨x,y⟩:=p;simp at h2 e;subst h2 e;exact h1
 ·intro h;exact fZ.2 ⟨(a,b),jG.2 ⟨h,ae⟩,rfl⟩
theorem akH (run:List af)(a k:Nat):fw run a k=(bu (jK run) a).any fun b=>b==k||fw run b k:=by
 rw[Ie,zu,qy,qy];constructor
 ·rintro⟨j,hj,h⟩;simp only[bN,dv] at h;exact⟨j,(Wk run a j).2 ⟨h.1.1,eF.1 hj,h.1.2⟩,h.2⟩
 ·rintro⟨j,hj,h⟩;obtain⟨h1,h2,h3⟩:=(Wk run a j).1 hj;exact⟨j,eF.2 h2,by simp only[bN,dv];exact⟨⟨h1,h3⟩,h⟩⟩
theorem akI {α β:Type}(f:α->List β)(c:Nat)(l:List α)(h:∀a∈l,(f a).length<=c):(l.flatMap f).length<=l.length*c:=by
 induction l with
 |nil=>simp
 |cons a l ih=>
  have h1:=h a ae;have h2:=ih (fun x hx=>h x (by simp[hx]));simp only[zp,List.length_append,List.length_cons,tu];omega
theorem Wl (run:List af)(h:run.length<=64):(jK run).length<=10000:=by
 unfold jK qK
 have:=akI (fun j=>kI run j run.length) 64 (List.range run.length) (fun j _=>by
  unfold kI;rw[List.length_map]
  exact Nat.le_trans (List.length_filter_le _ _) (by rw[List.length_range'];omega))
 rw[xA] at this;have h2:run.length*64<=64*64:=pe _ h;omega
theorem akJ (a:Option Addr)(n c:Nat)(w:World):Calls Tryz.prog 75 #[.slice a n c] w fun e w'=>e=.returned (.func (.func 118) #[] #[.pointer (some ⟨w.heap.size,0,none⟩)])/\w'=w.alloc (.cells #[.slice a n c] 28):=by
 go_enter Tryz.func75,Tryz.ntmps75;go_wp2_with fail;go_ret;exact⟨rfl,rfl⟩
theorem collect (run:List af)(tb:Nat)(v:Value)(w:World)(iY:w.cell? ⟨tb,0,none⟩=some v)(hrun:bU w v run)(hlen:run.length<=64):
  Calls Tryz.prog 74 #[.func (.func 118) #[] #[.pointer (some ⟨tb,0,none⟩)]] w fun e w'=>∃u,e=.returned u/\w'.ownsRow w.heap.size 168 2 u (jK run).length ((jK run).flatMap pc)/\Below w.heap.size w w':=by
 have hp:=Wl run hlen;have H:=ab (callsIn_wide.1 (appendSeq run tb v w iY hrun aa aa));clear hp;go_enter Tryz.func74,Tryz.ntmps74;go_wp2_with fail;refine H.out.mono ?_;rintro e w1 ⟨u,rfl,h1,h2⟩;go_wp2_with fail;go_ret;exact⟨u,rfl,h1,h2⟩
theorem akK (run:List af)(v:Value)(w:World)(hrun:bU w v run)(hlen:run.length<=64):
  Calls Tryz.prog 40 #[v] w fun e w'=>∃p,e=.returned p/\zB w' p run.length (fw run)/\Below w.heap.size w w':=by
 obtain⟨ka,ca,rfl,_⟩:=hrun.open;have ay:Below w.heap.size w (w.alloc (.cells #[.slice ka run.length ca] 28)):=(Below.refl _ _).alloc av _;have iY:(w.alloc (.cells #[.slice ka run.length ca] 28)).cell? ⟨w.heap.size,0,none⟩=some (.slice ka run.length ca):=(az.new w _ 28).cell 0;have H:=ab (collect run w.heap.size _ _ iY (hrun.kept ay av) hlen);have hp:=Wl run hlen;have Hp:=ab hp;clear hp iY hrun;go_enter Tryz.func40,Tryz.ntmps40;go_wp2_with fail;refine(akJ _ _ _ _).mono ?_;rintro e w1 ⟨rfl,rfl⟩;go_wp2_with fail;refine H.out.mono ?_;rintro e w2 ⟨u,rfl,h1,h2⟩;have dM:=Flat.iU h1;go_wp2_with fail
 refine(ako run.length (jK run) u w2 dM hlen (fun p hp=>by
  obtain⟨a,b⟩:=p;have:=(Wj run a b).1 hp
  exact⟨this.1,this.2.1⟩) Hp.out (fw run) (fun a _ k _=>akH run a k)).mono ?_
 rintro e w3 ⟨p,rfl,h3,h4⟩;go_wp2_with fail;go_ret;exact⟨p,rfl,h3,(ay.trans (h2.mono ae)).trans (h4.mono (Nat.le_trans ay.size (by have:=h2.size;simpa using this)))⟩
end
section
open Go.RowKit
def jM (run:List af)(i:Nat):List Int:=(run[i]?.map af.key).getD []
theorem BZ {run:List af}{i:Nat}(h:i<run.length):jM run i=run[i].key:=by simp[jM,h]
def Ca (run:List af)(done:List Nat)(i m:Nat):Bool:=(List.range m).all fun k=> !fw run k i||decide (k∈done)
def jN (run:List af)(done:List Nat)(i:Nat):Bool:=!decide (i∈done) && Ca run done i run.length
def sf (run:List af)(m:Nat):Option Nat->Bool
 |none=>true
 |some j=>decide (aQ (jM run m) (jM run j)<0)
def gE (run:List af)(done:List Nat):Nat->Option Nat
 |0=>none
 |m+1=>if jN run done m && sf run m (gE run done m) then some m else gE run done m
def wB (run:List af):Nat->List Nat->List Nat
 |0,done=>done
 |f+1,done=>match gE run done run.length with
  |some b=>wB run f (done++[b])
  |none=>done
def Ey (run:List af):List Nat:=wB run run.length []
def ff (run:List af)(l:List Nat):List af:=l.filterMap fun i=>run[i]?
def ix (run:List af):List af:=ff run (Ey run)
theorem Ez (run:List af)(done:List Nat):∀(m:Nat) (b:Nat),gE run done m=some b->b<m/\jN run done b=true
 |0,_,h=>by cases h
 |m+1,b,h=>by
  rw[gE] at h;by_cases hc:(jN run done m && sf run m (gE run done m))=true
  ·rw[if_pos hc] at h;cases h;simp only[bN] at hc;exact⟨aa,hc.1⟩
  ·rw[if_neg hc] at h;have:=Ez run done m b h;exact⟨aa,this.2⟩
theorem Mj (run:List af)(done:List Nat):∀(m:Nat),gE run done m=none->∀i<m,jN run done i=false
 |0,_,i,hi=>aa
 |m+1,h,i,hi=>by
  rw[gE] at h;by_cases hc:(jN run done m && sf run m (gE run done m))=true
  ·rw[if_pos hc] at h;cases h
  ·by_cases ID:i=m
   ·subst ID;rw[zt];intro hf;rw[if_neg hc] at h;rw[h,hf] at hc;simp[sf] at hc
   ·rw[if_neg hc] at h;exact Mj run done m h i aa
theorem Wm (run:List af)(done:List Nat):∀(m i:Nat),i<m->i<run.length->i∉done->∃j,j<run.length/\jN run done j=true
 |0,i,h,_,_=>aa
 |m+1,i,h,hi,hd=>by
  by_cases hx:∃j,j<i/\j∉done
  ·obtain⟨j,hj,EA⟩:=hx;exact Wm run done m j aa aa EA
  ·refine⟨i,hi,?_⟩;simp only[jN,bN,xC,lV];refine⟨hd,?_⟩;unfold Ca;rw[dY];intro k hk;by_cases hl:fw run k i=true
   ·have vV:=(BG run run.length k i aa hl).1
    have:k∈done:=by
     by_cases sg:k∈done
     ·exact sg
     ·exact absurd ⟨k,vV,sg⟩ hx
    simp[this]
   ·simp[hl]
theorem Wn (run:List af)(done:List Nat)(h:∃i,i<run.length/\i∉done):∃b,gE run done run.length=some b/\b<run.length/\b∉done:=by
 obtain⟨i,hi,hd⟩:=h
 cases hp:gE run done run.length with
 |none=>
  obtain⟨j,hj,hf⟩:=Wm run done (i+1) i aa hi hd;rw[Mj run done _ hp j hj] at hf;cases hf
 |some b=>
  have:=Ez run done _ b hp;refine⟨b,rfl,this.1,?_⟩;have h2:=this.2;simp only[jN,bN,xC,lV] at h2;exact h2.1
theorem Wo (n:Nat)(l:List Nat)(h:l.length<n):∃i,i<n/\i∉l:=by
 refine zk fun hc=> ?_
 have gu:∀i,i<n->i∈l:=fun i hi=>zk fun h'=>hc ⟨i,hi,h'⟩
 have ik:List.range n⊆l:=fun i hi=>gu i (eF.1 hi)
 have:=(DT (n:=n)).length_le_of_subset ik;simp at this;omega
theorem Wp (run:List af)(done:List Nat)(f:Nat)(b:Nat)(h:gE run done run.length=some b):wB run (f+1) done=wB run f (done++[b]):=by
 rw[wB,h]
theorem akL (run:List af)(l:List Nat)(b:Nat)(h:b<run.length):ff run (l++[b])=ff run l++[run[b]]:=by
 simp[ff,h]
def IE:Option Nat->Int|none=> -1|some b=>b
def eD (run:List af)(d:List Nat)(i:Nat):Nat:=((List.range run.length).filter fun k=>fw run k i && !decide (k∈d)).length
def oC (run:List af)(i m:Nat):Nat:=((List.range m).filter fun k=>fw run k i).length
theorem Wq (p q:Nat->Bool)(b:Nat)(h1:p b=true)(h2:q b=false):∀n,b<n->(∀k<n,k≠b->p k=q k)->((List.range n).filter p).length=((List.range n).filter q).length+1
 |0,h,_=>aa
 |n+1,h,hk=>by
  rw[qA,fY,fY,List.length_append,List.length_append];by_cases e:b=n
  ·subst e
   have:(List.range b).filter p=(List.range b).filter q:=List.filter_congr fun k tw=>hk k (by have:=eF.1 tw;omega) (by have:=eF.1 tw;omega)
   rw[this];simp[h1,h2]
  ·rw[Wq p q b h1 h2 n aa (fun k tw=>hk k aa)];have:=hk n aa (fun e'=>e e'.symm);simp only[oe,List.filter_nil,this];omega
theorem Ws (run:List af)(d:List Nat)(b i:Nat)(hb:b<run.length)(hd:b∉d):eD run d i=eD run (d++[b]) i+if fw run b i then 1 else 0:=by
 unfold eD;by_cases h:fw run b i=true
 ·rw[if_pos h]
  refine Wq _ _ b (by simp[h,hd]) ae _ hb fun k _ Mk=> ?_
  simp[Mk]
 ·rw[if_neg h,qB];congr 1
  refine List.filter_congr fun k _=> ?_
  by_cases e:k=b
  ·subst e;simp[h]
  ·simp[e]
theorem Wt (run:List af)(i m:Nat):oC run i (m+1)=oC run i m+if fw run m i then 1 else 0:=by
 unfold oC;rw[qA,fY,List.length_append];by_cases h:fw run m i<;>simp[h]
theorem akM (run:List af)(i:Nat)(hi:i<run.length):oC run i i=eD run [] i:=by
 have key:∀d,oC run i (i+d)=oC run i i:=fun d=>by
  induction d with
  |zero=>rfl
  |succ d ih=>
   rw[show i+(d+1)=(i+d)+1 by omega,Wt,ih,UA run (i+d) i aa];simp
 have:=key (run.length-i);rw[show i+(run.length-i)=run.length by omega] at this;rw[<-this];unfold oC eD;simp
theorem Wu (run:List af)(d:List Nat)(i:Nat):eD run d i<=run.length:=by
 unfold eD;exact Nat.le_trans (List.length_filter_le _ _) (by rw[xA];omega)
theorem akN (run:List af)(i m:Nat):oC run i m<=m:=by
 unfold oC;exact Nat.le_trans (List.length_filter_le _ _) (by rw[xA];omega)
theorem akO (run:List af)(d:List Nat)(i:Nat):Ca run d i run.length=decide (eD run d i=0):=by
 rw[zu];unfold Ca eD;rw[dv,Hi,List.filter_eq_nil_iff,dY];constructor
 ·intro h k hk;have:=h k hk;simp only[og,xC,dv] at this;simp only[bN,xC,lV,not_and,Classical.not_not];intro h1
  rcases this with h2|h2
  ·rw[h1] at h2;cases h2
  ·exact h2
 ·intro h k hk;have:=h k hk;simp only[bN,xC,lV,not_and,Classical.not_not] at this;simp only[og,xC,dv];by_cases hl:fw run k i=true
  ·exact .inr (this hl)
  ·exact .inl (by simpa using hl)
theorem Wv (run:List af)(d:List Nat)(i:Nat):jN run d i=(!decide (i∈d) && decide (eD run d i=0)):=by rw[jN,akO]
theorem Ww (run:List af)(l:List Nat)(h:∀i∈l,i<run.length):(ff run l).length=l.length:=by
 induction l with
 |nil=>rfl
 |cons a l ih=>
  have h1:=h a ae;have h2:=ih (fun i hi=>h i (by simp[hi]));unfold ff at h2⊢;simp[h1,h2]
theorem Wx (run:List af)(d:List Nat)(m:Nat)(h1:jN run d m=true)(h2:sf run m (gE run d m)=true):gE run d (m+1)=some m:=by rw[gE,h1,h2];rfl
theorem Ml (run:List af)(d:List Nat)(m:Nat)(h:jN run d m=false\/sf run m (gE run d m)=false):gE run d (m+1)=gE run d m:=by
 rw[gE]
 rcases h with h|h<;>simp[h]
end
section
open Go.RowKit
def oD (W:World)(g n:Nat)(d:List Nat):Prop:=∃arr:Array Value,az W g arr/\arr.size=n/\∀b<n,arr[b]? =some (.bool (decide (b∈d)))
theorem oD.cell {W:World}{g n:Nat}{d:List Nat}(h:oD W g n d){b:Nat}(hb:b<n):W.cell? ⟨g,b,none⟩=some (.bool (decide (b∈d)))/\W.frozen? ⟨g,b,none⟩=false:=by
 obtain⟨wa,h1,h2,h3⟩:=h;exact⟨(h1.cell b).trans (h3 b hb),h1.frozen b⟩
theorem oD.set {W:World}{g n:Nat}{d:List Nat}(h:oD W g n d)(b:Nat):oD (W.setCell ⟨g,b,none⟩ (.bool true)) g n (d++[b]):=by
 obtain⟨wa,h1,h2,h3⟩:=h;refine⟨_,h1.set b _,by rw[xx];exact h2,fun c hc=> ?_⟩;by_cases e:b=c
 ·subst e;rw[qq (by rw[h2];exact hc)];simp
 ·rw[oY e,h3 c hc];simp[Ne.symm e]
theorem oD.kept {W W':World}{g n B:Nat}{d:List Nat}(h:oD W g n d)(hb:Below B W W')(hg:g<B):oD W' g n d:=by
 obtain⟨wa,h1,h2,h3⟩:=h;exact⟨wa,h1.kept hb hg,h2,h3⟩
theorem oD.pk {W:World}{g n:Nat}{d:List Nat}(h:oD W g n d)(a:Addr)(v:Value)(hne:a.block≠g):oD (W.setCell a v) g n d:=by
 obtain⟨wa,h1,h2,h3⟩:=h;exact⟨wa,h1.pk a v hne,h2,h3⟩
theorem fE.pk {W:World}{g n:Nat}{t:Nat->Nat}(h:fE W g n t)(a:Addr)(v:Value)(hne:a.block≠g):fE (W.setCell a v) g n t:=by
 obtain⟨wa,h1,h2,h3⟩:=h;exact⟨wa,h1.pk a v hne,h2,h3⟩
theorem fE.alloc {W:World}{g n:Nat}{t:Nat->Nat}(h:fE W g n t)(o:Obj):fE (W.alloc o) g n t:=by
 obtain⟨wa,h1,h2,h3⟩:=h;exact⟨wa,h1.alloc o,h2,h3⟩
theorem akP (run:List af)(v:Value)(w:World)(hrun:bU w v run)(hn:run.length<=64)(rP:∀s∈run,s.asks.length<=1000000)(rQ:∀s∈run,s.sent.length<=1000000):
  Calls Tryz.prog 21 #[v] w fun e w'=>∃u,e=.returned u/\jL w.heap.size w' u (ix run)/\Below w.heap.size w w':=by
 have Cb:=ab (UF run v w hrun aa rP rQ)
 have xS:=fun W=>BK (P:=Tryz.prog) 22 3 (.int .i64 0) 8 run.length Tryz.underlying22 DZ rfl aa aa W
 have LJ:=fun W=>BK (P:=Tryz.prog) 117 4 (.bool false) 1 run.length Tryz.underlying117 ajz rfl aa aa W
 clear rP rQ;go_enter Tryz.func21,Tryz.ntmps21;go_wp2_with fail;refine Cb.out.mono ?_;rintro e w1 ⟨u,rfl,Mm,ay⟩;have oE:=Mm.sl;obtain⟨ka,ca,rfl,ft⟩:=oE.open;go_wp2_with fail;refine(akK run _ _ oE hn).mono ?_;rintro e w2 ⟨p,rfl,hO,bO⟩;have oB:=oE.kept bO av;have akQ:=Mm.kept bO;have Mn:Below w.heap.size w w2:=ay.trans (bO.mono ay.size);clear oE Mm ay bO;go_wp2_with fail
 have Wy:fE (w2.alloc (.cells (eA run.length (.int .i64 0)) 3)) w2.heap.size run.length (fun _=>0):=⟨_,az.new _ _ _,BI _ _,fun b hb=>BJ _ _ _ hb⟩
 go_loopw [21] (fun i wr=>∃k:Nat,k<=run.length/\i=.int .i64 k/\fE wr w2.heap.size run.length (fun x=>if x<k then eD run [] x else 0)/\Below w2.heap.size w2 wr) (fun i _=>run.length-(intOf i).toNat)
 case atStart=>exact⟨0,aa,rfl,Wy.congr (fun b _=>ae),(Below.refl _ _).alloc av _⟩
 case round=>
  clear Wy;obtain⟨k,hk,rfl,gC,hB⟩:=hrel;by_cases hlt:k<run.length
  ·go_wp2_with fail
   obtain⟨wo,rfl⟩:∃wo:World,wo=wr:=⟨_,rfl⟩
   go_loopw [25] (fun j wr=>∃m:Nat,m<=k/\j=.int .i64 m/\fE wr w2.heap.size run.length (fun x=>if x<k then eD run [] x else if x=k then oC run k m else 0)/\Below w2.heap.size w2 wr) (fun j _=>k-(intOf j).toNat)
   case atStart=>exact⟨0,aa,rfl,gC.congr (fun b _=>by simp[oC]),hB⟩
   case round=>
    clear gC hB;obtain⟨m,hm,rfl,gC,hB⟩:=hrel;by_cases cH:m<k
    ·have hc:=gC.cell hlt;simp only[Nat.lt_irrefl,pj,lX] at hc;obtain⟨iI,ma⟩:=hc;have dc:=akN run k m;have hcs:=Wt run k m;by_cases hl:fw run m k=true
     ·have oF:=Lq p run.length (fw run) m k wr (hO.kept hB av) aa hlt;rw[hl] at oF;rw[if_pos hl] at hcs;have hst:=gC.set (t':=fun x=>if x<k then eD run [] x else if x=k then oC run k (m+1) else 0) k (fun c hc=>by simp[hc]);simp only[Nat.lt_irrefl,pj,lX,hcs] at hst;rw[show((oC run k m+1:Nat):Int)=(oC run k m:Int)+1 from aa] at hst;have Mo:=ab hst;have wC:=ab hcs;have zJ:=ab oF;clear hst hcs oF hl gC;go_wp2_with fail;refine zJ.out.mono ?_;rintro e w3 ⟨rfl,rfl⟩;go_wp2_with fail;go_roundw
      case rel=>exact⟨m+1,aa,by go_num,by rw[wC.out];exact Mo.out,hB.setCell av _⟩
      case measure=>simp[intOf];omega
     ·have iK:fw run m k=false:=by simpa using hl
      have oF:=Lq p run.length (fw run) m k wr (hO.kept hB av) aa hlt;rw[iK] at oF;rw[if_neg hl,qB] at hcs;have BU:=ab gC;have wC:=ab hcs;have zJ:=ab oF;clear hcs oF hl iK gC;go_wp2_with fail;refine zJ.out.mono ?_;rintro e w3 ⟨rfl,rfl⟩;go_wp2_with fail;go_roundw
      case rel=>exact⟨m+1,aa,by go_num,by rw[wC.out];exact BU.out,hB⟩
      case measure=>simp[intOf];omega
    ·have Wz:m=k:=aa
     have qO:fE wr w2.heap.size run.length (fun x=>if x<k+1 then eD run [] x else 0):=gC.congr fun b _=>by
      by_cases h1:b<k
      ·simp[h1,Nat.lt_succ_of_lt h1]
      ·by_cases h2:b=k
       ·subst h2;rw[Wz];simp[akM run b hlt]
       ·have h3:¬b<k+1:=aa;simp[h1,h2,h3]
     have EB:=ab qO;clear qO gC Wz;go_wp2_with fail;go_roundw
     case rel=>exact⟨k+1,aa,by go_num,EB.out,hB⟩
     case measure=>simp[intOf];omega
  ·have qO:fE wr w2.heap.size run.length (eD run []):=gC.congr fun b hb=>by
    have:b<k:=aa;simp[this]
   clear gC;have hBz:=hB.size;go_wp2_with fail
   obtain⟨wa,rfl⟩:∃wa:World,wa=wr:=⟨_,rfl⟩
   obtain⟨w3,pH⟩:∃w3:World,w3=wa.alloc (.cells (eA run.length (.bool false)) 4):=⟨_,rfl⟩
   have wk:w3.heap.size=wa.heap.size+1:=by rw[pH];simp
   have cy:Below w2.heap.size w2 w3:=by rw[pH];exact hB.alloc hBz _
   have WA:fE w3 w2.heap.size run.length (eD run []):=by rw[pH];exact qO.alloc _
   have WB:oD w3 wa.heap.size run.length []:=by
    rw[pH];exact⟨_,az.new _ _ _,BI _ _,fun b hb=>by rw[BJ _ _ _ hb];rfl⟩
   have vZ:w2.heap.size<wa.heap.size:=by
    obtain⟨_,h,_⟩:=qO;exact h.lt
   rw[<-pH];have Hw3:=ab pH;clear pH qO hB xS LJ
   go_loopw [45,7] (fun r vo wr=>∃(d:List Nat) (xs:List Value),d.length<=run.length/\r=.int .i64 d.length/\(∀i∈d,i<run.length)/\fE wr w2.heap.size run.length (eD run d)/\oD wr wa.heap.size run.length d/\
    wr.ownsRow w3.heap.size 67 11 vo d.length xs/\gT (fun b=>w.heap.size<=b) w2 (ff run d) xs/\Hid (Ey run=wB run (run.length-d.length) d)/\Below w2.heap.size w2 wr/\w3.heap.size<=wr.heap.size) (fun r _ _=>run.length-(intOf r).toNat)
   case atStart=>exact⟨[],[],ae,rfl,ae,WA,WB,lf _ _ _ _,rfl,ab rfl,cy,di _⟩
   case round=>
    clear WA WB cy;obtain⟨d,xs,mf,rfl,lA,gC,iw,bE,hcs,Hn,hB,hz⟩:=hrel;have WC:=ab lA;have BU:=ab gC;have zK:=ab iw;have wC:=ab hcs;clear lA gC iw hcs;by_cases hlt:d.length<run.length
    ·obtain⟨aH,WD,fC,kE⟩:=Wn run d (Wo _ _ hlt);have WE:=ab WD;have WG:=ab kE;clear WD kE;go_wp2_with fail
     obtain⟨wo,rfl⟩:∃wo:World,wo=wr:=⟨_,rfl⟩
     go_loopw [49,9] (fun q p wr=>∃m:Nat,m<=run.length/\q=.int .i64 m/\p=.int .i64 (IE (gE run d m))/\Below wo.heap.size wo wr) (fun q _ _=>run.length-(intOf q).toNat)
     case atStart=>exact⟨0,aa,rfl,rfl,Below.refl _ _⟩
     case round=>
      obtain⟨m,hm,rfl,rfl,ni⟩:=hrel;by_cases cH:m<run.length
      ·have IF:Below w2.heap.size w2 wr:=hB.trans (ni.mono hB.size);obtain⟨b,o,va,vs,rfl,dy,dk,x0,x1,x2,x3,x4,x5,x6,x7,x8,x9,x10⟩:=(oB.kept IF av).at (i:=m) (s:=run[m]) (by simp[cH]);have wD:=((zK.out.kept ni aa).cell cH).1;have BW:=((BU.out.kept ni aa).cell cH).1;have Er:=Wu run d m;by_cases iI:m∈d
       ·rw[ll iI] at wD;have nj:=Ml run d m (.inl (by simp[jN,iI]));have wE:=ab nj;clear iI nj;go_wp2_with fail;refine xK 28 [(0,true),(1,true),(2,true),(3,true),(4,true),(5,true),(6,true),(7,true),(8,true),(9,true),(10,true),(11,true),(12,true),(13,true),(14,true),(15,true),(16,true),(17,true),(18,true),(19,true),(20,true),(21,true),(22,true),(23,true),(24,true),(25,true),(26,true),(27,true)] (fun w'=>w'.cell? ⟨wa.heap.size,m,none⟩=some (.bool true)) ah rfl rfl ah wD ?_
        iterate 28 (first|refine xR ?_|refine Ei ?_)
        refine xM ?_;go_wp2_with fail;refine NoPanic.normal ?_;go_wp2_with fail;go_roundw
        case rel=>exact⟨m+1,aa,by go_num,by rw[wE.out],ni.drew⟩
        case measure=>simp[intOf];omega
       ·rw[pg iI] at wD;by_cases ma:eD run d m=0
        ·have Eu:(((eD run d m:Nat):Int)==0)=true:=by rw[ma];rfl
         have dK:jN run d m=true:=by rw[Wv];simp[iI,ma]
         clear iI ma
         cases yf:gE run d m with
         |none=>
          have nj:=Wx run d m dK (by rw[yf];rfl);have wE:=ab nj;have Cc:IE (none:Option Nat)= -1:=rfl;rw[Cc];clear dK nj yf Cc;go_wp2_with fail;refine xK 28 [(0,true),(1,true),(2,true),(3,true),(4,true),(5,true),(6,true),(7,true),(8,true),(9,true),(10,true),(11,true),(12,true),(13,true),(14,true),(15,true),(16,true),(17,true),(18,true),(19,true),(20,true),(21,true),(22,true),(23,true),(24,true),(25,true),(26,true),(27,true)] (fun w'=>w'.cell? ⟨wa.heap.size,m,none⟩=some (.bool false)/\w'.cell? ⟨w2.heap.size,m,none⟩=some (I (eD run d m))) ah rfl rfl ah ⟨wD,BW⟩ ?_
          iterate 28 (first|refine xR ?_|refine Ei ?_)
          refine xM ?_;go_wp2_with fail;refine NoPanic.normal ?_;go_wp2_with fail;go_roundw
          case rel=>exact⟨m+1,aa,by go_num,by rw[wE.out];rfl,ni.drew⟩
          case measure=>simp[intOf];omega
         |some j=>
          have hjm:=(Ez run d m j yf).1;have hj0:decide ((j:Int)<0)=false:=ae;obtain⟨b',o',ua,us,ed,oh,om,y0,y1,y2,y3,y4,y5,y6,y7,y8,y9,y10⟩:=(oB.kept IF av).at (i:=j) (s:=run[j]' aa) ae;simp at ed;obtain⟨rfl,rfl⟩:=ed;have WH:j<run.length:=aa;have Cc:IE (some j)=(j:Int):=rfl;rw[Cc];by_cases gF:aQ run[m].key run[j].key<0
          ·have nj:=Wx run d m dK (by rw[yf];simp[sf,BZ cH,BZ WH,gF]);have wE:=ab nj;clear dK nj yf Cc;go_wp2_with fail;refine xK 24 [(0,true),(1,true),(2,true),(3,true),(4,true),(5,true),(6,true),(7,true),(8,true),(9,true),(10,true),(11,true),(12,true),(13,true),(14,true),(15,true),(16,true),(17,true),(18,true),(19,true),(20,true),(21,true),(22,true),(23,true)] (fun w'=>w'.cell? ⟨wa.heap.size,m,none⟩=some (.bool false)/\w'.cell? ⟨w2.heap.size,m,none⟩=some (I (eD run d m))/\w'.cell? ⟨b,o+m*11,none⟩=some (I run[m].ev.kind)/\w'.cell? ⟨b,o+m*11+1,none⟩=some (I run[m].ev.node)/\w'.cell? ⟨b,o+m*11+2,none⟩=some (I run[m].ev.arg)/\w'.cell? ⟨b,o+m*11+3,none⟩=some (I run[m].ev.msg.node)/\w'.cell? ⟨b,o+m*11+4,none⟩=some (I run[m].ev.msg.handler)/\w'.cell? ⟨b,o+m*11+5,none⟩=some (I run[m].ev.msg.count)/\w'.cell? ⟨b,o+m*11+6,none⟩=some (I run[m].ev.msg.index)/\w'.cell? ⟨b,o+m*11+7,none⟩=some (I run[m].ev.msg.copy)/\w'.cell? ⟨b,o+m*11+8,none⟩=some (va)/\w'.cell? ⟨b,o+m*11+9,none⟩=some (.bool run[m].ax)/\w'.cell? ⟨b,o+m*11+10,none⟩=some (vs)/\w'.cell? ⟨b,o+j*11,none⟩=some (I run[j].ev.kind)/\w'.cell? ⟨b,o+j*11+1,none⟩=some (I run[j].ev.node)/\w'.cell? ⟨b,o+j*11+2,none⟩=some (I run[j].ev.arg)/\w'.cell? ⟨b,o+j*11+3,none⟩=some (I run[j].ev.msg.node)/\w'.cell? ⟨b,o+j*11+4,none⟩=some (I run[j].ev.msg.handler)/\w'.cell? ⟨b,o+j*11+5,none⟩=some (I run[j].ev.msg.count)/\w'.cell? ⟨b,o+j*11+6,none⟩=some (I run[j].ev.msg.index)/\w'.cell? ⟨b,o+j*11+7,none⟩=some (I run[j].ev.msg.copy)/\w'.cell? ⟨b,o+j*11+8,none⟩=some (ua)/\w'.cell? ⟨b,o+j*11+9,none⟩=some (.bool run[j].ax)/\w'.cell? ⟨b,o+j*11+10,none⟩=some (us)) ah rfl rfl ah ⟨wD,BW,x0,x1,x2,x3,x4,x5,x6,x7,x8,x9,x10,y0,y1,y2,y3,y4,y5,y6,y7,y8,y9,y10⟩ ?_
           iterate 24 (first|refine xR ?_|refine Ei ?_)
           refine xM ?_;go_wp2_with fail;refine(Us run[m] run[j] _ _ _ ⟨va,vs,rfl,dy.kept (Below.refl _ _).drew av,dk.kept (Below.refl _ _).drew av⟩ ⟨ua,us,rfl,oh.kept (Below.refl _ _).drew av,om.kept (Below.refl _ _).drew av⟩).mono ?_;rintro e w5 ⟨rfl,ay⟩;go_wp2_with fail;refine NoPanic.normal ?_;go_wp2_with fail;go_roundw
           case rel=>exact⟨m+1,aa,by go_num,by rw[wE.out];rfl,ni.drew.trans (ay.mono ni.size)⟩
           case measure=>simp[intOf];omega
          ·have nj:=Ml run d m (.inr (by rw[yf];simp[sf,BZ cH,BZ WH,gF]));rw[yf] at nj;have wE:=ab nj;clear dK nj yf Cc;go_wp2_with fail;refine xK 24 [(0,true),(1,true),(2,true),(3,true),(4,true),(5,true),(6,true),(7,true),(8,true),(9,true),(10,true),(11,true),(12,true),(13,true),(14,true),(15,true),(16,true),(17,true),(18,true),(19,true),(20,true),(21,true),(22,true),(23,true)] (fun w'=>w'.cell? ⟨wa.heap.size,m,none⟩=some (.bool false)/\w'.cell? ⟨w2.heap.size,m,none⟩=some (I (eD run d m))/\w'.cell? ⟨b,o+m*11,none⟩=some (I run[m].ev.kind)/\w'.cell? ⟨b,o+m*11+1,none⟩=some (I run[m].ev.node)/\w'.cell? ⟨b,o+m*11+2,none⟩=some (I run[m].ev.arg)/\w'.cell? ⟨b,o+m*11+3,none⟩=some (I run[m].ev.msg.node)/\w'.cell? ⟨b,o+m*11+4,none⟩=some (I run[m].ev.msg.handler)/\w'.cell? ⟨b,o+m*11+5,none⟩=some (I run[m].ev.msg.count)/\w'.cell? ⟨b,o+m*11+6,none⟩=some (I run[m].ev.msg.index)/\w'.cell? ⟨b,o+m*11+7,none⟩=some (I run[m].ev.msg.copy)/\w'.cell? ⟨b,o+m*11+8,none⟩=some (va)/\w'.cell? ⟨b,o+m*11+9,none⟩=some (.bool run[m].ax)/\w'.cell? ⟨b,o+m*11+10,none⟩=some (vs)/\w'.cell? ⟨b,o+j*11,none⟩=some (I run[j].ev.kind)/\w'.cell? ⟨b,o+j*11+1,none⟩=some (I run[j].ev.node)/\w'.cell? ⟨b,o+j*11+2,none⟩=some (I run[j].ev.arg)/\w'.cell? ⟨b,o+j*11+3,none⟩=some (I run[j].ev.msg.node)/\w'.cell? ⟨b,o+j*11+4,none⟩=some (I run[j].ev.msg.handler)/\w'.cell? ⟨b,o+j*11+5,none⟩=some (I run[j].ev.msg.count)/\w'.cell? ⟨b,o+j*11+6,none⟩=some (I run[j].ev.msg.index)/\w'.cell? ⟨b,o+j*11+7,none⟩=some (I run[j].ev.msg.copy)/\w'.cell? ⟨b,o+j*11+8,none⟩=some (ua)/\w'.cell? ⟨b,o+j*11+9,none⟩=some (.bool run[j].ax)/\w'.cell? ⟨b,o+j*11+10,none⟩=some (us)) ah rfl rfl ah ⟨wD,BW,x0,x1,x2,x3,x4,x5,x6,x7,x8,x9,x10,y0,y1,y2,y3,y4,y5,y6,y7,y8,y9,y10⟩ ?_
           iterate 24 (first|refine xR ?_|refine Ei ?_)
           refine xM ?_;go_wp2_with fail;refine(Us run[m] run[j] _ _ _ ⟨va,vs,rfl,dy.kept (Below.refl _ _).drew av,dk.kept (Below.refl _ _).drew av⟩ ⟨ua,us,rfl,oh.kept (Below.refl _ _).drew av,om.kept (Below.refl _ _).drew av⟩).mono ?_;rintro e w5 ⟨rfl,ay⟩;go_wp2_with fail;refine NoPanic.normal ?_;go_wp2_with fail;go_roundw
           case rel=>exact⟨m+1,aa,by go_num,by rw[wE.out];rfl,ni.drew.trans (ay.mono ni.size)⟩
           case measure=>simp[intOf];omega
        ·have Eu:(((eD run d m:Nat):Int)==0)=false:=by rw[Bj];omega
         have nj:=Ml run d m (.inl (by rw[Wv];simp[ma]));have wE:=ab nj;clear iI ma nj;go_wp2_with fail;refine xK 28 [(0,true),(1,true),(2,true),(3,true),(4,true),(5,true),(6,true),(7,true),(8,true),(9,true),(10,true),(11,true),(12,true),(13,true),(14,true),(15,true),(16,true),(17,true),(18,true),(19,true),(20,true),(21,true),(22,true),(23,true),(24,true),(25,true),(26,true),(27,true)] (fun w'=>w'.cell? ⟨wa.heap.size,m,none⟩=some (.bool false)/\w'.cell? ⟨w2.heap.size,m,none⟩=some (I (eD run d m))) ah rfl rfl ah ⟨wD,BW⟩ ?_
         iterate 28 (first|refine xR ?_|refine Ei ?_)
         refine xM ?_;go_wp2_with fail;refine NoPanic.normal ?_;go_wp2_with fail;go_roundw
         case rel=>exact⟨m+1,aa,by go_num,by rw[wE.out],ni.drew⟩
         case measure=>simp[intOf];omega
      ·have WJ:m=run.length:=aa
       have IG:IE (gE run d m)=(aH:Int):=by rw[WJ,WE.out];rfl
       rw[IG];have IF:Below w2.heap.size w2 wr:=hB.trans (ni.mono hB.size);have hoz:=ni.size;obtain⟨b,o,va,vs,rfl,⟨dy,hpa⟩,⟨dk,iL⟩,z0,z1,z2,z3,z4,z5,z6,z7,z8,z9,z10⟩:=akQ.at (i:=aH) (s:=run[aH]) (by simp[fC]);obtain⟨qa,da,rfl,_⟩:=dy.open;obtain⟨qs,ds,rfl,_⟩:=dk.open;have pI:Below w2.heap.size w2 (wr.setCell ⟨wa.heap.size,aH,none⟩ (.bool true)):=IF.setCell (by simp;omega) _;have x0:=cw pI av z0;have x1:=cw pI av z1;have x2:=cw pI av z2;have x3:=cw pI av z3;have x4:=cw pI av z4;have x5:=cw pI av z5;have x6:=cw pI av z6;have x7:=cw pI av z7;have x8:=cw pI av z8;have x9:=cw pI av z9;have x10:=cw pI av z10;have Mp:=zK.out.kept ni aa;have WK:=BU.out.kept ni aa;obtain⟨wD,oq⟩:=Mp.cell fC;have BN:=Il (zA bE ni) ⟨wa.heap.size,aH,none⟩ (.bool true) (by simp;omega)
       have rU:((wr.setCell ⟨wa.heap.size,aH,none⟩ (.bool true)).alloc (.cells #[I run[aH].ev.kind,I run[aH].ev.node,I run[aH].ev.arg,I run[aH].ev.msg.node,I run[aH].ev.msg.handler,I run[aH].ev.msg.count,I run[aH].ev.msg.index,I run[aH].ev.msg.copy,.slice qa run[aH].asks.length da,.bool run[aH].ax,.slice qs run[aH].sent.length ds] 67)).heap[wr.heap.size]? =some (.cells #[I run[aH].ev.kind,I run[aH].ev.node,I run[aH].ev.arg,I run[aH].ev.msg.node,I run[aH].ev.msg.handler,I run[aH].ev.msg.count,I run[aH].ev.msg.index,I run[aH].ev.msg.copy,.slice qa run[aH].asks.length da,.bool run[aH].ax,.slice qs run[aH].sent.length ds] 67 (0,0)):=by
        have:=jH (wr.setCell ⟨wa.heap.size,aH,none⟩ (.bool true)) (.cells #[I run[aH].ev.kind,I run[aH].ev.node,I run[aH].ev.arg,I run[aH].ev.msg.node,I run[aH].ev.msg.handler,I run[aH].ev.msg.count,I run[aH].ev.msg.index,I run[aH].ev.msg.copy,.slice qa run[aH].asks.length da,.bool run[aH].ax,.slice qs run[aH].sent.length ds] 67);simpa using this
       have WL:gT (fun b=>w.heap.size<=b) w2 (ff run (d++[aH])) (xs++(#[I run[aH].ev.kind,I run[aH].ev.node,I run[aH].ev.arg,I run[aH].ev.msg.node,I run[aH].ev.msg.handler,I run[aH].ev.msg.count,I run[aH].ev.msg.index,I run[aH].ev.msg.copy,.slice qa run[aH].asks.length da,.bool run[aH].ax,.slice qs run[aH].sent.length ds]).toList):=by
        rw[akL run d aH fC];exact wC.out.snoc (s:=run[aH]) ⟨dy,hpa⟩ ⟨dk,iL⟩
       have WM:=(Mp.set aH)
       have WN:=WK.pk ⟨wa.heap.size,aH,none⟩ (.bool true) (by simp;omega);have akR:=ab WM;have akS:=ab WN;have Hos:=ab BN;have yc:=ab rU;have akT:=ab WL;have HBs:=ab pI;clear WJ IG z0 z1 z2 z3 z4 z5 z6 z7 z8 z9 z10 Mp WK BN rU WL WM WN pI dy dk
       go_wp2_with (at_builtin;go_must (refine Bu rfl _ _ 28 rfl 67 _ 11 120 Tryz.underlying28 Bv rfl aa aa w3.heap.size _ _ xs rfl (Hos.out.alloc _) wr.heap.size 1 1 _ 67 rfl yc.out rfl rfl aa aa (by simp;omega) ?_);intro g cap w5 eP qI xU WO akU kM)
       have WQ:=(akS.out.alloc (.cells #[I run[aH].ev.kind,I run[aH].ev.node,I run[aH].ev.arg,I run[aH].ev.msg.node,I run[aH].ev.msg.handler,I run[aH].ev.msg.count,I run[aH].ev.msg.index,I run[aH].ev.msg.copy,.slice qa run[aH].asks.length da,.bool run[aH].ax,.slice qs run[aH].sent.length ds] 67)).kept kM aa;have WS:=(akR.out.kept ((Below.refl _ _).alloc av (.cells #[I run[aH].ev.kind,I run[aH].ev.node,I run[aH].ev.arg,I run[aH].ev.msg.node,I run[aH].ev.msg.handler,I run[aH].ev.msg.count,I run[aH].ev.msg.index,I run[aH].ev.msg.copy,.slice qa run[aH].asks.length da,.bool run[aH].ax,.slice qs run[aH].sent.length ds] 67)) (by simp;omega)).kept kM aa;have eR:Below w2.heap.size w2 w5:=(HBs.out.alloc (by simp;omega) (.cells #[I run[aH].ev.kind,I run[aH].ev.node,I run[aH].ev.arg,I run[aH].ev.msg.node,I run[aH].ev.msg.handler,I run[aH].ev.msg.count,I run[aH].ev.msg.index,I run[aH].ev.msg.copy,.slice qa run[aH].asks.length da,.bool run[aH].ax,.slice qs run[aH].sent.length ds] 67)).trans (kM.mono aa)
       have IH:w3.heap.size<=w5.heap.size:=by have:=kM.size;simp at this;omega
       have akV:=ab WQ;have akW:=ab WS;have Hb5:=ab eR;have Ho5:=ab WO;clear WQ WS eR WO akU kM eP qI xU x0 x1 x2 x3 x4 x5 x6 x7 x8 x9 x10 wD oq
       go_loopw [11] (fun i wr=>∃m:Nat,aH+1<=m/\m<=run.length/\i=.int .i64 m/\fE wr w2.heap.size run.length (fun x=>if x<m then eD run (d++[aH]) x else eD run d x)/\oD wr wa.heap.size run.length (d++[aH])/\
        wr.ownsRow w3.heap.size 67 11 (.slice (some ⟨g,0,none⟩) (d.length+1) cap) (d.length+1) (xs++(#[I run[aH].ev.kind,I run[aH].ev.node,I run[aH].ev.arg,I run[aH].ev.msg.node,I run[aH].ev.msg.handler,I run[aH].ev.msg.count,I run[aH].ev.msg.index,I run[aH].ev.msg.copy,.slice qa run[aH].asks.length da,.bool run[aH].ax,.slice qs run[aH].sent.length ds]).toList)/\Below w2.heap.size w2 wr/\w3.heap.size<=wr.heap.size) (fun i _=>run.length-(intOf i).toNat)
       case atStart=>
        refine⟨aH+1,aa,aa,by go_num,akV.out.congr (fun x hx=> ?_),akW.out,Ho5.out,Hb5.out,IH⟩;by_cases qE:x<aH+1
        ·have h1:=Ws run d aH x fC WG.out;rw[UA run aH x aa] at h1;simp[qE,h1]
        ·simp[qE]
       case round=>
        clear IH;obtain⟨m,hbm,hm,rfl,gC,iw,bE,hB,hz⟩:=hrel;by_cases cH:m<run.length
        ·have hwd:=Ws run d aH m fC WG.out;have Er:=Wu run (d++[aH]) m;have hc:=gC.cell cH;simp only[Nat.lt_irrefl,pj] at hc;have zK:=ab iw;have Cb:=ab bE;clear iw bE;have oF:=Lq p run.length (fw run) aH m wr (hO.kept hB av) fC cH;by_cases hl:fw run aH m=true
         ·rw[hl] at oF;rw[if_pos hl] at hwd;rw[hwd,show((eD run (d++[aH]) m+1:Nat):Int)=(eD run (d++[aH]) m:Int)+1 from aa] at hc;obtain⟨iI,ma⟩:=hc
          have hst:=gC.set (t':=fun x=>if x<m+1 then eD run (d++[aH]) x else eD run d x) m (fun c hc=>by
           by_cases h1:c<m
           ·simp[h1,Nat.lt_succ_of_lt h1]
           ·have:¬c<m+1:=aa
            simp[h1,this])
          simp only[Nat.lt_succ_self,lX] at hst;have Mo:=ab hst;have zJ:=ab oF;clear hst oF hl gC hwd;go_wp2_with fail;refine zJ.out.mono ?_;rintro e w6 ⟨rfl,rfl⟩;go_wp2_with fail;go_roundw
          case rel=>exact⟨m+1,aa,aa,by go_num,Mo.out,zK.out.pk _ _ (by simp;omega),Il Cb.out _ _ (by simp;omega),hB.setCell ae _,by simp;omega⟩
          case measure=>simp[intOf];omega
         ·have iK:fw run aH m=false:=by simpa using hl
          rw[iK] at oF;rw[if_neg hl,qB] at hwd
          have qO:=gC.congr (t':=fun x=>if x<m+1 then eD run (d++[aH]) x else eD run d x) (fun c _=>by
           by_cases h1:c<m
           ·simp[h1,Nat.lt_succ_of_lt h1]
           ·by_cases h2:c=m
            ·subst h2;simp[hwd]
            ·have:¬c<m+1:=aa
             simp[h1,this])
          have EB:=ab qO;have zJ:=ab oF;clear qO oF hl iK gC hwd hc;go_wp2_with fail;refine zJ.out.mono ?_;rintro e w6 ⟨rfl,rfl⟩;go_wp2_with fail;go_roundw
          case rel=>exact⟨m+1,aa,aa,by go_num,EB.out,zK.out,Cb.out,hB,hz⟩
          case measure=>simp[intOf];omega
        ·have qO:fE wr w2.heap.size run.length (eD run (d++[aH])):=gC.congr fun x hx=>by
          have:x<m:=aa;simp[this]
         have WT:Ey run=wB run (run.length-(d++[aH]).length) (d++[aH]):=by
          rw[Hn.out,show run.length-d.length=(run.length-(d.length+1))+1 by omega,Wp run d _ aH WE.out,List.length_append];rfl
         have EB:=ab qO;have HHn:=ab WT;have zK:=ab iw;have Cb:=ab bE;clear qO WT gC iw bE;go_wp2_with fail;go_roundw
         case rel=>exact⟨d++[aH],_,by simp;omega,by rw[List.length_append];go_num,fun i hi=>by
          rcases fA.1 hi with h|h
          ·exact WC.out i h
          ·simp at h;omega,EB.out,zK.out,by rw[List.length_append];exact Cb.out,akT.out,HHn,hB,hz⟩
         case measure=>simp[intOf];omega
    ·have akX:d.length=run.length:=aa
     have ct:Ey run=d:=by
      rw[Hn.out,akX,Nat.sub_self];rfl
     have rZ:jL w.heap.size wr u7 (ix run):=by
      unfold ix;rw[ct];exact jL.iU bE (Ww run d WC.out).symm wC.out hB av (by have:=Mn.size;omega)
     have Mf:=ab rZ;have Hbb:=ab (Mn.trans (hB.mono Mn.size));clear ct rZ bE;go_wp2_with fail;go_ret;exact⟨_,rfl,Mf.out,Hbb.out⟩
theorem Mq (run:List af)(v:Value)(w:World)(hrun:bU w v run)(hn:run.length<=64)(rP:∀s∈run,s.asks.length<=1000000)(rQ:∀s∈run,s.sent.length<=1000000):
  Calls Tryz.prog 21 #[v] w fun e w'=>∃u,e=.returned u/\bU w' u (ix run)/\Below w.heap.size w w':=
 (akP run v w hrun hn rP rQ).mono fun _ _ ⟨u,h1,h2,h3⟩=>⟨u,h1,h2.sl,h3⟩
end
end Go.Proofs.YtlnghiefahcnpaaGreat
