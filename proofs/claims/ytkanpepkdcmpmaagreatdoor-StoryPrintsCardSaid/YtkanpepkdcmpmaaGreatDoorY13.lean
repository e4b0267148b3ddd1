import Derived.RangeFuncNested
import Derived.RangeFuncBound
import Derived.RangeFuncCalls
import Derived.RangeFuncLeaves
import Derived.RangeFuncKeeps
import Derived.RangeFuncGives
import Derived.Sort.MapsRangeIn
import Derived.Shelf.Abstract
import Derived.OwnWalkIn
import Derived.TacticsInMore
import Derived.LoopNIn
import Derived.LoopIn
import Derived.OpenShut
import Derived.Maps.AppendAt
import Derived.Shelf.SlGeneric
import Derived.Shelf.SlLaysF0
import Derived.Ground.SlsfProg
import Derived.Shelf.SlSortCmp.WholeK
import Derived.Test.YtkanpepkdcmpmaaGreatDoorY12
set_option maxHeartbeats 40000000
set_option maxRecDepth 100000
set_option linter.all false
namespace Go.Proofs.YtkanpepkdcmpmaaGreatDoor
section
open Go.RowKit Go.Maps
theorem awD:(Tryz.prog.info? 161).map (·.size)=some 6:=ah
theorem awE:(Tryz.prog.info? 76).map (·.size)=some 5:=ah
section
variable {ops:Array Oper} {Q:Exit->Act->World->Prop} {rest:List Oper} {o:Oper} {a:Act} {w:World}
theorem awF (dp:o.guard=none)(x:Operand)(ho:o.op=.load 161 x)(b off:Nat)(cs:List Value)(hl:cs.length=6)(hx:a.eval x=.pointer (some ⟨b,off,none⟩))(hc:w.rangeAt b off cs)
  (h:wpList Tryz.prog ops Q rest (a.put o.dst (.agg cs.toArray)) w):wpList Tryz.prog ops Q (o::rest) a w:=
 wpList_load_mid dp 161 x ho b off hx cs _ hc Tryz.underlying161 rfl (by rw[hl];exact awD) h
end
theorem awG (l:List aL)(ve va:Value)(w:World)(ha:kS w va l)(bU:∀a∈l,a.ok)(hl:l.length<=1000000):
  Calls Tryz.prog 108 #[.agg #[ve,va]] w fun e w'=>∃b D,e=.returned (.map (some b))/\w.heap.size<=b/\w'.ownsMap (H:=Unit) Tryz.prog 76 (plainElem Tryz.prog 3) b l.length D/\pk D (eO l)/\aw w w':=by
 obtain⟨ka,ca,rfl,gz⟩:=ha.open;have xG:=ae bU;have kN:=@run_makeMap Tryz.prog;clear bU;go_enter Tryz.func108,Tryz.ntmps108;go_wp2_with fail;clear kN
 have ain:((w.alloc (.cells #[ve,.slice ka l.length ca] 49)).alloc (.map #[] 0)).ownsMap (H:=Unit) Tryz.prog 76 (plainElem Tryz.prog 3) (w.heap.size+1) 0 (.map []):=by
  have:=World.ownsMap_made (H:=Unit) (w.alloc (.cells #[ve,.slice ka l.length ca] 49)) Tryz.prog 76 (plainElem Tryz.prog 3);rwa[World.size_alloc] at this
 have aio:=ae ain;clear ain;go_loopw [10] (fun p wr=>∃(k:Nat) (D:DataW Unit),k<=l.length/\p=.int .i64 k/\Hid (wr.ownsMap (H:=Unit) Tryz.prog 76 (plainElem Tryz.prog 3) (w.heap.size+1) k D)/\Hid (pk D (eO (l.take k)))/\aw w wr) (fun p _=>l.length-(intOf p).toNat)
 case atStart=>exact⟨0,.map [],ab,rfl,ae aio.out,ae pk.empty,bF⟩
 case round=>
  clear aio;obtain⟨k,D,hk,rfl,gF,HM,hB⟩:=hrel;by_cases hlt:k<l.length
  ·obtain⟨b,o,rfl,hr⟩:=(ha.kept hB ax).at (i:=k) (x:=l[k]) (by simp[hlt]);have hq:=xG.out l[k] (bP hlt);have TC:=Ku l[k].q hq.1;have hwf:=Kt hq.2;have Hq:=ae hq.1;have aip:=ae TC;have Hwf:=ae hwf;have Hr:=ae hr;have Ca:=hB.size;have fc:w.heap.size+1<wr.heap.size:=gF.out.lt;have ES:=WG (l.take k) l[k];rw[<-List.take_succ_eq_append_getElem hlt] at ES;have Hgt:=ae ES;clear hq TC hwf hr ES
   go_upto_region 5 with((with_reducible refine awF rfl _ rfl b (o+k*6) [I l[k].q.node,I l[k].q.handler,I l[k].q.count,I l[k].q.kind,I l[k].q.index,I l[k].n] rfl ?_ ?_ ?_);(rfl);(exact Hr.out))
   have hblk:az (wr.alloc (.cells #[I l[k].q.node,I l[k].q.handler,I l[k].q.count,I l[k].q.kind,I l[k].q.index,I l[k].n] 161)) wr.heap.size #[I l[k].q.node,I l[k].q.handler,I l[k].q.count,I l[k].q.kind,I l[k].q.index,I l[k].n]:=az.new _ _ _;have sP:=gF.out.alloc (.cells #[I l[k].q.node,I l[k].q.handler,I l[k].q.count,I l[k].q.kind,I l[k].q.index,I l[k].n] 161);have aC:aw w (wr.alloc (.cells #[I l[k].q.node,I l[k].q.handler,I l[k].q.count,I l[k].q.kind,I l[k].q.index,I l[k].n] 161)):=hB.alloc Ca _;have ey:(wr.alloc (.cells #[I l[k].q.node,I l[k].q.handler,I l[k].q.count,I l[k].q.kind,I l[k].q.index,I l[k].n] 161)).heap.size=wr.heap.size+1:=World.size_alloc _ _;generalize wr.alloc (.cells #[I l[k].q.node,I l[k].q.handler,I l[k].q.count,I l[k].q.kind,I l[k].q.index,I l[k].n] 161)=w1 at hblk sP aC ey⊢;have aiq:=ae sP;have air:=ae hblk;have zf:=ae ey;have c0:=hblk.cell 0;have c1:=hblk.cell 1;have c2:=hblk.cell 2;have c3:=hblk.cell 3;have c4:=hblk.cell 4;clear sP hblk ey
   go_upto_region 6 with(at_delete;refine wpList_delete_own (H:=Unit) _ rfl _ _ 178 76 rfl 3 Gr Tryz.underlying178 (plainElem Tryz.prog 3) (w.heap.size+1) k D rfl aiq.out l[k].q.val (iy l[k].q) rfl aip.out ?_;intro w2 IJ ais)
   simp only[Act.put];have gE:=ais.grown;have IK:az w2 wr.heap.size #[I l[k].q.node,I l[k].q.handler,I l[k].q.count,I l[k].q.kind,I l[k].q.index,I l[k].n]:=air.out.grown gE bq;have bg:aw w w2:=aC.grown gE (by have:=aC.size;omega) (fun g hg=>by cases hg;omega);have AR:=ae IJ;have c0:=IK.cell 0;have c1:=IK.cell 1;have c2:=IK.cell 2;have c3:=IK.cell 3;have c4:=IK.cell 4;have c5:=IK.cell 5;clear IJ ais gE IK aC aiq air zf
   obtain⟨nn,kB⟩:∃nn,nn=l[k].n:=⟨_,rfl⟩
   have Hnn:=ae kB;by_cases hn:0<l[k].n
   ·have hM:pk ((D.del (iy l[k].q)).put (iy l[k].q) (.lit (.int .i64 l[k].n))) (eO (l.take (k+1))):=((HM.out.del l[k].q Hq.out).put l[k].q Hq.out l[k].n hn).congr fun p=>by
     unfold eO;rw[List.take_succ_eq_append_getElem hlt,zL];by_cases e:l[k].q=p
     ·simp[e];omega
     ·simp[e]
    have HM':=ae hM;clear hM kB
    go_wp2_with (at_mapUpdate;refine wpList_mapUpdate_own (H:=Unit) _ rfl _ _ _ 178 rfl 76 3 Gr Tryz.underlying178 (plainElem Tryz.prog 3) (w.heap.size+1) k _ rfl AR.out (by unfold maxLen;omega) l[k].q.val (I l[k].n) (iy l[k].q) rfl rfl aip.out (.lit (.int .i64 l[k].n)) [] (plainElem_int Tryz.underlying3 Hwf.out) ?_;intro w3 ait LA)
    have fD:aw w w3:=bg.grown LA (by have:=bg.size;omega) (fun g hg=>by cases hg;omega);have aah:=ae ait;clear ait LA c0 c1 c2 c3 c4 c5;go_roundw
    case rel=>exact⟨k+1,_,ab,by go_num,aah,HM',fD⟩
    case measure=>simp[intOf];omega
   ·have hM:pk (D.del (iy l[k].q)) (eO (l.take (k+1))):=(HM.out.del l[k].q Hq.out).congr fun p=>by
     unfold eO;rw[List.take_succ_eq_append_getElem hlt,zL];by_cases e:l[k].q=p
     ·simp[e];omega
     ·simp[e]
    have HM':=ae hM;have aah:=ae (AR.out.mono (show k<=k+1 by omega));clear hM kB;go_wp2_with fail;go_roundw
    case rel=>exact⟨k+1,_,ab,by go_num,aah,HM',bg⟩
    case measure=>simp[intOf];omega
  ·have kF:k=l.length:=ab;have h1:=gF.out;have h2:=HM.out;rw[kF] at h1;rw[nh ab] at h2;have H1:=ae h1;have H2:=ae h2;clear h1 h2;go_wp2_with fail;go_ret;exact⟨_,D,rfl,ab,H1.out,H2.out,hB⟩
end
section
open Go.RowKit Go.Shelf Go.Maps
attribute [local go_sem] Oper.semAt_some
variable {D:DataW Unit} {left:Lit->Bool} {ls:List Lit} {m:Nat} {q:Qn} {ss:List Qn}
theorem OS{c:Value}(h:Tryz.prog.keyLits (m+1) 3 [c]=some ls):∃n,c=I n/\bY n:=by
 cases c<;>simp[Program.keyLits,Tryz.underlying3] at h;rename_i k n;obtain⟨⟨rfl,h1⟩,_⟩:=h;exact⟨n,rfl,bounds_i64 h1⟩
theorem awH{c0 c1 c2:Value}(h:Tryz.prog.keyLits (m+3) 37 [c0,c1,c2]=some ls):∃n0 n1 n2,c0=I n0/\c1=I n1/\c2=I n2/\bY n0/\bY n1/\bY n2:=by
 unfold Program.keyLits at h;simp only[Tryz.underlying37] at h;rw[aq ⟨by rw[Rn];rfl,ah⟩] at h;simp[Ro] at h
 cases e0:Tryz.prog.keyLits (m+2) 3 [c0] with
 |none=>rw[e0] at h;simp at h
 |some l0=>
  cases e1:Tryz.prog.keyLits (m+2) 3 [c1] with
  |none=>rw[e0,e1] at h;simp at h
  |some l1=>
   cases e2:Tryz.prog.keyLits (m+2) 3 [c2] with
   |none=>rw[e0,e1,e2] at h;simp at h
   |some l2=>
    obtain⟨n0,h0,o0⟩:=OS e0;obtain⟨n1,h1,o1⟩:=OS e1;obtain⟨n2,h2,o2⟩:=OS e2;exact⟨n0,n1,n2,h0,h1,h2,o0,o1,o2⟩
theorem aiu{v:Value}{kl:Lit}(h:keyOf Tryz.prog 76 v=some kl):∃q:Qn,q.ok/\v=q.val/\kl=iy q:=by
 have h0:=h
 obtain⟨m,hm⟩:∃m,Tryz.prog.types.size=m+3:=⟨Tryz.prog.types.size-3,ah⟩
 unfold keyOf at h;simp only[Tryz.underlying76] at h;split at h
 ·rename_i hf
  cases v with
  |agg cs=>
   simp only[adX,Value.formed,Tryz.underlying76,Rm,Bool.true_and,DJ] at hf
   obtain⟨l,rfl⟩:∃l:List Value,cs=l.toArray:=⟨cs.toList,ai⟩
   simp only[zK] at hf
   match l,hf with
   |[c0,c1,c2,c3,c4],_=>
    rw[hm] at h;unfold Program.keyLits at h;simp only[Tryz.underlying76,Value.cells] at h;rw[aq ⟨by rw[Rm];rfl,ah⟩] at h;simp[Rn,Ro] at h;rw[Option.bind_eq_some_iff] at h;obtain⟨l52,h52,h⟩:=h
    cases e3:Tryz.prog.keyLits (m+3) 3 [c3] with
    |none=>rw[e3] at h;simp at h
    |some l3=>
     cases e4:Tryz.prog.keyLits (m+3) 3 [c4] with
     |none=>rw[e3,e4] at h;simp at h
     |some l4=>
      obtain⟨n3,rfl,o3⟩:=OS e3;obtain⟨n4,rfl,o4⟩:=OS e4;obtain⟨n0,n1,n2,rfl,rfl,rfl,o0,o1,o2⟩:=awH h52
      have hq:(⟨n0,n1,n2,n3,n4⟩:Qn).ok:=fun n hn=>by
       simp[Qn.ints] at hn
       rcases hn with rfl|rfl|rfl|rfl|rfl<;>assumption
      have:=Ku ⟨n0,n1,n2,n3,n4⟩ hq
      exact⟨⟨n0,n1,n2,n3,n4⟩,hq,rfl,by
       have h2:=h0.symm.trans this
       exact dX h2⟩
  |_=>simp[Value.formed,Tryz.underlying76] at hf
 ·cases h
def IL (D:DataW Unit)(xs:List Qn):Prop:=xs.Nodup/\∀q,q∈xs↔(q.ok/\has D (iy q)=true)
def CD (D:DataW Unit)(left:Lit->Bool)(ss:List Qn):Prop:=ss.Nodup/\∀q,q∈ss↔(q.ok/\has D (iy q)=true/\left (iy q)=false)
theorem CD.start(D:DataW Unit):CD D (has D) []:=⟨List.nodup_nil,fun q=>ai⟩
theorem aiv{p:Qn}(hp:p.ok)(hq:q.ok):(iy p).sameKey (iy q)=decide (p=q):=by
 rw[rR,dh];constructor
 ·intro h;refine Nt hp hq ?_;unfold iy at h⊢;simp[Lit.sameKey] at h;rw[h]
 ·rintro rfl;simp[iy,Lit.sameKey]
theorem CD.step(h:CD D left ss)(hq:q.ok)(hl:left (iy q)=true)(hh:has D (iy q)=true):CD D (fun z=>left z && !z.sameKey (iy q)) (ss++[q]):=by
 have hn:q∉ss:=fun hm=>by
  have:=((h.2 q).1 hm).2.2;rw[hl] at this;cases this
 refine⟨?_,fun p=> ?_⟩
 ·rw[MX];exact⟨h.1,ai,fun a ha b hb e=>by simp at hb;subst hb;subst e;exact hn ha⟩
 ·rw[fL,h.2 p];constructor
  ·rintro(⟨h1,h2,h3⟩|h1)
   ·exact⟨h1,h2,by simp[h3]⟩
   ·simp at h1;subst h1;exact⟨hq,hh,by simp[aiv hq hq]⟩
  ·rintro⟨h1,h2,h3⟩;by_cases e:p=q
   ·exact .inr (by simp[e])
   ·replace h3:(left (iy p) && !(iy p).sameKey (iy q))=false:=h3;rw[aiv h1 hq,jk e] at h3;exact .inl ⟨h1,h2,by simpa using h3⟩
theorem CD.end_(h:CD D left ss)(hl:∀z,left z=false):IL D ss:=⟨h.1,fun q=>by rw[h.2 q,hl];simp⟩
theorem keysIter(n:Nat)(hn:1<=n)(mb b nn:Nat)(D:DataW Unit)(w0:World)(gK:w0.cell? ⟨mb,0,none⟩=some (.map (some b)))(awI:w0.ownsMap (H:=Unit) Tryz.prog 76 (plainElem Tryz.prog 3) b nn D):
  SeqStopsK Fence.wide n Tryz.prog 151 #[.pointer (some ⟨mb,0,none⟩)] (fun q:Qn=>#[q.val]) KeepsWalks (fun xs=>IL D xs) (fun _=>True) (Maps.size D) w0:=by
 intro l J Jx W hW hJ hJx hY h0
 have fc:mb<w0.heap.size:=by simpa using iT _ _ gK
 have HY:=ae hY;clear hY;have fE:=(hW.cell (p:=⟨mb,0,none⟩) fc).trans gK;have aS:W.ownsMap (H:=Unit) Tryz.prog 76 (plainElem Tryz.prog 3) b nn D:=awI.kept (row:=none) ⟨hW.os,hW.tape,hW.output,hW.size,fun k hk _=>hW.block k hk⟩ ai;refine callsIn_of_wp Tryz.func151 rfl trivial ?_ rfl;simp only[Tryz.ntmps151,zK,List.length_cons,List.length_nil,Nat.reduceAdd,Nat.reduceSub,JY,JZ,Kd,Kc,List.nil_append,List.cons_append]
 gi_wp2_with (first
  |(gi_at_range;refine wpListIn_range_own (H:=Unit) _ rfl _ 178 rfl 76 3 Gr Tryz.underlying178 (plainElem Tryz.prog 3) b nn D rfl aS ?_;intro w1 awJ zg vN)
  |gi_in)
 gi_loopw [3] (fun _ wr=>∃(left:Lit->Bool) (kX:Nat) (ss:List Qn),wr.ranges Tryz.prog 76 (plainElem (H:=Unit) Tryz.prog 3) b W.heap.size nn D left kX/\ss.length+kX<=Maps.size D/\CD D left ss/\J ss wr)
  (fun _ wr=>wr.rangeLeft b W.heap.size)
 case atStart=>
  exact⟨_,_,[],awJ,ai,CD.start D,hJ [] W w1 none h0 zg (fun r e=>by cases e)⟩
 case round=>
  obtain⟨left,kX,ss,yF,hcs,hC,hJs⟩:=hrel
  gi_wp2_with (first
   |(gi_at_next;refine wpListIn_next_ranges (H:=Unit) _ rfl _ rfl 76 Gr (plainElem Tryz.prog 3) Qn.val id (fun key kl hk=>by obtain⟨q,_,hq,_⟩:=aiu hk;exact⟨q,hq⟩) (fun v _ _=>⟨v,rfl⟩) b W.heap.size nn _ _ _ rfl yF ?_ ?_)
   |gi_in)
  ·intro OU tN
   gi_wp2
   go_end0;exact⟨⟨_,rfl⟩,.inl ⟨ss,hC.end_ tN,hJs⟩⟩
  ·intro x c kl yd yp w2 AX TC pK hv IM awK hlt gE ik IP;obtain⟨x',hxo,ex,rfl⟩:=aiu TC
   obtain rfl:x=x':=by
    cases x;cases x';simp[Qn.val] at ex;simp[ex]
   have hJ2:J ss w2:=hJ ss wr w2 (some W.heap.size) hJs gE (fun r e=>by cases e;exact⟨cK _,yF.iter_walk⟩);have hK3:KeepsWalks w2 (w2.alloc (.cells #[I x.node,I x.handler,I x.count,I x.kind,I x.index] 76)):=KeepsWalks.alloc _ _;have Zs:J ss (w2.alloc (.cells #[I x.node,I x.handler,I x.count,I x.kind,I x.index] 76)):=hJ ss w2 _ none hJ2 (zI _ _ none) (fun r e=>by cases e);obtain⟨fn,tmps,assign,body,hy,hR⟩:=HY.out ss x _ Zs ab;have qW:=hC.step hxo pK (has_true_of_atKey IM);have OV:=ae qW;have awL:=awK.of_walks hK3;have HR:=ae hR;simp only[Qn.val] at IP hy⊢;clear ik hC qW hR
   gi_wp2
   refine HR.out.mono ?_;rintro e W3 (⟨rfl,hJ4,hk4⟩|⟨rfl,awM⟩)
   ·gi_wp2
    have aiw:=awL.of_walks hk4;go_roundw
    case rel=>exact⟨_,AX,ss++[x],aiw,by simp;omega,OV.out,hJ4⟩
    case measure=>rw[aiw.left_eq,yF.left_eq];exact hlt
   ·gi_wp2
    refine DI (results_none rfl _ _ _) rfl ?_;exact⟨⟨_,rfl⟩,.inr ⟨_,trivial,awM⟩⟩
end
section
open Go.RowKit Go.Shelf Go.Maps
attribute [local go_sem] Oper.semAt_some
theorem awN:(Tryz.prog.info? 76).map (fun i=>(i.zero,i.size,i.bytes))=some (some (.agg #[.int .i64 0,.int .i64 0,.int .i64 0,.int .i64 0,.int .i64 0]),5,40):=ah
def qc (q:Qn):List Value:=iv q.ints
theorem awO {F:Fence}{nn:Nat}{P:Program}{w:World}{ops:Array Oper}{rest:List Oper}{o:Oper}{a:Act}{Q:Exit->Act->World->Prop}(dp:o.guard=none)(s x:Operand)(t:TypeId)
  (ho:o.op=.call { callee:=.builtin .append,args:=#[s,x],argTypes:=#[t,t] })
  (e:TypeId) (z:Value) (k bytes:Nat) (ht:P.underlying t=some (.slice e)) (lX:(P.info? e).map (fun i=>(i.zero,i.size,i.bytes))=some (some z,k,bytes)) (nS:z.cells.size=k) (hk:0<k) (ks:bytes<=1000)
  (B:Nat) (v:Value) (n:Nat) (xs:List Value) (hs:a.eval s=v) (aS:w.ownsRow B e k v n xs)
  (b m c:Nat) (cs:Array Value) (t':TypeId) (hx:a.eval x=.slice (some ⟨b,0,none⟩) m c) (hblk:w.heap[b]? =some (.cells cs t' (0,0))) (hl:cs.size=m*k) (h1:cs.toList.all Value.oneCell'=true)
  (jl:n+m<=100000000) (lz:B<=w.heap.size)
  (h:∀u w',w'.ownsRow B e k u (n+m) (xs++cs.toList)->w.grownBy w' v.ownBlock->wpListIn F nn P ops Q rest (a.put o.dst u) w'):wpListIn F nn P ops Q (o::rest) a w:=by
 obtain⟨i0,hi,eZ,cL,fj⟩:=wL lX
 refine wpListIn_append_own w dp s x t ho B e i0 z k bytes ht hi eZ cL fj nS hk v n xs hs aS ⟨b,0,none⟩ m c cs.toList hx (by simpa using hl) (fun j u hu=> ?_) (fq.1 h1) (by unfold maxLen;omega)
  (bj (nR jl ks) ab) lz ?_
 ·have lv:(⟨b,0,none⟩:Addr).add j=⟨b,0+j,none⟩:=by unfold Addr.add;split<;>simp_all
  rw[lv,fu,zP w b j cs t' _ hblk];simpa using hu
 ·intro u w' h2 h3 _;exact h u w' h2 h3
def OW (W:World)(B:Nat)(x:Qn):Prop:=W.heap[B]? =some (.cells #[I x.node,I x.handler,I x.count,I x.kind,I x.index] 76 (0,0))
theorem OW.lt {W:World}{B:Nat}{x:Qn}(h:OW W B x):B<W.heap.size:=(ng.1 h).1
theorem awP (B:Nat)(x:Qn):Own (fun(_:Unit) W=>OW W B x):=fun _ X Y row hs hg bl=>
 (hg.block B (OW.lt hs) (fun e=>by
  obtain⟨o,ho,hc⟩:=bl B e.symm;rw[show X.heap[B]? =_ from hs] at ho;cases ho
  cases hc)).trans hs
theorem awQ (mb b nn:Nat)(D:DataW Unit)(w:World)(gK:w.cell? ⟨mb,0,none⟩=some (.map (some b)))(aS:w.ownsMap (H:=Unit) Tryz.prog 76 (plainElem Tryz.prog 3) b nn D)(hsz:Maps.size D<=1000000):
  CallsIn Fence.wide 5 Tryz.prog 194 #[.slice none 0 0,.func (.func 151) #[] #[.pointer (some ⟨mb,0,none⟩)]] w fun e w'=>∃u xs,e=.returned u/\IL D xs/\w'.ownsRow w.heap.size 76 5 u xs.length (xs.flatMap qc)/\aw w w':=by
 have OK:=keysIter (5-1) ab mb b nn D w gK aS;have aaa:=ae OK;clear OK;refine callsIn_of_wp_marks Tryz.func194 rfl trivial ?_ rfl;simp only[Tryz.ntmps194,zK,List.length_cons,List.length_nil,Nat.reduceAdd,Nat.reduceSub,JY,JZ,Kd,Kc,List.nil_append,List.cons_append]
 gi_wp2
 have bS:=Boxed.new w 181 (.slice none 0 0);have oh:aw w (w.alloc (.cells #[.slice none 0 0] 181)):=(Below.refl _ w).alloc ax _
 refine wpIn_rangeFunc_ownH rfl ab (gf:=151) (lb:=#[.pointer (some ⟨mb,0,none⟩)]) rfl trivial (enters_of Tryz.func151 ah rfl)
  aaa.out walksK_t walksK_b oh (fun _=>rfl)
  (fun(pre:List Qn) W=>(∃u,Boxed W w.heap.size 181 u/\W.ownsRow w.heap.size 76 5 u pre.length (pre.flatMap qc)/\True)/\aw w W)
  (fun _ _ _=>False)
  (OwnFrom.and (Own.from (holdsRow_own _ _ _ _ _ (fun pre:List Qn=>pre.length) (fun pre=>pre.flatMap qc) (fun _ _=>True)) _) (ownFrom_below ax ai))
  (fun _ _ _ _ _ hs _ _=>hs)
  ⟨⟨_,bS,ko _ _ _ _,trivial⟩,oh⟩
  (fun x a' W=>∃Bx,w.heap.size<Bx/\OW W Bx x/\a'={ tmps:=#[.slice none 0 0,.func (.func 151) #[] #[.pointer (some ⟨mb,0,none⟩)],.pointer (some ⟨w.heap.size,0,none⟩),undef,.slice none 0 0,.pointer (some ⟨Bx,0,none⟩),.func (.func 151) #[] #[.pointer (some ⟨mb,0,none⟩)],.agg #[I x.node,I x.handler,I x.count,I x.kind,I x.index],undef,undef,undef,undef,undef],defers:=[] })
  (fun x a' _ X Y row hs hg hr=>by obtain⟨Bx,h1,h2,h3⟩:=hs;exact⟨Bx,h1,awP Bx x () X Y row h2 hg (fun r e=>(hr r e).2),h3⟩)
  ?assign ?body ?done ?stop
 case assign=>
  rintro l pre x W K ⟨⟨u,b1,o1,_⟩,aC⟩ hK;simp only[Qn.val]
  gi_wp2
  exact hK _ _ ((KeepsOthers.alloc _ _).from _) (KeepsWalks.alloc _ _) ⟨⟨u,b1.alloc _,o1.alloc _,trivial⟩,aC.alloc aC.size _⟩ ⟨W.heap.size,b1.lt,World.alloc_heap_new W _,rfl⟩
 case body=>
  rintro l pre x a' W hl ⟨r,hr⟩ ⟨⟨u,b1,o1,_⟩,aC⟩ ⟨Bx,hBx,bX,rfl⟩ hlt;have c1:=b1.cell;have LJ:pre.length<=1000000:=ab
  have cX:=fun j=>zP W Bx j _ _ _ bX
  have hsW:=aC.size;clear hlt
  gi_wp2_with (gi_at_builtin;refine awO rfl _ _ 181 rfl 76 _ 5 40 Tryz.underlying181 awN rfl ab ab w.heap.size _ _ _ rfl (o1.alloc _) W.heap.size 1 1 _ 76 rfl (dV _ _) rfl rfl ab bq ?_;intro u2 w1 sP zd;obtain⟨g',cap',rfl⟩:=ownsRow_succ sP;obtain⟨iZ,pI,eA,nX,eU⟩:=b1.appended au o1 hsW ax sP zd;have jN:=iZ.cell;have hf1:=iZ.frozen)
  have hh:(w1.setCell ⟨w.heap.size,0,none⟩ (.slice (some ⟨g',0,none⟩) (pre.length+1) cap')).ownsRow w.heap.size 76 5 (.slice (some ⟨g',0,none⟩) (pre.length+1) cap') (pre++[x]).length ((pre++[x]).flatMap qc):=by
   rw[List.length_append,oY];simpa [qc,Qn.ints,iv] using eA
  exact⟨nX.from _,nX.walks,⟨_,pI,by first|exact hh|exact⟨hh,trivial⟩⟩,aC.trans eU⟩
 case done=>
  rintro D' ys W hD lf ⟨⟨u,b1,o1,_⟩,aC⟩ hK;have c1:=b1.cell
  gi_wp2
  refine⟨ai,.inl ⟨_,_,rfl,run_takeDeferred hK,?_⟩⟩;exact⟨_,results_tmp rfl _ _ _,_,ys,rfl,lf,ownsRow_putObj o1 _ hK rfl,aC.trans (belowK_b (w:=w) ax W D' _ _ (by simp at hD;omega) hK rfl rfl)⟩
 case stop=>
  rintro D' c pre W hD _ hf _;exact hf.elim
end
section
open Go.Shelf
def Tryz.aix:Go.Shelf.Ren:=⟨fun|6=>150|15=>196|14=>195|28=>251|29=>227|20=>243|21=>244|22=>245|23=>246|24=>247|25=>248|26=>249|27=>250|46=>273|47=>274|48=>275|49=>276|50=>277|57=>290|n=>n,fun|22=>181|24=>76|25=>168|3=>3|39=>288|0=>0|53=>324|55=>222|4=>4|46=>336|45=>335|50=>340|5=>5|9=>9|66=>367|70=>371|76=>384|77=>385|n=>n,fun|n=>n⟩
theorem Tryz.aiy:Go.Proofs.SlLaysF0.n6 Tryz.prog Tryz.aix:={
 mixed:=ah
 f6:=⟨Tryz.f150.name,au,Tryz.func150.trans (aG some ah)⟩
 f14:=⟨Tryz.f195.name,au,Tryz.func195.trans (aG some ah)⟩
 f15:=Tryz.func196.trans (aG some ah)
 f20:=⟨Tryz.f243.name,au,Tryz.func243.trans (aG some ah)⟩
 f21:=⟨Tryz.f244.name,au,Tryz.func244.trans (aG some ah)⟩
 f22:=⟨Tryz.f245.name,au,Tryz.func245.trans (aG some ah)⟩
 f23:=⟨Tryz.f246.name,au,Tryz.func246.trans (aG some ah)⟩
 f24:=⟨Tryz.f247.name,au,Tryz.func247.trans (aG some ah)⟩
 f25:=⟨Tryz.f248.name,au,Tryz.func248.trans (aG some ah)⟩
 f26:=⟨Tryz.f249.name,au,Tryz.func249.trans (aG some ah)⟩
 f27:=⟨Tryz.f250.name,au,Tryz.func250.trans (aG some ah)⟩
 f28:=Tryz.func251.trans (aG some ah)
 f29:=Tryz.func227.trans (aG some ah)
 f46:=⟨Tryz.f273.name,au,Tryz.func273.trans (aG some ah)⟩
 f47:=Tryz.func274.trans (aG some ah)
 f48:=Tryz.func275.trans (aG some ah)
 f49:=⟨Tryz.f276.name,au,Tryz.func276.trans (aG some ah)⟩
 f50:=⟨Tryz.f277.name,au,Tryz.func277.trans (aG some ah)⟩
 f57:=⟨Tryz.f290.name,au,Tryz.func290.trans (aG some ah)⟩
 t0:=Tryz.underlying0
 a0:=Tryz.isAgg0
 z0:=Tryz.sizeOf0
 v0:=Tryz.zeroValue0
 t3:=Tryz.underlying3
 a3:=Tryz.isAgg3
 z3:=Tryz.sizeOf3
 v3:=Tryz.zeroValue3
 t4:=Tryz.underlying4
 a4:=Tryz.isAgg4
 z4:=Tryz.sizeOf4
 v4:=Tryz.zeroValue4
 t5:=Tryz.underlying5
 a5:=Tryz.isAgg5
 z5:=Tryz.sizeOf5
 v5:=Tryz.zeroValue5
 t9:=Tryz.underlying9
 a9:=Tryz.isAgg9
 z9:=Tryz.sizeOf9
 v9:=Tryz.zeroValue9
 t22:=Tryz.underlying181
 a22:=Tryz.isAgg181
 z22:=Tryz.sizeOf181
 v22:=Tryz.zeroValue181
 t25:=Tryz.underlying168
 a25:=Tryz.isAgg168
 z25:=Tryz.sizeOf168
 v25:=Tryz.zeroValue168
 t39:=Tryz.underlying288
 a39:=Tryz.isAgg288
 z39:=Tryz.sizeOf288
 v39:=Tryz.zeroValue288
 t45:=Tryz.underlying335
 a45:=Tryz.isAgg335
 z45:=Tryz.sizeOf335
 v45:=Tryz.zeroValue335
 t46:=Tryz.underlying336
 a46:=Tryz.isAgg336
 z46:=Tryz.sizeOf336
 v46:=Tryz.zeroValue336
 t50:=Tryz.underlying340
 a50:=Tryz.isAgg340
 z50:=Tryz.sizeOf340
 v50:=Tryz.zeroValue340
 t53:=Tryz.underlying324
 a53:=Tryz.isAgg324
 z53:=Tryz.sizeOf324
 v53:=Tryz.zeroValue324
 t55:=Tryz.underlying222
 a55:=Tryz.isAgg222
 z55:=Tryz.sizeOf222
 v55:=Tryz.zeroValue222
 t66:=Tryz.underlying367
 a66:=Tryz.isAgg367
 z66:=Tryz.sizeOf367
 v66:=Tryz.zeroValue367
 t70:=Tryz.underlying371
 a70:=Tryz.isAgg371
 z70:=Tryz.sizeOf371
 v70:=Tryz.zeroValue371
 t76:=Tryz.underlying384
 a76:=Tryz.isAgg384
 z76:=Tryz.sizeOf384
 v76:=Tryz.zeroValue384
 t77:=Tryz.underlying385
 a77:=Tryz.isAgg385
 z77:=Tryz.sizeOf385
 v77:=Tryz.zeroValue385 }
end
section
open Go.RowKit Go.Shelf
open Go.Sort hiding Below
variable {cap:Nat} {d:Array Qn} {w:World}
instance:Inhabited Qn:=⟨⟨0,0,0,0,0⟩⟩
theorem LN(q:Qn):(qc q).length=5:=rfl
theorem aiz(d:Array Qn)(t:Nat)(h:t<d.size*5):(d.toList.flatMap qc)[t]? =some (flatK qc 5 d)[t]! :=by
 have h5:t/5<d.size:=ab;have h6:t%5<5:=oD _ ab;rw[get_flatK _ _ _ _ h];have e:t/5*5+t%5=t:=ab
 conv=>lhs;rw[<-e]
 rw[Nf qc 5 LN d.toList (t/5) (t%5) d[t/5]! (by simp[h5]) h6];rw[cw (by rw[LN];exact h6),getElem!_pos (qc d[t/5]!) (t%5) (by rw[LN];exact h6)]
theorem awR{B n dM:Nat}{xs:List Qn}(h:w.ownsRow B 76 5 (.slice (some ⟨dM,0,none⟩) n cap) n (xs.flatMap qc)):HoldsK qc 5 w dM 0 xs.toArray:=by
 intro j hj;rw[size_flatK] at hj;have hg:=aiz xs.toArray j hj;obtain⟨_,h0|⟨g,cap',cur,hv,_,hh,_,_,_,ht⟩⟩:=h
 ·simp at h0
 ·simp at hv;obtain⟨rfl,_⟩:=hv;refine⟨?_,by simp[World.frozen?,hh]⟩;rw[zP w dM (0+j) cur 76 (0,0) hh,fu,<-Array.getElem?_toList];rw[<-ht] at hg;rw[wI] at hg;split at hg
  ·simpa using hg
  ·cases hg
theorem awS{dM n:Nat}(h:HoldsK qc 5 w dM 0 d)(hn:n=d.size)(hm:n<=1000000):Flat w 5 (.slice (some ⟨dM,0,none⟩) n cap) d.toList.length (d.toList.flatMap qc):=by
 subst hn
 have hl:(d.toList.flatMap qc).length=d.size*5:=by rw[Kh qc 5 LN];simp
 rw[show d.toList.length=d.size from ai]
 refine Flat.wN hl ab fun j u hu=> ?_
 have hj:j<d.size*5:=by have:=(bK.1 hu).1;omega
 rw[aiz d j hj] at hu;rw[(h j (by rw[size_flatK];exact hj)).1];exact hu
theorem awT{α:Type}[Inhabited α](enc:α->List Value)(k:Nat)(w:World)(dM off m:Nat)(dk:Array α)(os:Array Obj)(B:Nat)(hB:B<=dM)(hb:dM<w.heap.size):Below B w (sortWorldK enc k w dM off m dk os):=by
 refine⟨rfl,rfl,rfl,size_sortWorldK_c enc k w dM off m dk os,fun j hj=> ?_⟩
 show((w.heap.modify dM _)++os)[j]? =_
 rw[Wm bq,QZ,af ab]
theorem awU(dM off size:Nat)(w:World):CmpLays Tryz.prog 94 #[] qc 5 Qn.cmp dM off size w:=fun _ _ _ _ x y=>awn x.node x.handler x.count x.kind x.index y.node y.handler y.count y.kind y.index _
def OX (l:List Qn):Prop:=l.Pairwise fun a b=>a.cmp b<=0
theorem awV(h:Sort.SortedIn (ltOf Qn.cmp) 0 d.size d):OX d.toList:=by
 rw[OX,List.pairwise_iff_getElem];intro i j hi hj Ad;have h1:=h i j ab Ad (by simpa using hj);simp at hi hj;rw[getElem!_pos d j hj,getElem!_pos d i hi] at h1;have h2:¬Qn.cmp d[j] d[i]<0:=of_decide_eq_false h1;have:=Qn.aaf d[i] d[j];simp only[Array.getElem_toList];omega
theorem awW(dM cap:Nat)(xs:List Qn)(B:Nat)(w:World)(aS:w.ownsRow B 76 5 (.slice (some ⟨dM,0,none⟩) xs.length cap) xs.length (xs.flatMap qc))(hsz:xs.length<=1000000):
  Calls Tryz.prog 150 #[.slice (some ⟨dM,0,none⟩) xs.length cap,.func (.func 94) #[] #[]] w fun e w'=>e=.returned (.tuple #[])/\∃ys:List Qn,ys.Perm xs/\OX ys/\Flat w' 5 (.slice (some ⟨dM,0,none⟩) xs.length cap) ys.length (ys.flatMap qc)/\Below B w w':=by
 have eg:∀args w,(callFunc 94 args).run Tryz.prog w=.ok (.enter 94 args) w:=enters_of Tryz.func94 ah rfl;have hH:=awR aS
 obtain⟨hB,hblk⟩:B<=dM/\dM<w.heap.size:=by
  obtain⟨_,h0|⟨g,cap',cur,hv,hb,hh,_⟩⟩:=aS
  ·simp at h0
  ·simp at hv;obtain⟨rfl,_⟩:=hv;exact⟨hb,(ng.1 hh).1⟩
 have ET:=AnyQ.slices_SortFunc Tryz.aiy 5 Tryz.isAgg76 Tryz.sizeOf76 qc LN (fun x v hv=>by simp[qc,iv,Qn.ints] at hv;rcases hv with rfl|rfl|rfl|rfl|rfl<;>rfl) Qn.cmp awq 94 #[] dM 0 cap xs.toArray w eg (awU dM 0 xs.toArray.size w) hH hblk bq;change Calls Tryz.prog 150 _ _ _ at ET;refine ET.mono ?_;rintro e w' ⟨rfl,d',n,os,hp,hs,rfl⟩
 have hsz':d'.size=xs.length:=by rw[hp.1];simp
 have hh:=holdsK_sortWorldK_c qc 5 w dM 0 xs.toArray d' n os hH hblk hp.1;refine⟨rfl,d'.toList,?_,awV (by rw[hsz'];simpa using hs),awS hh ab hsz,awT _ _ _ _ _ _ _ _ _ hB hblk⟩;have h2:=hp.2.2
 have e1:d'.extract 0 xs.toArray.size=d':=by simp[<-hsz']
 have e2:xs.toArray.extract 0 xs.toArray.size=xs.toArray:=ai;rw[e1,e2] at h2;simpa using h2
end
section
open Go.RowKit Go.Maps
theorem awX (w:World):Calls Tryz.prog 243 #[.slice none 0 0,I 0,I 0,.func (.func 94) #[] #[]] w fun e w'=>e=.returned (.tuple #[])/\w'=w:=by
 go_enter Tryz.func243,Tryz.ntmps243;go_wp2_with fail;refine wp_loop_rounds 1 ?_;rw[rounds_succ];go_wp2_with fail;go_end0;exact⟨rfl,rfl⟩
theorem awY (lim:Int)(w:World):Calls Tryz.prog 195 #[.slice none 0 0,I 0,I 0,I lim,.func (.func 94) #[] #[]] w fun e w'=>e=.returned (.tuple #[])/\w'=w:=by
 have hi:=awX w;go_enter Tryz.func195,Tryz.ntmps195;go_wp2_with fail;refine wp_loop_rounds 1 ?_;rw[rounds_succ]
 go_wp2_with (go_at_call 243;refine hi.mono ?_;rintro e w' ⟨rfl,rfl⟩)
 (try simp only[Exit.inBlock,Exit.then]);refine DI (results_none rfl _ _ _) rfl ?_
 exact⟨rfl,rfl⟩
theorem bitsLen (n:Nat)(w:World)(h:n<=1000000):Calls Tryz.prog 196 #[.int .u64 n] w fun e w'=>(∃l:Int,e=.returned (.int .i64 l))/\w'=w:=by
 have h1:=Any.bits_Len (SlLaysF0.n15.bits (P:=Tryz.prog) (ρ:=Tryz.aix) { Tryz.aiy with }) (n:Int) w ab ab;change Calls Tryz.prog 196 _ _ _ at h1
 exact h1.mono fun _ _ ⟨he,hw⟩=>⟨⟨_,he⟩,hw⟩
theorem awZ (w:World):Calls Tryz.prog 150 #[.slice none 0 0,.func (.func 94) #[] #[]] w fun e w'=>e=.returned (.tuple #[])/\w'=w:=by
 have hl:=bitsLen 0 w ab;go_enter Tryz.func150,Tryz.ntmps150
 go_wp2_with (first|(go_at_call 196;refine hl.mono ?_;rintro e w' ⟨⟨l,rfl⟩,rfl⟩)|(go_at_call 195;refine(awY _ _).mono ?_;rintro e w' ⟨rfl,rfl⟩))
 go_end0;exact⟨rfl,rfl⟩
theorem axa (v:Value)(xs:List Qn)(B:Nat)(w:World)(aS:w.ownsRow B 76 5 v xs.length (xs.flatMap qc))(hsz:xs.length<=1000000):
  Calls Tryz.prog 150 #[v,.func (.func 94) #[] #[]] w fun e w'=>e=.returned (.tuple #[])/\∃ys:List Qn,ys.Perm xs/\OX ys/\Flat w' 5 v ys.length (ys.flatMap qc)/\Below B w w':=by
 have h2:=aS;obtain⟨hl,⟨rfl,hn⟩|⟨g,cap,cur,rfl,_⟩⟩:=h2
 ·have hx:xs=[]:=BC.1 hn;subst hx;refine(awZ w).mono ?_;rintro e w' ⟨rfl,rfl⟩;exact⟨rfl,[],List.Perm.refl _,List.Pairwise.nil,Flat.nil _ _ _ _,Below.refl _ _⟩
 ·exact awW g cap xs B w aS hsz
theorem axb (b:Nat)(w:World):Calls Tryz.prog 111 #[.map (some b)] w fun e w'=>e=.returned (.func (.func 151) #[] #[.pointer (some ⟨w.heap.size,0,none⟩)])/\w'=w.alloc (.cells #[.map (some b)] 178):=by
 go_enter Tryz.func111,Tryz.ntmps111;go_wp2_with fail;go_ret;exact⟨rfl,rfl⟩
theorem axc (mb b nn:Nat)(D:DataW Unit)(w:World)(gK:w.cell? ⟨mb,0,none⟩=some (.map (some b)))(aS:w.ownsMap (H:=Unit) Tryz.prog 76 (plainElem Tryz.prog 3) b nn D)(hsz:Maps.size D<=1000000):
  Calls Tryz.prog 149 #[.func (.func 151) #[] #[.pointer (some ⟨mb,0,none⟩)]] w fun e w'=>∃u xs,e=.returned u/\IL D xs/\w'.ownsRow w.heap.size 76 5 u xs.length (xs.flatMap qc)/\aw w w':=by
 have hc:=Gk.1 (awQ mb b nn D w gK aS hsz);have Hc:=ae hc;clear hc gK aS;go_enter Tryz.func149,Tryz.ntmps149
 go_wp2_with (go_at_call 194;refine Hc.out.mono ?_;rintro e w' ⟨u,xs,rfl,h1,h2,h3⟩)
 go_ret;exact⟨_,xs,rfl,h1,h2,h3⟩
theorem aiA {D:DataW Unit}{xs:List Qn}{f:Qn->Int}{n:Nat}(h:IL D xs)(hM:pk D f)(l:List aL)(hf:∀q,0<f q->∃a∈l,a.q=q)(hn:l.length=n):xs.length<=n:=by
 subst hn
 have kY:∀q∈xs,q∈l.map aL.q:=fun q hq=>by
  obtain⟨h1,h2⟩:=(h.2 q).1 hq;rw[hM.Gs q h1] at h2;obtain⟨a,ha,e⟩:=hf q (ni h2);exact dm.2 ⟨a,ha,e⟩
 have:∀(xs ys:List Qn),xs.Nodup->(∀q∈xs,q∈ys)->xs.length<=ys.length:=by
  intro xs
  induction xs with
  |nil=>intros;simp
  |cons x xs ih=>
   intro ys hn hs;rw[List.nodup_cons] at hn;have hx:=hs x ai
   have:=ih (ys.erase x) hn.2 fun q hq=>(List.mem_erase_of_ne (by rintro rfl;exact hn.1 hq)).2 (hs q (jC _ hq))
   rw[List.length_erase_of_mem hx] at this;have h0:0<ys.length:=List.length_pos_of_mem hx;simp;omega
 have:=this xs _ h.1 kY;simpa using this
theorem axd (mb b nn:Nat)(D:DataW Unit)(w:World)(gK:w.cell? ⟨mb,0,none⟩=some (.map (some b)))(aS:w.ownsMap (H:=Unit) Tryz.prog 76 (plainElem Tryz.prog 3) b nn D)(hsz:Maps.size D<=1000000)(hk:∀xs,IL D xs->xs.length<=1000000):
  Calls Tryz.prog 110 #[.func (.func 151) #[] #[.pointer (some ⟨mb,0,none⟩)],.func (.func 94) #[] #[]] w fun e w'=>∃u ys,e=.returned u/\IL D ys/\OX ys/\Flat w' 5 u ys.length (ys.flatMap qc)/\(∀k,u.ownBlock=some k->w.heap.size<=k)/\aw w w':=by
 have Hc:=ae (axc mb b nn D w gK aS hsz);clear gK aS;go_enter Tryz.func110,Tryz.ntmps110
 go_upto_region 2 with(go_at_call 149;refine Hc.out.mono ?_;rintro e w1 ⟨u,xs,rfl,h1,h2,h3⟩)
 have hl:=hk xs h1;have Hs:=ae (axa u xs w.heap.size w1 h2 hl);clear hl
 go_wp2_with (go_at_call 150;refine Hs.out.mono ?_;rintro e w2 ⟨rfl,ys,h4,h5,h6,h7⟩)
 go_ret;exact⟨_,ys,rfl,⟨(List.Perm.nodup_iff h4).2 h1.1,fun q=>by rw[List.Perm.mem_iff h4,h1.2 q]⟩,h5,h6,fun k hk=>(h2.lt k hk).1,h3.trans h7⟩
theorem axe (l:List Ev)(v:Value)(w:World)(h:oG w v l)(hl:l.length<=1000000):Calls Tryz.prog 109 #[v] w fun e w'=>∃u,e=.returned u/\w'.ownsRow w.heap.size 41 8 u l.length (l.flatMap ec)/\aw w w':=by
 have qT:∀(w:World) (a:Option Addr) (n c n' c':Nat),(binOp .eql 46 (.slice a n c) (.slice none n' c')).run Tryz.prog w=.ok (.bool a.isNone) w:=fun w a n c n' c'=>Lib.run_eql_slice_nil w _ _ a n c n' c' Tryz.underlying46
 obtain⟨ka,ca,rfl,gz⟩:=h.open
 cases ka with
 |none=>
  have e:=aea h
  have e0:l=[]:=by
   have:=h.1;rw[e] at this;simp at this;exact BC.1 ab
  subst e0;go_enter Tryz.func109,Tryz.ntmps109;go_wp2_with fail;go_ret;exact⟨_,rfl,ko _ _ _ _,Below.refl _ _⟩
 |some ad=>
  have Hf:=ae (show Flat w 8 (.slice (some ad) l.length ca) l.length (l.flatMap ec) from h);clear h;go_enter Tryz.func109,Tryz.ntmps109
  go_wp2_with (at_builtin;go_must (refine aeb rfl _ _ 46 rfl 41 _ 8 64 Tryz.underlying46 adZ rfl ab ab w.heap.size _ 0 [] rfl (Kj (n:=0) (cs:=#[]) (dV _ _) ax rfl ab) _ rfl l.length _ (Flat.kept Hf.out ((Below.refl _ _).alloc ax _) ax) (apk l) ab ai ?_);intro u w1 aS tZ aC)
  go_ret;rw[fu,List.nil_append] at aS;exact⟨_,rfl,aS,((Below.refl _ _).alloc ax _).trans aC⟩
end
end Go.Proofs.YtkanpepkdcmpmaaGreatDoor
