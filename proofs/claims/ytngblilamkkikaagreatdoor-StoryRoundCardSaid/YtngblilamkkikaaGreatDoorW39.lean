import Derived.RangeFuncNested
import Derived.RangeFuncBound
import Derived.RangeFuncCalls
import Derived.RangeFuncLeaves
import Derived.RangeFuncKeeps
import Derived.RangeFuncGives
import Derived.Sort.MapsRangeIn
import Derived.Shelf.Abstract
import Derived.OwnWalkIn
import Derived.TacticsInMore
import Derived.LoopNIn
import Derived.LoopIn
import Derived.OpenShut
import Derived.Maps.AppendAt
import Derived.Shelf.SlGeneric
import Derived.Shelf.SlLaysF0
import Derived.Ground.SlsfProg
import Derived.Test.YtngblilamkkikaaGreatDoorW38
import Derived.Shelf.SlSortCmp.WholeK
set_option maxHeartbeats 40000000
set_option maxRecDepth 100000
set_option linter.all false
namespace Go.Proofs.YtngblilamkkikaaGreatDoor
section
open Go.RowKit Go.Maps
theorem ayJ:(Tryz.prog.info? 100).map (·.size)=some 6:=ah
theorem ayK:(Tryz.prog.info? 92).map (·.size)=some 5:=ah
theorem aiQ {W:World}{g:Nat}{cs:Array Value}(h:ax W g cs)(o:Nat)(xs:List Value)(hx:∀j v,xs[j]? =some v->cs[o+j]? =some v):W.rangeAt g o xs:=fun j v hv=>by
 rw[h.cell];exact hx j v hv
section
variable {ops:Array Oper} {Q:Exit->Act->World->Prop} {rest:List Oper} {o:Oper} {a:Act} {w:World}
theorem ayL (db:o.guard=none)(x:Operand)(ho:o.op=.load 100 x)(b off:Nat)(cs:List Value)(hl:cs.length=6)(hx:a.eval x=.pointer (some ⟨b,off,none⟩))(hc:w.rangeAt b off cs)
  (h:wpList Tryz.prog ops Q rest (a.put o.dst (.agg cs.toArray)) w):wpList Tryz.prog ops Q (o::rest) a w:=
 wpList_load_mid db 100 x ho b off hx cs _ hc Tryz.underlying100 rfl (by rw[hl];exact ayJ) h
end
theorem ayM (l:List aI)(ve va:Value)(w:World)(ha:lp w va l)(ct:∀a∈l,a.ok)(hl:l.length<=1000000):
  Calls Tryz.prog 54 #[.agg #[ve,va]] w fun e w'=>∃b D,e=.returned (.map (some b))/\w.heap.size<=b/\w'.ownsMap (H:=Unit) Tryz.prog 92 (plainElem Tryz.prog 3) b l.length D/\og D (ek l)/\ay w w':=by
 obtain⟨ka,ca,rfl,jf⟩:=ha.open;have oT:=ae ct;have mu:=@run_makeMap Tryz.prog;clear ct;go_enter Tryz.func54,Tryz.ntmps54;go_wp2_with fail;clear mu
 have aiR:((w.alloc (.cells #[ve,.slice ka l.length ca] 28)).alloc (.map #[] 0)).ownsMap (H:=Unit) Tryz.prog 92 (plainElem Tryz.prog 3) (w.heap.size+1) 0 (.map []):=by
  have:=World.ownsMap_made (H:=Unit) (w.alloc (.cells #[ve,.slice ka l.length ca] 28)) Tryz.prog 92 (plainElem Tryz.prog 3);rwa[World.size_alloc] at this
 have aiS:=ae aiR;clear aiR;go_loopw [10] (fun p wr=>∃(k:Nat) (D:DataW Unit),k<=l.length/\p=.int .i64 k/\Hid (wr.ownsMap (H:=Unit) Tryz.prog 92 (plainElem Tryz.prog 3) (w.heap.size+1) k D)/\Hid (og D (ek (l.take k)))/\ay w wr) (fun p _=>l.length-(intOf p).toNat)
 case atStart=>exact⟨0,.map [],ab,rfl,ae aiS.out,ae og.empty,dz⟩
 case round=>
  clear aiS;obtain⟨k,D,hk,rfl,iy,HM,hB⟩:=hrel;by_cases hlt:k<l.length
  ·obtain⟨b,o,rfl,hr⟩:=(ha.kept hB aA).at (i:=k) (x:=l[k]) (by simp[hlt]);have hq:=oT.out l[k] (cA hlt);have SX:=IM l[k].q hq.1;have hwf:=IL hq.2;have Hq:=ae hq.1;have aiT:=ae SX;have Hwf:=ae hwf;have Hr:=ae hr;have LW:=hB.size;have fB:w.heap.size+1<wr.heap.size:=iy.out.lt;have Dl:=Vc (l.take k) l[k];rw[<-List.take_succ_eq_append_getElem hlt] at Dl;have SY:=ae Dl;clear hq SX hwf hr Dl
   go_upto_region 5 with((with_reducible refine ayL rfl _ rfl b (o+k*6) [I l[k].q.node,I l[k].q.handler,I l[k].q.count,I l[k].q.kind,I l[k].q.index,I l[k].n] rfl ?_ ?_ ?_);(rfl);(exact Hr.out))
   have hblk:ax (wr.alloc (.cells #[I l[k].q.node,I l[k].q.handler,I l[k].q.count,I l[k].q.kind,I l[k].q.index,I l[k].n] 100)) wr.heap.size #[I l[k].q.node,I l[k].q.handler,I l[k].q.count,I l[k].q.kind,I l[k].q.index,I l[k].n]:=ax.new _ _ _;have Bv:=iy.out.alloc (.cells #[I l[k].q.node,I l[k].q.handler,I l[k].q.count,I l[k].q.kind,I l[k].q.index,I l[k].n] 100);have aM:ay w (wr.alloc (.cells #[I l[k].q.node,I l[k].q.handler,I l[k].q.count,I l[k].q.kind,I l[k].q.index,I l[k].n] 100)):=hB.alloc LW _;have eP:(wr.alloc (.cells #[I l[k].q.node,I l[k].q.handler,I l[k].q.count,I l[k].q.kind,I l[k].q.index,I l[k].n] 100)).heap.size=wr.heap.size+1:=World.size_alloc _ _;generalize wr.alloc (.cells #[I l[k].q.node,I l[k].q.handler,I l[k].q.count,I l[k].q.kind,I l[k].q.index,I l[k].n] 100)=w1 at hblk Bv aM eP⊢;have aiU:=ae Bv;have aiV:=ae hblk;have DY:=ae eP;have c0:=hblk.cell 0;have c1:=hblk.cell 1;have c2:=hblk.cell 2;have c3:=hblk.cell 3;have c4:=hblk.cell 4;clear Bv hblk eP
   go_upto_region 6 with(at_delete;refine wpList_delete_own (H:=Unit) _ rfl _ _ 129 92 rfl 3 EW Tryz.underlying129 (plainElem Tryz.prog 3) (w.heap.size+1) k D rfl aiU.out l[k].q.val (gK l[k].q) rfl aiT.out ?_;intro w2 GI aiW)
   simp only[Act.put];have kS:=aiW.grown;have GJ:ax w2 wr.heap.size #[I l[k].q.node,I l[k].q.handler,I l[k].q.count,I l[k].q.kind,I l[k].q.index,I l[k].n]:=aiV.out.grown kS bC;have cn:ay w w2:=aM.grown kS (by have:=aM.size;omega) (fun g hg=>by cases hg;omega);have zC:=ae GI;have c0:=GJ.cell 0;have c1:=GJ.cell 1;have c2:=GJ.cell 2;have c3:=GJ.cell 3;have c4:=GJ.cell 4;have c5:=GJ.cell 5;clear GI aiW kS GJ aM aiU aiV DY
   obtain⟨nn,jH⟩:∃nn,nn=l[k].n:=⟨_,rfl⟩
   have Hnn:=ae jH;by_cases hn:0<l[k].n
   ·have hM:og ((D.del (gK l[k].q)).put (gK l[k].q) (.lit (.int .i64 l[k].n))) (ek (l.take (k+1))):=((HM.out.del l[k].q Hq.out).put l[k].q Hq.out l[k].n hn).congr fun p=>by
     unfold ek;rw[List.take_succ_eq_append_getElem hlt,yg];by_cases e:l[k].q=p
     ·simp[e];omega
     ·simp[e]
    have HM':=ae hM;clear hM jH
    go_wp2_with (at_mapUpdate;refine wpList_mapUpdate_own (H:=Unit) _ rfl _ _ _ 129 rfl 92 3 EW Tryz.underlying129 (plainElem Tryz.prog 3) (w.heap.size+1) k _ rfl zC.out (by unfold maxLen;omega) l[k].q.val (I l[k].n) (gK l[k].q) rfl rfl aiT.out (.lit (.int .i64 l[k].n)) [] (plainElem_int Tryz.underlying3 Hwf.out) ?_;intro w3 SN ZD)
    have gm:ay w w3:=cn.grown ZD (by have:=cn.size;omega) (fun g hg=>by cases hg;omega);have aag:=ae SN;clear SN ZD c0 c1 c2 c3 c4 c5;go_roundw
    case rel=>exact⟨k+1,_,ab,by go_num,aag,HM',gm⟩
    case measure=>simp[intOf];omega
   ·have hM:og (D.del (gK l[k].q)) (ek (l.take (k+1))):=(HM.out.del l[k].q Hq.out).congr fun p=>by
     unfold ek;rw[List.take_succ_eq_append_getElem hlt,yg];by_cases e:l[k].q=p
     ·simp[e];omega
     ·simp[e]
    have HM':=ae hM;have aag:=ae (zC.out.mono (show k<=k+1 by omega));clear hM jH;go_wp2_with fail;go_roundw
    case rel=>exact⟨k+1,_,ab,by go_num,aag,HM',cn⟩
    case measure=>simp[intOf];omega
  ·have kQ:k=l.length:=ab;have h1:=iy.out;have h2:=HM.out;rw[kQ] at h1;rw[lK ab] at h2;have H1:=ae h1;have H2:=ae h2;clear h1 h2;go_wp2_with fail;go_ret;exact⟨_,D,rfl,ab,H1.out,H2.out,hB⟩
end
section
open Go.RowKit Go.Shelf Go.Maps
attribute [local go_sem] Oper.semAt_some
variable {D:DataW Unit} {left:Lit->Bool} {ls:List Lit} {m:Nat} {q:Qn} {ss:List Qn}
theorem NM{c:Value}(h:Tryz.prog.keyLits (m+1) 3 [c]=some ls):∃n,c=I n/\dI n:=by
 cases c<;>simp[Program.keyLits,Tryz.underlying3] at h;rename_i k n;obtain⟨⟨rfl,h1⟩,_⟩:=h;exact⟨n,rfl,bounds_i64 h1⟩
theorem ayN{c0 c1 c2:Value}(h:Tryz.prog.keyLits (m+3) 63 [c0,c1,c2]=some ls):∃n0 n1 n2,c0=I n0/\c1=I n1/\c2=I n2/\dI n0/\dI n1/\dI n2:=by
 unfold Program.keyLits at h;simp only[Tryz.underlying63] at h;rw[aj ⟨by rw[PN];rfl,ah⟩] at h;simp[PO] at h
 cases e0:Tryz.prog.keyLits (m+2) 3 [c0] with
 |none=>rw[e0] at h;simp at h
 |some l0=>
  cases e1:Tryz.prog.keyLits (m+2) 3 [c1] with
  |none=>rw[e0,e1] at h;simp at h
  |some l1=>
   cases e2:Tryz.prog.keyLits (m+2) 3 [c2] with
   |none=>rw[e0,e1,e2] at h;simp at h
   |some l2=>
    obtain⟨n0,h0,o0⟩:=NM e0;obtain⟨n1,h1,o1⟩:=NM e1;obtain⟨n2,h2,o2⟩:=NM e2;exact⟨n0,n1,n2,h0,h1,h2,o0,o1,o2⟩
theorem aiX{v:Value}{kl:Lit}(h:keyOf Tryz.prog 92 v=some kl):∃q:Qn,q.ok/\v=q.val/\kl=gK q:=by
 have h0:=h
 obtain⟨m,hm⟩:∃m,Tryz.prog.types.size=m+3:=⟨Tryz.prog.types.size-3,ah⟩
 unfold keyOf at h;simp only[Tryz.underlying92] at h;split at h
 ·rename_i hf
  cases v with
  |agg cs=>
   simp only[acu,Value.formed,Tryz.underlying92,PM,Bool.true_and,Cl] at hf
   obtain⟨l,rfl⟩:∃l:List Value,cs=l.toArray:=⟨cs.toList,ai⟩
   simp only[yf] at hf
   match l,hf with
   |[c0,c1,c2,c3,c4],_=>
    rw[hm] at h;unfold Program.keyLits at h;simp only[Tryz.underlying92,Value.cells] at h;rw[aj ⟨by rw[PM];rfl,ah⟩] at h;simp[PN,PO] at h;rw[Option.bind_eq_some_iff] at h;obtain⟨l52,h52,h⟩:=h
    cases e3:Tryz.prog.keyLits (m+3) 3 [c3] with
    |none=>rw[e3] at h;simp at h
    |some l3=>
     cases e4:Tryz.prog.keyLits (m+3) 3 [c4] with
     |none=>rw[e3,e4] at h;simp at h
     |some l4=>
      obtain⟨n3,rfl,o3⟩:=NM e3;obtain⟨n4,rfl,o4⟩:=NM e4;obtain⟨n0,n1,n2,rfl,rfl,rfl,o0,o1,o2⟩:=ayN h52
      have hq:(⟨n0,n1,n2,n3,n4⟩:Qn).ok:=fun n hn=>by
       simp[Qn.ints] at hn
       rcases hn with rfl|rfl|rfl|rfl|rfl<;>assumption
      have:=IM ⟨n0,n1,n2,n3,n4⟩ hq
      exact⟨⟨n0,n1,n2,n3,n4⟩,hq,rfl,by
       have h2:=h0.symm.trans this
       exact ei h2⟩
  |_=>simp[Value.formed,Tryz.underlying92] at hf
 ·cases h
def GK (D:DataW Unit)(xs:List Qn):Prop:=xs.Nodup/\∀q,q∈xs↔(q.ok/\has D (gK q)=true)
def BB (D:DataW Unit)(left:Lit->Bool)(ss:List Qn):Prop:=ss.Nodup/\∀q,q∈ss↔(q.ok/\has D (gK q)=true/\left (gK q)=false)
theorem BB.start(D:DataW Unit):BB D (has D) []:=⟨List.nodup_nil,fun q=>ai⟩
theorem aiY{p:Qn}(hp:p.ok)(hq:q.ok):(gK p).sameKey (gK q)=decide (p=q):=by
 rw[qy,cP];constructor
 ·intro h;refine LK hp hq ?_;unfold gK at h⊢;simp[Lit.sameKey] at h;rw[h]
 ·rintro rfl;simp[gK,Lit.sameKey]
theorem BB.step(h:BB D left ss)(hq:q.ok)(hl:left (gK q)=true)(hh:has D (gK q)=true):BB D (fun z=>left z && !z.sameKey (gK q)) (ss++[q]):=by
 have hn:q∉ss:=fun hm=>by
  have:=((h.2 q).1 hm).2.2;rw[hl] at this;cases this
 refine⟨?_,fun p=> ?_⟩
 ·rw[Lr];exact⟨h.1,ai,fun a ha b hb e=>by simp at hb;subst hb;subst e;exact hn ha⟩
 ·rw[fJ,h.2 p];constructor
  ·rintro(⟨h1,h2,h3⟩|h1)
   ·exact⟨h1,h2,by simp[h3]⟩
   ·simp at h1;subst h1;exact⟨hq,hh,by simp[aiY hq hq]⟩
  ·rintro⟨h1,h2,h3⟩;by_cases e:p=q
   ·exact .inr (by simp[e])
   ·replace h3:(left (gK p) && !(gK p).sameKey (gK q))=false:=h3;rw[aiY h1 hq,ja e] at h3;exact .inl ⟨h1,h2,by simpa using h3⟩
theorem BB.end_(h:BB D left ss)(hl:∀z,left z=false):GK D ss:=⟨h.1,fun q=>by rw[h.2 q,hl];simp⟩
theorem keysIter(n:Nat)(hn:1<=n)(mb b nn:Nat)(D:DataW Unit)(w0:World)(fL:w0.cell? ⟨mb,0,none⟩=some (.map (some b)))(ayO:w0.ownsMap (H:=Unit) Tryz.prog 92 (plainElem Tryz.prog 3) b nn D):
  SeqStopsK Fence.wide n Tryz.prog 103 #[.pointer (some ⟨mb,0,none⟩)] (fun q:Qn=>#[q.val]) KeepsWalks (fun xs=>GK D xs) (fun _=>True) (Maps.size D) w0:=by
 intro l J Jx W hW hJ hJx hY h0
 have fB:mb<w0.heap.size:=by simpa using eh _ _ fL
 have HY:=ae hY;clear hY;have lH:=(hW.cell (p:=⟨mb,0,none⟩) fB).trans fL;have aV:W.ownsMap (H:=Unit) Tryz.prog 92 (plainElem Tryz.prog 3) b nn D:=ayO.kept (row:=none) ⟨hW.os,hW.tape,hW.output,hW.size,fun k hk _=>hW.block k hk⟩ ai;refine callsIn_of_wp Tryz.func103 rfl trivial ?_ rfl;simp only[Tryz.ntmps103,yf,List.length_cons,List.length_nil,Nat.reduceAdd,Nat.reduceSub,Iv,Iw,Iz,Iy,List.nil_append,List.cons_append]
 gi_wp2_with (first
  |(gi_at_range;refine wpListIn_range_own (H:=Unit) _ rfl _ 129 rfl 92 3 EW Tryz.underlying129 (plainElem Tryz.prog 3) b nn D rfl aV ?_;intro w1 ayP zh xk)
  |gi_in)
 gi_loopw [3] (fun _ wr=>∃(left:Lit->Bool) (qV:Nat) (ss:List Qn),wr.ranges Tryz.prog 92 (plainElem (H:=Unit) Tryz.prog 3) b W.heap.size nn D left qV/\ss.length+qV<=Maps.size D/\BB D left ss/\J ss wr)
  (fun _ wr=>wr.rangeLeft b W.heap.size)
 case atStart=>
  exact⟨_,_,[],ayP,ai,BB.start D,hJ [] W w1 none h0 zh (fun r e=>by cases e)⟩
 case round=>
  obtain⟨left,qV,ss,wR,hcs,hC,hJs⟩:=hrel
  gi_wp2_with (first
   |(gi_at_next;refine wpListIn_next_ranges (H:=Unit) _ rfl _ rfl 92 EW (plainElem Tryz.prog 3) Qn.val id (fun key kl hk=>by obtain⟨q,_,hq,_⟩:=aiX hk;exact⟨q,hq⟩) (fun v _ _=>⟨v,rfl⟩) b W.heap.size nn _ _ _ rfl wR ?_ ?_)
   |gi_in)
  ·intro DZ se
   gi_wp2
   go_end0;exact⟨⟨_,rfl⟩,.inl ⟨ss,hC.end_ se,hJs⟩⟩
  ·intro x c kl yd yp w2 ayQ SX oH hv GL ayR hlt kS ic FU;obtain⟨x',hxo,ex,rfl⟩:=aiX SX
   obtain rfl:x=x':=by
    cases x;cases x';simp[Qn.val] at ex;simp[ex]
   have ZX:J ss w2:=hJ ss wr w2 (some W.heap.size) hJs kS (fun r e=>by cases e;exact⟨cI _,wR.iter_walk⟩);have hK3:KeepsWalks w2 (w2.alloc (.cells #[I x.node,I x.handler,I x.count,I x.kind,I x.index] 92)):=KeepsWalks.alloc _ _;have Zi:J ss (w2.alloc (.cells #[I x.node,I x.handler,I x.count,I x.kind,I x.index] 92)):=hJ ss w2 _ none ZX (yc _ _ none) (fun r e=>by cases e);obtain⟨fn,tmps,assign,body,hy,hR⟩:=HY.out ss x _ Zi ab;have pM:=hC.step hxo oH (has_true_of_atKey GL);have HC2:=ae pM;have ayS:=ayR.of_walks hK3;have HR:=ae hR;simp only[Qn.val] at FU hy⊢;clear ic hC pM hR
   gi_wp2
   refine HR.out.mono ?_;rintro e W3 (⟨rfl,hJ4,NN⟩|⟨rfl,ayT⟩)
   ·gi_wp2
    have aiZ:=ayS.of_walks NN;go_roundw
    case rel=>exact⟨_,ayQ,ss++[x],aiZ,by simp;omega,HC2.out,hJ4⟩
    case measure=>rw[aiZ.left_eq,wR.left_eq];exact hlt
   ·gi_wp2
    refine wv (results_none rfl _ _ _) rfl ?_;exact⟨⟨_,rfl⟩,.inr ⟨_,trivial,ayT⟩⟩
end
section
open Go.RowKit Go.Shelf Go.Maps
attribute [local go_sem] Oper.semAt_some
theorem ayU:(Tryz.prog.info? 92).map (fun i=>(i.zero,i.size,i.bytes))=some (some (.agg #[.int .i64 0,.int .i64 0,.int .i64 0,.int .i64 0,.int .i64 0]),5,40):=ah
def qc (q:Qn):List Value:=iv q.ints
theorem ayV {F:Fence}{nn:Nat}{P:Program}{w:World}{ops:Array Oper}{rest:List Oper}{o:Oper}{a:Act}{Q:Exit->Act->World->Prop}(db:o.guard=none)(s x:Operand)(t:TypeId)
  (ho:o.op=.call { callee:=.builtin .append,args:=#[s,x],argTypes:=#[t,t] })
  (e:TypeId) (z:Value) (k bytes:Nat) (ht:P.underlying t=some (.slice e)) (lj:(P.info? e).map (fun i=>(i.zero,i.size,i.bytes))=some (some z,k,bytes)) (nh:z.cells.size=k) (hk:0<k) (jB:bytes<=1000)
  (B:Nat) (v:Value) (n:Nat) (xs:List Value) (hs:a.eval s=v) (aV:w.ownsRow B e k v n xs)
  (b m c:Nat) (cs:Array Value) (t':TypeId) (hx:a.eval x=.slice (some ⟨b,0,none⟩) m c) (hblk:w.heap[b]? =some (.cells cs t' (0,0))) (hl:cs.size=m*k) (h1:cs.toList.all Value.oneCell'=true)
  (jW:n+m<=100000000) (kF:B<=w.heap.size)
  (h:∀u w',w'.ownsRow B e k u (n+m) (xs++cs.toList)->w.grownBy w' v.ownBlock->wpListIn F nn P ops Q rest (a.put o.dst u) w'):wpListIn F nn P ops Q (o::rest) a w:=by
 obtain⟨i0,hi,dY,dE,eB⟩:=uQ lj
 refine wpListIn_append_own w db s x t ho B e i0 z k bytes ht hi dY dE eB nh hk v n xs hs aV ⟨b,0,none⟩ m c cs.toList hx (by simpa using hl) (fun j u hu=> ?_) (fg.1 h1) (by unfold maxLen;omega)
  (bh (oY jW jB) ab) kF ?_
 ·have kC:(⟨b,0,none⟩:Addr).add j=⟨b,0+j,none⟩:=by unfold Addr.add;split<;>simp_all
  rw[kC,eM,yj w b j cs t' _ hblk];simpa using hu
 ·intro u w' h2 h3 _;exact h u w' h2 h3
def NP (W:World)(B:Nat)(x:Qn):Prop:=W.heap[B]? =some (.cells #[I x.node,I x.handler,I x.count,I x.kind,I x.index] 92 (0,0))
theorem NP.lt {W:World}{B:Nat}{x:Qn}(h:NP W B x):B<W.heap.size:=(nB.1 h).1
theorem ayW (B:Nat)(x:Qn):Own (fun(_:Unit) W=>NP W B x):=fun _ X Y row hs hg aW=>
 (hg.block B (NP.lt hs) (fun e=>by
  obtain⟨o,ho,hc⟩:=aW B e.symm;rw[show X.heap[B]? =_ from hs] at ho;cases ho
  cases hc)).trans hs
theorem ayX (mb b nn:Nat)(D:DataW Unit)(w:World)(fL:w.cell? ⟨mb,0,none⟩=some (.map (some b)))(aV:w.ownsMap (H:=Unit) Tryz.prog 92 (plainElem Tryz.prog 3) b nn D)(hsz:Maps.size D<=1000000):
  CallsIn Fence.wide 5 Tryz.prog 149 #[.slice none 0 0,.func (.func 103) #[] #[.pointer (some ⟨mb,0,none⟩)]] w fun e w'=>∃u xs,e=.returned u/\GK D xs/\w'.ownsRow w.heap.size 92 5 u xs.length (xs.flatMap qc)/\ay w w':=by
 have NG:=keysIter (5-1) ab mb b nn D w fL aV;have ZY:=ae NG;clear NG;refine callsIn_of_wp_marks Tryz.func149 rfl trivial ?_ rfl;simp only[Tryz.ntmps149,yf,List.length_cons,List.length_nil,Nat.reduceAdd,Nat.reduceSub,Iv,Iw,Iz,Iy,List.nil_append,List.cons_append]
 gi_wp2
 have bS:=Boxed.new w 132 (.slice none 0 0);have kV:ay w (w.alloc (.cells #[.slice none 0 0] 132)):=(Below.refl _ w).alloc aA _
 refine wpIn_rangeFunc_ownH rfl ab (gf:=103) (lb:=#[.pointer (some ⟨mb,0,none⟩)]) rfl trivial (enters_of Tryz.func103 ah rfl)
  ZY.out walksK_t walksK_b kV (fun _=>rfl)
  (fun(pre:List Qn) W=>(∃u,Boxed W w.heap.size 132 u/\W.ownsRow w.heap.size 92 5 u pre.length (pre.flatMap qc)/\True)/\ay w W)
  (fun _ _ _=>False)
  (OwnFrom.and (Own.from (holdsRow_own _ _ _ _ _ (fun pre:List Qn=>pre.length) (fun pre=>pre.flatMap qc) (fun _ _=>True)) _) (ownFrom_below aA ai))
  (fun _ _ _ _ _ hs _ _=>hs)
  ⟨⟨_,bS,jU _ _ _ _,trivial⟩,kV⟩
  (fun x a' W=>∃Bx,w.heap.size<Bx/\NP W Bx x/\a'={ tmps:=#[.slice none 0 0,.func (.func 103) #[] #[.pointer (some ⟨mb,0,none⟩)],.pointer (some ⟨w.heap.size,0,none⟩),undef,.slice none 0 0,.pointer (some ⟨Bx,0,none⟩),.func (.func 103) #[] #[.pointer (some ⟨mb,0,none⟩)],.agg #[I x.node,I x.handler,I x.count,I x.kind,I x.index],undef,undef,undef,undef,undef],defers:=[] })
  (fun x a' _ X Y row hs hg hr=>by obtain⟨Bx,h1,h2,h3⟩:=hs;exact⟨Bx,h1,ayW Bx x () X Y row h2 hg (fun r e=>(hr r e).2),h3⟩)
  ?assign ?body ?done ?stop
 case assign=>
  rintro l pre x W K ⟨⟨u,b1,o1,_⟩,aM⟩ hK;simp only[Qn.val]
  gi_wp2
  exact hK _ _ ((KeepsOthers.alloc _ _).from _) (KeepsWalks.alloc _ _) ⟨⟨u,b1.alloc _,o1.alloc _,trivial⟩,aM.alloc aM.size _⟩ ⟨W.heap.size,b1.lt,World.alloc_heap_new W _,rfl⟩
 case body=>
  rintro l pre x a' W hl ⟨r,hr⟩ ⟨⟨u,b1,o1,_⟩,aM⟩ ⟨Bx,hBx,bX,rfl⟩ hlt;have c1:=b1.cell;have SE:pre.length<=1000000:=ab
  have cX:=fun j=>yj W Bx j _ _ _ bX
  have ZZ:=aM.size;clear hlt
  gi_wp2_with (gi_at_builtin;refine ayV rfl _ _ 132 rfl 92 _ 5 40 Tryz.underlying132 ayU rfl ab ab w.heap.size _ _ _ rfl (o1.alloc _) W.heap.size 1 1 _ 92 rfl (ej _ _) rfl rfl ab bC ?_;intro u2 w1 Bv xF;obtain⟨g',cap',rfl⟩:=ownsRow_succ Bv;obtain⟨iO,qW,fC,nJ,cK⟩:=b1.appended aq o1 ZZ aA Bv xF;have lu:=iO.cell;have hf1:=iO.frozen)
  have hh:(w1.setCell ⟨w.heap.size,0,none⟩ (.slice (some ⟨g',0,none⟩) (pre.length+1) cap')).ownsRow w.heap.size 92 5 (.slice (some ⟨g',0,none⟩) (pre.length+1) cap') (pre++[x]).length ((pre++[x]).flatMap qc):=by
   rw[List.length_append,nC];simpa [qc,Qn.ints,iv] using fC
  exact⟨nJ.from _,nJ.walks,⟨_,qW,by first|exact hh|exact⟨hh,trivial⟩⟩,aM.trans cK⟩
 case done=>
  rintro D' ys W hD mR ⟨⟨u,b1,o1,_⟩,aM⟩ hK;have c1:=b1.cell
  gi_wp2
  refine⟨ai,.inl ⟨_,_,rfl,run_takeDeferred hK,?_⟩⟩;exact⟨_,results_tmp rfl _ _ _,_,ys,rfl,mR,ownsRow_putObj o1 _ hK rfl,aM.trans (belowK_b (w:=w) aA W D' _ _ (by simp at hD;omega) hK rfl rfl)⟩
 case stop=>
  rintro D' c pre W hD _ hf _;exact hf.elim
end
section
open Go.Shelf
def Tryz.aja:Go.Shelf.Ren:=⟨fun|6=>102|15=>151|14=>150|28=>209|29=>210|20=>201|21=>202|22=>203|23=>204|24=>205|25=>206|26=>207|27=>208|46=>240|47=>241|48=>242|49=>243|50=>244|57=>260|n=>n,fun|22=>132|24=>92|25=>137|3=>3|39=>255|0=>0|53=>295|55=>196|4=>4|46=>305|45=>304|50=>309|5=>5|9=>9|66=>346|70=>350|76=>362|77=>363|n=>n,fun|n=>n⟩
theorem Tryz.ajb:Go.Proofs.SlLaysF0.n6 Tryz.prog Tryz.aja:={
 mixed:=ah
 f6:=⟨Tryz.f102.name,aq,Tryz.func102.trans (aG some ah)⟩
 f14:=⟨Tryz.f150.name,aq,Tryz.func150.trans (aG some ah)⟩
 f15:=Tryz.func151.trans (aG some ah)
 f20:=⟨Tryz.f201.name,aq,Tryz.func201.trans (aG some ah)⟩
 f21:=⟨Tryz.f202.name,aq,Tryz.func202.trans (aG some ah)⟩
 f22:=⟨Tryz.f203.name,aq,Tryz.func203.trans (aG some ah)⟩
 f23:=⟨Tryz.f204.name,aq,Tryz.func204.trans (aG some ah)⟩
 f24:=⟨Tryz.f205.name,aq,Tryz.func205.trans (aG some ah)⟩
 f25:=⟨Tryz.f206.name,aq,Tryz.func206.trans (aG some ah)⟩
 f26:=⟨Tryz.f207.name,aq,Tryz.func207.trans (aG some ah)⟩
 f27:=⟨Tryz.f208.name,aq,Tryz.func208.trans (aG some ah)⟩
 f28:=Tryz.func209.trans (aG some ah)
 f29:=Tryz.func210.trans (aG some ah)
 f46:=⟨Tryz.f240.name,aq,Tryz.func240.trans (aG some ah)⟩
 f47:=Tryz.func241.trans (aG some ah)
 f48:=Tryz.func242.trans (aG some ah)
 f49:=⟨Tryz.f243.name,aq,Tryz.func243.trans (aG some ah)⟩
 f50:=⟨Tryz.f244.name,aq,Tryz.func244.trans (aG some ah)⟩
 f57:=⟨Tryz.f260.name,aq,Tryz.func260.trans (aG some ah)⟩
 t0:=Tryz.underlying0
 a0:=Tryz.isAgg0
 z0:=Tryz.sizeOf0
 v0:=Tryz.zeroValue0
 t3:=Tryz.underlying3
 a3:=Tryz.isAgg3
 z3:=Tryz.sizeOf3
 v3:=Tryz.zeroValue3
 t4:=Tryz.underlying4
 a4:=Tryz.isAgg4
 z4:=Tryz.sizeOf4
 v4:=Tryz.zeroValue4
 t5:=Tryz.underlying5
 a5:=Tryz.isAgg5
 z5:=Tryz.sizeOf5
 v5:=Tryz.zeroValue5
 t9:=Tryz.underlying9
 a9:=Tryz.isAgg9
 z9:=Tryz.sizeOf9
 v9:=Tryz.zeroValue9
 t22:=Tryz.underlying132
 a22:=Tryz.isAgg132
 z22:=Tryz.sizeOf132
 v22:=Tryz.zeroValue132
 t25:=Tryz.underlying137
 a25:=Tryz.isAgg137
 z25:=Tryz.sizeOf137
 v25:=Tryz.zeroValue137
 t39:=Tryz.underlying255
 a39:=Tryz.isAgg255
 z39:=Tryz.sizeOf255
 v39:=Tryz.zeroValue255
 t45:=Tryz.underlying304
 a45:=Tryz.isAgg304
 z45:=Tryz.sizeOf304
 v45:=Tryz.zeroValue304
 t46:=Tryz.underlying305
 a46:=Tryz.isAgg305
 z46:=Tryz.sizeOf305
 v46:=Tryz.zeroValue305
 t50:=Tryz.underlying309
 a50:=Tryz.isAgg309
 z50:=Tryz.sizeOf309
 v50:=Tryz.zeroValue309
 t53:=Tryz.underlying295
 a53:=Tryz.isAgg295
 z53:=Tryz.sizeOf295
 v53:=Tryz.zeroValue295
 t55:=Tryz.underlying196
 a55:=Tryz.isAgg196
 z55:=Tryz.sizeOf196
 v55:=Tryz.zeroValue196
 t66:=Tryz.underlying346
 a66:=Tryz.isAgg346
 z66:=Tryz.sizeOf346
 v66:=Tryz.zeroValue346
 t70:=Tryz.underlying350
 a70:=Tryz.isAgg350
 z70:=Tryz.sizeOf350
 v70:=Tryz.zeroValue350
 t76:=Tryz.underlying362
 a76:=Tryz.isAgg362
 z76:=Tryz.sizeOf362
 v76:=Tryz.zeroValue362
 t77:=Tryz.underlying363
 a77:=Tryz.isAgg363
 z77:=Tryz.sizeOf363
 v77:=Tryz.zeroValue363 }
end
section
open Go.RowKit Go.Shelf
open Go.Sort hiding Below
variable {cap:Nat} {d:Array Qn} {w:World}
instance:Inhabited Qn:=⟨⟨0,0,0,0,0⟩⟩
theorem KB(q:Qn):(qc q).length=5:=rfl
theorem ajc(d:Array Qn)(t:Nat)(h:t<d.size*5):(d.toList.flatMap qc)[t]? =some (flatK qc 5 d)[t]! :=by
 have h5:t/5<d.size:=ab;have h6:t%5<5:=oZ _ ab;rw[get_flatK _ _ _ _ h];have e:t/5*5+t%5=t:=ab
 conv=>lhs;rw[<-e]
 rw[Lx qc 5 KB d.toList (t/5) (t%5) d[t/5]! (by simp[h5]) h6];rw[cy (by rw[KB];exact h6),getElem!_pos (qc d[t/5]!) (t%5) (by rw[KB];exact h6)]
theorem ayY{B n cj:Nat}{xs:List Qn}(h:w.ownsRow B 92 5 (.slice (some ⟨cj,0,none⟩) n cap) n (xs.flatMap qc)):HoldsK qc 5 w cj 0 xs.toArray:=by
 intro j hj;rw[size_flatK] at hj;have hg:=ajc xs.toArray j hj;obtain⟨_,h0|⟨g,cap',cur,hv,_,hh,_,_,_,ht⟩⟩:=h
 ·simp at h0
 ·simp at hv;obtain⟨rfl,_⟩:=hv;refine⟨?_,by simp[World.frozen?,hh]⟩;rw[yj w cj (0+j) cur 92 (0,0) hh,eM,<-Array.getElem?_toList];rw[<-ht] at hg;rw[uI] at hg;split at hg
  ·simpa using hg
  ·cases hg
theorem ayZ{cj n:Nat}(h:HoldsK qc 5 w cj 0 d)(hn:n=d.size)(hm:n<=1000000):Flat w 5 (.slice (some ⟨cj,0,none⟩) n cap) d.toList.length (d.toList.flatMap qc):=by
 subst hn
 have hl:(d.toList.flatMap qc).length=d.size*5:=by rw[IC qc 5 KB];simp
 rw[show d.toList.length=d.size from ai]
 refine Flat.rR hl ab fun j u hu=> ?_
 have hj:j<d.size*5:=by have:=(bG.1 hu).1;omega
 rw[ajc d j hj] at hu;rw[(h j (by rw[size_flatK];exact hj)).1];exact hu
theorem aza{α:Type}[Inhabited α](enc:α->List Value)(k:Nat)(w:World)(cj off m:Nat)(dk:Array α)(os:Array Obj)(B:Nat)(hB:B<=cj)(hb:cj<w.heap.size):Below B w (sortWorldK enc k w cj off m dk os):=by
 refine⟨rfl,rfl,rfl,size_sortWorldK_c enc k w cj off m dk os,fun j hj=> ?_⟩
 show((w.heap.modify cj _)++os)[j]? =_
 rw[UG bC,PC,af ab]
theorem azb(cj off size:Nat)(w:World):CmpLays Tryz.prog 58 #[] qc 5 Qn.cmp cj off size w:=fun _ _ _ _ x y=>ayu x.node x.handler x.count x.kind x.index y.node y.handler y.count y.kind y.index _
def NQ (l:List Qn):Prop:=l.Pairwise fun a b=>a.cmp b<=0
theorem azc(h:Sort.SortedIn (ltOf Qn.cmp) 0 d.size d):NQ d.toList:=by
 rw[NQ,List.pairwise_iff_getElem];intro i j hi hj yz;have h1:=h i j ab yz (by simpa using hj);simp at hi hj;rw[getElem!_pos d j hj,getElem!_pos d i hi] at h1;have h2:¬Qn.cmp d[j] d[i]<0:=of_decide_eq_false h1;have:=Qn.aae d[i] d[j];simp only[Array.getElem_toList];omega
theorem azd(cj cap:Nat)(xs:List Qn)(B:Nat)(w:World)(aV:w.ownsRow B 92 5 (.slice (some ⟨cj,0,none⟩) xs.length cap) xs.length (xs.flatMap qc))(hsz:xs.length<=1000000):
  Calls Tryz.prog 102 #[.slice (some ⟨cj,0,none⟩) xs.length cap,.func (.func 58) #[] #[]] w fun e w'=>e=.returned (.tuple #[])/\∃ys:List Qn,ys.Perm xs/\NQ ys/\Flat w' 5 (.slice (some ⟨cj,0,none⟩) xs.length cap) ys.length (ys.flatMap qc)/\Below B w w':=by
 have eg:∀args w,(callFunc 58 args).run Tryz.prog w=.ok (.enter 58 args) w:=enters_of Tryz.func58 ah rfl;have hH:=ayY aV
 obtain⟨hB,hblk⟩:B<=cj/\cj<w.heap.size:=by
  obtain⟨_,h0|⟨g,cap',cur,hv,hb,hh,_⟩⟩:=aV
  ·simp at h0
  ·simp at hv;obtain⟨rfl,_⟩:=hv;exact⟨hb,(nB.1 hh).1⟩
 have Ea:=AnyQ.slices_SortFunc Tryz.ajb 5 Tryz.isAgg92 Tryz.sizeOf92 qc KB (fun x v hv=>by simp[qc,iv,Qn.ints] at hv;rcases hv with rfl|rfl|rfl|rfl|rfl<;>rfl) Qn.cmp ayw 58 #[] cj 0 cap xs.toArray w eg (azb cj 0 xs.toArray.size w) hH hblk bC;change Calls Tryz.prog 102 _ _ _ at Ea;refine Ea.mono ?_;rintro e w' ⟨rfl,d',n,os,hp,hs,rfl⟩
 have hsz':d'.size=xs.length:=by rw[hp.1];simp
 have hh:=holdsK_sortWorldK_c qc 5 w cj 0 xs.toArray d' n os hH hblk hp.1;refine⟨rfl,d'.toList,?_,azc (by rw[hsz'];simpa using hs),ayZ hh ab hsz,aza _ _ _ _ _ _ _ _ _ hB hblk⟩;have h2:=hp.2.2
 have e1:d'.extract 0 xs.toArray.size=d':=by simp[<-hsz']
 have e2:xs.toArray.extract 0 xs.toArray.size=xs.toArray:=ai;rw[e1,e2] at h2;simpa using h2
end
section
open Go.RowKit Go.Maps
theorem aze (w:World):Calls Tryz.prog 201 #[.slice none 0 0,I 0,I 0,.func (.func 58) #[] #[]] w fun e w'=>e=.returned (.tuple #[])/\w'=w:=by
 go_enter Tryz.func201,Tryz.ntmps201;go_wp2_with fail;refine wp_loop_rounds 1 ?_;rw[rounds_succ];go_wp2_with fail;go_end0;exact⟨rfl,rfl⟩
theorem azf (lim:Int)(w:World):Calls Tryz.prog 150 #[.slice none 0 0,I 0,I 0,I lim,.func (.func 58) #[] #[]] w fun e w'=>e=.returned (.tuple #[])/\w'=w:=by
 have hi:=aze w;go_enter Tryz.func150,Tryz.ntmps150;go_wp2_with fail;refine wp_loop_rounds 1 ?_;rw[rounds_succ]
 go_wp2_with (go_at_call 201;refine hi.mono ?_;rintro e w' ⟨rfl,rfl⟩)
 (try simp only[Exit.inBlock,Exit.then]);refine wv (results_none rfl _ _ _) rfl ?_
 exact⟨rfl,rfl⟩
theorem bitsLen (n:Nat)(w:World)(h:n<=1000000):Calls Tryz.prog 151 #[.int .u64 n] w fun e w'=>(∃l:Int,e=.returned (.int .i64 l))/\w'=w:=by
 have h1:=Any.bits_Len (SlLaysF0.n15.bits (P:=Tryz.prog) (ρ:=Tryz.aja) { Tryz.ajb with }) (n:Int) w ab ab;change Calls Tryz.prog 151 _ _ _ at h1
 exact h1.mono fun _ _ ⟨he,hw⟩=>⟨⟨_,he⟩,hw⟩
theorem azg (w:World):Calls Tryz.prog 102 #[.slice none 0 0,.func (.func 58) #[] #[]] w fun e w'=>e=.returned (.tuple #[])/\w'=w:=by
 have hl:=bitsLen 0 w ab;go_enter Tryz.func102,Tryz.ntmps102
 go_wp2_with (first|(go_at_call 151;refine hl.mono ?_;rintro e w' ⟨⟨l,rfl⟩,rfl⟩)|(go_at_call 150;refine(azf _ _).mono ?_;rintro e w' ⟨rfl,rfl⟩))
 go_end0;exact⟨rfl,rfl⟩
theorem azh (v:Value)(xs:List Qn)(B:Nat)(w:World)(aV:w.ownsRow B 92 5 v xs.length (xs.flatMap qc))(hsz:xs.length<=1000000):
  Calls Tryz.prog 102 #[v,.func (.func 58) #[] #[]] w fun e w'=>e=.returned (.tuple #[])/\∃ys:List Qn,ys.Perm xs/\NQ ys/\Flat w' 5 v ys.length (ys.flatMap qc)/\Below B w w':=by
 have h2:=aV;obtain⟨hl,⟨rfl,hn⟩|⟨g,cap,cur,rfl,_⟩⟩:=h2
 ·have hx:xs=[]:=zV.1 hn;subst hx;refine(azg w).mono ?_;rintro e w' ⟨rfl,rfl⟩;exact⟨rfl,[],List.Perm.refl _,List.Pairwise.nil,Flat.nil _ _ _ _,Below.refl _ _⟩
 ·exact azd g cap xs B w aV hsz
theorem azi (b:Nat)(w:World):Calls Tryz.prog 57 #[.map (some b)] w fun e w'=>e=.returned (.func (.func 103) #[] #[.pointer (some ⟨w.heap.size,0,none⟩)])/\w'=w.alloc (.cells #[.map (some b)] 129):=by
 go_enter Tryz.func57,Tryz.ntmps57;go_wp2_with fail;go_ret;exact⟨rfl,rfl⟩
theorem azj (mb b nn:Nat)(D:DataW Unit)(w:World)(fL:w.cell? ⟨mb,0,none⟩=some (.map (some b)))(aV:w.ownsMap (H:=Unit) Tryz.prog 92 (plainElem Tryz.prog 3) b nn D)(hsz:Maps.size D<=1000000):
  Calls Tryz.prog 101 #[.func (.func 103) #[] #[.pointer (some ⟨mb,0,none⟩)]] w fun e w'=>∃u xs,e=.returned u/\GK D xs/\w'.ownsRow w.heap.size 92 5 u xs.length (xs.flatMap qc)/\ay w w':=by
 have hc:=ER.1 (ayX mb b nn D w fL aV hsz);have Hc:=ae hc;clear hc fL aV;go_enter Tryz.func101,Tryz.ntmps101
 go_wp2_with (go_at_call 149;refine Hc.out.mono ?_;rintro e w' ⟨u,xs,rfl,h1,h2,h3⟩)
 go_ret;exact⟨_,xs,rfl,h1,h2,h3⟩
theorem ajd {D:DataW Unit}{xs:List Qn}{f:Qn->Int}{n:Nat}(h:GK D xs)(hM:og D f)(l:List aI)(hf:∀q,0<f q->∃a∈l,a.q=q)(hn:l.length=n):xs.length<=n:=by
 subst hn
 have ki:∀q∈xs,q∈l.map aI.q:=fun q hq=>by
  obtain⟨h1,h2⟩:=(h.2 q).1 hq;rw[hM.EX q h1] at h2;obtain⟨a,ha,e⟩:=hf q (uK h2);exact dh.2 ⟨a,ha,e⟩
 have:∀(xs ys:List Qn),xs.Nodup->(∀q∈xs,q∈ys)->xs.length<=ys.length:=by
  intro xs
  induction xs with
  |nil=>intros;simp
  |cons x xs ih=>
   intro ys hn hs;rw[List.nodup_cons] at hn;have hx:=hs x ai
   have:=ih (ys.erase x) hn.2 fun q hq=>(List.mem_erase_of_ne (by rintro rfl;exact hn.1 hq)).2 (hs q (kA _ hq))
   rw[List.length_erase_of_mem hx] at this;have h0:0<ys.length:=List.length_pos_of_mem hx;simp;omega
 have:=this xs _ h.1 ki;simpa using this
theorem azk (mb b nn:Nat)(D:DataW Unit)(w:World)(fL:w.cell? ⟨mb,0,none⟩=some (.map (some b)))(aV:w.ownsMap (H:=Unit) Tryz.prog 92 (plainElem Tryz.prog 3) b nn D)(hsz:Maps.size D<=1000000)(hk:∀xs,GK D xs->xs.length<=1000000):
  Calls Tryz.prog 56 #[.func (.func 103) #[] #[.pointer (some ⟨mb,0,none⟩)],.func (.func 58) #[] #[]] w fun e w'=>∃u ys,e=.returned u/\GK D ys/\NQ ys/\Flat w' 5 u ys.length (ys.flatMap qc)/\(∀k,u.ownBlock=some k->w.heap.size<=k)/\ay w w':=by
 have Hc:=ae (azj mb b nn D w fL aV hsz);clear fL aV;go_enter Tryz.func56,Tryz.ntmps56
 go_upto_region 2 with(go_at_call 101;refine Hc.out.mono ?_;rintro e w1 ⟨u,xs,rfl,h1,h2,h3⟩)
 have hl:=hk xs h1;have Hs:=ae (azh u xs w.heap.size w1 h2 hl);clear hl
 go_wp2_with (go_at_call 102;refine Hs.out.mono ?_;rintro e w2 ⟨rfl,ys,h4,h5,h6,h7⟩)
 go_ret;exact⟨_,ys,rfl,⟨(List.Perm.nodup_iff h4).2 h1.1,fun q=>by rw[List.Perm.mem_iff h4,h1.2 q]⟩,h5,h6,fun k hk=>(h2.lt k hk).1,h3.trans h7⟩
theorem azl (l:List Ev)(v:Value)(w:World)(h:pf w v l)(hl:l.length<=1000000):Calls Tryz.prog 55 #[v] w fun e w'=>∃u,e=.returned u/\w'.ownsRow w.heap.size 67 8 u l.length (l.flatMap ec)/\ay w w':=by
 have qT:∀(w:World) (a:Option Addr) (n c n' c':Nat),(binOp .eql 25 (.slice a n c) (.slice none n' c')).run Tryz.prog w=.ok (.bool a.isNone) w:=fun w a n c n' c'=>Lib.run_eql_slice_nil w _ _ a n c n' c' Tryz.underlying25
 obtain⟨ka,ca,rfl,jf⟩:=h.open
 cases ka with
 |none=>
  have e:=acw h
  have e0:l=[]:=by
   have:=h.1;rw[e] at this;simp at this;exact zV.1 ab
  subst e0;go_enter Tryz.func55,Tryz.ntmps55;go_wp2_with fail;go_ret;exact⟨_,rfl,jU _ _ _ _,Below.refl _ _⟩
 |some ad=>
  have Hf:=ae (show Flat w 8 (.slice (some ad) l.length ca) l.length (l.flatMap ec) from h);clear h;go_enter Tryz.func55,Tryz.ntmps55
  go_wp2_with (at_builtin;go_must (refine acx rfl _ _ 25 rfl 67 _ 8 64 Tryz.underlying25 Vd rfl ab ab w.heap.size _ 0 [] rfl (PD (n:=0) (cs:=#[]) (ej _ _) aA rfl ab) _ rfl l.length _ (Flat.kept Hf.out ((Below.refl _ _).alloc aA _) aA) (ann l) ab ai ?_);intro u w1 aV sF aM)
  go_ret;rw[eM,List.nil_append] at aV;exact⟨_,rfl,aV,((Below.refl _ _).alloc aA _).trans aM⟩
end
end Go.Proofs.YtngblilamkkikaaGreatDoor
