/- The statement Rows.StoryRoundCardSaid: the law StoryRound answers true for all slices of integers, and writes nothing that was there. Conditions: those of the card alone. The proof's texts were made small by a program. -/
import Derived.Test.YtngblilamkkikaaGreatDoorW48
import Derived.Test.YtngblilamkkikaaGreatDoorW46
import Derived.Lib.SmallJoins
import Derived.Deep.Slices
import Derived.Deep.Matrix
import Derived.Test.YtngblilamkkikaaGreatDoorCards
import Derived.Test.YtngblilamkkikaaGreatDoorTie
import Derived.SevenTiedAt
set_option maxHeartbeats 40000000
set_option maxRecDepth 100000
set_option linter.all false
namespace Go.Proofs.YtngblilamkkikaaGreatDoor
section
open Go Go.RowKit
theorem alH {w:World}{l:List Int}{k:Option Addr}{c:Nat}(h:bW w (.slice k l.length c) l)(hc:l.length<=c):Ab.WI w (fun _=>False) (.c (Ab.ints l)) (.slice k l.length c):=
 ⟨rfl,(Ab.aso h hc).Fe (S:=fun _=> .dead 0) (G:=fun _=>Ab.gh 0) (H:=fun _=>undef)⟩
def Ib (s:az):Prop:=su s.ev/\(∀a∈s.asks,xi a)/\s.asks.length<=4/\s.sent.length<=500
theorem aBy {l l2:List Int}{k k2:Option Addr}{c c2:Nat}{w:World}(h:bW w (.slice k l.length c) l)(hc:l.length<=c)(hi:∀x∈l,dI x)(h2:bW w (.slice k2 l2.length c2) l2)(oG:l2.length<=c2)(yY:∀x∈l2,dI x)(hg:Gl w):
  ∃run:List az,run.length<=20/\(∀s∈run,Ib s)/\Calls Tryz.prog 4 #[.slice k l.length c,.slice k2 l2.length c2] w fun e w'=>∃u,e=.returned u/\gH w' u run/\ay w w':=by
 obtain⟨cf,e1,xq⟩:=aD.Ym l;obtain⟨run,wf,e2,e3,e4⟩:=aD.atp xq (l2.take 20);have hlen:l.length<=9223372036854775807:=h.2.1;refine⟨run,by rw[dS] at e3;omega,fun s hs=> ?_,?_⟩
 ·obtain⟨k',_,hS⟩:=e4 s hs;exact⟨hS.ev,fun a ha=>(hS.asks a ha).1,hS.AQ,hS.RD⟩
 ·have hA:=Ab.avB (l:=l) (l2:=l2) hi hlen yY e1 e2;refine(hA (fun _=>False) w [.slice k l.length c,.slice k2 l2.length c2] ⟨fun b hb=>hb.elim,Ab.acE hg⟩ rfl (fun i x v hx hv=> ?_)).mono ?_
  ·match i,hx,hv with
   |0,hx,hv=>
    simp only[Ir,aC] at hx hv;subst hx hv;exact alH h hc
   |1,hx,hv=>
    simp only[Iq,Ir,aC] at hx hv;subst hx hv;exact alH h2 oG
   |i+2,hx,hv=>simp at hx
  ·rintro e w' ⟨v,r,rfl,rfl,hV,hF⟩;exact⟨v,rfl,Ab.ass (show Ab.IR w' (fun _=>False) (Ab.FP run) v from Ab.CR.ir (S:=fun _=> .dead 0) (G:=fun _=>Ab.gh 0) (H:=fun _=>undef) hV.2 rfl),Ab.Fr.below hF⟩
end
section
open Go.RowKit
theorem Ic (c:UInt8):∀l:List aw,(bF c l).length<=(l.map fun s=>s.length+1).sum
 |[]=>by simp[bF]
 |[a]=>by simp[bF]
 |a::b::l=>by
  have h2:=Ic c (b::l);rw[vW c a ai];simp only[List.length_append,List.length_cons,cY,EO] at h2⊢;omega
theorem abG (k:Nat):(dt.getD k []).length<=7:=by
 rcases Ag k 8 with h|h
 ·have key:∀x:Fin 8,(dt.getD x.val []).length<=7:=aq;exact key ⟨k,h⟩
 ·rw[ff,oW (by show 8<=k;omega)];simp
theorem aBz (k:Nat):(dM.getD k []).length<=4:=by
 rcases Ag k 4 with h|h
 ·have key:∀x:Fin 4,(dM.getD x.val []).length<=4:=aq;exact key ⟨k,h⟩
 ·rw[ff,oW (by show 4<=k;omega)];simp
theorem BV (n:Nat)(h:n<100):(Lib.decDigits n).length<=2:=Oz 1 n ab
theorem aBA {e:Ev}(h:su e):(lh e).length<=75:=by
 obtain⟨s,hs⟩:=mn.xS h;rw[hs.text]
 cases hs with
 |f1 k nd r hk hn hr=>
  have h1:=Ic 32 [dt.getD k [],Lib.decDigits nd,Lib.decDigits r];have h2:=abG k;have h3:=BV nd ab;have h4:=decl r hr;simp only[cY,lN,EO,List.sum_nil] at h1;unfold OC;omega
 |f2 k nd a b c d x hk hn ha hb hc hd hx=>
  have h1:=Ic 32 [dt.getD k [],Lib.decDigits nd,bF 46 ([a,b,c,d,x].map Lib.decDigits)];have h0:=Ic 46 ([a,b,c,d,x].map Lib.decDigits);have h2:=abG k;have h3:=BV nd ab;have h4:=BV a ab;have h5:=BV b ab;have h6:=decl c hc;have h7:=decl d hd;have h8:=decl x hx;simp only[cY,lN,EO,List.sum_nil] at h1 h0;unfold OD;simp only[cY,lN];omega
 |f3 nd hn=>
  have h1:=Ic 32 [dt.getD 7 [],Lib.decDigits nd];have h2:=abG 7;have h3:=BV nd ab;simp only[cY,lN,EO,List.sum_nil] at h1;unfold OE;omega
theorem aBB {a:Ask}(h:xi a):(gY a).length<=75:=by
 obtain⟨hq,h0,h1,h2⟩:=h;obtain⟨s,hs⟩:=nA.xS hq;have ht:=hs.text
 obtain⟨n,hn⟩:∃n:Nat,a.n=n:=⟨a.n.toNat,ab⟩
 obtain⟨m,hm⟩:∃m:Nat,a.arity=m:=⟨a.arity.toNat,ab⟩
 unfold gY;rw[ht,hn,hm,Lib.itoa_nonneg,Lib.itoa_nonneg];have h3:=decl n ab;have h4:=decl m ab
 have h5:s.length<=34:=by
  generalize a.qn=q at hs
  cases hs with
  |f k a b c i hk ha hb hc hi=>
   have h1:=Ic 32 [dM.getD k [],bF 46 ([a,b,c].map Lib.decDigits),Lib.decDigits i];have h0:=Ic 46 ([a,b,c].map Lib.decDigits);have h2:=aBz k;have h3:=BV a ab;have h4:=BV b ab;have h5:=decl c hc;have h6:=decl i hi;simp only[cY,lN,EO,List.sum_nil] at h1 h0;unfold KT;simp only[cY,lN];omega
 simp only[List.length_append,List.length_cons,List.length_nil];omega
theorem aBC (l:List az)(i:Nat)(hi:i<l.length)(hl:l.length<=20):(eY (aR (mo l) i)).length<=70:=by
 have hb:(aR (mo l) i).length<=20/\∀n∈aR (mo l) i,n<20:=by
  rw[alk l i hi];exact⟨bh (aBe _ _ _ _) hl,fun x hx=>by have:=aBf _ _ _ _ x hx;omega⟩
 obtain⟨h1,h2⟩:=hb;unfold eY;split
 ·simp
 ·have:=zN 44 2 (((aR (mo l) i).map fun n:Nat=>(n:Int)).map Lib.itoa) (fun y hy=>by
   obtain⟨n,hn,rfl⟩:=dh.1 hy;obtain⟨m,hm,rfl⟩:=dh.1 hn;rw[Lib.itoa_nonneg]
   exact BV m (by have:=h2 m hm;omega))
  simp only[dy] at this;simp only[List.length_append,List.length_cons,List.length_nil];omega
theorem aBD (l:List az)(hl:l.length<=20)(h:∀s∈l,Ib s)(m:Nat)(hm:m<=l.length):(mZ l (fun i=>aR (mo l) i) m).length<=500*m:=by
 refine alm l (fun i=>aR (mo l) i) 500 (fun i hi=> ?_) m hm;obtain⟨h1,h2,h3,_⟩:=h l[i] (cA hi);have h4:=aBC l i hi hl;have h5:=aBA h1;have h6:=alc gY 75 l[i].asks (fun a ha=>aBB (h2 a ha));have h7:=abC l[i].aX;have h8:=BV i ab;unfold Et BS rK;rw[fx,Lib.itoa_nonneg];simp only[List.length_append,List.length_cons,List.length_nil];omega
end
section
open Go.RowKit
theorem aCp:(Tryz.prog.info? 84).map (·.size)=some 11:=ah
theorem aCq:(Tryz.prog.info? 94).map (·.size)=some 7:=ah
section
variable {ops:Array Oper} {Q:Exit->Act->World->Prop} {rest:List Oper} {o:Oper} {a:Act} {w:World}
theorem aCr (db:o.guard=none)(x:Operand)(ho:o.op=.load 84 x)(b off:Nat)(cs:List Value)(hl:cs.length=11)(hx:a.eval x=.pointer (some ⟨b,off,none⟩))(hc:w.rangeAt b off cs)
  (h:wpList Tryz.prog ops Q rest (a.put o.dst (.agg cs.toArray)) w):wpList Tryz.prog ops Q (o::rest) a w:=
 wpList_load_mid db 84 x ho b off hx cs _ hc Tryz.underlying84 rfl (by rw[hl];exact aCp) h
theorem aCs (db:o.guard=none)(x:Operand)(ho:o.op=.load 94 x)(b off:Nat)(cs:List Value)(hl:cs.length=7)(hx:a.eval x=.pointer (some ⟨b,off,none⟩))(hc:w.rangeAt b off cs)
  (h:wpList Tryz.prog ops Q rest (a.put o.dst (.agg cs.toArray)) w):wpList Tryz.prog ops Q (o::rest) a w:=
 wpList_load_mid db 94 x ho b off hx cs _ hc Tryz.underlying94 rfl (by rw[hl];exact aCq) h
end
variable {a:Option Addr} {c i:Nat} {w:World}
theorem gH.range{n:Nat}{l:List az}(h:gH w (.slice a n c) l){s:az}(hi:l[i]? =some s):
  ∃b o va km nm cm,a=some ⟨b,o,none⟩/\je w va s.asks/\w.rangeAt b (o+i*11) [I s.ev.kind,I s.ev.node,I s.ev.arg,I s.ev.msg.node,I s.ev.msg.handler,I s.ev.msg.count,I s.ev.msg.index,I s.ev.msg.copy,va,.bool s.aX,.slice km nm cm]:=by
 obtain⟨xs,h1,h2⟩:=h;obtain⟨va,vs,g1,g2,g3⟩:=h1.at hi;obtain⟨km,cm,rfl,_⟩:=g2.open;have hlt:=(bG.1 hi).1;obtain⟨b,o,ha,hc⟩:=h2.cells (by rw[h1.length];omega);refine⟨b,o,va,km,s.sent.length,cm,ha,g1,fun j u hu=> ?_⟩;have:=hc _ u (g3 j u hu);rwa[<-Nat.add_assoc] at this
theorem je.range{n:Nat}{l:List Ask}(h:je w (.slice a n c) l){x:Ask}(hi:l[i]? =some x):
  ∃b o,a=some ⟨b,o,none⟩/\w.rangeAt b (o+i*7) [I x.node,I x.handler,I x.count,I x.kind,I x.index,I x.arity,I x.n]:=by
 obtain⟨b,o,ha,hc⟩:=Aj Ask.ID ab h hi;exact⟨b,o,ha,fun j v hv=>hc j v hv⟩
theorem amj{w':World}{b off:Nat}{cs:List Value}(h:w.rangeAt b off cs)(hb:ay w w'):w'.rangeAt b off cs:=fun j v hv=>by
 have h0:=h j v hv;have:=eh _ _ h0;rw[hb.cell (by simpa using this)];exact h0
theorem amk{W:World}{B n m k:Nat}{e:TypeId}{v:Value}{xs:List Value}(h:W.ownsRow B e k v n xs)(hn:m=n):W.ownsRow B e k v m xs:=by
 subst hn;exact h
theorem ofF(run:List az)(v:Value)(w:World)(h:gH w v run)(ct:∀s∈run,∀a∈s.asks,a.mi.ok)(fO:run.length<=100)(tw:∀s∈run,s.asks.length<=100):
  Calls Tryz.prog 8 #[v] w fun e w'=>∃k c k2 c2,e=.returned (tv k c k2 c2 (eJ run) (ey (ez run)))/\gz w' k c k2 c2 (eJ run) (ey (ez run))/\ay w w':=by
 obtain⟨kr,cr,rfl,hmr⟩:=h.open;have kV:ay w ((w.alloc (.cells #[.slice none 0 0,.slice none 0 0] 28)).alloc (.cells #[.slice none 0 0,.slice none 0 0] 28)):=dz;have dY:((w.alloc (.cells #[.slice none 0 0,.slice none 0 0] 28)).alloc (.cells #[.slice none 0 0,.slice none 0 0] 28)).heap.size=w.heap.size+2:=ai;have RY:ax ((w.alloc (.cells #[.slice none 0 0,.slice none 0 0] 28)).alloc (.cells #[.slice none 0 0,.slice none 0 0] 28)) w.heap.size #[.slice none 0 0,.slice none 0 0]:=(ax.new _ _ _).alloc _
 have tY:ax ((w.alloc (.cells #[.slice none 0 0,.slice none 0 0] 28)).alloc (.cells #[.slice none 0 0,.slice none 0 0] 28)) (w.heap.size+1) #[.slice none 0 0,.slice none 0 0]:=⟨_,heap_alloc2_new w _ _⟩
 have H:=ae h;have oT:=ae ct;have zI:=ae tw;have SZ:=ae (aaN run 100 tw)
 have aCt:=ae (show∀a∈ez run,a.ok from fun a ha=>by
  obtain⟨s,hs,ha⟩:=yh.1 ha;obtain⟨x,hx,rfl⟩:=dh.1 ha
  exact ct s hs x hx)
 clear h ct tw;go_enter Tryz.func8,Tryz.ntmps8;go_wp2_with fail;generalize(w.alloc (.cells #[.slice none 0 0,.slice none 0 0] 28)).alloc (.cells #[.slice none 0 0,.slice none 0 0] 28)=W0 at kV dY RY tY⊢
 obtain⟨gt,egt⟩:∃g,g=w.heap.size+1:=⟨_,rfl⟩
 rw[<-egt] at tY⊢;have SY:=ae egt;have Ol:=ae RY;have Ho:=ae kV
 have hTw:Two W0 W0 gt (.slice none 0 0) (.slice none 0 0) (eJ (run.take 0)) (ez (run.take 0)):=⟨tY,jU _ _ _ _,jU _ _ _ _,fun j hj=>by simp[Value.ownBlock] at hj,Below.refl _ _⟩
 have HTw:=ae hTw;clear hTw RY kV tY egt;go_loopw [10] (fun i wr=>∃(k:Nat) (ve va:Value),k<=run.length/\i=.int .i64 k/\Hid (Two W0 wr gt ve va (eJ (run.take k)) (ez (run.take k)))) (fun i _=>run.length-(intOf i).toNat)
 case atStart=>exact⟨0,_,_,ab,rfl,HTw⟩
 case round=>
  clear HTw;obtain⟨k,ve,va,hk,rfl,HT⟩:=hrel;have hzr:=HT.out.below.size;have iw:ay w wr:=Ho.out.trans (HT.out.below.mono (by have:=SY.out;omega));by_cases hlt:k<run.length
  ·have hst:run[k]? =some run[k]:=by simp[hlt]
   obtain⟨b,o,vk,km,nm,cm,hkr,zk,Il⟩:=H.out.range hst;have hkr:=hkr.symm;subst hkr;have iW:=azZ hlt;have oM:=aAa hlt;have aml:=ae (zI.out _ (cA hlt));generalize run[k]=s at hst zk Il iW oM aml;obtain⟨ka,ca,rfl,Gm⟩:=zk.open;have aCu:=ae zk;have Pr:=ae (amj Il iw);have vV:=ae iW;have Hsa:=ae oM
   have hlE:(eJ (run.take k)).length<=100:=by rw[ajI,dS];omega
   have hlA:(ez (run.take k)).length<=10000:=by
    have:=aaN (run.take k) 100 (fun t ht=>zI.out t (uH ht));rw[dS] at this;omega
   clear hst zk Il iW oM
   obtain⟨N,hN⟩:∃N,N=(eJ (run.take k)).length:=⟨_,rfl⟩
   obtain⟨ke,ce,rfl,_⟩:=(Flat.dU HT.out.oe).open;obtain⟨kv,cv,rfl,_⟩:=(Flat.dU HT.out.oa).open
   go_upto_region 5 with((with_reducible refine aCr rfl _ rfl b (o+k*11) [I s.ev.kind,I s.ev.node,I s.ev.arg,I s.ev.msg.node,I s.ev.msg.handler,I s.ev.msg.count,I s.ev.msg.index,I s.ev.msg.copy,.slice ka s.asks.length ca,.bool s.aX,.slice km nm cm] rfl ?_ ?_ ?_);(rfl);(exact Pr.out))
   obtain⟨hq,Bq,zq⟩:=boxed wr #[I s.ev.kind,I s.ev.node,I s.ev.arg,I s.ev.msg.node,I s.ev.msg.handler,I s.ev.msg.count,I s.ev.msg.index,I s.ev.msg.copy,.slice ka s.asks.length ca,.bool s.aX,.slice km nm cm] 84;generalize wr.alloc (.cells #[I s.ev.kind,I s.ev.node,I s.ev.arg,I s.ev.msg.node,I s.ev.msg.handler,I s.ev.msg.count,I s.ev.msg.index,I s.ev.msg.copy,.slice ka s.asks.length ca,.bool s.aX,.slice km nm cm] 84)=wq at hq Bq zq⊢;have Im:=HT.out.later Bq
   obtain⟨gq,Ps⟩:∃g,g=wr.heap.size:=⟨_,rfl⟩
   rw[<-Ps] at hq⊢
   have aEj:gt<gq:=by have:=HT.out.cj.lt;omega
   have amm:∀j,(Value.slice ke (eJ (run.take k)).length ce).ownBlock=some j->j<gq:=fun j hj=>by have:=(HT.out.oe.lt j hj).2;omega
   have d0:=Im.cj.cell 0;have wj:=ae Im;have Hq:=ae hq;have amn:=ae amm;have zq':wq.heap.size=gq+1:=ab
   have amo:=ae (show wq.rangeAt gq 0 [I s.ev.kind,I s.ev.node,I s.ev.arg,I s.ev.msg.node,I s.ev.msg.handler,I s.ev.msg.count,I s.ev.msg.index,I s.ev.msg.copy] from aiQ hq 0 _ (fun j v hv=>by
    have hj:j<8:=(bG.1 hv).1;have:j=0\/j=1\/j=2\/j=3\/j=4\/j=5\/j=6\/j=7:=ab
    rcases this with rfl|rfl|rfl|rfl|rfl|rfl|rfl|rfl<;>simpa using hv))
   clear Im hq amm Ps Pr zq Bq HT;rw[<-hN] at amn d0 wj hlE;have HN:=ae hN;clear hN
   go_upto_region 6 with(first|((with_reducible refine azB rfl _ rfl gq 0 [I s.ev.kind,I s.ev.node,I s.ev.arg,I s.ev.msg.node,I s.ev.msg.handler,I s.ev.msg.count,I s.ev.msg.index,I s.ev.msg.copy] rfl ?_ ?_ ?_);(rfl);(exact amo.out))|(at_builtin;go_must (refine uT rfl _ _ 25 rfl 67 _ 8 64 Tryz.underlying25 Vd rfl ab ab (gt+1) (.slice ke N ce) N _ rfl ((amk wj.out.oe HN.out).alloc _) (gq+1) 1 1 #[I s.ev.kind,I s.ev.node,I s.ev.arg,I s.ev.msg.node,I s.ev.msg.handler,I s.ev.msg.count,I s.ev.msg.index,I s.ev.msg.copy] 67 rfl (by rw[<-zq'];exact ej _ _) rfl rfl ab ab bC ?_);intro g6 mj w6 ajl ajm aal Ec qd rB;have uC:=(wj.out.cj.alloc (.cells #[I s.ev.kind,I s.ev.node,I s.ev.arg,I s.ev.msg.node,I s.ev.msg.handler,I s.ev.msg.count,I s.ev.msg.index,I s.ev.msg.copy] 67)).grown qd (fun e=>by have:=(wj.out.oe.lt gt e).1;omega);have c60:=uC.cell 0;have f60:=uC.frozen 0))
   have Li:=(wj.out.later (boxed wq #[I s.ev.kind,I s.ev.node,I s.ev.arg,I s.ev.msg.node,I s.ev.msg.handler,I s.ev.msg.count,I s.ev.msg.index,I s.ev.msg.copy] 67).2.1).ajH s.ev aal Ec HN.out qd;rw[<-vV.out] at Li;have RX:=((Hq.out.alloc (.cells #[I s.ev.kind,I s.ev.node,I s.ev.arg,I s.ev.msg.node,I s.ev.msg.handler,I s.ev.msg.count,I s.ev.msg.index,I s.ev.msg.copy] 67)).grown qd (fun e=>by have:=amn.out _ e;omega)).setOther ⟨gt,0,none⟩ (.slice (some ⟨g6,0,none⟩) (N+1) mj) (by show gt≠gq;omega);generalize w6.setCell ⟨gt,0,none⟩ (.slice (some ⟨g6,0,none⟩) (N+1) mj)=w7 at Li RX⊢;have q8:=RX.cell 8;have HT7:=ae Li;clear Li RX qd Ec rB aal ajl ajm uC c60 f60 d0 wj Hq amo;go_wp2_with fail;clear q8;go_loopw [24] (fun i wr=>∃(j:Nat) (va:Value),j<=s.asks.length/\i=.int .i64 j/\Hid (Two W0 wr gt (.slice (some ⟨g6,0,none⟩) (N+1) mj) va (eJ (run.take (k+1))) (ez (run.take k)++(s.asks.take j).map Ask.mi))) (fun i _=>s.asks.length-(intOf i).toNat)
   case atStart=>exact⟨0,_,ab,rfl,ae (by simpa using HT7.out)⟩
   case round=>
    clear HT7;obtain⟨j,va,hj,rfl,HT⟩:=hrel;have Kd:ay w wr:=Ho.out.trans (HT.out.below.mono (by have:=SY.out;omega));by_cases Pb:j<s.asks.length
    ·have hst:s.asks[j]? =some s.asks[j]:=by simp[Pb]
     obtain⟨b2,o2,Rf,Il⟩:=aCu.out.range hst;have Rf:=Rf.symm;subst Rf;have Has:=ae (aAb Pb (ez (run.take k)));generalize s.asks[j]=x at hst Il Has;have Pr:=ae (amj Il Kd)
     have mM:(ez (run.take k)++(s.asks.take j).map Ask.mi).length<=20000:=by
      have:=aml.out;rw[List.length_append,dy,dS];omega
     clear hst Il
     obtain⟨M,hM⟩:∃M,M=(ez (run.take k)++(s.asks.take j).map Ask.mi).length:=⟨_,rfl⟩
     obtain⟨kv,cv,rfl,_⟩:=(Flat.dU HT.out.oa).open
     go_upto_region 9 with((with_reducible refine aCs rfl _ rfl b2 (o2+j*7) [I x.node,I x.handler,I x.count,I x.kind,I x.index,I x.arity,I x.n] rfl ?_ ?_ ?_);(rfl);(exact Pr.out))
     obtain⟨hq,Bq,zq⟩:=boxed wr #[I x.node,I x.handler,I x.count,I x.kind,I x.index,I x.arity,I x.n] 94;generalize wr.alloc (.cells #[I x.node,I x.handler,I x.count,I x.kind,I x.index,I x.arity,I x.n] 94)=wq at hq Bq zq⊢;have Im:=HT.out.later Bq
     obtain⟨Pt,Ps⟩:∃g,g=wr.heap.size:=⟨_,rfl⟩
     rw[<-Ps] at hq⊢;have d1:=Im.cj.cell 1;have q6:=hq.cell 6;have wj:=ae Im;have zq':wq.heap.size=Pt+1:=ab
     have aEk:gt<Pt:=by have:=HT.out.cj.lt;omega
     have Hq5:=ae (show wq.rangeAt Pt 0 [I x.node,I x.handler,I x.count,I x.kind,I x.index] from aiQ hq 0 _ (fun j v hv=>by
      have hj:j<5:=(bG.1 hv).1;have:j=0\/j=1\/j=2\/j=3\/j=4:=ab
      rcases this with rfl|rfl|rfl|rfl|rfl<;>simpa using hv))
     clear Im hq Ps Pr zq Bq HT;rw[<-hM] at d1 wj mM;have HM:=ae hM;clear hM
     go_wp2_with (first|((with_reducible refine aje rfl _ rfl Pt 0 [I x.node,I x.handler,I x.count,I x.kind,I x.index] rfl ?_ ?_ ?_);(rfl);(exact Hq5.out))|(at_builtin;go_must (refine uT rfl _ _ 26 rfl 100 _ 6 48 Tryz.underlying26 PR rfl ab ab (gt+1) (.slice kv M cv) M _ rfl ((amk wj.out.oa HM.out).alloc _) (Pt+1) 1 1 #[I x.node,I x.handler,I x.count,I x.kind,I x.index,I x.n] 100 rfl (by rw[<-zq'];exact ej _ _) rfl rfl ab ab bC ?_);intro g8 aEl w8 aEm aEn aCv Nl amp hB8;have hb8:=(wj.out.cj.alloc (.cells #[I x.node,I x.handler,I x.count,I x.kind,I x.index,I x.n] 100)).grown amp (fun e=>by have:=(wj.out.oa.lt gt e).1;omega);have c81:=hb8.cell 1;have f81:=hb8.frozen 1))
     have hT8:=(wj.out.later (boxed wq #[I x.node,I x.handler,I x.count,I x.kind,I x.index,I x.n] 100).2.1).azY x.mi aCv Nl HM.out amp;rw[<-Has.out] at hT8;have HT8:=ae hT8;clear hT8;go_roundw
     case rel=>exact⟨j+1,_,ab,by go_num,HT8⟩
     case measure=>simp[intOf];omega
    ·obtain rfl:j=s.asks.length:=ab;have hT:=HT.out;rw[lK aA,<-Hsa.out] at hT;have HTz:=ae hT;clear hT HT;go_wp2_with fail;go_roundw
     case rel=>exact⟨k+1,_,_,ab,by go_num,HTz⟩
     case measure=>simp[intOf];omega
  ·obtain rfl:k=run.length:=ab;have hT:=HT.out;rw[lK aA] at hT;obtain⟨ke,ce,rfl,_⟩:=(Flat.dU hT.oe).open;obtain⟨kv,cv,rfl,_⟩:=(Flat.dU hT.oa).open;have d0:=hT.cj.cell 0;have d1:=hT.cj.cell 1;have hlA:=SZ.out;have HN:=ae (azX (eJ run) (ez run) ke ce kv cv wr (gz.owns hT.oe hT.oa) aCt.out (by rw[ajI];omega) ab);have au:=Ol.out.kept hT.below (by have:=SY.out;omega);have xz:=ae iw;have Gx:=ae au;have sF:=au.lt;clear hT HT au
   go_wp2_with (go_at_call 18;refine HN.out.mono ?_;rintro e w8 ⟨k8,c8,k9,c9,rfl,h8,h9,B8⟩;have Pv:=Gx.out.kept B8 sF;have r0:=Pv.cell 0;have r1:=Pv.cell 1;have fr0:=Pv.frozen 0;have fr1:=Pv.frozen 1)
   have BC:w8.grownBy ((w8.setCell ⟨w.heap.size,0,none⟩ (.slice k8 (eJ run).length c8)).setCell ⟨w.heap.size,1,none⟩ (.slice k9 (ey (ez run)).length c9)) (some w.heap.size):=(vT w8 ⟨w.heap.size,0,none⟩ _).trans (vT _ ⟨w.heap.size,1,none⟩ _);have h8':=h8.kept BC (Ei h8 sF);have h9':=h9.kept BC (Ei h9 sF);have hB9:=(Below.then xz.out B8).grown BC (by have:=(Below.then xz.out B8).size;omega) (fun j hj=>by cases hj;omega);obtain⟨t5,ht5⟩:=(Pv.set 0 (.slice k8 (eJ run).length c8)).set 1 (.slice k9 (ey (ez run)).length c9);refine wv (results_cell_row Tryz.results8 _ _ w.heap.size t5 _ (0,0) _ rfl ht5 Tryz.underlying28 rfl ah) rfl ?_;exact⟨_,_,_,_,rfl,gz.owns h8' h9',hB9⟩
end
section
open Go.RowKit
variable {run:List az}
theorem amq{s:az}(h:Ib s):Eu s:=by
 obtain⟨h1,h2,h3,h4⟩:=h;refine⟨?_,fun a ha=> ?_,ab⟩
 ·generalize s.ev=ev at h1;obtain⟨k,nd,ar,⟨m0,m1,m2,m3,m4⟩⟩:=ev;obtain⟨b1,b2,b⟩:=h1;dsimp only at b1 b2 b;intro x hx;simp only[Ev.ints,bZ,kB,lO] at hx;unfold dI
  rcases b with⟨ha,hb,hc⟩|⟨ha,hb,hc⟩|⟨ha,hb,hc⟩
  ·injection hc with e0 e1 e2 e3 e4;omega
  ·omega
  ·injection hc with e0 e1 e2 e3 e4;omega
 ·have hA:=h2 a ha;obtain⟨q1,q2,q3,q4,q5,q6,q7⟩:=a;obtain⟨⟨g1,g2,g3⟩,g4,g5,g6⟩:=hA;dsimp only[Ask.qn] at g1 g2 g3 g4 g5 g6;intro x hx;simp only[Ask.ints,bZ,kB,lO] at hx;unfold dI;omega
theorem aCw{s:az}(h:Ib s):∀a∈s.asks,a.mi.ok:=fun a ha=>by
 have h2:=(amq h).2.1 a ha;refine⟨fun x hx=>h2 x ?_,h2 _ (by simp[Ask.ints,Ask.mi])⟩;simp only[Ask.mi,Qn.ints,Ask.ints,bZ,kB,lO] at hx⊢;omega
theorem UA{p:az->Prop}(h:∀s∈run,p s):∀s∈mY run,p s:=fun s hs=>h s (akY (Uh run) s hs)
theorem abO(run:List az):(mY run).length=run.length:=akX (Uh run)
theorem aCx(hl:run.length<=20)(h:∀s∈run,Ib s):(BU (mY run)).length<=10000:=by
 have h1:=abO run;have:=aBD (mY run) ab (UA h) (mY run).length aA;unfold BU;omega
theorem aCy(hl:run.length<=20)(h:∀s∈run,Ib s):zu (BU (mY run))=.ok (eJ (mY run)) (ez (mY run)):=by
 have h1:=abO run;exact aBx (mY run) ab (fun s hs=>⟨(UA h s hs).1,(UA h s hs).2.1⟩)
theorem aCz(l l2:List Int)(k k2:Option Addr)(c c2:Nat)(w:World)(h:bW w (.slice k l.length c) l)(hc:l.length<=c)(hi:∀x∈l,dI x)(h2:bW w (.slice k2 l2.length c2) l2)(oG:l2.length<=c2)(yY:∀x∈l2,dI x)(hg:Gl w):
  Calls Tryz.prog 3 #[.slice k l.length c,.slice k2 l2.length c2] w fun e w'=>e=.returned (.bool true)/\ay w w':=by
 obtain⟨run,fO,oc,HW⟩:=aBy h hc hi h2 oG yY hg;have HW:=ae HW;have Hg:=ae hg;clear h hc hi h2 oG yY hg;have hst:=aCy fO oc;have KU:=aCx fO oc;have jP:=abO run;have UB:=ae hst;clear hst;go_enter Tryz.func3,Tryz.ntmps3
 go_wp2_with (go_at_call 4;refine HW.out.mono ?_;rintro e w1 ⟨u,rfl,jw,aM⟩)
 have amr:=jw;obtain⟨ua,uc,rfl,_⟩:=amr.open;have HP:=ae (abK run (.slice ua run.length uc) w1 jw ab (fun s hs=>amq (oc s hs)) (fun s hs=>by have:=(oc s hs).2.2.2;omega) (Hg.out.below aM));have Pc:=ae jw;have rD:=ae aM;have Hrk:=ae oc
 obtain⟨N,hN⟩:∃N,mY run=N:=⟨_,rfl⟩
 rw[hN] at HP UB KU jP;have HN:=ae hN;clear amr jw aM oc hN HW
 obtain⟨T,hT⟩:∃T,BU N=T:=⟨_,rfl⟩
 rw[hT] at HP UB KU;clear hT;unfold sv at HP
 go_wp2_with (go_at_call 6;refine HP.out.mono ?_;rintro e w2 ⟨rfl,cn⟩)
 have kY:=ae (rD.out.trans (cn.mono rD.out.size));have Pp:=ae (Pc.out.kept cn aA);have HQ:=ae (ajO T w2 (Hg.out.below kY.out) KU);unfold Oo at HQ;rw[UB.out] at HQ;clear HP cn UB KU rD Pc;change Hid (Calls _ _ _ _ fun e w'=>(∃k c k2 c2,e=.returned (.tuple #[tv k c k2 c2 (eJ N) (ey (ez N)),I 0])/\gz w' k c k2 c2 (eJ N) (ey (ez N)))/\ay w2 w') at HQ;unfold sv tv at HQ
 go_upto_region 3 with(go_at_call 5;refine HQ.out.mono ?_;rintro e w3 ⟨⟨k3,c3,k4,c4,rfl,DT⟩,gm⟩)
 have UC:(eJ N).length=run.length:=by unfold eJ;rw[dy];exact jP
 have DB:=ax.new w3 #[.slice k3 (eJ N).length c3,.slice k4 (ey (ez N)).length c4] 28;have ks:ay w2 (w3.alloc (.cells #[.slice k3 (eJ N).length c3,.slice k4 (ey (ez N)).length c4] 28)):=gm.alloc gm.size _;have Oj:=DT.kept ((Below.refl w3.heap.size w3).alloc aA (.cells #[.slice k3 (eJ N).length c3,.slice k4 (ey (ez N)).length c4] 28));generalize w3.alloc (.cells #[.slice k3 (eJ N).length c3,.slice k4 (ey (ez N)).length c4] 28)=w4 at DB ks Oj⊢;generalize w3.heap.size=TB at DB⊢;have x0:w4.cell? ⟨TB,0,none⟩=some (.slice k3 (eJ N).length c3):=DB.cell 0;have x1:w4.cell? ⟨TB,1,none⟩=some (.slice k4 (ey (ez N)).length c4):=DB.cell 1;have hr4:=Pp.out.kept ks aA;have Lh:=ae (kY.out.trans (ks.mono kY.out.size));have HNm:=ae (fun X (hX:ay w4 X)=>alK run (.slice ua run.length uc) X (hr4.kept hX aA) ab (fun s hs=>by have:=(Hrk.out s hs).2.2.1;omega) (fun s hs=>by have:=(Hrk.out s hs).2.2.2;omega));rw[HN.out] at HNm
 have Ij:Hid (∀X v,gH X v N->Calls Tryz.prog 8 #[v] X fun e w'=>∃k c k2 c2,e=.returned (tv k c k2 c2 (eJ N) (ey (ez N)))/\gz w' k c k2 c2 (eJ N) (ey (ez N))/\ay X w'):=ae (fun X v hX=>by
  have hk:∀s∈N,Ib s:=by rw[<-HN.out];exact UA Hrk.out
  exact ofF N v X hX (fun s hs=>aCw (hk s hs)) ab (fun s hs=>by have:=(hk s hs).2.2.1;omega))
 have Ik:Hid (∀X k c k2 c2 k3 c3 k4 c4,gz X k c k2 c2 (eJ N) (ey (ez N))->gz X k3 c3 k4 c4 (eJ N) (ey (ez N))->Calls Tryz.prog 7 #[tv k c k2 c2 (eJ N) (ey (ez N)),tv k3 c3 k4 c4 (eJ N) (ey (ez N))] X fun e w'=>e=.returned (.bool true)/\ay X w'):=
  ae (fun X k c k2 c2 k3 c3 k4 c4 h1 h2=>aky _ _ _ _ k c k2 c2 k3 c3 k4 c4 X h1 h2 true ai)
 have HT4:=ae Oj;have HG4:=ae (Hg.out.below Lh.out);have HL:=ae (fun X (hX:ay w4 X)=>aCo X (HG4.out.below hX));unfold abr at HL;unfold tv at Ij Ik;rw[UC] at x0 Ij Ik⊢;clear gm DT DB ks Oj hr4 kY Pp HQ Hg HN;generalize eJ N=E at Ij Ik HT4 UC;generalize ey (ez N)=L at Ij Ik HT4 x1⊢;have HnE:=ae UC;clear UC;have HS:=ae (show∀X,ay w4 X->X.cell? ⟨TB,0,none⟩=some (.slice k3 run.length c3)/\X.cell? ⟨TB,1,none⟩=some (.slice k4 L.length c4) from fun X hX=>⟨eK hX aA x0,eK hX aA x1⟩);have D0:ay w4 w4.drew:=(Below.refl _ _).drew;have HN0:Hid (∀X,ay w4 X->Calls Tryz.prog 9 #[.slice ua run.length uc] X fun e w'=>∃u,e=.returned u/\mh X.heap.size w' u N/\ay X w'):=HNm;clear x0 x1 HNm;refine lP 18 [(0,true),(1,true),(2,true),(3,true),(4,true),(5,false),(6,false),(7,false),(8,true),(9,true),(10,true),(11,true),(12,true),(13,true),(14,true),(15,true),(16,true),(17,true)] (fun w'=>w'.cell? ⟨TB,0,none⟩=some (.slice k3 run.length c3)/\w'.cell? ⟨TB,1,none⟩=some (.slice k4 L.length c4)) ah rfl rfl ah (HS.out _ D0) ?_
 iterate 5 refine jh ?_
 refine nG (fun K hK=> ?_);go_simp;go_at_call 9;refine(HN0.out _ D0).mono ?_;rintro e X1 ⟨v5,rfl,hr5,F⟩;have D1:=Below.then D0 F;refine hK.out _ _ (HS.out _ D1) ?_;clear hK K;refine bV ?_;refine nG (fun K hK=> ?_);go_simp;go_at_call 8;refine(Ij.out X1 v5 hr5.sl).mono ?_;rintro e X2 ⟨k6,c6,k7,c7,rfl,Li,F⟩;have D2:=Below.then D1 F;refine hK.out _ _ (HS.out _ D2) ?_;clear hK K;refine bV ?_;refine nG (fun K hK=> ?_);go_simp;go_at_call 7;refine(Ik.out X2 _ _ _ _ _ _ _ _ (HT4.out.kept D2) Li).mono ?_;rintro e X3 ⟨rfl,F⟩;have D3:=Below.then D2 F;refine hK.out _ _ (HS.out _ D3) ?_;clear hK K;refine bV ?_
 iterate 10 refine jh ?_
 refine lQ ?_;go_wp2_with fail;refine(HL.out X3 D3).mono ?_;rintro e w8 ⟨rfl,hB8⟩;go_wp2_with fail;refine NoPanic.normal ?_;go_wp2_with fail;go_ret;exact⟨rfl,Lh.out.trans ((Below.then D3 hB8).mono Lh.out.size)⟩
end
section
open Go.RowKit Go.ChangeShapes Go.WideShapes Go.Joins Go.Deep
section
variable {H:Type} {enc:TypeId×Value->H} {w:World} {base:Nat} {held:Bool}
theorem bW.aCA {w:World}{a:Addr}{len cap:Nat}{zs:List Int}(h1:len<=cap)(h2:cap<=maxLen)(h3:zs.length=cap)(h4:∀i,i<zs.length->w.cell? (a.add i)=some (.int .i64 (zs.getD i 0)))(h5:∀n∈zs,(Lit.int .i64 n).wf=true):
  ∃l:List Int,l.length=len/\bW w (.slice (some a) len cap) l/\∀x∈l,dI x:=by
 obtain⟨l,hl,hi⟩:=azW (w:=w) (a:=some a) (len:=len) (cap:=cap) (zs:=zs) (.inr ⟨a,rfl,h1,h2,h3,h4,h5⟩);obtain⟨k,c,e,_⟩:=hl.open;simp at e;exact⟨l,e.2.1.symm,hl,hi⟩
theorem aCB {fuel:Nat}{cs:List Value}{x:DataW H×List MemPlace}(hf:DataW.trod enc Tryz.prog w base (fun _=>true) held fuel 22 cs=some x):
  ∃(k:Option Addr) (c:Nat) (l:List Int),cs=[.slice k l.length c]/\bW w (.slice k l.length c) l/\l.length<=c/\∀n∈l,dI n:=by
 rcases open_ints Tryz.underlying22 Tryz.underlying3 ah hf with⟨rfl,_⟩|⟨a,len,c,zs,rfl,_,hl,hm,hz,_,hcell,nT⟩
 ·exact⟨none,0,[],rfl,Flat.nil _ _ _ _,cI _,fun n hn=>by simp at hn⟩
 ·obtain⟨l,rfl,h,hi⟩:=bW.aCA hl hm (by simpa using hz) hcell nT;exact⟨some a,c,l,rfl,h,hl,hi⟩
theorem ams {r:Reach}{b0:Nat}{v:Value}{d:DataW H}{p:List MemPlace}(hv:Value.okWide Tryz.prog w r b0 22 v)(h:DataW.Trod enc Tryz.prog w base (fun _=>true) held 22 v d p):
  ∃(k:Option Addr) (c:Nat) (l:List Int),v=.slice k l.length c/\bW w (.slice k l.length c) l/\l.length<=c/\∀n∈l,dI n:=by
 obtain⟨a,len,cap,rfl⟩:=okWide_slice Tryz.underlying22 hv;obtain⟨fuel,hf⟩:=h;obtain⟨k,c,l,e,h1,h2,h3⟩:=aCB hf;simp[Value.cells] at e;obtain⟨rfl,rfl,rfl⟩:=e;exact⟨_,_,l,rfl,h1,h2,h3⟩
def abP (w:World)(v:Value)(m:List (List Int)):Prop:=∃(a:Option Addr) (c:Nat),v=.slice a m.length c/\m.length<=9223372036854775807/\∀i l,m[i]? =some l->∃b o k c',a=some ⟨b,o,none⟩/\w.cell? ⟨b,o+i,none⟩=some (.slice k l.length c')/\bW w (.slice k l.length c') l/\l.length<=c'/\∀n∈l,dI n
theorem abP.kept {w w':World}{v:Value}{m:List (List Int)}(h:abP w v m){B:Nat}(hb:Below B w w')(hB:w.heap.size<=B):abP w' v m:=by
 obtain⟨a,c,rfl,hm,hr⟩:=h;refine⟨a,c,rfl,hm,fun i l hi=> ?_⟩;obtain⟨b,o,k,c',e,h0,h1,h2,h3⟩:=hr i l hi;have hlt:=eh _ _ h0;exact⟨b,o,k,c',e,by rw[hb.cell (p:=⟨b,o+i,none⟩) (by simp at hlt⊢;omega)];exact h0,h1.kept hb hB,h2,h3⟩
end
end
namespace storyRound
open Go.ChangeShapes Go.WideShapes Go.ChangeAt Go.RowKit
theorem lifted (os:Os)(started:os.Started)(H:Type)(enc:TypeId×Value->H):
  ReturnsInHanded {} Tryz.checked os 3 .any (fun w args=>(Rows.storyRoundSpec.pre enc Tryz.checked.prog Tryz.f3 [] false w args/\laidMetH Tryz.prog Dz w)/\sizedMet enc Tryz.checked.prog Tryz.f3 (OpenSpec.ofChange Rows.storyRoundSpec) false w args)
   (Rows.storyRoundSpec.post enc Tryz.prog Tryz.f3 false true false false):=by
 refine awl (s:=Rows.storyRoundSpec) started ah Tryz.func3
  (ChangeSpec.witness_shaped (enc:=enc) (C:=Tryz.checked) (os:=os) (X:=fun w _=>laidMetH Tryz.prog Dz w) false (World.laidAll Tryz.prog os Dz) #[.slice none 0 0,.slice none 0 0] 8 (World.laidAll_os _ _ _)
   (World.shaped_of_ZipB ah ah) ah ah ah (awk os _)) ?_
 intro W base args ds gs before amt hW hG;have hval:∀(j:Nat) t v,Tryz.f3.params[j]? =some t->args[j]? =some v->Value.okWide Tryz.prog W .any base t v:=amt;have hW':=hW;obtain⟨p,q,Pk,hV,rfl,Nc,cB⟩:=hW;have hA:DataW.TrodAll enc Tryz.prog W 0 (fun _=>true) true Tryz.f3.params.toList args.toList ds p:=Pk;rw[Tryz.params3] at hA hval;obtain⟨v0,vs0,d0,ds0,p0,q0,Fo,rfl,rfl,h0,r0⟩:=trodAll_cons hA;obtain⟨v1,vs1,d1,ds1,p1,q1,rfl,rfl,rfl,h1,r1⟩:=trodAll_cons r0;obtain⟨rfl,rfl,rfl⟩:=trodAll_nil r1
 obtain rfl:args=#[v0,v1]:=by cases args;simp_all
 obtain⟨rfl,rfl⟩:=trodVars_none hV;have k0:=h0
 have lt0:∀x∈p0,x.block<W.heap.size:=by obtain⟨m,hm⟩:=k0;exact DataW.trod_lt m _ _ _ hm
 obtain⟨a0,c0,l0,rfl,i0,e0,b0⟩:=ams (hval 0 22 v0 rfl rfl) h0;have k1:=h1
 have lt1:∀x∈p1,x.block<W.heap.size:=by obtain⟨m,hm⟩:=k1;exact DataW.trod_lt m _ _ _ hm
 obtain⟨a1,c1,l1,rfl,i1,e1,b1⟩:=ams (hval 1 22 v1 rfl rfl) h1;clear Pk amt
 refine(aCz l0 l1 a0 a1 c0 c1 W i0 e0 b0 i1 e1 b1 hG).mono fun e W' ⟨he,ky⟩=> ?_
 subst he;exact⟨_,rfl,_,_,_,[],_,[],hW',trodAll_mk1 (shut_bool Tryz.underlying4 _),(trodAll_cons_mk (Below.trod laidOut ah (uK ah) k0 ky lt0) (trodAll_cons_mk (Below.trod laidOut ah (uK ah) k1 ky lt1) trodAll_mk0)),rfl,ky.frame _,fun h=>by cases h⟩
theorem c01:Rows.storyRoundRow.wf (OpenSpec.ofChange Rows.storyRoundSpec)=true:=ah
theorem c02:mapsRowed Tryz.checked.prog=true:=ah
theorem c03:Tryz.f3.params.all (Tryz.checked.prog.readableRec ·)=true:=ah
theorem c04:namedTie Tryz.checked.prog Rows.storyRoundRow.named Rows.storyRoundSpec.vars=true:=ah
theorem c05:(Rows.storyRoundRow.inPlace==Tryz.checked.prog.inPlace 3)=true:=ah
theorem c06:(Rows.storyRoundRow.unfollowed==Tryz.checked.prog.unfollowed 3)=true:=ah
theorem c07:(Rows.storyRoundRow.recurses==Tryz.checked.prog.recurses 3)=true:=ah
theorem c08:(Rows.storyRoundRow.named==Tryz.checked.prog.varsNamed 3)=true:=ah
theorem c09:(Rows.storyRoundRow.plainKeys==Tryz.checked.prog.plainKeys)=true:=ah
theorem c10:Tryz.checked.prog.stopsHeard=true:=ah
theorem closed:joinedFacts Tryz.checked.prog 3 Tryz.f3 Rows.storyRoundSpec Rows.storyRoundRow=true:=by
 unfold joinedFacts;rw[c01,c02,c03,c04,c05,c06,c07,c08,c09,c10,show laidOutB Tryz.checked.prog=true from laidOut];kernel_rfl
theorem over:Rows.storyRoundRow.holds Tryz.pinned (OpenSpec.ofChange Rows.storyRoundSpec):=
 OpenClaim.holds_of_wide 3 Tryz.f3 rfl rfl rfl rfl rfl rfl rfl ⟨rfl,rfl,rfl,rfl,rfl⟩ rfl rfl rfl rfl rfl ah Tryz.func3 closed
  (uK ah) (by unfold Func.isWrapper;first|(rw[aj (by decide+kernel)];kernel_rfl)|(rw[af (by decide+kernel)];exact⟨rfl,rfl⟩))
  (fun os started H enc _=>lifted os started H enc)
theorem e01:Rows.storyRoundRow.wfByText (OpenSpec.ofChange Rows.storyRoundSpec)=true:=ah
theorem e02:Tryz.pinned.checked.prog.mainIs=some (true,"89bca26921e10c84f96327ff1e23afdcaee6addc339c66cee76af05d412d6059".toList):=ah
theorem e03:Tryz.prog.funcNamed "simproof/simprooflaw29.StoryRound" =some 3:=ah
theorem e04:true=Tryz.pinned.checked.prog.looks []:=ah
theorem e05:false=Rows.storyRoundRow.goesBy Tryz.pinned.checked.prog:=ah
theorem e06:([22,22].all fun u=> !Tryz.prog.wantsStandIn u)=true:=ah
theorem proved:Rows.StoryRoundCardSaid:=
 Claim7.holds_tied_plain_at .later [] [.data,.data,.data,.data,.sentinel,.sentinel,.pinned] true (true,"89bca26921e10c84f96327ff1e23afdcaee6addc339c66cee76af05d412d6059") true
  over (fun _ h=>by cases h) e01 (fun _ h=>by cases h) storyRound_row_tie rfl ⟨rfl,rfl⟩ e02 rfl
  (fun f fn hf MY=>by
   obtain rfl:f=3:=ei (e03.symm.trans hf)|>.symm
   obtain rfl:fn=Tryz.f3:=(ei (Tryz.func3.symm.trans MY)).symm
   exact⟨e04,fun j t ht=>by
    rw[Tryz.params3] at ht
    have hm:t∈[22,22]:=by simpa using Array.mem_of_getElem? ht
    exact(show Tryz.prog.wantsStandIn t=false by simpa using fg.1 e06 t hm)⟩)
  e05
end storyRound
end Go.Proofs.YtngblilamkkikaaGreatDoor
