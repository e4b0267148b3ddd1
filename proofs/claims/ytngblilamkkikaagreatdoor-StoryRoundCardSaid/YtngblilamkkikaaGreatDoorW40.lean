import Derived.Test.YtngblilamkkikaaGreatDoorW39
import Derived.Test.YtngblilamkkikaaGreatDoorW37
set_option maxHeartbeats 40000000
set_option maxRecDepth 100000
set_option linter.all false
namespace Go.Proofs.YtngblilamkkikaaGreatDoor
section
open Go.RowKit Go.Maps
variable {k:Nat} {w w':World} {xs:List Value}
theorem vT(w:World)(a:Addr)(v:Value):w.grownBy (w.setCell a v) (some a.block):=⟨rfl,rfl,rfl,ai,fun k _ hne=>by
 simp only[World.setCell,PC]
 rw[af (fun h=>hne (by rw[h]))]⟩
theorem aah(h:ay w w')(row:Option Nat):w.grownBy w' row:=⟨h.os,h.tape,h.output,h.size,fun k hk _=>h.block k hk⟩
theorem Flat.grown{n b o m c:Nat}{row:Option Nat}(h:Flat w k (.slice (some ⟨b,o,none⟩) m c) n xs)(hg:w.grownBy w' row)(hne:some b≠row):Flat w' k (.slice (some ⟨b,o,none⟩) m c) n xs:=by
 obtain⟨hl,hm,a,c',hv,hr⟩:=h;refine⟨hl,hm,a,c',hv,fun j u hu=> ?_⟩;obtain⟨b',o',ha,hc⟩:=hr j u hu;simp at hv;obtain⟨rfl,_⟩:=hv;simp at ha;obtain⟨rfl,rfl⟩:=ha;exact⟨_,_,rfl,hg.cell hc hne⟩
theorem aai{B B' n:Nat}{e:TypeId}{v:Value}(h:w.ownsRow B e k v n xs)(hB:B'<=B):w.ownsRow B' e k v n xs:=by
 obtain⟨h1,h2|⟨g,cap,cur,hv,hb,r⟩⟩:=h
 ·exact⟨h1,.inl h2⟩
 ·exact⟨h1,.inr ⟨g,cap,cur,hv,ab,r⟩⟩
def Eb (l:List aI)(ys:List Qn):List aI:=ys.map fun q=>⟨q,ek l q⟩
theorem azm(l:List aI)(ys:List Qn)(k:Nat)(h:k<ys.length):((Eb l (ys.take (k+1))).flatMap ac)=(Eb l (ys.take k)).flatMap ac++[I ys[k].node,I ys[k].handler,I ys[k].count,I ys[k].kind,I ys[k].index,I (ek l ys[k])]:=by
 rw[List.take_succ_eq_append_getElem h,Eb,cU,nC];simp[Eb,ac,aI.ints,iv]
theorem azn(l:List aI)(ys:List Qn):(Eb l ys).length=ys.length:=by simp[Eb]
section
variable {ops:Array Oper} {Q:Exit->Act->World->Prop} {rest:List Oper} {o:Oper} {a:Act} {w:World}
theorem aje (db:o.guard=none)(x:Operand)(ho:o.op=.load 92 x)(b off:Nat)(cs:List Value)(hl:cs.length=5)(hx:a.eval x=.pointer (some ⟨b,off,none⟩))(hc:w.rangeAt b off cs)
  (h:wpList Tryz.prog ops Q rest (a.put o.dst (.agg cs.toArray)) w):wpList Tryz.prog ops Q (o::rest) a w:=
 wpList_load_mid db 92 x ho b off hx cs _ hc Tryz.underlying92 rfl (by rw[hl];exact ayK) h
end
theorem azo {w:World}{b n:Nat}{D:DataW Unit}(h:w.ownsMap (H:=Unit) Tryz.prog 92 (plainElem Tryz.prog 3) b n D):Maps.size D<=n:=by
 obtain⟨es,clock,hb,F,hs,rfl⟩:=h
 show(List.foldr DataW.insert [] _).length<=n
 rw[length_sorted];simpa using hs
theorem azp (w:World):(zeroValue 3).run Tryz.prog w=.ok (I 0) w:=Tryz.zeroValue3 w
theorem ajf (evs:List Ev)(l:List aI)(ve va:Value)(w:World)(he:pf w ve evs)(ha:lp w va l)(ct:∀a∈l,a.ok)(hle:evs.length<=1000000)(hl:l.length<=1000000):
  Calls Tryz.prog 18 #[.agg #[ve,va]] w fun e w'=>∃ue ua,e=.returned (.agg #[ue,ua])/\w'.ownsRow w.heap.size 67 8 ue evs.length (evs.flatMap ec)/\w'.ownsRow w.heap.size 100 6 ua (ey l).length ((ey l).flatMap ac)/\ay w w':=by
 have SZ:=ae (fun W (hB:ay w W)=>ayM l ve va W (ha.kept hB aA) ct hl);have ajg:=ae (fun W (hB:ay w W)=>azl evs ve W (he.kept hB aA) hle);have bj:bH w #[ve,va] #[.slice none 0 0,.slice none 0 0] ((w.alloc (.cells #[ve,va] 28)).alloc (.cells #[.slice none 0 0,.slice none 0 0] 28)):=bH.start w _ _ 28;have nj:=bj.1.cell;have oT:=ae ct;clear ct he ha;go_enter Tryz.func18,Tryz.ntmps18
 go_upto_region 2 with(go_at_call 54;refine(SZ.out _ bj.2.2.1).mono ?_;rintro e w1 ⟨b,D,rfl,hb,ajh,hMA,aM⟩)
 have gZ:=bj.call aM;have azq:=gZ.1.cell
 have hzb:w.heap.size+2<=b:=by have:=bj.2.2.2;omega
 have aji:=ae ajh;have NR:=ae hMA;clear ajh hMA nj aM hb bj SZ
 go_upto_region 3 with(go_at_call 55;refine(ajg.out _ gZ.2.2.1).mono ?_;rintro e w2 ⟨ue,rfl,GI,cn⟩;obtain⟨ke,ce,rfl,_⟩:=(Flat.dU GI).open)
 have lR:=gZ.call cn;have Ta:=ae (aji.out.kept (aah cn none) ai);have zC:=ae (aai GI gZ.2.2.2)
 have fb:∀k',(Value.slice ke evs.length ce).ownBlock=some k'->k'<w2.heap.size:=fun k' rS=>(GI.lt k' rS).2
 have azr:=ae fb;have fB:=Ta.out.lt;have azs:=lR.2.2.2;clear GI ajg azq cn fb;have kp3:ay w2 (w2.alloc (.cells #[.slice ke evs.length ce,.slice none 0 0] 28)):=(Below.refl _ _).alloc aA _;have KC:((w2.alloc (.cells #[.slice ke evs.length ce,.slice none 0 0] 28)).alloc (.cells #[.map (some b)] 129)).ownsMap (H:=Unit) Tryz.prog 92 (plainElem Tryz.prog 3) b l.length D:=(Ta.out.alloc _).alloc _;have ajj:=ae (azk (w2.heap.size+1) b l.length D ((w2.alloc (.cells #[.slice ke evs.length ce,.slice none 0 0] 28)).alloc (.cells #[.map (some b)] 129)) ai KC (bh (azo KC) hl) fun xs CK=>bh (ajd CK NR.out l (fun q hq=>SU hq) rfl) hl);clear KC
 go_wp2_with (first|(go_at_call 57;refine(azi b _).mono ?_;rintro e w3 ⟨rfl,rfl⟩)|(go_at_call 56;refine ajj.out.mono ?_;rintro e w4 ⟨u4,ys,rfl,rh,Cq,aaj,aak,ks⟩;obtain⟨k4,c4,rfl,_⟩:=aaj.open))
 have Hkd:=ae rh;have azt:=ae Cq;have zF:ys.length<=1000000:=bh (ajd rh NR.out l (fun q hq=>SU hq) rfl) hl;have GM:=ks.size;simp only[World.size_alloc] at GM aak;have azu:ax w4 w2.heap.size #[.slice ke evs.length ce,.slice none 0 0]:=((ax.new _ _ _).alloc _).kept ks bC;have KC:w4.ownsMap (H:=Unit) Tryz.prog 92 (plainElem Tryz.prog 3) b l.length D:=((Ta.out.alloc _).alloc _).kept (aah ks none) ai;have azv:=ae KC;have ajk:=ae (((zC.out.alloc _).alloc _).kept (aah ks none) (by cases(Value.slice ke evs.length ce).ownBlock<;>simp));have azw:=ae aaj;have azx:=ae aak;have azy:ay w2 w4:=(((Below.refl _ _).alloc aA _).alloc ai _).trans (ks.mono bC);have kp4:=lR.call azy;clear rh Cq ks KC aaj aak ajj aji Ta zC gZ lR kp3;go_loopw [17] (fun i wr=>∃(k:Nat) (v:Value),k<=ys.length/\i=.int .i64 k/\Hid (wr.ownsRow w4.heap.size 100 6 v k ((Eb l (ys.take k)).flatMap ac))/\ax wr w2.heap.size #[.slice ke evs.length ce,v]/\Hid (w4.grownBy wr (some w2.heap.size))) (fun i _=>ys.length-(intOf i).toNat)
 case atStart=>exact⟨0,_,ab,rfl,ae (jU _ _ _ _),azu,ae (World.grownBy.refl _ _)⟩
 case round=>
  obtain⟨k,v,hk,rfl,Hv,hblk,Hg⟩:=hrel;have hzr:=Hg.out.size;by_cases hlt:k<ys.length
  ·obtain⟨b5,o5,rfl,hr⟩:=Aj KB ab azw.out (i:=k) (x:=ys[k]) (by simp[hlt]);have jt:w2.heap.size+1+1<=b5:=azx.out b5 rfl;have Hr:=ae (show wr.rangeAt b5 (o5+k*5) [I ys[k].node,I ys[k].handler,I ys[k].count,I ys[k].kind,I ys[k].index] from fun j u hu=>Hg.out.cell (hr j u hu) bC);have hqo:ys[k].ok:=((Hkd.out.2 ys[k]).1 (cA hlt)).1;have Hq:=ae hqo;clear hr hqo
   go_upto_region 6 with((with_reducible refine aje rfl _ rfl b5 (o5+k*5) [I ys[k].node,I ys[k].handler,I ys[k].count,I ys[k].kind,I ys[k].index] rfl ?_ ?_ ?_);(rfl);(exact Hr.out))
   have NT:ax (wr.alloc (.cells #[I ys[k].node,I ys[k].handler,I ys[k].count,I ys[k].kind,I ys[k].index] 92)) wr.heap.size #[I ys[k].node,I ys[k].handler,I ys[k].count,I ys[k].kind,I ys[k].index]:=ax.new _ _ _;have Tb:=hblk.alloc (.cells #[I ys[k].node,I ys[k].handler,I ys[k].count,I ys[k].kind,I ys[k].index] 92);have hvq:=Hv.out.alloc (.cells #[I ys[k].node,I ys[k].handler,I ys[k].count,I ys[k].kind,I ys[k].index] 92);have Tc:=Hg.out.trans (yc wr (.cells #[I ys[k].node,I ys[k].handler,I ys[k].count,I ys[k].kind,I ys[k].index] 92) (some w2.heap.size));have hsq:(wr.alloc (.cells #[I ys[k].node,I ys[k].handler,I ys[k].count,I ys[k].kind,I ys[k].index] 92)).heap.size=wr.heap.size+1:=World.size_alloc _ _;generalize wr.alloc (.cells #[I ys[k].node,I ys[k].handler,I ys[k].count,I ys[k].kind,I ys[k].index] 92)=wq at NT Tb hvq Tc hsq⊢;have hgN:w2.heap.size<wr.heap.size:=ab;obtain⟨c,hrun,GL,_⟩:=World.ownsMap.lookup_int (w:=wq.drew) (azv.out.kept Tc bC).drew EW Tryz.underlying129 Tryz.underlying3 (azp _) (IM ys[k] Hq.out)
   have hcv:c=ek l ys[k]:=by
    rw[NR.out.at_ ys[k] Hq.out] at GL;simpa using GL.symm
   subst hcv;have Hvq:=ae hvq;have HGq:=ae Tc;clear hvq Tc GL;obtain⟨ka,ca,rfl,_⟩:=(Flat.dU Hv.out).open
   have S0:(∀j,wq.cell? ⟨w2.heap.size,j,none⟩=(#[.slice ke evs.length ce,.slice ka k ca]:Array Value)[j]?)/\(∀j,wq.cell? ⟨wr.heap.size,j,none⟩=(#[I ys[k].node,I ys[k].handler,I ys[k].count,I ys[k].kind,I ys[k].index]:Array Value)[j]?):=⟨Tb.cell,NT.cell⟩
   simp only[Qn.val] at hrun;refine lP 9 [(0,true),(1,true),(2,true),(3,true),(4,true),(5,false),(6,true),(7,false),(8,false)] (fun w'=>(∀j,w'.cell? ⟨w2.heap.size,j,none⟩=(#[.slice ke evs.length ce,.slice ka k ca]:Array Value)[j]?)/\(∀j,w'.cell? ⟨wr.heap.size,j,none⟩=(#[I ys[k].node,I ys[k].handler,I ys[k].count,I ys[k].kind,I ys[k].index]:Array Value)[j]?)) ah rfl rfl ah S0 ?_
   iterate 5 refine jh ?_
   refine nG (fun K hK=> ?_);go_simp;refine hK.out _ _ S0 ?_;clear hK K;refine bV ?_;refine jh ?_;refine nG (fun K hK=> ?_);go_simp;refine hK.out _ _ ⟨(Tb.alloc _).cell,(NT.alloc _).cell⟩ ?_;clear hK K;refine bV ?_;have Td:∀k',(Value.slice ka k ca).ownBlock=some k'->w4.heap.size<=k'/\k'<wr.heap.size:=Hv.out.lt;refine UN iY _ _ 26 iY 100 _ 6 48 Tryz.underlying26 PR rfl ab ab w4.heap.size (.slice ka k ca) k _ iY (Hvq.out.drew.alloc _) wq.heap.size 1 1 #[I ys[k].node,I ys[k].handler,I ys[k].count,I ys[k].kind,I ys[k].index,I (ek l ys[k])] 100 (by simp only[hsq];rfl) (ej wq.drew _) rfl rfl ab ab bC ?_;intro g6 mj w6 ajl ajm aal Ec qd rB;have Te:ax w6 w2.heap.size #[.slice ke evs.length ce,.slice ka k ca]:=(Tb.drew.alloc _).grown qd (fun e=>by have:=Td _ e;omega);have azz:ax w6 wr.heap.size #[I ys[k].node,I ys[k].handler,I ys[k].count,I ys[k].kind,I ys[k].index]:=(NT.drew.alloc _).grown qd (fun e=>by have:=Td _ e;omega);refine⟨⟨Te.cell,azz.cell⟩,?_⟩
   have hGd:wq.grownBy (wq.drew.alloc (.cells #[I ys[k].node,I ys[k].handler,I ys[k].count,I ys[k].kind,I ys[k].index,I (ek l ys[k])] 100)) (some w2.heap.size):=by
    have h:=yc wq.drew (.cells #[I ys[k].node,I ys[k].handler,I ys[k].count,I ys[k].kind,I ys[k].index,I (ek l ys[k])] 100) (some w2.heap.size);exact⟨h.os,h.tape,h.output,h.size,h.block⟩
   have hG6:w4.grownBy w6 (some w2.heap.size):=World.grownBy.andThen (HGq.out.trans hGd) qd (fun j hj=> .inl (Td j hj).1);have hS6:=Te.set 1 (.slice (some ⟨g6,0,none⟩) (k+1) mj);have ajn:=Ec.kept (vT w6 ⟨w2.heap.size,1,none⟩ (.slice (some ⟨g6,0,none⟩) (k+1) mj)) (.inr (by simp[Value.ownBlock];omega));have ajo:=hG6.trans (vT w6 ⟨w2.heap.size,1,none⟩ (.slice (some ⟨g6,0,none⟩) (k+1) mj));have Ho6:=ae ajn;have HS6:=ae hS6;have HG6:=ae ajo;have c61:=Te.cell 1;have f61:=Te.frozen 1;clear ajn hS6 ajo hG6 Ec qd rB Td hrun S0;refine bV ?_;refine lQ ?_;go_wp2_with fail;refine NoPanic.normal ?_;go_wp2_with fail;go_roundw
   case rel=>exact⟨k+1,_,ab,by go_num,ae (by rw[azm l ys k hlt];exact Ho6.out),HS6.out,HG6⟩
   case measure=>simp[intOf];omega
  ·obtain rfl:k=ys.length:=ab;obtain⟨ka,ca,rfl,_⟩:=(Flat.dU Hv.out).open;have au:ax wr (w.heap.size+1) #[.slice none 0 0,.slice none 0 0]:=kp4.2.1.grown Hg.out bC;have c0:=hblk.cell 0;have c1:=hblk.cell 1;have r0:=au.cell 0;have r1:=au.cell 1;have fr0:=au.frozen 0;have fr1:=au.frozen 1;have Gx:=ae au;clear au hblk;go_wp2_with fail;have lF:ax ((wr.setCell ⟨w.heap.size+1,0,none⟩ (.slice ke evs.length ce)).setCell ⟨w.heap.size+1,1,none⟩ (.slice ka ys.length ca)) (w.heap.size+1) #[.slice ke evs.length ce,.slice ka ys.length ca]:=(Gx.out.set 0 _).set 1 _;have BC:wr.grownBy ((wr.setCell ⟨w.heap.size+1,0,none⟩ (.slice ke evs.length ce)).setCell ⟨w.heap.size+1,1,none⟩ (.slice ka ys.length ca)) (some (w.heap.size+1)):=(vT wr ⟨w.heap.size+1,0,none⟩ _).trans (vT _ ⟨w.heap.size+1,1,none⟩ _)
   have Bu:=Hv.out.kept BC (by
    cases hv:(Value.slice ka ys.length ca).ownBlock with
    |none=>exact .inl rfl
    |some g=>exact .inr (fun e=>by have:=(Hv.out.lt g hv).1;simp at e;omega))
   have hue:=(ajk.out.kept Hg.out (by
    cases hv:(Value.slice ke evs.length ce).ownBlock with
    |none=>exact .inl rfl
    |some g=>exact .inr (fun e=>by have:=azr.out g hv;simp at e;omega))).kept BC (by
    cases hv:(Value.slice ke evs.length ce).ownBlock with
    |none=>exact .inl rfl
    |some g=>exact .inr (fun e=>by have:=(ajk.out.lt g hv).1;simp at e;omega))
   have iP:ay w ((wr.setCell ⟨w.heap.size+1,0,none⟩ (.slice ke evs.length ce)).setCell ⟨w.heap.size+1,1,none⟩ (.slice ka ys.length ca)):=
    ((kp4.2.2.1.grown Hg.out ab (fun g hg=>by cases hg;omega)).grown BC ab (fun g hg=>by cases hg;omega))
   have ajp:Eb l ys=ey l:=(ayC azt.out Hkd.out.1 fun q=>by
    rw[Hkd.out.2 q];constructor
    ·rintro⟨h1,h2⟩;rw[NR.out.EX q h1] at h2;exact uK h2
    ·intro h;obtain⟨a,ha,e⟩:=SU h;have h1:q.ok:=e▸(oT.out a ha).1
     exact⟨h1,by rw[NR.out.EX q h1];exact fh h⟩).eq
   rw[lK ab,ajp] at Bu
   have hlen:(ey l).length=ys.length:=by rw[<-ajp,azn]
   rw[<-hlen] at Bu lF BC hue iP⊢;generalize((wr.setCell ⟨w.heap.size+1,0,none⟩ (.slice ke evs.length ce)).setCell ⟨w.heap.size+1,1,none⟩ (.slice ka (ey l).length ca))=W5 at lF BC Bu hue iP⊢;obtain⟨t5,ht5⟩:=lF
   have hr:∀tmps:Array Value,tmps.getD 2 undef=.pointer (some ⟨w.heap.size+1,0,none⟩)->(results Tryz.f18 tmps).run Tryz.prog W5=.ok (.agg #[.slice ke evs.length ce,.slice ka (ey l).length ca]) W5:=fun tmps hp=>results_cell_row Tryz.results18 tmps W5 (w.heap.size+1) t5 _ (0,0) _ hp ht5 Tryz.underlying28 rfl ah
   refine wv (hr _ rfl) rfl ?_;exact⟨_,_,rfl,aai hue ab,aai Bu ab,iP⟩
end
section
open Go.RowKit
theorem azA:(Tryz.prog.info? 67).map (·.size)=some 8:=ah
section
variable {ops:Array Oper} {Q:Exit->Act->World->Prop} {rest:List Oper} {o:Oper} {a:Act} {w:World}
theorem azB (db:o.guard=none)(x:Operand)(ho:o.op=.load 67 x)(b off:Nat)(cs:List Value)(hl:cs.length=8)(hx:a.eval x=.pointer (some ⟨b,off,none⟩))(hc:w.rangeAt b off cs)
  (h:wpList Tryz.prog ops Q rest (a.put o.dst (.agg cs.toArray)) w):wpList Tryz.prog ops Q (o::rest) a w:=
 wpList_load_mid db 67 x ho b off hx cs _ hc Tryz.underlying67 rfl (by rw[hl];exact azA) h
end
theorem pf.at {w:World}{a:Option Addr}{n c:Nat}{l:List Ev}(h:pf w (.slice a n c) l){i:Nat}{x:Ev}(hi:l[i]? =some x):
  ∃b o,a=some ⟨b,o,none⟩/\w.rangeAt b (o+i*8) [I x.kind,I x.node,I x.arg,I x.msg.node,I x.msg.handler,I x.msg.count,I x.msg.index,I x.msg.copy]:=by
 obtain⟨b,o,ha,hc⟩:=Aj (f:=fun a:Ev=>iv a.ints) (fun _=>rfl) ab h hi;exact⟨b,o,ha,fun j v hv=>hc j v hv⟩
end
section
open Go.RowKit
theorem Flat.keep {w w':World}{k n m c:Nat}{a:Option Addr}{xs:List Value}{S:Nat->Prop}(h:Flat w k (.slice a m c) n xs)(hg:sI S w w')(hne:∀x,a=some x->¬S x.block):Flat w' k (.slice a m c) n xs:=by
 obtain⟨hl,hm,a',c',hv,hr⟩:=h;refine⟨hl,hm,a',c',hv,fun j u hu=> ?_⟩;obtain⟨b',o',ha,hc⟩:=hr j u hu;simp at hv;obtain⟨rfl,_⟩:=hv;refine⟨_,_,ha,?_⟩;have h2:=eh _ _ hc;simp only[World.cell?] at hc⊢;rw[hg.block b' h2 (hne _ ha)];exact hc
theorem Rd.count_le (s:Rd)(most:Nat):(s.count most).1<=most:=by
 unfold Rd.count;split
 ·exact Ai _
 ·omega
end
section
open Go.RowKit
variable {cs:Array Value} {g m:Nat} {l:List Nat} {w:World}
theorem ajq(a b c h:Nat)(w:World):Calls Tryz.prog 99 #[.agg #[I a,I b,I c],I h] w fun e w'=>e=.returned (.bool (decide (a<12/\b<h)))/\ay w w':=by
 have e:decide (a<12/\b<h)=(decide ((a:Int)<12) && decide ((b:Int)<(h:Int))):=by
  rw[qy];simp;omega
 have hm:(0:Int)<=min (a:Int) (b:Int):=ab;have yQ:decide ((0:Int)<=min (a:Int) (b:Int))=true:=fh hm;rw[e];clear e;have hB:ay w (w.alloc (.cells #[I a,I b,I c] 63)):=(Below.refl _ _).alloc aA _;by_cases h1:(a:Int)<12
 ·by_cases h2:(b:Int)<(h:Int)
  ·go_enter Tryz.func99,Tryz.ntmps99;go_wp2_with fail;go_ret;exact⟨by simp[h1,h2],hB⟩
  ·go_enter Tryz.func99,Tryz.ntmps99;go_wp2_with fail;go_ret;exact⟨by simp;omega,hB⟩
 ·go_enter Tryz.func99,Tryz.ntmps99;go_wp2_with fail;go_ret;exact⟨by simp;omega,hB⟩
theorem ajr(w:World):Calls Tryz.prog 66 #[] w fun e w'=>e=.returned (.slice (some ⟨w.heap.size,0,none⟩) 8 8)/\du w' w.heap.size dt/\ay w w'/\w'.heap.size=w.heap.size+1:=by
 go_enter Tryz.func66,Tryz.ntmps66;go_wp2_with fail;go_ret;exact⟨rfl,ej _ _,(Below.refl _ _).alloc aA _,World.size_alloc _ _⟩
theorem aam(w:World):Calls Tryz.prog 68 #[] w fun e w'=>e=.returned (.slice (some ⟨w.heap.size,0,none⟩) 4 4)/\du w' w.heap.size dM/\ay w w'/\w'.heap.size=w.heap.size+1:=by
 go_enter Tryz.func68,Tryz.ntmps68;go_wp2_with fail;go_ret;exact⟨rfl,ej _ _,(Below.refl _ _).alloc aA _,World.size_alloc _ _⟩
theorem GN{s:aw}(h:eH s m=some l):l.length=m:=by
 unfold eH at h;split at h
 ·rename_i hl;rw[mapM_length h,hl]
 ·cases h
theorem aan(s:aw)(many:Nat)(w:World)(hg:Gl w)(hs:s.length<=4000000000)(Bh:1<=many)(hm:many<=100):
  Calls Tryz.prog 98 #[sv s,I many] w fun e w'=>((eH s many=none/\e=.returned (.slice none 0 0))\/(∃l g c,eH s many=some l/\e=.returned (.slice (some ⟨g,0,none⟩) many c)/\w.heap.size<=g/\g<w'.heap.size/\∀i x,l[i]? =some x->w'.cell? ⟨g,i,none⟩=some (I (x:Nat))))/\ay w w':=by
 refine(ayq s many w hg hs Bh hm).mono ?_;rintro e w' ⟨⟨v,rfl,hv⟩,hb⟩;refine⟨?_,hb⟩
 cases hd:eH s many with
 |none=>
  rw[hd] at hv;exact .inl ⟨rfl,by rw[show v=_ from hv]⟩
 |some l=>
  rw[hd] at hv;obtain⟨g,c,rfl,DJ,bN⟩:=hv;have hl:=GN hd
  have hcell:∀i x,l[i]? =some x->w'.cell? ⟨g,i,none⟩=some (I (x:Nat)):=fun i x hi=>by
   obtain⟨b,o,e,hc⟩:=bW.at (i:=i) (x:=(x:Int)) (by simpa using bN) (by simp[hi]);injection e with e;injection e with e1 e2;subst e1 e2;simpa using hc
  refine .inr ⟨l,g,c,rfl,by rw[hl],DJ,?_,hcell⟩;have h0:0<l.length:=ab;exact Lib.lt_of_cell (hcell 0 l[0] (by simp[h0]))
theorem azC(s:aw)(m:Nat)(w:World)(hg:Gl w)(hs:s.length<=4000000000)(h1:1<=m)(h2:m<=100):
  Calls Tryz.prog 98 #[sv s,I m] w fun e w'=>(∃a n c,e=.returned (.slice a n c))/\ay w w':=by
 refine(aan s m w hg hs h1 h2).mono ?_;rintro e w' ⟨⟨_,rfl⟩|⟨l,g,c,h1,rfl,h3,h4,h5⟩,hb⟩
 ·exact⟨⟨_,_,_,rfl⟩,hb⟩
 ·exact⟨⟨_,_,_,rfl⟩,hb⟩
theorem KD{s:aw}(h:eH s m=none)(w:World)(hg:Gl w)(hs:s.length<=4000000000)(h1:1<=m)(h2:m<=100):
  Calls Tryz.prog 98 #[sv s,I m] w fun e w'=>e=.returned (.slice none 0 0)/\ay w w':=by
 refine(aan s m w hg hs h1 h2).mono ?_;rintro e w' ⟨⟨_,rfl⟩|⟨l,g,c,h1,rfl,h3,h4,h5⟩,hb⟩
 ·exact⟨rfl,hb⟩
 ·rw[h] at h1;cases h1
theorem KE{s:aw}(h:eH s m=some l)(w:World)(hg:Gl w)(hs:s.length<=4000000000)(h1:1<=m)(h2:m<=100):
  Calls Tryz.prog 98 #[sv s,I m] w fun e w'=>(∃g c,e=.returned (.slice (some ⟨g,0,none⟩) m c)/\w.heap.size<=g/\g<w'.heap.size/\∀i x,l[i]? =some x->w'.cell? ⟨g,i,none⟩=some (I (x:Nat)))/\ay w w':=by
 refine(aan s m w hg hs h1 h2).mono ?_;rintro e w' ⟨⟨h',rfl⟩|⟨l',g,c,h1,rfl,h3,h4,h5⟩,hb⟩
 ·rw[h] at h';cases h'
 ·rw[h] at h1;injection h1 with h1;subst h1;exact⟨⟨g,c,rfl,h3,h4,h5⟩,hb⟩
def rF (words:List aw)(w:aw)(n:Nat):Nat:=(List.range n).foldl (fun k i=>if 0<i/\w=words.getD i [] then i else k) 0
theorem Tf(words:List aw)(w:aw)(n:Nat):rF words w (n+1)=if 0<n/\w=words.getD n [] then n else rF words w n:=by
 unfold rF;rw[ng,yg];rfl
theorem aao(words:List aw)(w:aw)(n:Nat):rF words w n<=n-1:=by
 induction n with
 |zero=>exact cI 0
 |succ n ih=>
  rw[Tf];split<;>omega
theorem aap{fn:Func}{ty:TypeId}(h:fn.results=#[.cell 2 ty,.tmp 3])(tmps:Array Value)(w:World)(g:Nat)(cs:Array Value)(hL:(loadVar ty ⟨g,0,none⟩).run Tryz.prog w=.ok (.agg cs) w)
  (hp:tmps.getD 2 undef=.pointer (some ⟨g,0,none⟩)):(results fn tmps).run Tryz.prog w=.ok (.tuple #[.agg cs,tmps.getD 3 undef]) w:=by
 rw[results_cell_tmp h,hp];simp only[asAddr,rP,qw,hL]
theorem ajs(hb:ax w g cs)(hl:cs.size=8):(loadVar 67 ⟨g,0,none⟩).run Tryz.prog w=.ok (.agg cs) w:=by
 obtain⟨t,ht⟩:=hb;exact run_loadVar_row w g t 67 cs (0,0) _ ht Tryz.underlying67 rfl (by rw[hl];kernel_rfl)
theorem azD(hb:ax w g cs)(hl:cs.size=5):(loadVar 92 ⟨g,0,none⟩).run Tryz.prog w=.ok (.agg cs) w:=by
 obtain⟨t,ht⟩:=hb;exact run_loadVar_row w g t 92 cs (0,0) _ ht Tryz.underlying92 rfl (by rw[hl];kernel_rfl)
end
section
open Go.RowKit
def azE (k:Int):Int:=if k%40=39 then 2147483647-k/40%2 else k/40%4
def Tg (n:Int):Int:=azE (around n 1000000)
def evK (k m:Int):Ev:=
 if 1+k%7=1\/1+k%7=2\/1+k%7=4 then⟨1+k%7,k/7%12,Tg m,⟨0,0,0,0,0⟩⟩
 else if 1+k%7=3\/1+k%7=5\/1+k%7=6 then⟨1+k%7,k/7%12,0,⟨around m 1000000000%12,around m 1000000000/12%40,Tg (around m 1000000000/480),Tg (k/84),Tg (k/336)⟩⟩
 else⟨1+k%7,k/7%12,0,⟨0,0,0,0,0⟩⟩
def bY (n m:Int):Ev:=evK (around n 1000000000) m
theorem oU {w:World}{q:Nat}{a0 a1 a2 a3 a4 a5 a6 a7:Value}(h:ax w q #[a0,a1,a2,a3,a4,a5,a6,a7])(b0 b1 b2 b3 b4 b5 b6 b7:Value):ax ((((((((w.setCell ⟨q,0,none⟩ b0).setCell ⟨q,1,none⟩ b1).setCell ⟨q,2,none⟩ b2).setCell ⟨q,3,none⟩ b3).setCell ⟨q,4,none⟩ b4).setCell ⟨q,5,none⟩ b5).setCell ⟨q,6,none⟩ b6).setCell ⟨q,7,none⟩ b7) q #[b0,b1,b2,b3,b4,b5,b6,b7]/\w.grownBy ((((((((w.setCell ⟨q,0,none⟩ b0).setCell ⟨q,1,none⟩ b1).setCell ⟨q,2,none⟩ b2).setCell ⟨q,3,none⟩ b3).setCell ⟨q,4,none⟩ b4).setCell ⟨q,5,none⟩ b5).setCell ⟨q,6,none⟩ b6).setCell ⟨q,7,none⟩ b7) (some q):=by
 have h2:=((((((((h.set 0 b0).set 1 b1).set 2 b2).set 3 b3).set 4 b4).set 5 b5).set 6 b6).set 7 b7)
 simp only[Ll,Lp,Lq] at h2;exact⟨h2,((((((((uq w ⟨q,0,none⟩ _).trans (uq _ ⟨q,1,none⟩ _)).trans (uq _ ⟨q,2,none⟩ _)).trans (uq _ ⟨q,3,none⟩ _)).trans (uq _ ⟨q,4,none⟩ _)).trans (uq _ ⟨q,5,none⟩ _)).trans (uq _ ⟨q,6,none⟩ _)).trans (uq _ ⟨q,7,none⟩ _))⟩
end
section
open Go.RowKit
theorem Th {w:World}{q:Nat}{a0 a1 a2 a3 a4:Value}(h:ax w q #[a0,a1,a2,a3,a4])(b0 b1 b2 b3 b4:Value):ax (((((w.setCell ⟨q,0,none⟩ b0).setCell ⟨q,1,none⟩ b1).setCell ⟨q,2,none⟩ b2).setCell ⟨q,3,none⟩ b3).setCell ⟨q,4,none⟩ b4) q #[b0,b1,b2,b3,b4]/\w.grownBy (((((w.setCell ⟨q,0,none⟩ b0).setCell ⟨q,1,none⟩ b1).setCell ⟨q,2,none⟩ b2).setCell ⟨q,3,none⟩ b3).setCell ⟨q,4,none⟩ b4) (some q):=by
 have h2:=(((((h.set 0 b0).set 1 b1).set 2 b2).set 3 b3).set 4 b4)
 simp only[Ll,Lp,Lq] at h2;exact⟨h2,(((((uq w ⟨q,0,none⟩ _).trans (uq _ ⟨q,1,none⟩ _)).trans (uq _ ⟨q,2,none⟩ _)).trans (uq _ ⟨q,3,none⟩ _)).trans (uq _ ⟨q,4,none⟩ _))⟩
end
section
open Go.RowKit
variable {g:Nat} {l:List aw} {w w':World}
theorem du.below(h:du w g l)(hb:ay w w'):du w' g l:=by
 have hlt:g<w.heap.size:=(nB.1 h).1;exact(hb.block g hlt).trans h
theorem du.lt(h:du w g l):g<w.heap.size:=(nB.1 h).1
theorem du.grown{p:Nat}(h:du w g l)(hb:w.grownBy w' (some p))(hne:g≠p):du w' g l:=
 (hb.block g h.lt (fun e=>hne (ei e))).trans h
theorem aaq(w:World)(a:Addr)(v:Value){b:Nat}(o:Nat)(h:b≠a.block):(w.setCell a v).cell? ⟨b,o,none⟩=w.cell? ⟨b,o,none⟩:=by
 simp only[World.cell?];rw[zY w a b v h]
def rG (q:Qn):Array Value:=#[I q.node,I q.handler,I q.count,I q.kind,I q.index]
def aar (o:Option Qn):Int:=if o.isSome then 0 else 8
def uu (s:aw):Value:=.tuple #[.agg (rG ((gQ s).getD ru)),I (aar (gQ s))]
theorem KF{s:aw}{W:World}{tmps:Array Value}(cs:Array Value)(hb:ax W w.heap.size cs)(hl:cs.size=5)(hB:ay w W)
  (h2:tmps.getD 2 undef=.pointer (some ⟨w.heap.size,0,none⟩)) (hR:uu s=.tuple #[.agg cs,tmps.getD 3 undef]):
  bodyPost Tryz.prog Tryz.f69 (fun e w'=>e=.returned (uu s)/\ay w w') .ret { tmps:=tmps,defers:=[] } W:=
 wv (aap Tryz.results69 tmps W w.heap.size cs (azD hb hl) h2) rfl ⟨by rw[hR],hB⟩
theorem aas(s:aw)(w:World)(hg:Gl w)(hs:s.length<=4000000000):
  Calls Tryz.prog 69 #[sv s] w fun e w'=>e=.returned (uu s)/\ay w w':=by
 have HG:=ae hg;have lH:ay w (w.alloc (.cells #[I 0,I 0,I 0,I 0,I 0] 92)):=(Below.refl _ _).alloc aA _;have xI:=ae lH;have vM:=ae (Nr s 32 (w.alloc (.cells #[I 0,I 0,I 0,I 0,I 0] 92)) (hg.below lH) hs);have sH:=ae (SL 32 s);have HR:=ae (show gQ s=(let ws:=bM 32 s;let k:=rF dM (ws.getD 0 []) 4;if k=0\/ws.length≠3 then none else match eH (ws.getD 1 []) 3,eH (ws.getD 2 []) 1 with |some [a,b,c],some [i]=>if a<12/\b<41 then some ⟨a,b,c,k,i⟩ else none|_,_=>none) from rfl)
 have hne:0<(bM 32 s).length:=by rw[Ka];omega
 generalize bM 32 s=ws at*;simp only[] at HR;clear hg lH
 obtain⟨VR,hVR⟩:∃V,V=uu s:=⟨_,rfl⟩
 unfold sv at vM⊢;go_enter Tryz.func69,Tryz.ntmps69
 go_wp2_with (first
  |(go_at_call 16;refine vM.out.mono ?_;rintro e w1 ⟨rfl,aW,cC,dE⟩)
  |(go_at_call 68;refine(aam _).mono ?_;rintro e w2 ⟨rfl,zn,cK,eB⟩))
 clear hVR
 have hE:w1.heap.size=w.heap.size+1+1:=by rw[dE,World.size_alloc]
 have aDV:w2.heap.size=w1.heap.size+1+1:=by rw[eB,World.size_alloc]
 have qf:ax w2 w.heap.size #[I 0,I 0,I 0,I 0,I 0]:=(((ax.new w _ _).kept cC (by rw[World.size_alloc];omega)).alloc _).kept cK (by rw[World.size_alloc];omega);have NU:ax w2 w1.heap.size #[I 0,I 0,I 0,I 0,I 0]:=(ax.new w1 _ _).kept cK (by rw[World.size_alloc];omega)
 have qg:du w2 (w.heap.size+1) ws:=by
  have h1:du (w1.alloc (.cells #[I 0,I 0,I 0,I 0,I 0] 92)) (w.heap.size+1) ws:=by
   rw[<-World.size_alloc w (.cells #[I 0,I 0,I 0,I 0,I 0] 92)];exact aW.below ((Below.refl _ _).alloc aA _)
  exact h1.below cK
 have NV:du w2 (w1.heap.size+1) dM:=by rw[World.size_alloc] at zn;exact zn
 have cn:ay w w2:=((xI.out.trans (cC.mono (by rw[World.size_alloc];omega))).alloc ab _).trans (cK.mono (by rw[World.size_alloc];omega));have sJ:=ae qf;have HE0:=ae NU;have Ti:=ae qg;have NW:=ae NV;have kY:=ae cn;clear qf NU qg NV cn cC cK aW zn dE eB;generalize w1.heap.size=E at*;subst hE
 obtain⟨jR,GO⟩:∃x,x=ws.getD 0 []:=⟨_,rfl⟩
 have NY:ws[0]? =some jR:=by rw[GO];simp[List.getD,hne]
 rw[<-GO] at HR;clear GO;have Ed:=ae NY;clear NY;go_loopw [14] (fun i wr=>∃(k:Nat),i=.int .i64 k/\k<=4/\Hid (ax wr (w.heap.size+1+1) #[I 0,I 0,I 0,I (rF dM jR k),I 0])/\Hid (w2.grownBy wr (some (w.heap.size+1+1)))) (fun i _=>4-(intOf i).toNat)
 case atStart=>exact⟨0,rfl,ab,HE0,ae (World.grownBy.refl _ _)⟩
 case round=>
  obtain⟨k,rfl,hk,Hb,BD⟩:=hrel;by_cases hlt:k<4
  ·have hcell:wr.cell? ⟨w.heap.size+1+1+1,k,none⟩=some (sv (dM.getD k [])):=by
    refine du.cell (NW.out.grown BD.out ab) ?_;have:k<dM.length:=hlt;simp[List.getD,this]
   have DZ:wr.cell? ⟨w.heap.size+1,0,none⟩=some (sv jR):=du.cell (Ti.out.grown BD.out ab) Ed.out;have KG:=Hb.out.cell 3;have hf3:=Hb.out.frozen 3;have mR:=Tf dM jR k;by_cases hst:0<k/\jR=dM.getD k []
   ·rw[aj hst] at mR;obtain⟨h0,heq⟩:=hst;have fq:=Hb.out.set 3 (I k);have Gw:=ae (show ax (wr.setCell ⟨w.heap.size+1+1,3,none⟩ (I k)) (w.heap.size+1+1) #[I 0,I 0,I 0,I (rF dM jR (k+1)),I 0] by rw[mR];exact fq);rw[<-heq] at hcell;have zz:(jR==jR)=true:=IB _;clear mR heq fq;unfold sv at hcell DZ;go_wp2_with fail;go_roundw
    case rel=>exact⟨k+1,by go_num,ab,Gw,ae (BD.out.trans (fZ wr ⟨w.heap.size+1+1,3,none⟩ _))⟩
    case measure=>simp[intOf];omega
   ·rw[af hst] at mR;have xK:=ae (show ax wr (w.heap.size+1+1) #[I 0,I 0,I 0,I (rF dM jR (k+1)),I 0] by rw[mR];exact Hb.out);clear mR KG hf3;by_cases h0:0<k
    ·have zz:(jR==dM.getD k [])=false:=nV.2 (fun e=>hst ⟨h0,e⟩);generalize dM.getD k []=q at hcell zz hst;clear hst;unfold sv at hcell DZ;go_wp2_with fail;go_roundw
     case rel=>exact⟨k+1,by go_num,ab,xK,BD⟩
     case measure=>simp[intOf];omega
    ·obtain rfl:k=0:=ab;clear hst;unfold sv at hcell DZ;go_wp2_with fail;go_roundw
     case rel=>exact⟨0+1,by go_num,ab,xK,BD⟩
     case measure=>simp[intOf]
  ·obtain rfl:k=4:=ab;have DL:=aao dM jR 4;generalize rF dM jR 4=kk at Hb HR DL;have uv:ax wr w.heap.size #[I 0,I 0,I 0,I 0,I 0]:=sJ.out.grown BD.out (by intro e;injection e with e;omega);have iw:ay w wr:=kY.out.grown BD.out ab (by intro k e;injection e with e;omega)
   have kX:=ae (show ax (((((wr.setCell ⟨w.heap.size,0,none⟩ (I 0)).setCell ⟨w.heap.size,1,none⟩ (I 0)).setCell ⟨w.heap.size,2,none⟩ (I 0)).setCell ⟨w.heap.size,3,none⟩ (I 0)).setCell ⟨w.heap.size,4,none⟩ (I 0)) w.heap.size #[I 0,I 0,I 0,I 0,I 0]/\ay w (((((wr.setCell ⟨w.heap.size,0,none⟩ (I 0)).setCell ⟨w.heap.size,1,none⟩ (I 0)).setCell ⟨w.heap.size,2,none⟩ (I 0)).setCell ⟨w.heap.size,3,none⟩ (I 0)).setCell ⟨w.heap.size,4,none⟩ (I 0)) by
    obtain⟨h1,h2⟩:=Th uv (I 0) (I 0) (I 0) (I 0) (I 0)
    exact⟨h1,iw.grown h2 iw.size (by intro k e;injection e with e;omega)⟩)
   have r0:=uv.cell 0;have r1:=uv.cell 1;have r2:=uv.cell 2;have r3:=uv.cell 3;have r4:=uv.cell 4;have g0:=uv.frozen 0;have g1:=uv.frozen 1;have g2:=uv.frozen 2;have g3:=uv.frozen 3;have g4:=uv.frozen 4;have e3:=Hb.out.cell 3;have HRr:=ae uv;have uw:=ae iw;clear uv iw;by_cases h0:kk=0
   ·subst h0;have HQ:=ae (show gQ s=none by rw[HR.out,aj (.inl rfl)]);go_wp2_with fail;exact KF _ kX.out.1 rfl kX.out.2 rfl (by unfold uu;rw[HQ.out];rfl)
   ·have DC:¬(kk:Int)=0:=ab;have lH:((kk:Int)==0)=false:=nV.2 DC;by_cases h3:ws.length=3
    ·obtain⟨y,hy⟩:∃y,ws[1]? =some y:=⟨ws[1],by simp[h3]⟩
     obtain⟨z,hz⟩:∃z,ws[2]? =some z:=⟨ws[2],by simp[h3]⟩
     have zF:y.length<=4000000000:=bh (sH.out _ (dD hy)) hs;have mG:z.length<=4000000000:=bh (sH.out _ (dD hz)) hs
     have HQ:=ae (show gQ s=match eH y 3,eH z 1 with |some [a,b,c],some [i]=>if a<12/\b<41 then some ⟨a,b,c,kk,i⟩ else none|_,_=>none by
      have e1:ws.getD 1 []=y:=by simp[List.getD,hy]
      have e2:ws.getD 2 []=z:=by simp[List.getD,hz]
      rw[HR.out,af ab,e1,e2])
     have Ee:wr.cell? ⟨w.heap.size+1,1,none⟩=some (sv y):=du.cell (Ti.out.grown BD.out ab) hy;have NZ:wr.cell? ⟨w.heap.size+1,2,none⟩=some (sv z):=du.cell (Ti.out.grown BD.out ab) hz;have pZ:=ae (HG.out.below uw.out);have GQ:=ae (show∀X,ay wr X->X.cell? ⟨w.heap.size+1,1,none⟩=some (sv y)/\X.cell? ⟨w.heap.size+1,2,none⟩=some (sv z) from fun X hX=>⟨(hX.cell (p:=⟨w.heap.size+1,1,none⟩) (Lib.lt_of_cell Ee)).trans Ee,(hX.cell (p:=⟨w.heap.size+1,2,none⟩) (Lib.lt_of_cell NZ)).trans NZ⟩)
     have HFX:=ae (show∀X,ay wr X->ax X w.heap.size #[I 0,I 0,I 0,I 0,I 0]/\ax (((((X.setCell ⟨w.heap.size,0,none⟩ (I 0)).setCell ⟨w.heap.size,1,none⟩ (I 0)).setCell ⟨w.heap.size,2,none⟩ (I 0)).setCell ⟨w.heap.size,3,none⟩ (I 0)).setCell ⟨w.heap.size,4,none⟩ (I 0)) w.heap.size #[I 0,I 0,I 0,I 0,I 0]/\ay w (((((X.setCell ⟨w.heap.size,0,none⟩ (I 0)).setCell ⟨w.heap.size,1,none⟩ (I 0)).setCell ⟨w.heap.size,2,none⟩ (I 0)).setCell ⟨w.heap.size,3,none⟩ (I 0)).setCell ⟨w.heap.size,4,none⟩ (I 0)) from fun X hX=>by
      have hX0:=HRr.out.kept hX HRr.out.lt;obtain⟨h1,h2⟩:=Th hX0 (I 0) (I 0) (I 0) (I 0) (I 0);have nr:=uw.out.trans (hX.mono uw.out.size)
      exact⟨hX0,h1,nr.grown h2 nr.size (by intro k e;injection e with e;omega)⟩)
     have qT:∀(w:World) (a:Option Addr) (n c n' c':Nat),(binOp .eql 22 (.slice a n c) (.slice none n' c')).run Tryz.prog w=.ok (.bool a.isNone) w:=fun w a n c n' c'=>Lib.run_eql_slice_nil w _ _ a n c n' c' Tryz.underlying22
     have Tj:=ae (show∀X,ay wr X->ax X (w.heap.size+1+1) #[I 0,I 0,I 0,I kk,I 0] from fun X hX=>Hb.out.kept hX Hb.out.lt);obtain⟨Tm,JW⟩:=GQ.out wr (Below.refl _ _);clear Ee NZ hy hz Hb Ti NW HE0 Ed sH kX HR;unfold sv at Tm JW
     cases xM:eH y 3 with
     |none=>
      have kt:=ae (show gQ s=none by rw[HQ.out,xM]);have GR:=ae (fun X (hX:ay wr X)=>KD xM X (pZ.out.below hX) zF ab ab);have Ef:=ae (fun X (hX:ay wr X)=>azC z 1 X (pZ.out.below hX) mG ab ab);clear xM;unfold sv at GR Ef;go_upto_region 11 with fail;refine lP 7 [(0,true),(1,true),(2,true),(4,true),(5,true),(6,true),(3,false)] (fun X=>X.cell? ⟨w.heap.size+1,1,none⟩=some (.string ⟨y.toArray⟩)/\X.cell? ⟨w.heap.size+1,2,none⟩=some (.string ⟨z.toArray⟩)) ah rfl rfl ah ⟨Tm,JW⟩ ?_
      iterate 6 refine jh ?_
      refine nG (fun K hK=> ?_);go_simp;go_at_call 98;refine(GR.out _ (Below.refl _ _).drew).mono ?_;rintro e X1 ⟨rfl,D1⟩;have D1:ay wr X1:=(Below.refl wr.heap.size wr).drew.trans D1;refine hK.out _ _ ⟨by simpa [sv] using(GQ.out X1 D1).1,by simpa [sv] using(GQ.out X1 D1).2⟩ ?_;clear hK K;refine bV ?_;refine lQ ?_
      go_wp2_with (go_at_call 98;refine(Ef.out _ (by first|exact D1|exact D1.drew)).mono ?_;rintro e X2 ⟨⟨qa,qn,qc',rfl⟩,D2⟩)
      have Eg:ay wr X2:=D1.trans (D2.mono D1.size);refine NoPanic.normal ?_;obtain⟨kZ,Oa,hF2⟩:=HFX.out X2 Eg;have r0:=kZ.cell 0;have r1:=kZ.cell 1;have r2:=kZ.cell 2;have r3:=kZ.cell 3;have r4:=kZ.cell 4;have g0:=kZ.frozen 0;have g1:=kZ.frozen 1;have g2:=kZ.frozen 2;have g3:=kZ.frozen 3;have g4:=kZ.frozen 4;have HF1:=ae Oa;have HF2:=ae hF2;clear kZ Oa hF2;go_wp2_with fail;exact KF _ HF1.out rfl HF2.out rfl (by unfold uu;rw[kt.out];rfl)
     |some l3=>
      have yT:=GN xM
      obtain⟨a,b,d,rfl⟩:∃a b d,l3=[a,b,d]:=by
       match l3,yT with
       |[a,b,d],_=>exact⟨a,b,d,rfl⟩
      have GR:=ae (fun X (hX:ay wr X)=>KE xM X (pZ.out.below hX) zF ab ab);clear yT
      cases mO:eH z 1 with
      |none=>
       have kt:=ae (show gQ s=none by rw[HQ.out,xM,mO]);have Ef:=ae (fun X (hX:ay wr X)=>KD mO X (pZ.out.below hX) mG ab ab);clear xM mO;unfold sv at GR Ef;go_upto_region 11 with fail;refine lP 7 [(0,true),(1,true),(2,true),(4,true),(5,true),(6,true),(3,false)] (fun X=>X.cell? ⟨w.heap.size+1,1,none⟩=some (.string ⟨y.toArray⟩)/\X.cell? ⟨w.heap.size+1,2,none⟩=some (.string ⟨z.toArray⟩)) ah rfl rfl ah ⟨Tm,JW⟩ ?_
       iterate 6 refine jh ?_
       refine nG (fun K hK=> ?_);go_simp;go_at_call 98;refine(GR.out _ (Below.refl _ _).drew).mono ?_;rintro e X1 ⟨⟨ga,gc,rfl,BF,sE,iU⟩,D1⟩;have D1:ay wr X1:=(Below.refl wr.heap.size wr).drew.trans D1;refine hK.out _ _ ⟨by simpa [sv] using(GQ.out X1 D1).1,by simpa [sv] using(GQ.out X1 D1).2⟩ ?_;clear hK K;refine bV ?_;refine lQ ?_
       go_wp2_with (go_at_call 98;refine(Ef.out _ (by first|exact D1|exact D1.drew)).mono ?_;rintro e X2 ⟨rfl,D2⟩)
       have Eg:ay wr X2:=D1.trans (D2.mono D1.size);refine NoPanic.normal ?_;obtain⟨kZ,Oa,hF2⟩:=HFX.out X2 Eg;have r0:=kZ.cell 0;have r1:=kZ.cell 1;have r2:=kZ.cell 2;have r3:=kZ.cell 3;have r4:=kZ.cell 4;have g0:=kZ.frozen 0;have g1:=kZ.frozen 1;have g2:=kZ.frozen 2;have g3:=kZ.frozen 3;have g4:=kZ.frozen 4;have HF1:=ae Oa;have HF2:=ae hF2;clear kZ Oa hF2;go_wp2_with fail;exact KF _ HF1.out rfl HF2.out rfl (by unfold uu;rw[kt.out];rfl)
      |some l1=>
       have cq:=GN mO
       obtain⟨ix,rfl⟩:∃ix,l1=[ix]:=by
        match l1,cq with
        |[a],_=>exact⟨a,rfl⟩
       have kt:=ae (show gQ s=if a<12/\b<41 then some ⟨a,b,d,kk,ix⟩ else none by rw[HQ.out,xM,mO]);have Ef:=ae (fun X (hX:ay wr X)=>KE mO X (pZ.out.below hX) mG ab ab);clear xM mO cq;unfold sv at GR Ef;go_upto_region 11 with fail;refine lP 7 [(0,true),(1,true),(2,true),(4,true),(5,true),(6,true),(3,false)] (fun X=>X.cell? ⟨w.heap.size+1,1,none⟩=some (.string ⟨y.toArray⟩)/\X.cell? ⟨w.heap.size+1,2,none⟩=some (.string ⟨z.toArray⟩)) ah rfl rfl ah ⟨Tm,JW⟩ ?_
       iterate 6 refine jh ?_
       refine nG (fun K hK=> ?_);go_simp;go_at_call 98;refine(GR.out _ (Below.refl _ _).drew).mono ?_;rintro e X1 ⟨⟨ga,gc,rfl,BF,sE,iU⟩,D1⟩;have D1:ay wr X1:=(Below.refl wr.heap.size wr).drew.trans D1;refine hK.out _ _ ⟨by simpa [sv] using(GQ.out X1 D1).1,by simpa [sv] using(GQ.out X1 D1).2⟩ ?_;clear hK K;refine bV ?_;refine lQ ?_
       go_wp2_with (go_at_call 98;refine(Ef.out _ (by first|exact D1|exact D1.drew)).mono ?_;rintro e X2 ⟨⟨gi,gj,rfl,hgi,hgk,rA⟩,D2⟩)
       have Eg:ay wr X2:=D1.trans (D2.mono D1.size);refine NoPanic.normal ?_;have aDW:=D1.size;have azs:=D2.size;have c0:X2.cell? ⟨ga,0,none⟩=some (I (a:Nat)):=(D2.cell (p:=⟨ga,0,none⟩) sE).trans (iU 0 a rfl);have c1:X2.cell? ⟨ga,1,none⟩=some (I (b:Nat)):=(D2.cell (p:=⟨ga,1,none⟩) sE).trans (iU 1 b rfl);have c2:X2.cell? ⟨ga,2,none⟩=some (I (d:Nat)):=(D2.cell (p:=⟨ga,2,none⟩) sE).trans (iU 2 d rfl);have i0:X2.cell? ⟨gi,0,none⟩=some (I (ix:Nat)):=rA 0 ix rfl;have xN:=Tj.out X2 Eg;have HEs:=ae (show ax ((((X2.setCell ⟨w.heap.size+1+1,0,none⟩ (I a)).setCell ⟨w.heap.size+1+1,1,none⟩ (I b)).setCell ⟨w.heap.size+1+1,2,none⟩ (I d)).setCell ⟨w.heap.size+1+1,4,none⟩ (I ix)) (w.heap.size+1+1) #[I a,I b,I d,I kk,I ix] from(((xN.set 0 (I a)).set 1 (I b)).set 2 (I d)).set 4 (I ix));have aDX:=xN.lt;have BF:wr.heap.size<=ga:=BF
       have fD:ga≠w.heap.size+1+1:=by have:=HRr.out.lt;have:=(Tj.out wr (Below.refl _ _)).lt;omega
       have xJ:gi≠w.heap.size+1+1:=by have:=(Tj.out wr (Below.refl _ _)).lt;omega
       have e0:=xN.cell 0;have e1:=xN.cell 1;have e2:=xN.cell 2;have e4:=xN.cell 4;have f0:=xN.frozen 0;have f1:=xN.frozen 1;have f2:=xN.frozen 2;have f4:=xN.frozen 4;clear iU rA BF hgi xN;go_upto_region 14 with fail;refine lP 15 [(0,true),(1,true),(2,true),(3,true),(4,true),(5,true),(6,true),(7,true),(8,true),(9,true),(10,true),(11,true),(12,true),(13,true),(14,false)] (fun X=>X.cell? ⟨ga,0,none⟩=some (I (a:Nat))/\X.cell? ⟨ga,1,none⟩=some (I (b:Nat))/\X.cell? ⟨ga,2,none⟩=some (I (d:Nat))/\X.cell? ⟨gi,0,none⟩=some (I (ix:Nat))) ah rfl rfl ah ⟨c0,c1,c2,i0⟩ ?_
       iterate 14 refine jh ?_
       refine nG (fun K hK=> ?_);go_simp
       have Oc:∀(q o:Nat),q≠w.heap.size+1+1->(((X2.setCell ⟨w.heap.size+1+1,0,none⟩ (I a)).setCell ⟨w.heap.size+1+1,1,none⟩ (I b)).setCell ⟨w.heap.size+1+1,2,none⟩ (I d)).cell? ⟨q,o,none⟩=X2.cell? ⟨q,o,none⟩:=fun q o h=>by
        rw[aaq _ _ _ _ h,aaq _ _ _ _ h,aaq _ _ _ _ h]
       refine hK.out _ _ ⟨(Oc ga 0 fD).trans c0,(Oc ga 1 fD).trans c1,(Oc ga 2 fD).trans c2,(Oc gi 0 xJ).trans i0⟩ ?_;clear Oc;clear hK K;refine bV ?_;refine lQ ?_;go_wp2_with fail;refine NoPanic.normal ?_;clear e0 e1 e2 e4 f0 f1 f2 f4 c0 c1 c2 i0
       have Tn:X2.grownBy ((((X2.setCell ⟨w.heap.size+1+1,0,none⟩ (I a)).setCell ⟨w.heap.size+1+1,1,none⟩ (I b)).setCell ⟨w.heap.size+1+1,2,none⟩ (I d)).setCell ⟨w.heap.size+1+1,4,none⟩ (I ix)).drew (some (w.heap.size+1+1)):=by
        have h:=(((fZ X2 ⟨w.heap.size+1+1,0,none⟩ (I a)).trans (fZ _ ⟨w.heap.size+1+1,1,none⟩ (I b))).trans (fZ _ ⟨w.heap.size+1+1,2,none⟩ (I d))).trans (fZ _ ⟨w.heap.size+1+1,4,none⟩ (I ix));exact⟨h.os,h.tape,h.output,h.size,h.block⟩
       have KH:=HEs.out.drew;generalize((((X2.setCell ⟨w.heap.size+1+1,0,none⟩ (I a)).setCell ⟨w.heap.size+1+1,1,none⟩ (I b)).setCell ⟨w.heap.size+1+1,2,none⟩ (I d)).setCell ⟨w.heap.size+1+1,4,none⟩ (I ix)).drew=Y at Tn KH;have hYR:ax Y w.heap.size #[I 0,I 0,I 0,I 0,I 0]:=(HFX.out X2 Eg).1.grown Tn (by intro e;injection e with e;omega);have hBY:ay w Y:=(uw.out.trans (Eg.mono uw.out.size)).grown Tn (by have:=uw.out.size;have:=Eg.size;omega) (by intro k e;injection e with e;omega);have y0:=KH.cell 0;have y1:=KH.cell 1;have y2:=KH.cell 2;have zG:=ae KH;have Tp:=ae hYR;have Tq:=ae hBY;clear KH hYR hBY Tn HEs;have HW:=ae (ajq a b d 41);by_cases dH:a<12/\b<41
       ·have ux:=ae (show gQ s=some ⟨a,b,d,kk,ix⟩ by rw[kt.out,aj dH]);have GU:decide (a<12/\b<41)=true:=fh dH;rw[GU] at HW
        go_wp2_with (go_at_call 99;refine(HW.out Y).mono ?_;rintro e Z ⟨rfl,D3⟩;have z0:=(zG.out.kept D3 zG.out.lt).cell 0;have z1:=(zG.out.kept D3 zG.out.lt).cell 1;have z2:=(zG.out.kept D3 zG.out.lt).cell 2;have z3:=(zG.out.kept D3 zG.out.lt).cell 3;have z4:=(zG.out.kept D3 zG.out.lt).cell 4;have zr:=Tp.out.kept D3 Tp.out.lt;have r0:=zr.cell 0;have r1:=zr.cell 1;have r2:=zr.cell 2;have r3:=zr.cell 3;have r4:=zr.cell 4;have g0:=zr.frozen 0;have g1:=zr.frozen 1;have g2:=zr.frozen 2;have g3:=zr.frozen 3;have g4:=zr.frozen 4;have Zr:=ae zr;clear zr)
        obtain⟨h1,h2⟩:=Th Zr.out (I a) (I b) (I d) (I kk) (I ix);have Od:ay w Z:=Tq.out.trans (D3.mono Tq.out.size);exact KF _ h1 rfl (Od.grown h2 Od.size (by intro k e;injection e with e;omega)) rfl (by unfold uu;rw[ux.out];rfl)
       ·have ux:=ae (show gQ s=none by rw[kt.out,af dH]);have GU:decide (a<12/\b<41)=false:=ja dH;rw[GU] at HW
        go_wp2_with (go_at_call 99;refine(HW.out Y).mono ?_;rintro e Z ⟨rfl,D3⟩;have zr:=Tp.out.kept D3 Tp.out.lt;have r0:=zr.cell 0;have r1:=zr.cell 1;have r2:=zr.cell 2;have r3:=zr.cell 3;have r4:=zr.cell 4;have g0:=zr.frozen 0;have g1:=zr.frozen 1;have g2:=zr.frozen 2;have g3:=zr.frozen 3;have g4:=zr.frozen 4;have Zr:=ae zr;clear zr)
        obtain⟨h1,h2⟩:=Th Zr.out (I 0) (I 0) (I 0) (I 0) (I 0);have Od:ay w Z:=Tq.out.trans (D3.mono Tq.out.size);exact KF _ h1 rfl (Od.grown h2 Od.size (by intro k e;injection e with e;omega)) rfl (by unfold uu;rw[ux.out];rfl)
    ·have Oe:¬(ws.length:Int)=3:=ab;have oK:((ws.length:Int)==3)=false:=nV.2 Oe;have HQ:=ae (show gQ s=none by rw[HR.out,aj (.inr h3)]);go_wp2_with fail;exact KF _ kX.out.1 rfl kX.out.2 rfl (by unfold uu;rw[HQ.out];rfl)
end
section
open Go.RowKit
variable {X w:World} {e:Array Value} {ws:List aw}
def iV (e:Ev):Array Value:=#[I e.kind,I e.node,I e.arg,I e.msg.node,I e.msg.handler,I e.msg.count,I e.msg.index,I e.msg.copy]
def Of (o:Option Ev):Int:=if o.isSome then 0 else 8
def nU (s:aw):Value:=.tuple #[.agg (iV ((dR s).getD rq)),I (Of (dR s))]
theorem uy{s:aw}{W:World}{tmps:Array Value}(cs:Array Value)(hb:ax W w.heap.size cs)(hl:cs.size=8)(hB:ay w W)
  (h2:tmps.getD 2 undef=.pointer (some ⟨w.heap.size,0,none⟩)) (hR:nU s=.tuple #[.agg cs,tmps.getD 3 undef]):
  bodyPost Tryz.prog Tryz.f50 (fun e w'=>e=.returned (nU s)/\ay w w') .ret { tmps:=tmps,defers:=[] } W:=
 wv (aap Tryz.results50 tmps W w.heap.size cs (ajs hb hl) h2) rfl ⟨by rw[hR],hB⟩
structure rH (w X:World)(ws:List aw)(e:Array Value):Prop where
 res:ax X w.heap.size #[I 0,I 0,I 0,I 0,I 0,I 0,I 0,I 0]
 row:du X (w.heap.size+1) ws
 ev:ax X (w.heap.size+1+1) e
 ky:ay w X
theorem rH.kept{X':World}(h:rH w X ws e)(hb:ay X X'):rH w X' ws e:=
 ⟨h.res.kept hb h.res.lt,h.row.below hb,h.ev.kept hb h.ev.lt,h.ky.trans (hb.mono h.ky.size)⟩
theorem rH.drew(h:rH w X ws e):rH w X.drew ws e:=h.kept (Below.refl _ _).drew
theorem rH.set(h:rH w X ws e)(i:Nat)(v:Value):rH w (X.setCell ⟨w.heap.size+1+1,i,none⟩ v) ws (e.setIfInBounds i v):=
 ⟨h.res.grown (fZ X ⟨w.heap.size+1+1,i,none⟩ v) (fun e=>by have h:=ei e;change w.heap.size+1+1=w.heap.size at h;omega),h.row.grown (fZ X ⟨w.heap.size+1+1,i,none⟩ v) (by show w.heap.size+1≠w.heap.size+1+1;omega),h.ev.set i v,
  h.ky.grown (fZ X ⟨w.heap.size+1+1,i,none⟩ v) h.ky.size (fun k e=>by have h:=ei e;change w.heap.size+1+1=k at h;omega)⟩
theorem azF(s:aw)(ws:List aw)(h:bM 32 s=ws)(kk:Nat)(hk:rF dt (ws.getD 0 []) 8=kk):dR s=if kk=0\/ws.length≠(if kk=7 then 2 else 3) then none
 else match eH (ws.getD 1 []) 1 with
  |some [nd]=>
   if 12<=nd then none
   else if kk=3\/kk=5\/kk=6 then
    match eH (ws.getD 2 []) 5 with
    |some [a,b,c,d,e]=>if a<12/\b<40 then some ⟨kk,nd,0,⟨a,b,c,d,e⟩⟩ else none
    |_=>none
   else if kk=7 then some ⟨7,nd,0,⟨0,0,0,0,0⟩⟩
   else match eH (ws.getD 2 []) 1 with
    |some [r]=>some ⟨kk,nd,r,⟨0,0,0,0,0⟩⟩
    |_=>none
  |_=>none:=by
 subst h hk;rfl
theorem ajt(s:aw)(w:World)(hg:Gl w)(hs:s.length<=4000000000):
  Calls Tryz.prog 50 #[sv s] w fun e w'=>e=.returned (nU s)/\ay w w':=by
 have HG:=ae hg;have lH:ay w (w.alloc (.cells #[I 0,I 0,I 0,I 0,I 0,I 0,I 0,I 0] 67)):=(Below.refl _ _).alloc aA _;have xI:=ae lH;have vM:=ae (Nr s 32 (w.alloc (.cells #[I 0,I 0,I 0,I 0,I 0,I 0,I 0,I 0] 67)) (hg.below lH) hs);have sH:=ae (SL 32 s);have sJ:=ae (azF s)
 have hne:0<(bM 32 s).length:=by rw[Ka];omega
 generalize bM 32 s=ws at*;have HR:=ae (sJ.out ws rfl);clear hg lH sJ;unfold sv at vM⊢;go_enter Tryz.func50,Tryz.ntmps50
 go_wp2_with (first
  |(go_at_call 16;refine vM.out.mono ?_;rintro e w1 ⟨rfl,aW,cC,dE⟩)
  |(go_at_call 66;refine(ajr _).mono ?_;rintro e w2 ⟨rfl,zn,cK,eB⟩))
 have hE:w1.heap.size=w.heap.size+1+1:=by rw[dE,World.size_alloc]
 have qf:ax w2 w.heap.size #[I 0,I 0,I 0,I 0,I 0,I 0,I 0,I 0]:=(((ax.new w _ _).kept cC (by rw[World.size_alloc];omega)).alloc _).kept cK (by rw[World.size_alloc];omega);have NU:ax w2 w1.heap.size #[I 0,I 0,I 0,I 0,I 0,I 0,I 0,I 0]:=(ax.new w1 _ _).kept cK (by rw[World.size_alloc];omega)
 have qg:du w2 (w.heap.size+1) ws:=by
  have h1:du (w1.alloc (.cells #[I 0,I 0,I 0,I 0,I 0,I 0,I 0,I 0] 67)) (w.heap.size+1) ws:=by
   rw[<-World.size_alloc w (.cells #[I 0,I 0,I 0,I 0,I 0,I 0,I 0,I 0] 67)];exact aW.below ((Below.refl _ _).alloc aA _)
  exact h1.below cK
 have NV:du w2 (w1.heap.size+1) dt:=by rw[World.size_alloc] at zn;exact zn
 have cn:ay w w2:=((xI.out.trans (cC.mono (by rw[World.size_alloc];omega))).alloc ab _).trans (cK.mono (by rw[World.size_alloc];omega));have NW:=ae NV
 obtain⟨jR,GO⟩:∃x,x=ws.getD 0 []:=⟨_,rfl⟩
 have NY:ws[0]? =some jR:=by rw[GO];simp[List.getD,hne]
 rw[<-GO] at HR;clear GO;have Ed:=ae NY;clear NY;clear NV cC cK aW zn dE eB;generalize w1.heap.size=E at*;subst hE;have gS:=ae (rH.mk (w:=w) (X:=w2) (ws:=ws) (e:=#[I 0,I 0,I 0,I 0,I 0,I 0,I 0,I 0]) qf qg NU cn);clear qf NU qg cn;go_loopw [16] (fun i wr=>∃(k:Nat),i=.int .i64 k/\k<=8/\Hid (rH w wr ws #[I (rF dt jR k),I 0,I 0,I 0,I 0,I 0,I 0,I 0])/\Hid (du wr (w.heap.size+1+1+1) dt)) (fun i _=>8-(intOf i).toNat)
 case atStart=>exact⟨0,rfl,ab,gS,NW⟩
 case round=>
  obtain⟨k,rfl,hk,Hb,Hq⟩:=hrel;by_cases hlt:k<8
  ·have hcell:wr.cell? ⟨w.heap.size+1+1+1,k,none⟩=some (sv (dt.getD k [])):=by
    refine du.cell Hq.out ?_;have:k<dt.length:=hlt;simp[List.getD,this]
   have DZ:wr.cell? ⟨w.heap.size+1,0,none⟩=some (sv jR):=du.cell Hb.out.row Ed.out;have KG:=Hb.out.ev.cell 0;have hf3:=Hb.out.ev.frozen 0;have mR:=Tf dt jR k;by_cases hst:0<k/\jR=dt.getD k []
   ·rw[aj hst] at mR;obtain⟨h0,heq⟩:=hst;have fq:=Hb.out.set 0 (I k);have Gw:=ae (show rH w (wr.setCell ⟨w.heap.size+1+1,0,none⟩ (I k)) ws #[I (rF dt jR (k+1)),I 0,I 0,I 0,I 0,I 0,I 0,I 0] by rw[mR];exact fq);have Hq2:=ae (Hq.out.grown (fZ wr ⟨w.heap.size+1+1,0,none⟩ (I k)) (by show w.heap.size+1+1+1≠w.heap.size+1+1;omega));rw[<-heq] at hcell;have zz:(jR==jR)=true:=IB _;clear mR heq fq;unfold sv at hcell DZ;go_wp2_with fail;go_roundw
    case rel=>exact⟨k+1,by go_num,ab,Gw,Hq2⟩
    case measure=>simp[intOf];omega
   ·rw[af hst] at mR;have xK:=ae (show rH w wr ws #[I (rF dt jR (k+1)),I 0,I 0,I 0,I 0,I 0,I 0,I 0] by rw[mR];exact Hb.out);clear mR KG hf3;by_cases h0:0<k
    ·have zz:(jR==dt.getD k [])=false:=nV.2 (fun e=>hst ⟨h0,e⟩);generalize dt.getD k []=q at hcell zz hst;clear hst;unfold sv at hcell DZ;go_wp2_with fail;go_roundw
     case rel=>exact⟨k+1,by go_num,ab,xK,Hq⟩
     case measure=>simp[intOf];omega
    ·obtain rfl:k=0:=ab;clear hst;unfold sv at hcell DZ;go_wp2_with fail;go_roundw
     case rel=>exact⟨0+1,by go_num,ab,xK,Hq⟩
     case measure=>simp[intOf]
  ·obtain rfl:k=8:=ab;have BG:=aao dt jR 8;have HR:=ae (HR.out _ rfl);generalize rF dt jR 8=kk at Hb HR BG;have e0:=Hb.out.ev.cell 0
   have qT:∀(w:World) (a:Option Addr) (n c n' c':Nat),(binOp .eql 22 (.slice a n c) (.slice none n' c')).run Tryz.prog w=.ok (.bool a.isNone) w:=fun w a n c n' c'=>Lib.run_eql_slice_nil w _ _ a n c n' c' Tryz.underlying22
   clear NW gS Hq;by_cases h0:kk=0
   ·subst h0;have HQ:=ae (show dR s=none by rw[HR.out,aj (.inl rfl)]);have au:=Hb.out.res;have r0:=au.cell 0;have r1:=au.cell 1;have r2:=au.cell 2;have r3:=au.cell 3;have r4:=au.cell 4;have r5:=au.cell 5;have r6:=au.cell 6;have r7:=au.cell 7;have g0:=au.frozen 0;have g1:=au.frozen 1;have g2:=au.frozen 2;have g3:=au.frozen 3;have g4:=au.frozen 4;have g5:=au.frozen 5;have g6:=au.frozen 6;have g7:=au.frozen 7;have HX:=ae au;have eL:=ae Hb.out.ky;clear au;go_wp2_with fail;obtain⟨p1,p2⟩:=oU HX.out (I 0) (I 0) (I 0) (I 0) (I 0) (I 0) (I 0) (I 0);have P1:=ae p1;have P2:=ae (eL.out.grown p2 eL.out.size (by intro k e;injection e with e;omega));clear p1 p2;exact uy _ P1.out rfl P2.out rfl (by unfold nU;rw[HQ.out];rfl)
   ·have DC:¬(kk:Int)=0:=ab;have lH:((kk:Int)==0)=false:=nV.2 DC;by_cases h7:kk=7
    ·subst h7;by_cases hl:ws.length=2
     ·obtain⟨y,hy⟩:∃y,ws[1]? =some y:=⟨ws[1],by simp[hl]⟩
      have HQ:=ae (show dR s=match eH y 1 with
        |some [nd]=>if 12<=nd then none else some ⟨7,nd,0,⟨0,0,0,0,0⟩⟩
        |_=>none by
       have e1:ws.getD 1 []=y:=by simp[List.getD,hy]
       rw[HR.out,af (by simp[hl]),e1]
       rfl)
      have zF:y.length<=4000000000:=bh (sH.out _ (dD hy)) hs;have Ee:=du.cell Hb.out.row hy;clear hy HR sH;have pZ:=ae (HG.out.below Hb.out.ky);unfold sv at Ee
      cases hd:eH y 1 with
      |none=>
       have kt:=ae (show dR s=none by rw[HQ.out,hd]);have Hc:=ae (KD hd wr pZ.out zF ab ab);clear hd;unfold sv at Hc
       go_wp2_with (go_at_call 98;refine Hc.out.mono ?_;rintro e X1 ⟨rfl,D1⟩;have HA:=ae (Hb.out.kept D1);have au:=HA.out.res;have r0:=au.cell 0;have r1:=au.cell 1;have r2:=au.cell 2;have r3:=au.cell 3;have r4:=au.cell 4;have r5:=au.cell 5;have r6:=au.cell 6;have r7:=au.cell 7;have g0:=au.frozen 0;have g1:=au.frozen 1;have g2:=au.frozen 2;have g3:=au.frozen 3;have g4:=au.frozen 4;have g5:=au.frozen 5;have g6:=au.frozen 6;have g7:=au.frozen 7;have HX:=ae au;have eL:=ae HA.out.ky;clear au)
       obtain⟨p1,p2⟩:=oU HX.out (I 0) (I 0) (I 0) (I 0) (I 0) (I 0) (I 0) (I 0);have P1:=ae p1;have P2:=ae (eL.out.grown p2 eL.out.size (by intro k e;injection e with e;omega));clear p1 p2;exact uy _ P1.out rfl P2.out rfl (by unfold nU;rw[kt.out];rfl)
      |some l1=>
       have cq:=GN hd
       obtain⟨nd,rfl⟩:∃nd,l1=[nd]:=by
        match l1,cq with
        |[a],_=>exact⟨a,rfl⟩
       have Hc:=ae (KE hd wr pZ.out zF ab ab);unfold sv at Hc;by_cases h12:12<=nd
       ·have aat:(12:Int)<=(nd:Int):=ab;have kt:=ae (show dR s=none by rw[HQ.out,hd];simp only[aj h12]);clear hd
        go_wp2_with (go_at_call 98;refine Hc.out.mono ?_;rintro e X1 ⟨⟨ga,gc,rfl,BF,sE,iU⟩,D1⟩;have c0:=iU 0 nd rfl;clear iU;have HA:=ae (Hb.out.kept D1);have au:=HA.out.res;have r0:=au.cell 0;have r1:=au.cell 1;have r2:=au.cell 2;have r3:=au.cell 3;have r4:=au.cell 4;have r5:=au.cell 5;have r6:=au.cell 6;have r7:=au.cell 7;have g0:=au.frozen 0;have g1:=au.frozen 1;have g2:=au.frozen 2;have g3:=au.frozen 3;have g4:=au.frozen 4;have g5:=au.frozen 5;have g6:=au.frozen 6;have g7:=au.frozen 7;have HX:=ae au;have eL:=ae HA.out.ky;clear au)
        obtain⟨p1,p2⟩:=oU HX.out (I 0) (I 0) (I 0) (I 0) (I 0) (I 0) (I 0) (I 0);have P1:=ae p1;have P2:=ae (eL.out.grown p2 eL.out.size (by intro k e;injection e with e;omega));clear p1 p2;exact uy _ P1.out rfl P2.out rfl (by unfold nU;rw[kt.out];rfl)
       ·have aat:¬(12:Int)<=(nd:Int):=ab;have kt:=ae (show dR s=some ⟨7,nd,0,⟨0,0,0,0,0⟩⟩ by rw[HQ.out,hd];simp only[af h12]);clear hd
        go_upto_region 18 with(go_at_call 98;refine Hc.out.mono ?_;rintro e X1 ⟨⟨ga,gc,rfl,BF,sE,iU⟩,D1⟩;have c0:=iU 0 nd rfl;clear iU;have HA:=ae (Hb.out.kept D1);have d0:=HA.out.ev.cell 0;have d1:=HA.out.ev.cell 1;have t1:=HA.out.ev.frozen 1)
        have HY:=ae (HA.out.set 1 (I nd))
        obtain⟨Y,hY⟩:∃Y,Y=X1.setCell ⟨w.heap.size+1+1,1,none⟩ (I nd):=⟨_,rfl⟩
        rw[<-hY] at HY;have HY:Hid (rH w Y ws #[I 7,I nd,I 0,I 0,I 0,I 0,I 0,I 0]):=HY;rw[<-hY];clear hY d0 d1 t1;have au:=HY.out.res;have aF:=HY.out.ev;have r0:=au.cell 0;have r1:=au.cell 1;have r2:=au.cell 2;have r3:=au.cell 3;have r4:=au.cell 4;have r5:=au.cell 5;have r6:=au.cell 6;have r7:=au.cell 7;have g0:=au.frozen 0;have g1:=au.frozen 1;have g2:=au.frozen 2;have g3:=au.frozen 3;have g4:=au.frozen 4;have g5:=au.frozen 5;have g6:=au.frozen 6;have g7:=au.frozen 7;have m0:=aF.cell 0;have m1:=aF.cell 1;have m2:=aF.cell 2;have m3:=aF.cell 3;have m4:=aF.cell 4;have m5:=aF.cell 5;have m6:=aF.cell 6;have m7:=aF.cell 7;have HX:=ae au;have eL:=ae HY.out.ky;clear au aF;go_wp2_with fail;obtain⟨p1,p2⟩:=oU HX.out (I 7) (I nd) (I 0) (I 0) (I 0) (I 0) (I 0) (I 0);have P1:=ae p1;have P2:=ae (eL.out.grown p2 eL.out.size (by intro k e;injection e with e;omega));clear p1 p2;exact uy _ P1.out rfl P2.out rfl (by unfold nU;rw[kt.out];rfl)
     ·have Oe:¬(ws.length:Int)=2:=ab;have oK:((ws.length:Int)==2)=false:=nV.2 Oe;have HQ:=ae (show dR s=none by rw[HR.out,aj (.inr (by simpa using hl))]);have au:=Hb.out.res;have r0:=au.cell 0;have r1:=au.cell 1;have r2:=au.cell 2;have r3:=au.cell 3;have r4:=au.cell 4;have r5:=au.cell 5;have r6:=au.cell 6;have r7:=au.cell 7;have g0:=au.frozen 0;have g1:=au.frozen 1;have g2:=au.frozen 2;have g3:=au.frozen 3;have g4:=au.frozen 4;have g5:=au.frozen 5;have g6:=au.frozen 6;have g7:=au.frozen 7;have HX:=ae au;have eL:=ae Hb.out.ky;clear au;go_wp2_with fail;obtain⟨p1,p2⟩:=oU HX.out (I 0) (I 0) (I 0) (I 0) (I 0) (I 0) (I 0) (I 0);have P1:=ae p1;have P2:=ae (eL.out.grown p2 eL.out.size (by intro k e;injection e with e;omega));clear p1 p2;exact uy _ P1.out rfl P2.out rfl (by unfold nU;rw[HQ.out];rfl)
    ·have h7':¬(kk:Int)=7:=ab;have BH:((kk:Int)==7)=false:=nV.2 h7';by_cases hl:ws.length=3
     ·obtain⟨y,hy⟩:∃y,ws[1]? =some y:=⟨ws[1],by simp[hl]⟩
      obtain⟨z,hz⟩:∃z,ws[2]? =some z:=⟨ws[2],by simp[hl]⟩
      have HQ:=ae (show dR s=match eH y 1 with
        |some [nd]=>
         if 12<=nd then none
         else if kk=3\/kk=5\/kk=6 then
          match eH z 5 with
          |some [a,b,c,d,e]=>if a<12/\b<40 then some ⟨kk,nd,0,⟨a,b,c,d,e⟩⟩ else none
          |_=>none
         else match eH z 1 with
          |some [r]=>some ⟨kk,nd,r,⟨0,0,0,0,0⟩⟩
          |_=>none
        |_=>none by
       have e1:ws.getD 1 []=y:=by simp[List.getD,hy]
       have e2:ws.getD 2 []=z:=by simp[List.getD,hz]
       rw[HR.out,af (by simp[hl,h0,h7]),e1,e2]
       simp only[af h7])
      have zF:y.length<=4000000000:=bh (sH.out _ (dD hy)) hs;have mG:z.length<=4000000000:=bh (sH.out _ (dD hz)) hs;have Ee:=du.cell Hb.out.row hy;have Hz:=ae hz;clear hy hz HR sH;have pZ:=ae (HG.out.below Hb.out.ky);unfold sv at Ee
      cases hd:eH y 1 with
      |none=>
       have kt:=ae (show dR s=none by rw[HQ.out,hd]);have Hc:=ae (KD hd wr pZ.out zF ab ab);clear hd;unfold sv at Hc
       go_wp2_with (go_at_call 98;refine Hc.out.mono ?_;rintro e X1 ⟨rfl,D1⟩;have HA:=ae (Hb.out.kept D1);have au:=HA.out.res;have r0:=au.cell 0;have r1:=au.cell 1;have r2:=au.cell 2;have r3:=au.cell 3;have r4:=au.cell 4;have r5:=au.cell 5;have r6:=au.cell 6;have r7:=au.cell 7;have g0:=au.frozen 0;have g1:=au.frozen 1;have g2:=au.frozen 2;have g3:=au.frozen 3;have g4:=au.frozen 4;have g5:=au.frozen 5;have g6:=au.frozen 6;have g7:=au.frozen 7;have HX:=ae au;have eL:=ae HA.out.ky;clear au)
       obtain⟨p1,p2⟩:=oU HX.out (I 0) (I 0) (I 0) (I 0) (I 0) (I 0) (I 0) (I 0);have P1:=ae p1;have P2:=ae (eL.out.grown p2 eL.out.size (by intro k e;injection e with e;omega));clear p1 p2;exact uy _ P1.out rfl P2.out rfl (by unfold nU;rw[kt.out];rfl)
      |some l1=>
       have cq:=GN hd
       obtain⟨nd,rfl⟩:∃nd,l1=[nd]:=by
        match l1,cq with
        |[a],_=>exact⟨a,rfl⟩
       have Hc:=ae (KE hd wr pZ.out zF ab ab);unfold sv at Hc;by_cases h12:12<=nd
       ·have aat:(12:Int)<=(nd:Int):=ab;have kt:=ae (show dR s=none by rw[HQ.out,hd];simp only[aj h12]);clear hd
        go_wp2_with (go_at_call 98;refine Hc.out.mono ?_;rintro e X1 ⟨⟨ga,gc,rfl,BF,sE,iU⟩,D1⟩;have c0:=iU 0 nd rfl;clear iU;have HA:=ae (Hb.out.kept D1);have au:=HA.out.res;have r0:=au.cell 0;have r1:=au.cell 1;have r2:=au.cell 2;have r3:=au.cell 3;have r4:=au.cell 4;have r5:=au.cell 5;have r6:=au.cell 6;have r7:=au.cell 7;have g0:=au.frozen 0;have g1:=au.frozen 1;have g2:=au.frozen 2;have g3:=au.frozen 3;have g4:=au.frozen 4;have g5:=au.frozen 5;have g6:=au.frozen 6;have g7:=au.frozen 7;have HX:=ae au;have eL:=ae HA.out.ky;clear au)
        obtain⟨p1,p2⟩:=oU HX.out (I 0) (I 0) (I 0) (I 0) (I 0) (I 0) (I 0) (I 0);have P1:=ae p1;have P2:=ae (eL.out.grown p2 eL.out.size (by intro k e;injection e with e;omega));clear p1 p2;exact uy _ P1.out rfl P2.out rfl (by unfold nU;rw[kt.out];rfl)
       ·have aat:¬(12:Int)<=(nd:Int):=ab
        have kt:=ae (show dR s=if kk=3\/kk=5\/kk=6 then
               match eH z 5 with
               |some [a,b,c,d,e]=>if a<12/\b<40 then some ⟨kk,nd,0,⟨a,b,c,d,e⟩⟩ else none
               |_=>none
              else match eH z 1 with
               |some [r]=>some ⟨kk,nd,r,⟨0,0,0,0,0⟩⟩
               |_=>none by rw[HQ.out,hd];simp only[af h12])
        clear hd
        go_upto_region 18 with(go_at_call 98;refine Hc.out.mono ?_;rintro e X1 ⟨⟨ga,gc,rfl,BF,sE,iU⟩,D1⟩;have c0:=iU 0 nd rfl;clear iU;have HA:=ae (Hb.out.kept D1);have d0:=HA.out.ev.cell 0;have d1:=HA.out.ev.cell 1;have t1:=HA.out.ev.frozen 1)
        have HY:=ae (HA.out.set 1 (I nd))
        obtain⟨Y,hY⟩:∃Y,Y=X1.setCell ⟨w.heap.size+1+1,1,none⟩ (I nd):=⟨_,rfl⟩
        rw[<-hY] at HY;have HY:Hid (rH w Y ws #[I kk,I nd,I 0,I 0,I 0,I 0,I 0,I 0]):=HY;rw[<-hY];clear hY d0 d1 t1 c0 BF sE e0 Ee;have Tr:=ae (HG.out.below HY.out.ky);have y0:=HY.out.ev.cell 0;have NZ:=du.cell HY.out.row Hz.out;unfold sv at NZ;by_cases hm:kk=3\/kk=5\/kk=6
        ·rw[aj hm] at kt
         cases hd:eH z 5 with
         |none=>
          have ux:=ae (show dR s=none by rw[kt.out,hd]);have xQ:=ae (KD hd Y Tr.out mG ab ab);clear hd;unfold sv at xQ
          rcases hm with rfl|rfl|rfl
          all_goals (go_wp2_with (go_at_call 98;refine xQ.out.mono ?_;rintro e X2 ⟨rfl,D2⟩;have gS:=ae (HY.out.kept D2);have au:=gS.out.res;have r0:=au.cell 0;have r1:=au.cell 1;have r2:=au.cell 2;have r3:=au.cell 3;have r4:=au.cell 4;have r5:=au.cell 5;have r6:=au.cell 6;have r7:=au.cell 7;have g0:=au.frozen 0;have g1:=au.frozen 1;have g2:=au.frozen 2;have g3:=au.frozen 3;have g4:=au.frozen 4;have g5:=au.frozen 5;have g6:=au.frozen 6;have g7:=au.frozen 7;have HX:=ae au;have eL:=ae gS.out.ky;clear au))
          all_goals (
           obtain⟨p1,p2⟩:=oU HX.out (I 0) (I 0) (I 0) (I 0) (I 0) (I 0) (I 0) (I 0);have P1:=ae p1;have P2:=ae (eL.out.grown p2 eL.out.size (by intro k e;injection e with e;omega));clear p1 p2
           exact uy _ P1.out rfl P2.out rfl (by unfold nU;rw[ux.out];rfl))
         |some l5=>
          have GV:=GN hd
          obtain⟨a,b,c,d,e5,rfl⟩:∃a b c d e5,l5=[a,b,c,d,e5]:=by
           match l5,GV with
           |[a,b,c,d,e5],_=>exact⟨a,b,c,d,e5,rfl⟩
          have xQ:=ae (KE hd Y Tr.out mG ab ab);have ux:=ae (show dR s=if a<12/\b<40 then some ⟨kk,nd,0,⟨a,b,c,d,e5⟩⟩ else none by rw[kt.out,hd]);clear hd GV;unfold sv at xQ;have fA:(kk:Int)=3\/(kk:Int)=5\/(kk:Int)=6:=ab
          obtain⟨kv,hkv⟩:∃kv:Int,kv=(kk:Int):=⟨_,rfl⟩
          rw[<-hkv] at fA HY y0 ux⊢;clear hm kt HQ hkv DC lH h7' BH
          rcases fA with rfl|rfl|rfl
          all_goals (go_upto_region 29 with(go_at_call 98;refine xQ.out.mono ?_;rintro e X2 ⟨⟨gx,gy,rfl,hgx,hgz,iU⟩,D2⟩;have gS:=ae (HY.out.kept D2)))
          all_goals (
           have c0:=iU 0 a rfl;have c1:=iU 1 b rfl;have c2:=iU 2 c rfl;have c3:=iU 3 d rfl;have c4:=iU 4 e5 rfl;clear iU;have d3:=gS.out.ev.cell 3;have d4:=gS.out.ev.cell 4;have d5:=gS.out.ev.cell 5;have d6:=gS.out.ev.cell 6;have d7:=gS.out.ev.cell 7;have t3:=gS.out.ev.frozen 3;have t4:=gS.out.ev.frozen 4;have t5:=gS.out.ev.frozen 5;have t6:=gS.out.ev.frozen 6;have t7:=gS.out.ev.frozen 7;refine lP 18 [(0,true),(1,true),(2,true),(3,true),(4,true),(5,true),(6,true),(7,true),(8,true),(9,true),(10,true),(11,true),(12,true),(13,true),(14,true),(15,true),(16,true),(17,true)] (fun X=>X.cell? ⟨gx,0,none⟩=some (I (a:Nat))/\X.cell? ⟨gx,1,none⟩=some (I (b:Nat))/\X.cell? ⟨gx,2,none⟩=some (I (c:Nat))/\X.cell? ⟨gx,3,none⟩=some (I (d:Nat))/\X.cell? ⟨gx,4,none⟩=some (I (e5:Nat))) ah rfl rfl ah ⟨c0,c1,c2,c3,c4⟩ ?_
           iterate 18 refine jh ?_
           refine lQ ?_;go_wp2_with fail;refine NoPanic.normal ?_;have KI:=(((((gS.out.set 3 (I a)).set 4 (I b)).set 5 (I c)).set 6 (I d)).set 7 (I e5)).drew;simp only[Ll,Lp,Lq] at KI;have HV:=ae KI;clear KI d3 d4 d5 d6 d7 t3 t4 t5 t6 t7 c0 c1 c2 c3 c4 hgx hgz
           obtain⟨V,hV⟩:∃V,V=(((((X2.setCell ⟨w.heap.size+1+1,3,none⟩ (I a)).setCell ⟨w.heap.size+1+1,4,none⟩ (I b)).setCell ⟨w.heap.size+1+1,5,none⟩ (I c)).setCell ⟨w.heap.size+1+1,6,none⟩ (I d)).setCell ⟨w.heap.size+1+1,7,none⟩ (I e5)).drew:=⟨_,rfl⟩
           rw[<-hV] at HV⊢;clear hV;have v3:=HV.out.ev.cell 3;have v4:=HV.out.ev.cell 4;have v5:=HV.out.ev.cell 5;have HW:=ae (ajq a b c 40);by_cases dH:a<12/\b<40
           ·have HQ4:=ae (ux.out.trans (aj dH));have GU:decide (a<12/\b<40)=true:=fh dH;rw[GU] at HW
            go_wp2_with (go_at_call 99;refine(HW.out V).mono ?_;rintro e Z ⟨rfl,D3⟩;have HZ:=ae (HV.out.kept D3);have au:=HZ.out.res;have r0:=au.cell 0;have r1:=au.cell 1;have r2:=au.cell 2;have r3:=au.cell 3;have r4:=au.cell 4;have r5:=au.cell 5;have r6:=au.cell 6;have r7:=au.cell 7;have g0:=au.frozen 0;have g1:=au.frozen 1;have g2:=au.frozen 2;have g3:=au.frozen 3;have g4:=au.frozen 4;have g5:=au.frozen 5;have g6:=au.frozen 6;have g7:=au.frozen 7;have aF:=HZ.out.ev;have m0:=aF.cell 0;have m1:=aF.cell 1;have m2:=aF.cell 2;have m3:=aF.cell 3;have m4:=aF.cell 4;have m5:=aF.cell 5;have m6:=aF.cell 6;have m7:=aF.cell 7;have HX:=ae au;have eL:=ae HZ.out.ky;clear au aF)
            refine uy _ (oU HX.out _ _ _ _ _ _ _ _).1 rfl (eL.out.grown (oU HX.out _ _ _ _ _ _ _ _).2 eL.out.size (by intro k e;injection e with e;omega)) rfl ?_;unfold nU;rw[HQ4.out];rfl
           ·have HQ4:=ae (ux.out.trans (af dH));have GU:decide (a<12/\b<40)=false:=ja dH;rw[GU] at HW
            go_wp2_with (go_at_call 99;refine(HW.out V).mono ?_;rintro e Z ⟨rfl,D3⟩;have HZ:=ae (HV.out.kept D3);have au:=HZ.out.res;have r0:=au.cell 0;have r1:=au.cell 1;have r2:=au.cell 2;have r3:=au.cell 3;have r4:=au.cell 4;have r5:=au.cell 5;have r6:=au.cell 6;have r7:=au.cell 7;have g0:=au.frozen 0;have g1:=au.frozen 1;have g2:=au.frozen 2;have g3:=au.frozen 3;have g4:=au.frozen 4;have g5:=au.frozen 5;have g6:=au.frozen 6;have g7:=au.frozen 7;have HX:=ae au;have eL:=ae HZ.out.ky;clear au)
            refine uy _ (oU HX.out _ _ _ _ _ _ _ _).1 rfl (eL.out.grown (oU HX.out _ _ _ _ _ _ _ _).2 eL.out.size (by intro k e;injection e with e;omega)) rfl ?_;unfold nU;rw[HQ4.out]
            rfl)
        ·rw[af hm] at kt;have hkA:kk=1\/kk=2\/kk=4:=ab
         cases hd:eH z 1 with
         |none=>
          have ux:=ae (show dR s=none by rw[kt.out,hd]);have xQ:=ae (KD hd Y Tr.out mG ab ab);clear hd;unfold sv at xQ
          rcases hkA with rfl|rfl|rfl
          all_goals (go_wp2_with (go_at_call 98;refine xQ.out.mono ?_;rintro e X2 ⟨rfl,D2⟩;have gS:=ae (HY.out.kept D2);have au:=gS.out.res;have r0:=au.cell 0;have r1:=au.cell 1;have r2:=au.cell 2;have r3:=au.cell 3;have r4:=au.cell 4;have r5:=au.cell 5;have r6:=au.cell 6;have r7:=au.cell 7;have g0:=au.frozen 0;have g1:=au.frozen 1;have g2:=au.frozen 2;have g3:=au.frozen 3;have g4:=au.frozen 4;have g5:=au.frozen 5;have g6:=au.frozen 6;have g7:=au.frozen 7;have HX:=ae au;have eL:=ae gS.out.ky;clear au))
          all_goals (
           obtain⟨p1,p2⟩:=oU HX.out (I 0) (I 0) (I 0) (I 0) (I 0) (I 0) (I 0) (I 0);have P1:=ae p1;have P2:=ae (eL.out.grown p2 eL.out.size (by intro k e;injection e with e;omega));clear p1 p2
           exact uy _ P1.out rfl P2.out rfl (by unfold nU;rw[ux.out];rfl))
         |some l5=>
          have GV:=GN hd
          obtain⟨a,rfl⟩:∃a,l5=[a]:=by
           match l5,GV with
           |[a],_=>exact⟨a,rfl⟩
          have xQ:=ae (KE hd Y Tr.out mG ab ab);have ux:=ae (show dR s=some ⟨kk,nd,a,⟨0,0,0,0,0⟩⟩ by rw[kt.out,hd]);clear hd GV;unfold sv at xQ
          rcases hkA with rfl|rfl|rfl
          all_goals (go_upto_region 33 with(go_at_call 98;refine xQ.out.mono ?_;rintro e X2 ⟨⟨gx,gy,rfl,hgx,hgz,iU⟩,D2⟩;have c0:=iU 0 a rfl;clear iU;have gS:=ae (HY.out.kept D2);have d2:=gS.out.ev.cell 2;have t2:=gS.out.ev.frozen 2))
          all_goals (
           have HV:=ae (gS.out.set 2 (I a))
           obtain⟨V,hV⟩:∃V,V=X2.setCell ⟨w.heap.size+1+1,2,none⟩ (I a):=⟨_,rfl⟩
           rw[<-hV] at HV;rw[<-hV];clear hV d2 t2 c0;have au:=HV.out.res;have aF:=HV.out.ev;simp only[Ll,Lp,Lq] at aF;have r0:=au.cell 0;have r1:=au.cell 1;have r2:=au.cell 2;have r3:=au.cell 3;have r4:=au.cell 4;have r5:=au.cell 5;have r6:=au.cell 6;have r7:=au.cell 7;have g0:=au.frozen 0;have g1:=au.frozen 1;have g2:=au.frozen 2;have g3:=au.frozen 3;have g4:=au.frozen 4;have g5:=au.frozen 5;have g6:=au.frozen 6;have g7:=au.frozen 7;have m0:=aF.cell 0;have m1:=aF.cell 1;have m2:=aF.cell 2;have m3:=aF.cell 3;have m4:=aF.cell 4;have m5:=aF.cell 5;have m6:=aF.cell 6;have m7:=aF.cell 7;have HX:=ae au;have eL:=ae HV.out.ky;clear au aF;go_wp2_with fail;refine uy _ (oU HX.out _ _ _ _ _ _ _ _).1 rfl (eL.out.grown (oU HX.out _ _ _ _ _ _ _ _).2 eL.out.size (by intro k e;injection e with e;omega)) rfl ?_;unfold nU;rw[ux.out]
           rfl)
     ·have Oe:¬(ws.length:Int)=3:=ab;have oK:((ws.length:Int)==3)=false:=nV.2 Oe;have HQ:=ae (show dR s=none by rw[HR.out,aj (.inr (by simp[h7,hl]))]);have au:=Hb.out.res;have r0:=au.cell 0;have r1:=au.cell 1;have r2:=au.cell 2;have r3:=au.cell 3;have r4:=au.cell 4;have r5:=au.cell 5;have r6:=au.cell 6;have r7:=au.cell 7;have g0:=au.frozen 0;have g1:=au.frozen 1;have g2:=au.frozen 2;have g3:=au.frozen 3;have g4:=au.frozen 4;have g5:=au.frozen 5;have g6:=au.frozen 6;have g7:=au.frozen 7;have HX:=ae au;have eL:=ae Hb.out.ky;clear au;go_wp2_with fail;obtain⟨p1,p2⟩:=oU HX.out (I 0) (I 0) (I 0) (I 0) (I 0) (I 0) (I 0) (I 0);have P1:=ae p1;have P2:=ae (eL.out.grown p2 eL.out.size (by intro k e;injection e with e;omega));clear p1 p2;exact uy _ P1.out rfl P2.out rfl (by unfold nU;rw[HQ.out];rfl)
end
section
open Go.RowKit
variable {Q p:Nat} {X X' w:World} {q:Qn} {r:RS}
theorem RS.Og(r:RS)(l:List aw):(r.until l).rest.length<=r.rest.length:=by simp[RS.until]
theorem RS.Ts(r:RS)(l:List aw):(r.text l).length<=r.rest.length:=by simp[RS.text];omega
theorem RS.GX(r:RS)(s:aw):(r.skip s).rest.length<=r.rest.length:=Lib.trimPrefix_le _ _
theorem RS.aju(r:RS):r.fe.rest.length<=r.rest.length:=by
 have h1:=RS.Og r [[32,61,32],[93]];have h2:=RS.GX (r.until [[32,61,32],[93]]) [32,61,32];unfold RS.fe;simp only[];split
 ·exact bh h2 h1
 ·exact h1
theorem RS.ajv(r:RS):r.im.rest.length<=r.rest.length:=by
 have h1:=RS.Og r [[47],[93]];have h2:=RS.GX ((r.until [[47],[93]]).number (r.text [[47],[93]])) [47];exact bh h2 h1
theorem RS.azG(r:RS)(n:Nat):(r.pT n).rest.length<=r.rest.length:=by
 have h1:=RS.Og r [[93]];have h2:=RS.GX ((r.until [[93]]).number (r.text [[93]])) [93];unfold RS.pT;simp only[];split
 ·exact bh h2 h1
 ·exact h1
theorem RS.ajw(r:RS):r.mg.rest.length<=r.rest.length:=bh (RS.azG _ _) (bh (RS.ajv _) (RS.aju _))
theorem fF.below(h:fF X p r)(hb:ay X X'):fF X' p r:=ax.kept h hb (ax.lt h)
def z6:Array Value:=#[I 0,I 0,I 0,I 0,I 0,I 0]
structure uz (w X:World)(p Q:Nat)(r:RS)(q:Qn):Prop where
 rd:fF X p r
 res:ax X w.heap.size z6
 qb:ax X Q (rG q)
 gr:w.grownBy X (some p)
 gl:Gl X
 hp:p<w.heap.size
 hQ:w.heap.size<Q
 h8:8<=p
theorem uz.step{r':RS}(h:uz w X p Q r q)(hr:fF X' p r')(hg:X.grownBy X' (some p)):uz w X' p Q r' q:=
 ⟨hr,h.res.grown hg (fun e=>by have h1:=ei e;have:=h.hp;omega),h.qb.grown hg (fun e=>by have h1:=ei e;have:=h.hp;have:=h.hQ;omega),h.gr.trans hg,h.gl.grown hg h.h8,h.hp,h.hQ,h.h8⟩
theorem uz.alloc(h:uz w X p Q r q)(o:Obj):uz w (X.alloc o) p Q r q:=
 h.step (h.rd.below ((Below.refl _ _).alloc aA o)) (yc X o (some p))
theorem azH{q:Nat}{a0 a1 a2 a3 a4 a5:Value}(h:ax w q #[a0,a1,a2,a3,a4,a5])(b0 b1 b2 b3 b4 b5:Value):ax ((((((w.setCell ⟨q,0,none⟩ b0).setCell ⟨q,1,none⟩ b1).setCell ⟨q,2,none⟩ b2).setCell ⟨q,3,none⟩ b3).setCell ⟨q,4,none⟩ b4).setCell ⟨q,5,none⟩ b5) q #[b0,b1,b2,b3,b4,b5]/\w.grownBy ((((((w.setCell ⟨q,0,none⟩ b0).setCell ⟨q,1,none⟩ b1).setCell ⟨q,2,none⟩ b2).setCell ⟨q,3,none⟩ b3).setCell ⟨q,4,none⟩ b4).setCell ⟨q,5,none⟩ b5) (some q):=by
 have h2:=(((((h.set 0 b0).set 1 b1).set 2 b2).set 3 b3).set 4 b4).set 5 b5;simp only[Ll,Lp,Lq] at h2;exact⟨h2,(((((fZ w ⟨q,0,none⟩ _).trans (fZ _ ⟨q,1,none⟩ _)).trans (fZ _ ⟨q,2,none⟩ _)).trans (fZ _ ⟨q,3,none⟩ _)).trans (fZ _ ⟨q,4,none⟩ _)).trans (fZ _ ⟨q,5,none⟩ _)⟩
theorem aau{g:Nat}(h:w.grownBy X (some p))(hg:X.grownBy X' (some g))(hn:w.heap.size<=g):w.grownBy X' (some p):=
 ⟨hg.os.trans h.os,hg.tape.trans h.tape,hg.output.trans h.output,bh h.size hg.size,fun k hk hne=>(hg.block k (iB hk h.size) (fun e=>by have:=ei e;omega)).trans (h.block k hk hne)⟩
theorem azI{W:World}{tmps:Array Value}(HA:uz w W p Q r.mg q)(hq:r.eb.q=q)(n:Int)(hn:r.eb.n=n)
  (h2:tmps.getD 2 undef=.pointer (some ⟨w.heap.size,0,none⟩)):
  bodyPost Tryz.prog Tryz.f52 (fun e w'=>e=.returned (.agg #[I r.eb.q.node,I r.eb.q.handler,I r.eb.q.count,I r.eb.q.kind,I r.eb.q.index,I r.eb.n])/\fF w' p r.mg/\w.grownBy w' (some p)) .ret { tmps:=tmps,defers:=[] }
   ((((((W.setCell ⟨w.heap.size,0,none⟩ (I q.node)).setCell ⟨w.heap.size,1,none⟩ (I q.handler)).setCell ⟨w.heap.size,2,none⟩ (I q.count)).setCell ⟨w.heap.size,3,none⟩ (I q.kind)).setCell ⟨w.heap.size,4,none⟩ (I q.index)).setCell ⟨w.heap.size,5,none⟩ (I n)):=by
 obtain⟨h1,hg⟩:=azH HA.res (I q.node) (I q.handler) (I q.count) (I q.kind) (I q.index) (I n);obtain⟨t,ht⟩:=h1;have hr:=results_cell_row (P:=Tryz.prog) Tryz.results52 tmps _ w.heap.size t _ (0,0) _ h2 ht Tryz.underlying100 rfl ah;refine wv hr rfl ⟨by rw[hq,hn],?_,aau HA.gr hg aA⟩;exact HA.rd.grown hg (fun e=>by have h1:=ei e;have:=HA.hp;omega)
theorem azJ(r:RS)(p:Nat)(w:World)(h:fF w p r)(hg:Gl w)(hp:8<=p)(hl:r.rest.length<=4000000000):
  Calls Tryz.prog 52 #[.pointer (some ⟨p,0,none⟩)] w fun e w'=>e=.returned (.agg #[I r.eb.q.node,I r.eb.q.handler,I r.eb.q.count,I r.eb.q.kind,I r.eb.q.index,I r.eb.n])/\fF w' p r.mg/\w.grownBy w' (some p):=by
 have zm:p<w.heap.size:=ax.lt h;have HT:=ae (show(r.text [[32,61,32],[93]]).length<=4000000000 from bh (RS.Ts _ _) hl);have H0:=ae h;have HG:=ae hg;have Tt:=ae (show w.grownBy ((w.alloc (.cells #[.int .i64 0,.int .i64 0,.int .i64 0,.int .i64 0,.int .i64 0,.int .i64 0] 100)).alloc (.cells #[.string ⟨#[32,61,32]⟩,.string ⟨#[93]⟩] 9)) (some p) from(yc w _ (some p)).trans (yc _ _ (some p)));have Tu:=ae (show fF ((w.alloc (.cells #[.int .i64 0,.int .i64 0,.int .i64 0,.int .i64 0,.int .i64 0,.int .i64 0] 100)).alloc (.cells #[.string ⟨#[32,61,32]⟩,.string ⟨#[93]⟩] 9)) p r from(fF.below h ((Below.refl _ _).alloc aA _)).below ((Below.refl _ _).alloc aA _));have zH:=ae (show ax ((w.alloc (.cells #[.int .i64 0,.int .i64 0,.int .i64 0,.int .i64 0,.int .i64 0,.int .i64 0] 100)).alloc (.cells #[.string ⟨#[32,61,32]⟩,.string ⟨#[93]⟩] 9)) w.heap.size z6 from(ax.new w _ _).alloc _);have zA:=ae ((hg.alloc (.cells #[.int .i64 0,.int .i64 0,.int .i64 0,.int .i64 0,.int .i64 0,.int .i64 0] 100)).alloc (.cells #[.string ⟨#[32,61,32]⟩,.string ⟨#[93]⟩] 9))
 have DY:=ae (show du ((w.alloc (.cells #[.int .i64 0,.int .i64 0,.int .i64 0,.int .i64 0,.int .i64 0,.int .i64 0] 100)).alloc (.cells #[.string ⟨#[32,61,32]⟩,.string ⟨#[93]⟩] 9)) (w.heap.size+1) [[32,61,32],[93]] by
  rw[<-World.size_alloc w (.cells #[.int .i64 0,.int .i64 0,.int .i64 0,.int .i64 0,.int .i64 0,.int .i64 0] 100)]
  exact ej _ _)
 have zB:=ae (r.aju);have gS:=ae (r.fe.ajv);clear h hg;cases hq:gQ (r.text [[32,61,32],[93]])
 case' some q=>
  have Hq:=ae hq;go_enter Tryz.func52,Tryz.ntmps52
  go_upto_region 2 with(first
   |(go_at_call 51;refine(Ky r [[32,61,32],[93]] p _ _ Tu.out zA.out hl DY.out aq hp).mono ?_;rintro e X1 ⟨rfl,k1,g1⟩)
   |(go_at_call 69;refine(aas _ X1 (zA.out.grown g1 hp) HT.out).mono ?_;rintro e X2 ⟨rfl,D2⟩;unfold uu rG;rw[Hq.out];simp only[Ad,aar,Option.isSome_some]))
  have Oh:=g1.size;simp only[World.size_alloc] at Oh;have aav:=D2.size
  have uA:=ae (show uz w (X2.alloc (.cells (rG q) 92)) p X2.heap.size (r.until [[32,61,32],[93]]) q from
   ⟨(k1.below D2).below ((Below.refl _ _).alloc aA _),
    ((zH.out.grown g1 (fun e=>by have h1:=ei e;omega)).kept D2 ab).alloc _,
    ax.new X2 _ _,(Tt.out.trans g1).trans ((zw D2 _).trans (yc X2 _ _)),(((zA.out.grown g1 hp).below D2).alloc _),zm,ab,hp⟩)
  clear k1 g1 D2;unfold rG at uA
  obtain⟨Y0,GY⟩:∃Y,Y=X2.alloc (.cells #[I q.node,I q.handler,I q.count,I q.kind,I q.index] 92):=⟨_,rfl⟩
  rw[<-GY] at uA;rw[<-GY];clear GY Tt Tu zH zA DY;generalize X2.heap.size=Q at uA⊢;clear Oh aav
  go_upto_region 3 with(first
   |(go_at_call 49;refine(GC _ [32,61,32] p Y0 uA.out.rd).mono ?_;rintro e Y1 ⟨rfl,k1,g1⟩;have HY1:=ae (uA.out.step k1 g1);clear k1 g1)
   |(go_at_call 48;refine(xG _ _ p Y1 HY1.out.rd).mono ?_;rintro e Y2 ⟨rfl,k2,g2⟩;have Oi:=ae (HY1.out.step k2 g2);clear k2 g2))
  have HY:=ae (show uz w Y2 p Q r.fe q from by
   have:=Oi.out;unfold RS.fe;rw[Hq.out]
   exact this)
  have HqA:=ae (show r.eb.q=q by unfold RS.eb;rw[Hq.out];rfl);clear uA HY1 Oi Hq hq
 case' none=>
  have Hq:=ae hq;go_enter Tryz.func52,Tryz.ntmps52
  go_upto_region 2 with(first
   |(go_at_call 51;refine(Ky r [[32,61,32],[93]] p _ _ Tu.out zA.out hl DY.out aq hp).mono ?_;rintro e X1 ⟨rfl,k1,g1⟩)
   |(go_at_call 69;refine(aas _ X1 (zA.out.grown g1 hp) HT.out).mono ?_;rintro e X2 ⟨rfl,D2⟩;unfold uu rG;rw[Hq.out];simp only[Option.getD_none,aar,Option.isSome_none]))
  have Oh:=g1.size;simp only[World.size_alloc] at Oh;have aav:=D2.size
  have uA:=ae (show uz w (X2.alloc (.cells (rG ru) 92)) p X2.heap.size (r.until [[32,61,32],[93]]) ru from
   ⟨(k1.below D2).below ((Below.refl _ _).alloc aA _),
    ((zH.out.grown g1 (fun e=>by have h1:=ei e;omega)).kept D2 ab).alloc _,
    ax.new X2 _ _,(Tt.out.trans g1).trans ((zw D2 _).trans (yc X2 _ _)),(((zA.out.grown g1 hp).below D2).alloc _),zm,ab,hp⟩)
  clear k1 g1 D2;unfold rG at uA
  obtain⟨Y0,GY⟩:∃Y,Y=X2.alloc (.cells #[I ru.node,I ru.handler,I ru.count,I ru.kind,I ru.index] 92):=⟨_,rfl⟩
  rw[<-GY] at uA;rw[<-GY];clear GY Tt Tu zH zA DY;generalize X2.heap.size=Q at uA⊢;clear Oh aav
  go_upto_region 3 with(go_at_call 48;refine(xG _ _ p Y0 uA.out.rd).mono ?_;rintro e Y2 ⟨rfl,k2,g2⟩;have Oi:=ae (uA.out.step k2 g2);clear k2 g2)
  have HY:=ae (show uz w Y2 p Q r.fe ru from by
   have:=Oi.out;unfold RS.fe;rw[Hq.out]
   exact this)
  have HqA:=ae (show r.eb.q=ru by unfold RS.eb;rw[Hq.out];rfl);clear uA Oi Hq hq
  obtain⟨q,Ko⟩:∃q,q=ru:=⟨_,rfl⟩
  rw[<-Ko] at HY HqA;clear Ko
 all_goals
  have Hn:=ae (show r.zt=de (r.fe.text [[47],[93]]) from rfl);have Oj:(r.fe.text [[47],[93]]).length<=4000000000:=bh (RS.Ts _ _) (bh zB.out hl);have ZE:=ae (show du (Y2.alloc (.cells #[.string ⟨#[47]⟩,.string ⟨#[93]⟩] 9)) Y2.heap.size [[47],[93]] from ej _ _);have Tv:=ae (HY.out.alloc (.cells #[.string ⟨#[47]⟩,.string ⟨#[93]⟩] 9))
  go_upto_region 4 with(first
   |(go_at_call 51;refine(Ky r.fe [[47],[93]] p _ _ Tv.out.rd Tv.out.gl (bh zB.out hl) ZE.out aq hp).mono ?_;rintro e Y4 ⟨rfl,k4,g4⟩;have Tw:=ae (Tv.out.step k4 g4);clear k4 g4)
   |(go_at_call 53;refine(SJ _ (r.fe.text [[47],[93]]) p Y4 Tw.out.rd Tw.out.gl hp Oj).mono ?_;rintro e Y5 ⟨rfl,k5,g5⟩;have HY5:=ae (Tw.out.step k5 g5);clear k5 g5))
  go_upto_region 5 with(first
   |(go_at_call 49;refine(GC _ [47] p Y5 HY5.out.rd).mono ?_;rintro e Y6 ⟨rfl,k6,g6⟩;have HY6:=ae (HY5.out.step k6 g6);clear k6 g6)
   |(go_at_call 48;refine(xG _ _ p Y6 HY6.out.rd).mono ?_;rintro e Y7 ⟨rfl,k7,g7⟩;have HY7:=ae (HY6.out.step k7 g7);clear k7 g7))
  have HZ:=ae (show uz w Y7 p Q r.fe.im q from HY7.out);rw[<-Hn.out];have hT9:(r.fe.im.text [[93]]).length<=4000000000:=bh (RS.Ts _ _) (bh gS.out (bh zB.out hl));have Hs8:=ae (show du (Y7.alloc (.cells #[.string ⟨#[93]⟩] 9)) Y7.heap.size [[93]] from ej _ _);have Eh:=ae (HZ.out.alloc (.cells #[.string ⟨#[93]⟩] 9));have HnA:=ae (show r.eb.n=r.zt from rfl);have H3:=ae (show r.mg=r.fe.im.pT r.zt from rfl);clear HY7 HY6 HY5 Tw Tv;generalize jH:r.zt=n at H3 HnA;clear jH Hn
  obtain⟨m,hm⟩:∃m,m=de (r.fe.im.text [[93]]):=⟨_,rfl⟩
  have Hm:=ae hm;clear hm;by_cases hlt:n<m
  case' pos=>
   have ik:(n:Int)<(m:Int):=ab;have ajx:=ae (show r.fe.im.pT n=(((r.fe.im.until [[93]]).number (r.fe.im.text [[93]])).skip [93]).must (((r.fe.im.until [[93]]).number (r.fe.im.text [[93]])).has [93]) by unfold RS.pT;rw[<-Hm.out];simp only[aj hlt])
   go_upto_region 6 with(first
    |(go_at_call 51;refine(Ky r.fe.im [[93]] p _ _ Eh.out.rd Eh.out.gl (bh gS.out (bh zB.out hl)) Hs8.out aq hp).mono ?_;rintro e Y9 ⟨rfl,k9,g9⟩;have BI:=ae (Eh.out.step k9 g9);clear k9 g9)
    |(go_at_call 53;refine(SJ _ (r.fe.im.text [[93]]) p Y9 BI.out.rd BI.out.gl hp hT9).mono ?_;rintro e Tx ⟨rfl,k10,g10⟩;rw[<-Hm.out];have GZ:=ae (BI.out.step k10 g10);clear k10 g10)
    |(go_at_call 49;refine(GC _ [93] p Tx GZ.out.rd).mono ?_;rintro e Y11 ⟨rfl,k11,g11⟩;have aaw:=ae (GZ.out.step k11 g11);clear k11 g11)
    |(go_at_call 48;refine(xG _ _ p Y11 aaw.out.rd).mono ?_;rintro e Y12 ⟨rfl,k12,g12⟩;have aax:=ae (aaw.out.step k12 g12);clear k12 g12))
   clear aaw GZ BI Eh
  case' neg=>
   have ik:¬(n:Int)<(m:Int):=ab;have ajx:=ae (show r.fe.im.pT n=((r.fe.im.until [[93]]).number (r.fe.im.text [[93]])).must false by unfold RS.pT;rw[<-Hm.out];simp only[af hlt])
   go_upto_region 6 with(first
    |(go_at_call 51;refine(Ky r.fe.im [[93]] p _ _ Eh.out.rd Eh.out.gl (bh gS.out (bh zB.out hl)) Hs8.out aq hp).mono ?_;rintro e Y9 ⟨rfl,k9,g9⟩;have BI:=ae (Eh.out.step k9 g9);clear k9 g9)
    |(go_at_call 53;refine(SJ _ (r.fe.im.text [[93]]) p Y9 BI.out.rd BI.out.gl hp hT9).mono ?_;rintro e Tx ⟨rfl,k10,g10⟩;rw[<-Hm.out];have GZ:=ae (BI.out.step k10 g10);clear k10 g10)
    |(go_at_call 48;refine(xG _ _ p Tx GZ.out.rd).mono ?_;rintro e Y12 ⟨rfl,k12,g12⟩;have aax:=ae (GZ.out.step k12 g12);clear k12 g12))
   clear GZ BI Eh
  all_goals
   have HF:=ae (show uz w Y12 p Q r.mg q by rw[H3.out,ajx.out];exact aax.out);have Hh:=HF.out.qb;have au:=HF.out.res;unfold rG at Hh;unfold z6 at au;have q0:=Hh.cell 0;have q1:=Hh.cell 1;have q2:=Hh.cell 2;have q3:=Hh.cell 3;have q4:=Hh.cell 4;have r0:=au.cell 0;have r1:=au.cell 1;have r2:=au.cell 2;have r3:=au.cell 3;have r4:=au.cell 4;have r5:=au.cell 5;have g0:=au.frozen 0;have g1:=au.frozen 1;have g2:=au.frozen 2;have g3:=au.frozen 3;have g4:=au.frozen 4;have g5:=au.frozen 5;clear Hh au aax;go_wp2_with fail;exact azI HF.out HqA.out _ HnA.out rfl
end
section
open Go.RowKit
variable {B E p:Nat} {X X' w:World} {r:RS}
def z8:Array Value:=#[I 0,I 0,I 0,I 0,I 0,I 0,I 0,I 0]
structure lf (w X:World)(p E:Nat)(r:RS)(ev:Ev):Prop where
 rd:fF X p r
 res:ax X w.heap.size z8
 KJ:ax X E (iV ev)
 gr:w.grownBy X (some p)
 gl:Gl X
 hp:p<w.heap.size
 hE:w.heap.size<E
 h8:8<=p
theorem lf.step{r':RS}{ev:Ev}(h:lf w X p E r ev)(hr:fF X' p r')(hg:X.grownBy X' (some p)):lf w X' p E r' ev:=
 ⟨hr,h.res.grown hg (fun e=>by have h1:=ei e;have:=h.hp;omega),h.KJ.grown hg (fun e=>by have h1:=ei e;have:=h.hp;have:=h.hE;omega),h.gr.trans hg,h.gl.grown hg h.h8,h.hp,h.hE,h.h8⟩
theorem lf.below{ev:Ev}(h:lf w X p E r ev)(hb:ay X X'):lf w X' p E r ev:=
 h.step (h.rd.below hb) (zw hb _)
theorem lf.alloc{ev:Ev}(h:lf w X p E r ev)(o:Obj):lf w (X.alloc o) p E r ev:=h.below ((Below.refl _ _).alloc aA o)
theorem lf.row{g:Nat}{ev:Ev}(h:lf w X p E r ev)(hg:X.grownBy X' (some g))(hE:E<g):lf w X' p E r ev:=by
 have h1:=h.hp;have h2:=h.hE;exact⟨ax.grown h.rd hg (fun e=>by have:=ei e;omega),h.res.grown hg (fun e=>by have:=ei e;omega),h.KJ.grown hg (fun e=>by have:=ei e;omega),aau h.gr hg ab,h.gl.grown hg (by have:=h.h8;omega),h1,h2,h.h8⟩
theorem lf.azK{ev:Ev}{row:Option Nat}(h:lf w X p E r ev)(hg:X.grownBy X' row)(hE:∀g,row=some g->E<g):lf w X' p E r ev:=by
 cases row with
 |some g=>exact h.row hg (hE g rfl)
 |none=>exact h.below ⟨hg.os,hg.tape,hg.output,hg.size,fun k hk=>hg.block k hk ai⟩
theorem RS.aay(r:RS)(p:aw)(h:r.has p=false):r.skip p=r:=by
 obtain⟨rest,bad⟩:=r;unfold RS.skip RS.has at*;simp only[] at h;simp[Lib.trimPrefix,h]
def sliceLen:Value->Nat
 | .slice _ n _=>n
 |_=>0
theorem RS.KL(f:Nat)(r:RS)(h:r.bad=true):r.asks f=([],r):=by
 cases f with
 |zero=>rfl
 |succ f=>unfold RS.asks;rw[aj h]
theorem RS.Ty(f:Nat)(r:RS)(h:r.has [32,91]=false):r.asks f=([],r):=by
 cases f with
 |zero=>rfl
 |succ f=>
  unfold RS.asks;rw[af (show¬r.has [32,91]=true by rw[h];simp)];split<;>rfl
theorem RS.Tz(f:Nat)(r:RS)(hb:r.bad=false)(h:r.has [32,91]=true):r.asks (f+1)=((r.skip [32,91]).eb::((r.skip [32,91]).mg.asks f).1,((r.skip [32,91]).mg.asks f).2):=by
 conv=>lhs;unfold RS.asks
 rw[af (show¬r.bad=true by rw[hb];simp),aj h]
theorem RS.ajy(r:RS)(p:aw)(h:r.has p=true):(r.skip p).rest.length=r.rest.length-p.length/\p.length<=r.rest.length:=by
 unfold RS.has at h;have hp:p<+:r.rest:=ED.1 h;refine⟨?_,hp.length_le⟩;unfold RS.skip;simp only[Lib.trimPrefix,h,mr,nf]
theorem qh{e k n:Nat}{v:Value}{xs:List Value}(h:X.ownsRow B e k v n xs)(hg:X.grownBy X' (some p))(hp:p<B):X'.ownsRow B e k v n xs:=
 h.kept hg (by
  cases hv:v.ownBlock with
  |none=>exact .inl rfl
  |some g=>exact .inr (fun e=>by have:=(h.lt g hv).1;have:=ei e;omega))
theorem azL(n:Nat):(Lib.decDigits n).length<=n+1:=by
 induction n using Nat.strongRecOn with
 |_ n ih=>
  by_cases h:n<10
  ·rw[Lib.decDigits_one h];simp
  ·rw[Nq n h,List.length_append];have:=ih (n/10) ab;simp;omega
theorem dC(a b:aw):(⟨a.toArray⟩:ByteArray)++(⟨b.toArray⟩:ByteArray)=⟨(a++b).toArray⟩:=YP ai
theorem azM(t:aw):nU t=.tuple #[.agg #[I ((dR t).getD rq).kind,I ((dR t).getD rq).node,I ((dR t).getD rq).arg,I ((dR t).getD rq).msg.node,I ((dR t).getD rq).msg.handler,I ((dR t).getD rq).msg.count,I ((dR t).getD rq).msg.index,I ((dR t).getD rq).msg.copy],I (Of (dR t))]:=rfl
theorem azN(o:Option Ev):(Of o==0)=o.isSome:=by cases o<;>rfl
theorem ajz{am:Nat}{W:World}{ev:Ev}{le:RS}{la:List aI×RS}{av:Option Addr}{acp:Nat}{tmps:Array Value}{L:List aI×RS}{M:RS}(hL0:la=L)(hM0:le=M)(HL:lf w W p E le ev)(aW:W.ownsRow B 100 6 (.slice av am acp) am (la.1.flatMap ac))(XT:am=la.1.length)(hB:w.heap.size<B)(h4:tmps.getD 4 undef=.pointer (some ⟨w.heap.size,0,none⟩))(h5:tmps.getD 5 undef=.slice av am acp):
  bodyPost Tryz.prog Tryz.f17 (fun e w'=>∃va,e=.returned (.tuple #[.agg (iV ev),va])/\lp w' va L.1/\(∀g,va.ownBlock=some g->w.heap.size<=g)/\fF w' p M/\w.grownBy w' (some p)) .ret { tmps:=tmps,defers:=[] }
   ((((((((W.setCell ⟨w.heap.size,0,none⟩ (I ev.kind)).setCell ⟨w.heap.size,1,none⟩ (I ev.node)).setCell ⟨w.heap.size,2,none⟩ (I ev.arg)).setCell ⟨w.heap.size,3,none⟩ (I ev.msg.node)).setCell ⟨w.heap.size,4,none⟩ (I ev.msg.handler)).setCell ⟨w.heap.size,5,none⟩ (I ev.msg.count)).setCell ⟨w.heap.size,6,none⟩ (I ev.msg.index)).setCell ⟨w.heap.size,7,none⟩ (I ev.msg.copy)):=by
 subst hL0 hM0
 have key:∀V,ax V w.heap.size (iV ev)->W.grownBy V (some w.heap.size)->bodyPost Tryz.prog Tryz.f17 (fun e w'=>∃va,e=.returned (.tuple #[.agg (iV ev),va])/\lp w' va la.1/\(∀g,va.ownBlock=some g->w.heap.size<=g)/\fF w' p le/\w.grownBy w' (some p)) .ret { tmps:=tmps,defers:=[] } V:=by
  intro V h1 hg;have qg:=qh aW hg hB;have hL:=ajs h1 rfl
  have hr:(results Tryz.f17 tmps).run Tryz.prog V=.ok (.tuple #[.agg (iV ev),.slice av am acp]) V:=by
   rw[results_cell_tmp Tryz.results17,h4,h5];simp only[asAddr,rP,qw];rw[hL];rfl
  subst XT;refine wv hr rfl ⟨_,rfl,Flat.dU qg,?_,HL.rd.grown hg (fun e=>by have:=ei e;have:=HL.hp;omega),aau HL.gr hg aA⟩;intro g hgo;have:=(qg.lt g hgo).1;omega
 obtain⟨h1,hg⟩:=oU HL.res (I ev.kind) (I ev.node) (I ev.arg) (I ev.msg.node) (I ev.msg.handler) (I ev.msg.count) (I ev.msg.index) (I ev.msg.copy);exact key _ h1 hg
theorem azO(l:aw):List.isEmpty l=(l==[]):=by cases l<;>rfl
theorem azP(i:Nat)(s:aw)(p:Nat)(w:World)(h:fF w p ⟨s,false⟩)(hg:Gl w)(hp:8<=p)(hl:s.length<=1000000)(hi:i<=1000000):
  Calls Tryz.prog 17 #[.pointer (some ⟨p,0,none⟩),I i] w fun e w'=>∃va,e=.returned (.tuple #[.agg (iV ((xy i s).getD rq)),va])/\lp w' va (sB i s).1/\(∀g,va.ownBlock=some g->w.heap.size<=g)/\fF w' p (Bj i s)/\w.grownBy w' (some p):=by
 have zm:p<w.heap.size:=ax.lt h
 have lE:¬9223372036854775807<(Lib.decDigits i).length+2:=by have:=azL i;omega
 have eI:=ae (fun X (hX:Gl X)=>vL (i:Int) ⟨ab,ab⟩ X hX);have HG:=ae (hg.alloc (.cells #[.int .i64 0,.int .i64 0,.int .i64 0,.int .i64 0,.int .i64 0,.int .i64 0,.int .i64 0,.int .i64 0] 67));have Ol:=ae (fF.below h ((Below.refl _ _).alloc aA (.cells #[.int .i64 0,.int .i64 0,.int .i64 0,.int .i64 0,.int .i64 0,.int .i64 0,.int .i64 0,.int .i64 0] 67)));have sJ:=ae (show ax (w.alloc (.cells #[.int .i64 0,.int .i64 0,.int .i64 0,.int .i64 0,.int .i64 0,.int .i64 0,.int .i64 0,.int .i64 0] 67)) w.heap.size z8 from ax.new w _ _);have Ed:=ae (yc w (.cells #[.int .i64 0,.int .i64 0,.int .i64 0,.int .i64 0,.int .i64 0,.int .i64 0,.int .i64 0,.int .i64 0] 67) (some p));have dY:(w.alloc (.cells #[.int .i64 0,.int .i64 0,.int .i64 0,.int .i64 0,.int .i64 0,.int .i64 0,.int .i64 0,.int .i64 0] 67)).heap.size=w.heap.size+1:=World.size_alloc _ _;clear h hg
 obtain⟨ev,aF⟩:∃ev,ev=(xy i s).getD rq:=⟨_,rfl⟩
 obtain⟨cd,Dh⟩:∃cd,cd=Of (xy i s):=⟨_,rfl⟩
 have sK:=ae aF;have Hcd:=ae Dh;rw[<-aF];clear aF Dh;go_enter Tryz.func17,Tryz.ntmps17
 obtain⟨W0,DN⟩:∃W0,W0=w.alloc (.cells #[.int .i64 0,.int .i64 0,.int .i64 0,.int .i64 0,.int .i64 0,.int .i64 0,.int .i64 0,.int .i64 0] 67):=⟨_,rfl⟩
 go_upto_region 1 with fail;rw[<-DN] at HG Ol sJ Ed dY⊢;clear DN
 go_upto_region 2 with(first
  |(go_at_call 22;refine(eI.out _ HG.out).mono ?_;rintro e X1 ⟨rfl,D1⟩;rw[Lib.itoa_nonneg];unfold sv)
  |(go_at_call 49;rw[dC];refine(GC ⟨s,false⟩ (head i) p X1 (Ol.out.below D1)).mono ?_;rintro e X2 ⟨rfl,k2,g2⟩)
  |(go_at_call 48;refine(xG _ _ p X2 k2).mono ?_;rintro e X3 ⟨rfl,k3,g3⟩))
 have hD1:=D1.size;have h2s:=g2.size;have h3s:=g3.size;have HX3:=ae (show fF X3 p (oN i s) from k3);have HR3:=ae (((sJ.out.kept D1 ab).grown g2 (fun e=>by have:=ei e;omega)).grown g3 (fun e=>by have:=ei e;omega));have Kt:=ae (((HG.out.below D1).grown g2 hp).grown g3 hp);have Hw3:=ae (((Ed.out.trans (zw D1 _)).trans g2).trans g3);have uf:w.heap.size<X3.heap.size:=ab;have hlh:(oN i s).rest.length<=s.length:=RS.GX ⟨s,false⟩ (head i);have TA:=ae hlh;clear k2 k3 g2 g3 D1 hD1 h2s h3s Ol sJ HG Ed dY eI hlh;have HS:=ae (show du (X3.alloc (.cells #[.string ⟨#[32,91]⟩,.string ⟨#[32,42]⟩,.string ⟨#[32,97,102,116,101,114,32]⟩] 9)) X3.heap.size ko from ej _ _);have zI:=ae (show ay X3 (X3.alloc (.cells #[.string ⟨#[32,91]⟩,.string ⟨#[32,42]⟩,.string ⟨#[32,97,102,116,101,114,32]⟩] 9)) from(Below.refl _ _).alloc aA _);have GM:(X3.alloc (.cells #[.string ⟨#[32,91]⟩,.string ⟨#[32,42]⟩,.string ⟨#[32,97,102,116,101,114,32]⟩] 9)).heap.size=X3.heap.size+1:=World.size_alloc _ _
 go_upto_region 3 with(first
  |(go_at_call 51;refine(Ky (oN i s) ko p X3.heap.size _ (HX3.out.below zI.out) (Kt.out.below zI.out) (by have:=TA.out;omega) HS.out aq hp).mono ?_;rintro e X4 ⟨rfl,k4,g4⟩)
  |(go_at_call 50;refine(ajt _ X4 ((Kt.out.below zI.out).grown g4 hp) (by have:=TA.out;have:=RS.Ts (oN i s) ko;omega)).mono ?_;rintro e X5 ⟨rfl,D5⟩;rw[azM,show(dR ((oN i s).text ko)).getD rq=ev from sK.out.symm,show Of (dR ((oN i s).text ko))=cd from Hcd.out.symm]))
 have h4s:=g4.size;have h5s:=D5.size
 have KM:=ae (show lf w (X5.alloc (.cells (iV ev) 67)) p X5.heap.size ((oN i s).until ko) ev from
  ⟨(k4.below D5).below ((Below.refl _ _).alloc aA _),
   (((HR3.out.kept zI.out ab).grown g4 (fun e=>by have:=ei e;omega)).kept D5 ab).alloc _,
   ax.new X5 _ _,(((Hw3.out.trans (zw zI.out _)).trans g4).trans (zw D5 _)).trans (yc X5 _ _),((((Kt.out.below zI.out).grown g4 hp).below D5).alloc _),zm,ab,hp⟩)
 have hE4:(oN i s).rest.length<=s.length:=TA.out;clear k4 g4 D5 h4s h5s HS zI GM uf HX3 HR3 Kt Hw3 TA;unfold iV at KM
 obtain⟨X6,hX6⟩:∃Y,Y=X5.alloc (.cells #[I ev.kind,I ev.node,I ev.arg,I ev.msg.node,I ev.msg.handler,I ev.msg.count,I ev.msg.index,I ev.msg.copy] 67):=⟨_,rfl⟩
 rw[<-hX6] at KM⊢;clear hX6;generalize X5.heap.size=E at KM⊢
 go_upto_block 0 with(go_at_call 48;refine(xG _ _ p X6 KM.out.rd).mono ?_;rintro e X7 ⟨rfl,k7,g7⟩;have HX7:=ae (KM.out.step k7 g7);clear k7 g7)
 have hc:=azN (xy i s);rw[<-Hcd.out] at hc
 have HL:=ae (show lf w X7 p E (vK i s) ev by
  have:=HX7.out;rw[hc] at this
  exact this)
 have fO:(vK i s).rest.length<=s.length:=bh (RS.Og (oN i s) ko) hE4;clear HX7 KM hc hE4;have TC:=ae (show sB i s=(vK i s).asks (s.length+1) from rfl);have TD:=ae (show Bj i s=RS.tail i (sB i s).2 from rfl);generalize vK i s=rr at HL TC fO
 obtain⟨la,aaz⟩:∃la,la=sB i s:=⟨_,rfl⟩
 obtain⟨le,aaA⟩:∃le,le=Bj i s:=⟨_,rfl⟩
 rw[<-aaz] at TC TD;rw[<-aaA] at TD;have ajA:=ae aaz;have ajB:=ae aaA;clear aaz aaA;have Tj:E<X7.heap.size:=HL.out.KJ.lt
 have uB:p<X7.heap.size:=by have:=HL.out.hE;omega
 go_cut [8] from 31 to 44 (fun v wc=>∃(av:Option Addr) (am ml:Nat),v=.slice av am ml/\am=la.1.length/\Hid (lf w wc p E la.2 ev)/\la.2.rest.length<=1000000/\X7.heap.size<=wc.heap.size/\Hid (wc.ownsRow X7.heap.size 100 6 (.slice av am ml) la.1.length (la.1.flatMap ac)))
 case first=>
  go_wp2_with fail;go_loopw [8] (fun v wr=>∃(k:Nat) (av:Option Addr) (ml:Nat) (acc:List aI) (f:Nat) (r2:RS),v=.slice av k ml/\k=acc.length/\acc.length+r2.rest.length<=s.length/\r2.rest.length<f/\Hid (lf w wr p E r2 ev)/\Hid (la=(acc++(r2.asks f).1,(r2.asks f).2))/\X7.heap.size<=wr.heap.size/\Hid (wr.ownsRow X7.heap.size 100 6 (.slice av k ml) k (acc.flatMap ac))) (fun v _=>s.length+1-sliceLen v)
  case atStart=>exact⟨0,none,0,[],s.length+1,rr,rfl,rfl,by simpa using fO,ab,HL,ae (by rw[TC.out];rfl),cI _,ae (jU _ _ _ _)⟩
  case round=>
   obtain⟨k,av,ml,acc,f,r2,rfl,rfl,tw,hf,vU,KN,VA,pY⟩:=hrel;have c1:wr.cell? ⟨p,1,none⟩=some (.bool r2.bad):=ax.cell vU.out.rd 1
   cases zJ:r2.bad with
   |true=>
    rw[zJ] at c1;have kX:=ae (show la=(acc,r2) by rw[KN.out,RS.KL f r2 zJ];simp);clear zJ KN;go_wp2_with fail;go_meet
    case rel=>exact⟨av,acc.length,ml,rfl,by rw[kX.out],by rw[kX.out];exact vU,by rw[kX.out];show r2.rest.length<=1000000;omega,VA,by rw[kX.out];exact pY⟩
   |false=>
    rw[zJ] at c1;have iW:=GC r2 [32,91] p wr vU.out.rd
    cases mS:r2.has [32,91] with
    |false=>
     have kX:=ae (show la=(acc,r2) by rw[KN.out,RS.Ty f r2 mS];simp);rw[mS,RS.aay r2 _ mS] at iW;have vV:=ae iW;clear zJ KN mS iW
     go_wp2_with (go_at_call 49;refine vV.out.mono ?_;rintro e Y1 ⟨rfl,k1,g1⟩)
     go_meet
     case rel=>exact⟨av,acc.length,ml,rfl,by rw[kX.out],by rw[kX.out];exact ae (vU.out.step k1 g1),by rw[kX.out];show r2.rest.length<=1000000;omega,by have:=g1.size;omega,by rw[kX.out];exact ae (qh pY.out g1 uB)⟩
    |true=>
     obtain⟨f,rfl⟩:∃f',f=f'+1:=⟨f-1,ab⟩
     have bN:=RS.ajy r2 _ mS;have ajC:=RS.ajw (r2.skip [32,91]);have ajD:=ae (show la=((acc++[(r2.skip [32,91]).eb])++((r2.skip [32,91]).mg.asks f).1,((r2.skip [32,91]).mg.asks f).2) by rw[KN.out,RS.Tz f r2 zJ mS];simp);rw[mS] at iW;have vV:=ae iW;have JX:(r2.skip [32,91]).rest.length<=4000000000:=ab;have SE:([32,91]:aw).length=2:=rfl;rw[SE] at bN;have Hsl:=ae bN;have aaB:=ae ajC;clear zJ KN mS iW bN ajC SE;generalize r2.skip [32,91]=r3 at vV ajD JX Hsl aaB
     go_wp2_with (first
      |(go_at_call 49;refine vV.out.mono ?_;rintro e Y1 ⟨rfl,k1,g1⟩;have BJ:=ae (vU.out.step k1 g1);have hy1:=g1.size;have Om:=ae (qh pY.out g1 uB);clear k1 g1)
      |(go_at_call 52;refine(azJ r3 p Y1 BJ.out.rd BJ.out.gl hp JX).mono ?_;rintro e Y2 ⟨rfl,k2,g2⟩;have zK:=ae (BJ.out.step k2 g2);have ud:=g2.size;have qg:=ae (qh Om.out g2 uB);clear k2 g2)
      |(at_builtin;go_must (refine uT rfl _ _ 26 rfl 100 _ 6 48 Tryz.underlying26 PR rfl ab ab X7.heap.size (.slice av acc.length ml) acc.length (acc.flatMap ac) rfl (qg.out.alloc _) Y2.heap.size 1 1 #[I r3.eb.q.node,I r3.eb.q.handler,I r3.eb.q.count,I r3.eb.q.kind,I r3.eb.q.index,I r3.eb.n] 100 rfl (ej _ _) rfl rfl ab ab (by rw[World.size_alloc];omega) ?_);intro g5 BA w5 kj kS oR mQ rE iP))
     go_roundw
     case rel=>exact⟨acc.length+1,_,_,acc++[r3.eb],f,r3.mg,by go_num,ai,by have:=Hsl.out;have:=aaB.out;simp;omega,by have:=Hsl.out;have:=aaB.out;omega,ae ((zK.out.alloc _).azK rE (fun g hg=>by have:=(qg.out.lt g hg).1;omega)),ajD,by have:=rE.size;rw[World.size_alloc] at this;omega,ae (by rw[nC];simpa [ac,iv,aI.ints] using mQ)⟩
     case measure=>simp[sliceLen];omega
 case rest=>
  obtain⟨av,am,ml,rfl,rfl,TE,aDY,hXc,pY⟩:=hcut;have aDZ:=TE.out.KJ.lt;have HT:=ae (show le=(if(la.2.skip [32,42]).has [32,97,102,116,101,114,32]=true then(⟨[],(RS.ry i (-1) (bM 44 ((la.2.skip [32,42]).skip [32,97,102,116,101,114,32]).rest) ((la.2.skip [32,42]).skip [32,97,102,116,101,114,32])).bad⟩:RS).must true else((la.2.skip [32,42]).skip [32,97,102,116,101,114,32]).must (((la.2.skip [32,42]).skip [32,97,102,116,101,114,32]).rest==[])) by rw[TD.out];unfold RS.tail;simp only[];split<;>rfl)
  have hwX:w.heap.size<X7.heap.size:=by have:=TE.out.hE;have:=HL.out.hE;omega
  clear HL TC TD;have azQ:=RS.GX la.2 [32,42]
  go_upto_region 8 with(go_at_call 49;refine(GC la.2 [32,42] p wc TE.out.rd).mono ?_;rintro e Y1 ⟨rfl,k1,g1⟩;have BJ:=ae (TE.out.step k1 g1);have hy1:=g1.size;have Om:=ae (qh pY.out g1 uB);clear k1 g1)
  generalize la.2.skip [32,42]=q1 at BJ HT azQ;have azR:=RS.GX q1 [32,97,102,116,101,114,32];have iW:=GC q1 [32,97,102,116,101,114,32] p Y1 BJ.out.rd
  cases mS:q1.has [32,97,102,116,101,114,32] with
  |false=>
   rw[mS] at HT;rw[mS,RS.aay q1 _ mS] at iW;have aaC:=ae (show le=q1.must (q1.rest==[]) by rw[HT.out,af ai,RS.aay q1 _ mS]);have vV:=ae iW;clear iW mS HT
   go_upto_region 18 with(go_at_call 49;refine vV.out.mono ?_;rintro e Y2 ⟨rfl,k2,g2⟩;have zK:=ae (BJ.out.step k2 g2);have ud:=g2.size;have qg:=ae (qh Om.out g2 uB);clear k2 g2)
   have c0:Y2.cell? ⟨p,0,none⟩=some (sv q1.rest):=ax.cell zK.out.rd 0;unfold sv at c0
   go_upto_region 19 with(go_at_call 48;rw[azO];refine(xG q1 (q1.rest==[]) p Y2 zK.out.rd).mono ?_;rintro e Z ⟨rfl,k9,g9⟩;have HZ:=ae (zK.out.step k9 g9);have aaD:=ae (qh qg.out g9 uB);clear k9 g9)
   have HZ:=ae (show lf w Z p E le ev by rw[aaC.out];exact HZ.out);have aF:=HZ.out.KJ;have au:=HZ.out.res;unfold iV at aF;unfold z8 at au;have m0:=aF.cell 0;have m1:=aF.cell 1;have m2:=aF.cell 2;have m3:=aF.cell 3;have m4:=aF.cell 4;have m5:=aF.cell 5;have m6:=aF.cell 6;have m7:=aF.cell 7;have r0:=au.cell 0;have r1:=au.cell 1;have r2:=au.cell 2;have r3:=au.cell 3;have r4:=au.cell 4;have r5:=au.cell 5;have r6:=au.cell 6;have r7:=au.cell 7;have g0:=au.frozen 0;have g1:=au.frozen 1;have g2:=au.frozen 2;have g3:=au.frozen 3;have g4:=au.frozen 4;have g5:=au.frozen 5;have g6:=au.frozen 6;have g7:=au.frozen 7;clear aF au;go_wp2_with fail;exact ajz ajA.out ajB.out HZ.out aaD.out rfl hwX rfl rfl
  |true=>
   rw[mS] at HT iW;have NC:=ae (show le=(⟨[],(RS.ry i (-1) (bM 44 (q1.skip [32,97,102,116,101,114,32]).rest) (q1.skip [32,97,102,116,101,114,32])).bad⟩:RS).must true by rw[HT.out,aj rfl]);have vV:=ae iW;clear iW mS HT;generalize q1.skip [32,97,102,116,101,114,32]=q2 at vV NC azR;have sH:=ae (SL 44 q2.rest)
   have um:(bM 44 q2.rest).length<=1000001:=by
    rw[Ka];have:=Ln (a:=(44:UInt8)) (l:=q2.rest);omega
   have zL:=ae (fun X (hX:Gl X)=>Nr q2.rest 44 X hX ab);generalize bM 44 q2.rest=ws at NC sH zL um;unfold sv at zL
   go_wp2_with (first
    |(go_at_call 49;refine vV.out.mono ?_;rintro e Y2 ⟨rfl,k2,g2⟩;have zK:=ae (BJ.out.step k2 g2);have ud:=g2.size;have qg:=ae (qh Om.out g2 uB);have c0:Y2.cell? ⟨p,0,none⟩=some (sv q2.rest):=ax.cell zK.out.rd 0;unfold sv at c0;clear k2 g2)
    |(go_at_call 16;refine(zL.out Y2 zK.out.gl).mono ?_;rintro e Y3 ⟨rfl,yx,oK,uf⟩))
   have HL3:=ae (zK.out.below oK);have azS:=ae (rU qg.out oK);have Hws:=ae yx;have hYz:=oK.size;clear yx oK zK qg BJ Om c0 zL vV;go_loopw [9,55] (fun vl vi wr=>∃(k:Nat) (last:Int) (q3:RS),vl=.int .i64 last/\vi=.int .i64 k/\k<=ws.length/\Hid (lf w wr p E q3 ev)/\Hid (RS.ry i (-1) ws q2=RS.ry i last (ws.drop k) q3)/\Hid (wr.ownsRow X7.heap.size 100 6 (.slice av la.1.length ml) la.1.length (la.1.flatMap ac))/\Hid (du wr Y2.heap.size ws)) (fun _ vi _=>ws.length-(intOf vi).toNat)
   case atStart=>exact⟨0,-1,q2,rfl,rfl,ab,HL3,ae rfl,azS,Hws⟩
   case round=>
    obtain⟨k,last,q3,rfl,rfl,hk,vU,Haf,BK,Hwr⟩:=hrel;by_cases hlt:k<ws.length
    ·have hcell:wr.cell? ⟨Y2.heap.size,k,none⟩=some (sv ws[k]):=du.cell Hwr.out (by simp[hlt]);have vG:=Haf.out;rw[List.drop_eq_getElem_cons hlt] at vG;have TF:=ae (show RS.ry i (-1) ws q2=RS.ry i (de ws[k]) (ws.drop (k+1)) ((q3.number ws[k]).must (decide (last<(de ws[k]:Int)) && decide (de ws[k]<i))) from vG)
     have BL:(ws[k]).length<=4000000000:=by have:=sH.out _ (cA hlt);omega
     clear vG;have hpY:p<Y2.heap.size:=ab
     have TG:decide ((de ws[k]:Int)<(i:Int))=decide (de ws[k]<i):=by rw[qy];simp
     have HkI:=ae TG;clear TG;generalize ws[k]=q at hcell TF BL HkI;unfold sv at hcell;have TH:=ae (SJ q3 q p wr vU.out.rd vU.out.gl hp BL);unfold sv at TH;generalize de q=nv at TH TF HkI;by_cases cq:last<(nv:Int)
     ·have mO:decide (last<(nv:Int))=true:=fh cq;have aaE:=ae (show RS.ry i (-1) ws q2=RS.ry i nv (ws.drop (k+1)) ((q3.number q).must (decide (nv<i))) by rw[TF.out,mO];rfl);clear mO
      go_wp2_with (first
       |(go_at_call 53;refine TH.out.mono ?_;rintro e Z1 ⟨rfl,k1,g1⟩;have On:=ae (vU.out.step k1 g1);have aaF:=ae (qh BK.out g1 uB);have aaG:=ae (Hwr.out.grown g1 ab);clear k1 g1)
       |(go_at_call 48;refine(xG _ _ p Z1 On.out.rd).mono ?_;rintro e Z2 ⟨rfl,k2,g2⟩;have HZ2:=ae (On.out.step k2 g2);have aaH:=ae (qh aaF.out g2 uB);have aaI:=ae (aaG.out.grown g2 ab);clear k2 g2))
      go_roundw
      case rel=>exact⟨k+1,_,_,rfl,by go_num,ab,HZ2,aaE,aaH,aaI⟩
      case measure=>simp[intOf];omega
     ·have mO:decide (last<(nv:Int))=false:=ja cq;have aaE:=ae (show RS.ry i (-1) ws q2=RS.ry i nv (ws.drop (k+1)) ((q3.number q).must false) by rw[TF.out,mO];rfl);clear mO
      go_wp2_with (first
       |(go_at_call 53;refine TH.out.mono ?_;rintro e Z1 ⟨rfl,k1,g1⟩;have On:=ae (vU.out.step k1 g1);have aaF:=ae (qh BK.out g1 uB);have aaG:=ae (Hwr.out.grown g1 ab);clear k1 g1)
       |(go_at_call 48;refine(xG _ _ p Z1 On.out.rd).mono ?_;rintro e Z2 ⟨rfl,k2,g2⟩;have HZ2:=ae (On.out.step k2 g2);have aaH:=ae (qh aaF.out g2 uB);have aaI:=ae (aaG.out.grown g2 ab);clear k2 g2))
      go_roundw
      case rel=>exact⟨k+1,_,_,rfl,by go_num,ab,HZ2,aaE,aaH,aaI⟩
      case measure=>simp[intOf];omega
    ·obtain rfl:k=ws.length:=ab;have aaC:=ae (show le=(⟨[],q3.bad⟩:RS).must true by rw[NC.out,Haf.out,EH aA];rfl);have yC:=vU.out.rd;have c0:wr.cell? ⟨p,0,none⟩=some (sv q3.rest):=ax.cell yC 0;have f0:=ax.frozen yC 0;have Hs:=ae (show fF (wr.setCell ⟨p,0,none⟩ (sv [])) p ⟨[],q3.bad⟩ from ax.set yC 0 (sv []));clear yC;unfold sv at c0 Hs;go_upto_region 18 with fail;have HV:=ae (vU.out.step Hs.out (fZ wr ⟨p,0,none⟩ _));have ajE:=ae (qh BK.out (fZ wr ⟨p,0,none⟩ (.string ⟨([]:aw).toArray⟩)) uB);clear c0 f0 Hs
     obtain⟨V,hV⟩:∃V,V=wr.setCell ⟨p,0,none⟩ (.string ⟨([]:aw).toArray⟩):=⟨_,rfl⟩
     rw[<-hV] at HV ajE⊢;clear hV;have c0:V.cell? ⟨p,0,none⟩=some (sv (⟨[],q3.bad⟩:RS).rest):=ax.cell HV.out.rd 0;unfold sv at c0
     go_upto_region 19 with(go_at_call 48;refine(xG (⟨[],q3.bad⟩:RS) true p V HV.out.rd).mono ?_;rintro e Z ⟨rfl,k9,g9⟩;have HZ:=ae (HV.out.step k9 g9);have aaD:=ae (qh ajE.out g9 uB);clear k9 g9)
     have HZ:=ae (show lf w Z p E le ev by rw[aaC.out];exact HZ.out);have aF:=HZ.out.KJ;have au:=HZ.out.res;unfold iV at aF;unfold z8 at au;have m0:=aF.cell 0;have m1:=aF.cell 1;have m2:=aF.cell 2;have m3:=aF.cell 3;have m4:=aF.cell 4;have m5:=aF.cell 5;have m6:=aF.cell 6;have m7:=aF.cell 7;have r0:=au.cell 0;have r1:=au.cell 1;have r2:=au.cell 2;have r3:=au.cell 3;have r4:=au.cell 4;have r5:=au.cell 5;have r6:=au.cell 6;have r7:=au.cell 7;have g0:=au.frozen 0;have g1:=au.frozen 1;have g2:=au.frozen 2;have g3:=au.frozen 3;have g4:=au.frozen 4;have g5:=au.frozen 5;have g6:=au.frozen 6;have g7:=au.frozen 7;clear aF au;go_wp2_with fail;exact ajz ajA.out ajB.out HZ.out aaD.out rfl hwX rfl rfl
end
end Go.Proofs.YtngblilamkkikaaGreatDoor
