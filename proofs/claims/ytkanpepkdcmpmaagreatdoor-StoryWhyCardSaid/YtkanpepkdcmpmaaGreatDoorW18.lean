import Derived.Test.YtkanpepkdcmpmaaGreatDoorW17
import Derived.Test.YtkanpepkdcmpmaaGreatDoorW15
set_option maxHeartbeats 40000000
set_option maxRecDepth 100000
set_option linter.all false
namespace Go.Proofs.YtkanpepkdcmpmaaGreatDoor
section
open Go.RowKit Go.Maps
variable {k:Nat} {w w':World} {xs:List Value}
theorem Fg(w:World)(a:Addr)(v:Value):w.grownBy (w.setCell a v) (some a.block):=⟨rfl,rfl,rfl,ai,fun k _ hne=>by
 simp only[World.setCell,Rm]
 rw[af (fun h=>hne (by rw[h]))]⟩
theorem aaj(h:aw w w')(row:Option Nat):w.grownBy w' row:=⟨h.os,h.tape,h.output,h.size,fun k hk _=>h.block k hk⟩
theorem Flat.grown{n b o m c:Nat}{row:Option Nat}(h:Flat w k (.slice (some ⟨b,o,none⟩) m c) n xs)(hg:w.grownBy w' row)(hne:some b≠row):Flat w' k (.slice (some ⟨b,o,none⟩) m c) n xs:=by
 obtain⟨hl,hm,a,c',hv,hr⟩:=h;refine⟨hl,hm,a,c',hv,fun j u hu=> ?_⟩;obtain⟨b',o',ha,hc⟩:=hr j u hu;simp at hv;obtain⟨rfl,_⟩:=hv;simp at ha;obtain⟨rfl,rfl⟩:=ha;exact⟨_,_,rfl,hg.cell hc hne⟩
theorem aak{B B' n:Nat}{e:TypeId}{v:Value}(h:w.ownsRow B e k v n xs)(hB:B'<=B):w.ownsRow B' e k v n xs:=by
 obtain⟨h1,h2|⟨g,cap,cur,hv,hb,r⟩⟩:=h
 ·exact⟨h1,.inl h2⟩
 ·exact⟨h1,.inr ⟨g,cap,cur,hv,ab,r⟩⟩
def Fh (l:List aL)(ys:List Qn):List aL:=ys.map fun q=>⟨q,eV l q⟩
theorem axo(l:List aL)(ys:List Qn)(k:Nat)(h:k<ys.length):((Fh l (ys.take (k+1))).flatMap ac)=(Fh l (ys.take k)).flatMap ac++[I ys[k].node,I ys[k].handler,I ys[k].count,I ys[k].kind,I ys[k].index,I (eV l ys[k])]:=by
 rw[List.take_succ_eq_append_getElem h,Fh,dm,pw];simp[Fh,ac,aL.ints,iv]
theorem axp(l:List aL)(ys:List Qn):(Fh l ys).length=ys.length:=by simp[Fh]
section
variable {ops:Array Oper} {Q:Exit->Act->World->Prop} {rest:List Oper} {o:Oper} {a:Act} {w:World}
theorem axq (dw:o.guard=none)(x:Operand)(ho:o.op=.load 76 x)(b off:Nat)(cs:List Value)(hl:cs.length=5)(hx:a.eval x=.pointer (some ⟨b,off,none⟩))(hc:w.rangeAt b off cs)
  (h:wpList Tryz.prog ops Q rest (a.put o.dst (.agg cs.toArray)) w):wpList Tryz.prog ops Q (o::rest) a w:=
 wpList_load_mid dw 76 x ho b off hx cs _ hc Tryz.underlying76 rfl (by rw[hl];exact awN) h
end
theorem axr {w:World}{b n:Nat}{D:DataW Unit}(h:w.ownsMap (H:=Unit) Tryz.prog 76 (plainElem Tryz.prog 3) b n D):Maps.size D<=n:=by
 obtain⟨es,clock,hb,F,hs,rfl⟩:=h
 show(List.foldr DataW.insert [] _).length<=n
 rw[length_sorted];simpa using hs
theorem axs (w:World):(zeroValue 3).run Tryz.prog w=.ok (I 0) w:=Tryz.zeroValue3 w
theorem aiI (evs:List Ev)(l:List aL)(ve va:Value)(w:World)(he:oP w ve evs)(ha:lh w va l)(cB:∀a∈l,a.ok)(hle:evs.length<=1000000)(hl:l.length<=1000000):
  Calls Tryz.prog 53 #[.agg #[ve,va]] w fun e w'=>∃ue ua,e=.returned (.agg #[ue,ua])/\w'.ownsRow w.heap.size 41 8 ue evs.length (evs.flatMap ec)/\w'.ownsRow w.heap.size 161 6 ua (lx l).length ((lx l).flatMap ac)/\aw w w':=by
 have aiJ:=ae (fun W (hB:aw w W)=>awP l ve va W (ha.kept hB ax) cB hl);have aiK:=ae (fun W (hB:aw w W)=>axn evs ve W (he.kept hB ax) hle);have aX:bO w #[ve,va] #[.slice none 0 0,.slice none 0 0] ((w.alloc (.cells #[ve,va] 49)).alloc (.cells #[.slice none 0 0,.slice none 0 0] 49)):=bO.start w _ _ 49;have mS:=aX.1.cell;have mM:=ae cB;clear cB he ha;go_enter Tryz.func53,Tryz.ntmps53
 go_upto_region 2 with(go_at_call 108;refine(aiJ.out _ aX.2.2.1).mono ?_;rintro e w1 ⟨b,D,rfl,hb,aiL,hMA,aC⟩)
 have gS:=aX.call aC;have axt:=gS.1.cell
 have hzb:w.heap.size+2<=b:=by have:=aX.2.2.2;omega
 have aiM:=ae aiL;have Pm:=ae hMA;clear aiL hMA mS aC hb aX aiJ
 go_upto_region 3 with(go_at_call 109;refine(aiK.out _ gS.2.2.1).mono ?_;rintro e w2 ⟨ue,rfl,IW,bh⟩;obtain⟨ke,ce,rfl,_⟩:=(Flat.eB IW).open)
 have jS:=gS.call bh;have TN:=ae (aiM.out.kept (aaj bh none) ai);have Bg:=ae (aak IW gS.2.2.2)
 have db:∀k',(Value.slice ke evs.length ce).ownBlock=some k'->k'<w2.heap.size:=fun k' tE=>(IW.lt k' tE).2
 have axu:=ae db;have fq:=TN.out.lt;have aGA:=jS.2.2.2;clear IW aiK axt bh db;have LX:aw w2 (w2.alloc (.cells #[.slice ke evs.length ce,.slice none 0 0] 49)):=(Below.refl _ _).alloc ax _;have LY:((w2.alloc (.cells #[.slice ke evs.length ce,.slice none 0 0] 49)).alloc (.cells #[.map (some b)] 178)).ownsMap (H:=Unit) Tryz.prog 76 (plainElem Tryz.prog 3) b l.length D:=(TN.out.alloc _).alloc _;have aiN:=ae (axm (w2.heap.size+1) b l.length D ((w2.alloc (.cells #[.slice ke evs.length ce,.slice none 0 0] 49)).alloc (.cells #[.map (some b)] 178)) ai LY (bm (axr LY) hl) fun xs yw=>bm (aiH yw Pm.out l (fun q hq=>TK hq) rfl) hl);clear LY
 go_wp2_with (first|(go_at_call 111;refine(axk b _).mono ?_;rintro e w3 ⟨rfl,rfl⟩)|(go_at_call 110;refine aiN.out.mono ?_;rintro e w4 ⟨u4,ys,rfl,nU,DX,aal,aam,lZ⟩;obtain⟨k4,c4,rfl,_⟩:=aal.open))
 have CO:=ae nU;have axv:=ae DX;have Jb:ys.length<=1000000:=bm (aiH nU Pm.out l (fun q hq=>TK hq) rfl) hl;have Jc:=lZ.size;simp only[World.size_alloc] at Jc aam;have axw:ay w4 w2.heap.size #[.slice ke evs.length ce,.slice none 0 0]:=((ay.new _ _ _).alloc _).kept lZ bz;have LY:w4.ownsMap (H:=Unit) Tryz.prog 76 (plainElem Tryz.prog 3) b l.length D:=((TN.out.alloc _).alloc _).kept (aaj lZ none) ai;have axx:=ae LY;have aiO:=ae (((Bg.out.alloc _).alloc _).kept (aaj lZ none) (by cases(Value.slice ke evs.length ce).ownBlock<;>simp));have axy:=ae aal;have axz:=ae aam;have axA:aw w2 w4:=(((Below.refl _ _).alloc ax _).alloc ai _).trans (lZ.mono bz);have kp4:=jS.call axA;clear nU DX lZ LY aal aam aiN aiM TN Bg gS jS LX;go_loopw [17] (fun i wr=>∃(k:Nat) (v:Value),k<=ys.length/\i=.int .i64 k/\Hid (wr.ownsRow w4.heap.size 161 6 v k ((Fh l (ys.take k)).flatMap ac))/\ay wr w2.heap.size #[.slice ke evs.length ce,v]/\Hid (w4.grownBy wr (some w2.heap.size))) (fun i _=>ys.length-(intOf i).toNat)
 case atStart=>exact⟨0,_,ab,rfl,ae (kz _ _ _ _),axw,ae (World.grownBy.refl _ _)⟩
 case round=>
  obtain⟨k,v,hk,rfl,Hv,hblk,Hg⟩:=hrel;have hzr:=Hg.out.size;by_cases hlt:k<ys.length
  ·obtain⟨b5,o5,rfl,hr⟩:=BW LW ab axy.out (i:=k) (x:=ys[k]) (by simp[hlt]);have kt:w2.heap.size+1+1<=b5:=axz.out b5 rfl;have Hr:=ae (show wr.rangeAt b5 (o5+k*5) [I ys[k].node,I ys[k].handler,I ys[k].count,I ys[k].kind,I ys[k].index] from fun j u hu=>Hg.out.cell (hr j u hu) bz);have hqo:ys[k].ok:=((CO.out.2 ys[k]).1 (bW hlt)).1;have Hq:=ae hqo;clear hr hqo
   go_upto_region 6 with((with_reducible refine axq rfl _ rfl b5 (o5+k*5) [I ys[k].node,I ys[k].handler,I ys[k].count,I ys[k].kind,I ys[k].index] rfl ?_ ?_ ?_);(rfl);(exact Hr.out))
   have Jd:ay (wr.alloc (.cells #[I ys[k].node,I ys[k].handler,I ys[k].count,I ys[k].kind,I ys[k].index] 76)) wr.heap.size #[I ys[k].node,I ys[k].handler,I ys[k].count,I ys[k].kind,I ys[k].index]:=ay.new _ _ _;have TP:=hblk.alloc (.cells #[I ys[k].node,I ys[k].handler,I ys[k].count,I ys[k].kind,I ys[k].index] 76);have hvq:=Hv.out.alloc (.cells #[I ys[k].node,I ys[k].handler,I ys[k].count,I ys[k].kind,I ys[k].index] 76);have TQ:=Hg.out.trans (zK wr (.cells #[I ys[k].node,I ys[k].handler,I ys[k].count,I ys[k].kind,I ys[k].index] 76) (some w2.heap.size));have hsq:(wr.alloc (.cells #[I ys[k].node,I ys[k].handler,I ys[k].count,I ys[k].kind,I ys[k].index] 76)).heap.size=wr.heap.size+1:=World.size_alloc _ _;generalize wr.alloc (.cells #[I ys[k].node,I ys[k].handler,I ys[k].count,I ys[k].kind,I ys[k].index] 76)=wq at Jd TP hvq TQ hsq⊢;have hgN:w2.heap.size<wr.heap.size:=ab;obtain⟨c,hrun,IZ,_⟩:=World.ownsMap.lookup_int (w:=wq.drew) (axx.out.kept TQ bz).drew GI Tryz.underlying178 Tryz.underlying3 (axs _) (KE ys[k] Hq.out)
   have hcv:c=eV l ys[k]:=by
    rw[Pm.out.at_ ys[k] Hq.out] at IZ;simpa using IZ.symm
   subst hcv;have Hvq:=ae hvq;have HGq:=ae TQ;clear hvq TQ IZ;obtain⟨ka,ca,rfl,_⟩:=(Flat.eB Hv.out).open
   have S0:(∀j,wq.cell? ⟨w2.heap.size,j,none⟩=(#[.slice ke evs.length ce,.slice ka k ca]:Array Value)[j]?)/\(∀j,wq.cell? ⟨wr.heap.size,j,none⟩=(#[I ys[k].node,I ys[k].handler,I ys[k].count,I ys[k].kind,I ys[k].index]:Array Value)[j]?):=⟨TP.cell,Jd.cell⟩
   simp only[Qn.val] at hrun;refine kY 9 [(0,true),(1,true),(2,true),(3,true),(4,true),(5,false),(6,true),(7,false),(8,false)] (fun w'=>(∀j,w'.cell? ⟨w2.heap.size,j,none⟩=(#[.slice ke evs.length ce,.slice ka k ca]:Array Value)[j]?)/\(∀j,w'.cell? ⟨wr.heap.size,j,none⟩=(#[I ys[k].node,I ys[k].handler,I ys[k].count,I ys[k].kind,I ys[k].index]:Array Value)[j]?)) ah rfl rfl ah S0 ?_
   iterate 5 refine gI ?_
   refine lf (fun K hK=> ?_);go_simp;refine hK.out _ _ S0 ?_;clear hK K;refine bC ?_;refine gI ?_;refine lf (fun K hK=> ?_);go_simp;refine hK.out _ _ ⟨(TP.alloc _).cell,(Jd.alloc _).cell⟩ ?_;clear hK K;refine bC ?_;have TR:∀k',(Value.slice ka k ca).ownBlock=some k'->w4.heap.size<=k'/\k'<wr.heap.size:=Hv.out.lt;refine GG eH _ _ 47 eH 161 _ 6 48 Tryz.underlying47 WS rfl ab ab w4.heap.size (.slice ka k ca) k _ eH (Hvq.out.drew.alloc _) wq.heap.size 1 1 #[I ys[k].node,I ys[k].handler,I ys[k].count,I ys[k].kind,I ys[k].index,I (eV l ys[k])] 161 (by simp only[hsq];rfl) (dY wq.drew _) rfl rfl ab ab bz ?_;intro g6 rJ w6 aGB aGC aGD Fi um rH;have TS:ay w6 w2.heap.size #[.slice ke evs.length ce,.slice ka k ca]:=(TP.drew.alloc _).grown um (fun e=>by have:=TR _ e;omega);have axB:ay w6 wr.heap.size #[I ys[k].node,I ys[k].handler,I ys[k].count,I ys[k].kind,I ys[k].index]:=(Jd.drew.alloc _).grown um (fun e=>by have:=TR _ e;omega);refine⟨⟨TS.cell,axB.cell⟩,?_⟩
   have hGd:wq.grownBy (wq.drew.alloc (.cells #[I ys[k].node,I ys[k].handler,I ys[k].count,I ys[k].kind,I ys[k].index,I (eV l ys[k])] 161)) (some w2.heap.size):=by
    have h:=zK wq.drew (.cells #[I ys[k].node,I ys[k].handler,I ys[k].count,I ys[k].kind,I ys[k].index,I (eV l ys[k])] 161) (some w2.heap.size);exact⟨h.os,h.tape,h.output,h.size,h.block⟩
   have hG6:w4.grownBy w6 (some w2.heap.size):=World.grownBy.andThen (HGq.out.trans hGd) um (fun j hj=> .inl (TR j hj).1);have hS6:=TS.set 1 (.slice (some ⟨g6,0,none⟩) (k+1) rJ);have aiP:=Fi.kept (Fg w6 ⟨w2.heap.size,1,none⟩ (.slice (some ⟨g6,0,none⟩) (k+1) rJ)) (.inr (by simp[Value.ownBlock];omega));have aiQ:=hG6.trans (Fg w6 ⟨w2.heap.size,1,none⟩ (.slice (some ⟨g6,0,none⟩) (k+1) rJ));have Ho6:=ae aiP;have HS6:=ae hS6;have HG6:=ae aiQ;have c61:=TS.cell 1;have f61:=TS.frozen 1;clear aiP hS6 aiQ hG6 Fi um rH TR hrun S0;refine bC ?_;refine kZ ?_;go_wp2_with fail;refine NoPanic.normal ?_;go_wp2_with fail;go_roundw
   case rel=>exact⟨k+1,_,ab,by go_num,ae (by rw[axo l ys k hlt];exact Ho6.out),HS6.out,HG6⟩
   case measure=>simp[intOf];omega
  ·obtain rfl:k=ys.length:=ab;obtain⟨ka,ca,rfl,_⟩:=(Flat.eB Hv.out).open;have cq:ay wr (w.heap.size+1) #[.slice none 0 0,.slice none 0 0]:=kp4.2.1.grown Hg.out bz;have c0:=hblk.cell 0;have c1:=hblk.cell 1;have r0:=cq.cell 0;have r1:=cq.cell 1;have fr0:=cq.frozen 0;have fr1:=cq.frozen 1;have OW:=ae cq;clear cq hblk;go_wp2_with fail;have mH:ay ((wr.setCell ⟨w.heap.size+1,0,none⟩ (.slice ke evs.length ce)).setCell ⟨w.heap.size+1,1,none⟩ (.slice ka ys.length ca)) (w.heap.size+1) #[.slice ke evs.length ce,.slice ka ys.length ca]:=(OW.out.set 0 _).set 1 _;have Pn:wr.grownBy ((wr.setCell ⟨w.heap.size+1,0,none⟩ (.slice ke evs.length ce)).setCell ⟨w.heap.size+1,1,none⟩ (.slice ka ys.length ca)) (some (w.heap.size+1)):=(Fg wr ⟨w.heap.size+1,0,none⟩ _).trans (Fg _ ⟨w.heap.size+1,1,none⟩ _)
   have sS:=Hv.out.kept Pn (by
    cases hv:(Value.slice ka ys.length ca).ownBlock with
    |none=>exact .inl rfl
    |some g=>exact .inr (fun e=>by have:=(Hv.out.lt g hv).1;simp at e;omega))
   have hue:=(aiO.out.kept Hg.out (by
    cases hv:(Value.slice ke evs.length ce).ownBlock with
    |none=>exact .inl rfl
    |some g=>exact .inr (fun e=>by have:=axu.out g hv;simp at e;omega))).kept Pn (by
    cases hv:(Value.slice ke evs.length ce).ownBlock with
    |none=>exact .inl rfl
    |some g=>exact .inr (fun e=>by have:=(aiO.out.lt g hv).1;simp at e;omega))
   have eM:aw w ((wr.setCell ⟨w.heap.size+1,0,none⟩ (.slice ke evs.length ce)).setCell ⟨w.heap.size+1,1,none⟩ (.slice ka ys.length ca)):=
    ((kp4.2.2.1.grown Hg.out ab (fun g hg=>by cases hg;omega)).grown Pn ab (fun g hg=>by cases hg;omega))
   have Po:Fh l ys=lx l:=(awF axv.out CO.out.1 fun q=>by
    rw[CO.out.2 q];constructor
    ·rintro⟨h1,h2⟩;rw[Pm.out.GJ q h1] at h2;exact nC h2
    ·intro h;obtain⟨a,ha,e⟩:=TK h;have h1:q.ok:=e▸(mM.out a ha).1
     exact⟨h1,by rw[Pm.out.GJ q h1];exact fF h⟩).eq
   rw[nB ab,Po] at sS
   have hlen:(lx l).length=ys.length:=by rw[<-Po,axp]
   rw[<-hlen] at sS mH Pn hue eM⊢;generalize((wr.setCell ⟨w.heap.size+1,0,none⟩ (.slice ke evs.length ce)).setCell ⟨w.heap.size+1,1,none⟩ (.slice ka (lx l).length ca))=W5 at mH Pn sS hue eM⊢;obtain⟨t5,ht5⟩:=mH
   have hr:∀tmps:Array Value,tmps.getD 2 undef=.pointer (some ⟨w.heap.size+1,0,none⟩)->(results Tryz.f53 tmps).run Tryz.prog W5=.ok (.agg #[.slice ke evs.length ce,.slice ka (lx l).length ca]) W5:=fun tmps hp=>results_cell_row Tryz.results53 tmps W5 (w.heap.size+1) t5 _ (0,0) _ hp ht5 Tryz.underlying49 rfl ah
   refine DR (hr _ rfl) rfl ?_;exact⟨_,_,rfl,aak hue ab,aak sS ab,eM⟩
end
section
open Go.RowKit
section
variable {ops:Array Oper} {Q:Exit->Act->World->Prop} {rest:List Oper} {o:Oper} {a:Act} {w:World}
end
theorem oP.at {w:World}{a:Option Addr}{n c:Nat}{l:List Ev}(h:oP w (.slice a n c) l){i:Nat}{x:Ev}(hi:l[i]? =some x):
  ∃b o,a=some ⟨b,o,none⟩/\w.rangeAt b (o+i*8) [I x.kind,I x.node,I x.arg,I x.msg.node,I x.msg.handler,I x.msg.count,I x.msg.index,I x.msg.copy]:=by
 obtain⟨b,o,ha,hc⟩:=BW (f:=fun a:Ev=>iv a.ints) (fun _=>rfl) ab h hi;exact⟨b,o,ha,fun j v hv=>hc j v hv⟩
end
section
open Go.RowKit
theorem Flat.keep {w w':World}{k n m c:Nat}{a:Option Addr}{xs:List Value}{S:Nat->Prop}(h:Flat w k (.slice a m c) n xs)(hg:uk S w w')(hne:∀x,a=some x->¬S x.block):Flat w' k (.slice a m c) n xs:=by
 obtain⟨hl,hm,a',c',hv,hr⟩:=h;refine⟨hl,hm,a',c',hv,fun j u hu=> ?_⟩;obtain⟨b',o',ha,hc⟩:=hr j u hu;simp at hv;obtain⟨rfl,_⟩:=hv;refine⟨_,_,ha,?_⟩;have h2:=ez _ _ hc;simp only[World.cell?] at hc⊢;rw[hg.block b' h2 (hne _ ha)];exact hc
theorem Rd.count_le (s:Rd)(most:Nat):(s.count most).1<=most:=by
 unfold Rd.count;split
 ·exact BV _
 ·omega
end
section
open Go.RowKit
theorem aiR (w:World):Calls Tryz.prog 74 #[] w fun e w'=>e=.returned (.slice (some ⟨w.heap.size,0,none⟩) 8 8)/\gX w' w.heap.size dR/\aw w w'/\w'.heap.size=w.heap.size+1:=by
 go_enter Tryz.func74,Tryz.ntmps74;go_wp2_with fail;go_ret;exact⟨rfl,dY _ _,(Below.refl _ _).alloc ax _,World.size_alloc _ _⟩
theorem aan (w:World):Calls Tryz.prog 77 #[] w fun e w'=>e=.returned (.slice (some ⟨w.heap.size,0,none⟩) 4 4)/\gX w' w.heap.size ew/\aw w w'/\w'.heap.size=w.heap.size+1:=by
 go_enter Tryz.func77,Tryz.ntmps77;go_wp2_with fail;go_ret;exact⟨rfl,dY _ _,(Below.refl _ _).alloc ax _,World.size_alloc _ _⟩
theorem Je {s:aq}{m:Nat}{l:List Nat}(h:jG s m=some l):l.length=m:=by
 unfold jG at h;split at h
 ·rename_i hl;rw[mapM_length h,hl]
 ·cases h
def zh (words:List aq)(w:aq)(n:Nat):Nat:=(List.range n).foldl (fun k i=>if 0<i/\w=words.getD i [] then i else k) 0
theorem TT (words:List aq)(w:aq)(n:Nat):zh words w (n+1)=if 0<n/\w=words.getD n [] then n else zh words w n:=by
 unfold zh;rw[mn,zN];rfl
theorem aiS (words:List aq)(w:aq)(n:Nat):zh words w n<=n-1:=by
 induction n with
 |zero=>exact cP 0
 |succ n ih=>
  rw[TT];split<;>omega
end
section
open Go.RowKit
def axC (k:Int):Int:=if k%40=39 then 2147483647-k/40%2 else k/40%4
def TU (n:Int):Int:=axC (around n 1000000)
def evK (k m:Int):Ev:=
 if 1+k%7=1\/1+k%7=2\/1+k%7=4 then⟨1+k%7,k/7%12,TU m,⟨0,0,0,0,0⟩⟩
 else if 1+k%7=3\/1+k%7=5\/1+k%7=6 then⟨1+k%7,k/7%12,0,⟨around m 1000000000%12,around m 1000000000/12%40,TU (around m 1000000000/480),TU (k/84),TU (k/336)⟩⟩
 else⟨1+k%7,k/7%12,0,⟨0,0,0,0,0⟩⟩
def cC (n m:Int):Ev:=evK (around n 1000000000) m
end
end Go.Proofs.YtkanpepkdcmpmaaGreatDoor
