import Derived.Test.YtkanpepkdcmpmaaGreatDoorY13
import Derived.Test.YtkanpepkdcmpmaaGreatDoorY7
set_option maxHeartbeats 40000000
set_option maxRecDepth 100000
set_option linter.all false
namespace Go.Proofs.YtkanpepkdcmpmaaGreatDoor
section
open Go.RowKit Go.Maps
variable {k:Nat} {w w':World} {xs:List Value}
theorem EU(w:World)(a:Addr)(v:Value):w.grownBy (w.setCell a v) (some a.block):=⟨rfl,rfl,rfl,ai,fun k _ hne=>by
 simp only[World.setCell,QZ]
 rw[af (fun h=>hne (by rw[h]))]⟩
theorem aai(h:aw w w')(row:Option Nat):w.grownBy w' row:=⟨h.os,h.tape,h.output,h.size,fun k hk _=>h.block k hk⟩
theorem Flat.grown{n b o m c:Nat}{row:Option Nat}(h:Flat w k (.slice (some ⟨b,o,none⟩) m c) n xs)(hg:w.grownBy w' row)(hne:some b≠row):Flat w' k (.slice (some ⟨b,o,none⟩) m c) n xs:=by
 obtain⟨hl,hm,a,c',hv,hr⟩:=h;refine⟨hl,hm,a,c',hv,fun j u hu=> ?_⟩;obtain⟨b',o',ha,hc⟩:=hr j u hu;simp at hv;obtain⟨rfl,_⟩:=hv;simp at ha;obtain⟨rfl,rfl⟩:=ha;exact⟨_,_,rfl,hg.cell hc hne⟩
theorem aaj{B B' n:Nat}{e:TypeId}{v:Value}(h:w.ownsRow B e k v n xs)(hB:B'<=B):w.ownsRow B' e k v n xs:=by
 obtain⟨h1,h2|⟨g,cap,cur,hv,hb,r⟩⟩:=h
 ·exact⟨h1,.inl h2⟩
 ·exact⟨h1,.inr ⟨g,cap,cur,hv,ab,r⟩⟩
def EW (l:List aL)(ys:List Qn):List aL:=ys.map fun q=>⟨q,eO l q⟩
theorem axf(l:List aL)(ys:List Qn)(k:Nat)(h:k<ys.length):((EW l (ys.take (k+1))).flatMap ac)=(EW l (ys.take k)).flatMap ac++[I ys[k].node,I ys[k].handler,I ys[k].count,I ys[k].kind,I ys[k].index,I (eO l ys[k])]:=by
 rw[List.take_succ_eq_append_getElem h,EW,de,oY];simp[EW,ac,aL.ints,iv]
theorem axg(l:List aL)(ys:List Qn):(EW l ys).length=ys.length:=by simp[EW]
section
variable {ops:Array Oper} {Q:Exit->Act->World->Prop} {rest:List Oper} {o:Oper} {a:Act} {w:World}
theorem axh (dp:o.guard=none)(x:Operand)(ho:o.op=.load 76 x)(b off:Nat)(cs:List Value)(hl:cs.length=5)(hx:a.eval x=.pointer (some ⟨b,off,none⟩))(hc:w.rangeAt b off cs)
  (h:wpList Tryz.prog ops Q rest (a.put o.dst (.agg cs.toArray)) w):wpList Tryz.prog ops Q (o::rest) a w:=
 wpList_load_mid dp 76 x ho b off hx cs _ hc Tryz.underlying76 rfl (by rw[hl];exact awE) h
end
theorem axi {w:World}{b n:Nat}{D:DataW Unit}(h:w.ownsMap (H:=Unit) Tryz.prog 76 (plainElem Tryz.prog 3) b n D):Maps.size D<=n:=by
 obtain⟨es,clock,hb,F,hs,rfl⟩:=h
 show(List.foldr DataW.insert [] _).length<=n
 rw[length_sorted];simpa using hs
theorem axj (w:World):(zeroValue 3).run Tryz.prog w=.ok (I 0) w:=Tryz.zeroValue3 w
theorem aiB (evs:List Ev)(l:List aL)(ve va:Value)(w:World)(he:oG w ve evs)(ha:kS w va l)(bU:∀a∈l,a.ok)(hle:evs.length<=1000000)(hl:l.length<=1000000):
  Calls Tryz.prog 53 #[.agg #[ve,va]] w fun e w'=>∃ue ua,e=.returned (.agg #[ue,ua])/\w'.ownsRow w.heap.size 41 8 ue evs.length (evs.flatMap ec)/\w'.ownsRow w.heap.size 161 6 ua (lP l).length ((lP l).flatMap ac)/\aw w w':=by
 have aiC:=ae (fun W (hB:aw w W)=>awG l ve va W (ha.kept hB ax) bU hl);have aiD:=ae (fun W (hB:aw w W)=>axe evs ve W (he.kept hB ax) hle);have aY:bL w #[ve,va] #[.slice none 0 0,.slice none 0 0] ((w.alloc (.cells #[ve,va] 49)).alloc (.cells #[.slice none 0 0,.slice none 0 0] 49)):=bL.start w _ _ 49;have mH:=aY.1.cell;have xG:=ae bU;clear bU he ha;go_enter Tryz.func53,Tryz.ntmps53
 go_upto_region 2 with(go_at_call 108;refine(aiC.out _ aY.2.2.1).mono ?_;rintro e w1 ⟨b,D,rfl,hb,aiE,hMA,aC⟩)
 have gJ:=aY.call aC;have axk:=gJ.1.cell
 have hzb:w.heap.size+2<=b:=by have:=aY.2.2.2;omega
 have aiF:=ae aiE;have OY:=ae hMA;clear aiE hMA mH aC hb aY aiC
 go_upto_region 3 with(go_at_call 109;refine(aiD.out _ gJ.2.2.1).mono ?_;rintro e w2 ⟨ue,rfl,IJ,bg⟩;obtain⟨ke,ce,rfl,_⟩:=(Flat.eu IJ).open)
 have jK:=gJ.call bg;have TD:=ae (aiF.out.kept (aai bg none) ai);have AR:=ae (aaj IJ gJ.2.2.2)
 have cY:∀k',(Value.slice ke evs.length ce).ownBlock=some k'->k'<w2.heap.size:=fun k' tA=>(IJ.lt k' tA).2
 have axl:=ae cY;have fc:=TD.out.lt;have aGy:=jK.2.2.2;clear IJ aiD axk bg cY;have LO:aw w2 (w2.alloc (.cells #[.slice ke evs.length ce,.slice none 0 0] 49)):=(Below.refl _ _).alloc ax _;have LP:((w2.alloc (.cells #[.slice ke evs.length ce,.slice none 0 0] 49)).alloc (.cells #[.map (some b)] 178)).ownsMap (H:=Unit) Tryz.prog 76 (plainElem Tryz.prog 3) b l.length D:=(TD.out.alloc _).alloc _;have aiG:=ae (axd (w2.heap.size+1) b l.length D ((w2.alloc (.cells #[.slice ke evs.length ce,.slice none 0 0] 49)).alloc (.cells #[.map (some b)] 178)) ai LP (bj (axi LP) hl) fun xs yA=>bj (aiA yA OY.out l (fun q hq=>Tz hq) rfl) hl);clear LP
 go_wp2_with (first|(go_at_call 111;refine(axb b _).mono ?_;rintro e w3 ⟨rfl,rfl⟩)|(go_at_call 110;refine aiG.out.mono ?_;rintro e w4 ⟨u4,ys,rfl,nK,DO,aak,aal,lN⟩;obtain⟨k4,c4,rfl,_⟩:=aak.open))
 have CE:=ae nK;have axm:=ae DO;have IQ:ys.length<=1000000:=bj (aiA nK OY.out l (fun q hq=>Tz hq) rfl) hl;have IU:=lN.size;simp only[World.size_alloc] at IU aal;have axn:az w4 w2.heap.size #[.slice ke evs.length ce,.slice none 0 0]:=((az.new _ _ _).alloc _).kept lN bq;have LP:w4.ownsMap (H:=Unit) Tryz.prog 76 (plainElem Tryz.prog 3) b l.length D:=((TD.out.alloc _).alloc _).kept (aai lN none) ai;have axo:=ae LP;have aiH:=ae (((AR.out.alloc _).alloc _).kept (aai lN none) (by cases(Value.slice ke evs.length ce).ownBlock<;>simp));have axp:=ae aak;have axq:=ae aal;have axr:aw w2 w4:=(((Below.refl _ _).alloc ax _).alloc ai _).trans (lN.mono bq);have kp4:=jK.call axr;clear nK DO lN LP aak aal aiG aiF TD AR gJ jK LO;go_loopw [17] (fun i wr=>∃(k:Nat) (v:Value),k<=ys.length/\i=.int .i64 k/\Hid (wr.ownsRow w4.heap.size 161 6 v k ((EW l (ys.take k)).flatMap ac))/\az wr w2.heap.size #[.slice ke evs.length ce,v]/\Hid (w4.grownBy wr (some w2.heap.size))) (fun i _=>ys.length-(intOf i).toNat)
 case atStart=>exact⟨0,_,ab,rfl,ae (ko _ _ _ _),axn,ae (World.grownBy.refl _ _)⟩
 case round=>
  obtain⟨k,v,hk,rfl,Hv,hblk,Hg⟩:=hrel;have hzr:=Hg.out.size;by_cases hlt:k<ys.length
  ·obtain⟨b5,o5,rfl,hr⟩:=BN LN ab axp.out (i:=k) (x:=ys[k]) (by simp[hlt]);have kg:w2.heap.size+1+1<=b5:=axq.out b5 rfl;have Hr:=ae (show wr.rangeAt b5 (o5+k*5) [I ys[k].node,I ys[k].handler,I ys[k].count,I ys[k].kind,I ys[k].index] from fun j u hu=>Hg.out.cell (hr j u hu) bq);have hqo:ys[k].ok:=((CE.out.2 ys[k]).1 (bP hlt)).1;have Hq:=ae hqo;clear hr hqo
   go_upto_region 6 with((with_reducible refine axh rfl _ rfl b5 (o5+k*5) [I ys[k].node,I ys[k].handler,I ys[k].count,I ys[k].kind,I ys[k].index] rfl ?_ ?_ ?_);(rfl);(exact Hr.out))
   have IV:az (wr.alloc (.cells #[I ys[k].node,I ys[k].handler,I ys[k].count,I ys[k].kind,I ys[k].index] 76)) wr.heap.size #[I ys[k].node,I ys[k].handler,I ys[k].count,I ys[k].kind,I ys[k].index]:=az.new _ _ _;have TE:=hblk.alloc (.cells #[I ys[k].node,I ys[k].handler,I ys[k].count,I ys[k].kind,I ys[k].index] 76);have hvq:=Hv.out.alloc (.cells #[I ys[k].node,I ys[k].handler,I ys[k].count,I ys[k].kind,I ys[k].index] 76);have TF:=Hg.out.trans (zI wr (.cells #[I ys[k].node,I ys[k].handler,I ys[k].count,I ys[k].kind,I ys[k].index] 76) (some w2.heap.size));have hsq:(wr.alloc (.cells #[I ys[k].node,I ys[k].handler,I ys[k].count,I ys[k].kind,I ys[k].index] 76)).heap.size=wr.heap.size+1:=World.size_alloc _ _;generalize wr.alloc (.cells #[I ys[k].node,I ys[k].handler,I ys[k].count,I ys[k].kind,I ys[k].index] 76)=wq at IV TE hvq TF hsq⊢;have hgN:w2.heap.size<wr.heap.size:=ab;obtain⟨c,hrun,IM,_⟩:=World.ownsMap.lookup_int (w:=wq.drew) (axo.out.kept TF bq).drew Gr Tryz.underlying178 Tryz.underlying3 (axj _) (Ku ys[k] Hq.out)
   have hcv:c=eO l ys[k]:=by
    rw[OY.out.at_ ys[k] Hq.out] at IM;simpa using IM.symm
   subst hcv;have Hvq:=ae hvq;have HGq:=ae TF;clear hvq TF IM;obtain⟨ka,ca,rfl,_⟩:=(Flat.eu Hv.out).open
   have S0:(∀j,wq.cell? ⟨w2.heap.size,j,none⟩=(#[.slice ke evs.length ce,.slice ka k ca]:Array Value)[j]?)/\(∀j,wq.cell? ⟨wr.heap.size,j,none⟩=(#[I ys[k].node,I ys[k].handler,I ys[k].count,I ys[k].kind,I ys[k].index]:Array Value)[j]?):=⟨TE.cell,IV.cell⟩
   simp only[Qn.val] at hrun;refine kO 9 [(0,true),(1,true),(2,true),(3,true),(4,true),(5,false),(6,true),(7,false),(8,false)] (fun w'=>(∀j,w'.cell? ⟨w2.heap.size,j,none⟩=(#[.slice ke evs.length ce,.slice ka k ca]:Array Value)[j]?)/\(∀j,w'.cell? ⟨wr.heap.size,j,none⟩=(#[I ys[k].node,I ys[k].handler,I ys[k].count,I ys[k].kind,I ys[k].index]:Array Value)[j]?)) ah rfl rfl ah S0 ?_
   iterate 5 refine gA ?_
   refine kQ (fun K hK=> ?_);go_simp;refine hK.out _ _ S0 ?_;clear hK K;refine cJ ?_;refine gA ?_;refine kQ (fun K hK=> ?_);go_simp;refine hK.out _ _ ⟨(TE.alloc _).cell,(IV.alloc _).cell⟩ ?_;clear hK K;refine cJ ?_;have TG:∀k',(Value.slice ka k ca).ownBlock=some k'->w4.heap.size<=k'/\k'<wr.heap.size:=Hv.out.lt;refine Gp eD _ _ 47 eD 161 _ 6 48 Tryz.underlying47 WH rfl ab ab w4.heap.size (.slice ka k ca) k _ eD (Hvq.out.drew.alloc _) wq.heap.size 1 1 #[I ys[k].node,I ys[k].handler,I ys[k].count,I ys[k].kind,I ys[k].index,I (eO l ys[k])] 161 (by simp only[hsq];rfl) (dV wq.drew _) rfl rfl ab ab bq ?_;intro g6 ry w6 aGz aGA aGB EX uk rq;have TH:az w6 w2.heap.size #[.slice ke evs.length ce,.slice ka k ca]:=(TE.drew.alloc _).grown uk (fun e=>by have:=TG _ e;omega);have axs:az w6 wr.heap.size #[I ys[k].node,I ys[k].handler,I ys[k].count,I ys[k].kind,I ys[k].index]:=(IV.drew.alloc _).grown uk (fun e=>by have:=TG _ e;omega);refine⟨⟨TH.cell,axs.cell⟩,?_⟩
   have hGd:wq.grownBy (wq.drew.alloc (.cells #[I ys[k].node,I ys[k].handler,I ys[k].count,I ys[k].kind,I ys[k].index,I (eO l ys[k])] 161)) (some w2.heap.size):=by
    have h:=zI wq.drew (.cells #[I ys[k].node,I ys[k].handler,I ys[k].count,I ys[k].kind,I ys[k].index,I (eO l ys[k])] 161) (some w2.heap.size);exact⟨h.os,h.tape,h.output,h.size,h.block⟩
   have hG6:w4.grownBy w6 (some w2.heap.size):=World.grownBy.andThen (HGq.out.trans hGd) uk (fun j hj=> .inl (TG j hj).1);have hS6:=TH.set 1 (.slice (some ⟨g6,0,none⟩) (k+1) ry);have aiI:=EX.kept (EU w6 ⟨w2.heap.size,1,none⟩ (.slice (some ⟨g6,0,none⟩) (k+1) ry)) (.inr (by simp[Value.ownBlock];omega));have aiJ:=hG6.trans (EU w6 ⟨w2.heap.size,1,none⟩ (.slice (some ⟨g6,0,none⟩) (k+1) ry));have Ho6:=ae aiI;have HS6:=ae hS6;have HG6:=ae aiJ;have c61:=TH.cell 1;have f61:=TH.frozen 1;clear aiI hS6 aiJ hG6 EX uk rq TG hrun S0;refine cJ ?_;refine kP ?_;go_wp2_with fail;refine NoPanic.normal ?_;go_wp2_with fail;go_roundw
   case rel=>exact⟨k+1,_,ab,by go_num,ae (by rw[axf l ys k hlt];exact Ho6.out),HS6.out,HG6⟩
   case measure=>simp[intOf];omega
  ·obtain rfl:k=ys.length:=ab;obtain⟨ka,ca,rfl,_⟩:=(Flat.eu Hv.out).open;have cg:az wr (w.heap.size+1) #[.slice none 0 0,.slice none 0 0]:=kp4.2.1.grown Hg.out bq;have c0:=hblk.cell 0;have c1:=hblk.cell 1;have r0:=cg.cell 0;have r1:=cg.cell 1;have fr0:=cg.frozen 0;have fr1:=cg.frozen 1;have OI:=ae cg;clear cg hblk;go_wp2_with fail;have mq:az ((wr.setCell ⟨w.heap.size+1,0,none⟩ (.slice ke evs.length ce)).setCell ⟨w.heap.size+1,1,none⟩ (.slice ka ys.length ca)) (w.heap.size+1) #[.slice ke evs.length ce,.slice ka ys.length ca]:=(OI.out.set 0 _).set 1 _;have OZ:wr.grownBy ((wr.setCell ⟨w.heap.size+1,0,none⟩ (.slice ke evs.length ce)).setCell ⟨w.heap.size+1,1,none⟩ (.slice ka ys.length ca)) (some (w.heap.size+1)):=(EU wr ⟨w.heap.size+1,0,none⟩ _).trans (EU _ ⟨w.heap.size+1,1,none⟩ _)
   have sO:=Hv.out.kept OZ (by
    cases hv:(Value.slice ka ys.length ca).ownBlock with
    |none=>exact .inl rfl
    |some g=>exact .inr (fun e=>by have:=(Hv.out.lt g hv).1;simp at e;omega))
   have hue:=(aiH.out.kept Hg.out (by
    cases hv:(Value.slice ke evs.length ce).ownBlock with
    |none=>exact .inl rfl
    |some g=>exact .inr (fun e=>by have:=axl.out g hv;simp at e;omega))).kept OZ (by
    cases hv:(Value.slice ke evs.length ce).ownBlock with
    |none=>exact .inl rfl
    |some g=>exact .inr (fun e=>by have:=(aiH.out.lt g hv).1;simp at e;omega))
   have eI:aw w ((wr.setCell ⟨w.heap.size+1,0,none⟩ (.slice ke evs.length ce)).setCell ⟨w.heap.size+1,1,none⟩ (.slice ka ys.length ca)):=
    ((kp4.2.2.1.grown Hg.out ab (fun g hg=>by cases hg;omega)).grown OZ ab (fun g hg=>by cases hg;omega))
   have Pa:EW l ys=lP l:=(aww axm.out CE.out.1 fun q=>by
    rw[CE.out.2 q];constructor
    ·rintro⟨h1,h2⟩;rw[OY.out.Gs q h1] at h2;exact ni h2
    ·intro h;obtain⟨a,ha,e⟩:=Tz h;have h1:q.ok:=e▸(xG.out a ha).1
     exact⟨h1,by rw[OY.out.Gs q h1];exact ft h⟩).eq
   rw[nh ab,Pa] at sO
   have hlen:(lP l).length=ys.length:=by rw[<-Pa,axg]
   rw[<-hlen] at sO mq OZ hue eI⊢;generalize((wr.setCell ⟨w.heap.size+1,0,none⟩ (.slice ke evs.length ce)).setCell ⟨w.heap.size+1,1,none⟩ (.slice ka (lP l).length ca))=W5 at mq OZ sO hue eI⊢;obtain⟨t5,ht5⟩:=mq
   have hr:∀tmps:Array Value,tmps.getD 2 undef=.pointer (some ⟨w.heap.size+1,0,none⟩)->(results Tryz.f53 tmps).run Tryz.prog W5=.ok (.agg #[.slice ke evs.length ce,.slice ka (lP l).length ca]) W5:=fun tmps hp=>results_cell_row Tryz.results53 tmps W5 (w.heap.size+1) t5 _ (0,0) _ hp ht5 Tryz.underlying49 rfl ah
   refine DI (hr _ rfl) rfl ?_;exact⟨_,_,rfl,aaj hue ab,aaj sO ab,eI⟩
end
section
open Go.RowKit
section
variable {ops:Array Oper} {Q:Exit->Act->World->Prop} {rest:List Oper} {o:Oper} {a:Act} {w:World}
end
theorem oG.at {w:World}{a:Option Addr}{n c:Nat}{l:List Ev}(h:oG w (.slice a n c) l){i:Nat}{x:Ev}(hi:l[i]? =some x):
  ∃b o,a=some ⟨b,o,none⟩/\w.rangeAt b (o+i*8) [I x.kind,I x.node,I x.arg,I x.msg.node,I x.msg.handler,I x.msg.count,I x.msg.index,I x.msg.copy]:=by
 obtain⟨b,o,ha,hc⟩:=BN (f:=fun a:Ev=>iv a.ints) (fun _=>rfl) ab h hi;exact⟨b,o,ha,fun j v hv=>hc j v hv⟩
end
section
open Go.RowKit
theorem Flat.keep {w w':World}{k n m c:Nat}{a:Option Addr}{xs:List Value}{S:Nat->Prop}(h:Flat w k (.slice a m c) n xs)(hg:xF S w w')(hne:∀x,a=some x->¬S x.block):Flat w' k (.slice a m c) n xs:=by
 obtain⟨hl,hm,a',c',hv,hr⟩:=h;refine⟨hl,hm,a',c',hv,fun j u hu=> ?_⟩;obtain⟨b',o',ha,hc⟩:=hr j u hu;simp at hv;obtain⟨rfl,_⟩:=hv;refine⟨_,_,ha,?_⟩;have h2:=iT _ _ hc;simp only[World.cell?] at hc⊢;rw[hg.block b' h2 (hne _ ha)];exact hc
theorem Rd.count_le (s:Rd)(most:Nat):(s.count most).1<=most:=by
 unfold Rd.count;split
 ·exact BM _
 ·omega
end
section
open Go.RowKit
theorem axt (w:World):Calls Tryz.prog 74 #[] w fun e w'=>e=.returned (.slice (some ⟨w.heap.size,0,none⟩) 8 8)/\iE w' w.heap.size dL/\aw w w'/\w'.heap.size=w.heap.size+1:=by
 go_enter Tryz.func74,Tryz.ntmps74;go_wp2_with fail;go_ret;exact⟨rfl,dV _ _,(Below.refl _ _).alloc ax _,World.size_alloc _ _⟩
theorem axu (w:World):Calls Tryz.prog 77 #[] w fun e w'=>e=.returned (.slice (some ⟨w.heap.size,0,none⟩) 4 4)/\iE w' w.heap.size eh/\aw w w'/\w'.heap.size=w.heap.size+1:=by
 go_enter Tryz.func77,Tryz.ntmps77;go_wp2_with fail;go_ret;exact⟨rfl,dV _ _,(Below.refl _ _).alloc ax _,World.size_alloc _ _⟩
theorem IW {s:aj}{m:Nat}{l:List Nat}(h:jw s m=some l):l.length=m:=by
 unfold jw at h;split at h
 ·rename_i hl;rw[mapM_length h,hl]
 ·cases h
def zh (words:List aj)(w:aj)(n:Nat):Nat:=(List.range n).foldl (fun k i=>if 0<i/\w=words.getD i [] then i else k) 0
theorem TI (words:List aj)(w:aj)(n:Nat):zh words w (n+1)=if 0<n/\w=words.getD n [] then n else zh words w n:=by
 unfold zh;rw[lV,zL];rfl
theorem aiK (words:List aj)(w:aj)(n:Nat):zh words w n<=n-1:=by
 induction n with
 |zero=>exact cK 0
 |succ n ih=>
  rw[TI];split<;>omega
end
section
open Go.RowKit
def axv (k:Int):Int:=if k%40=39 then 2147483647-k/40%2 else k/40%4
def TJ (n:Int):Int:=axv (around n 1000000)
def evK (k m:Int):Ev:=
 if 1+k%7=1\/1+k%7=2\/1+k%7=4 then⟨1+k%7,k/7%12,TJ m,⟨0,0,0,0,0⟩⟩
 else if 1+k%7=3\/1+k%7=5\/1+k%7=6 then⟨1+k%7,k/7%12,0,⟨around m 1000000000%12,around m 1000000000/12%40,TJ (around m 1000000000/480),TJ (k/84),TJ (k/336)⟩⟩
 else⟨1+k%7,k/7%12,0,⟨0,0,0,0,0⟩⟩
def cA (n m:Int):Ev:=evK (around n 1000000000) m
end
end Go.Proofs.YtkanpepkdcmpmaaGreatDoor
