/- The statement Rows.TraceRunsSaid: the law TraceRuns answers true for all slices of integers, and writes nothing that was there; no condition. The frame was written by the guide's program (proof-skeleton.mjs); comments, long names and spaces of the texts were taken out by a program. -/
import Derived.Test.YtlnghiefahcnpaaGreatQ43
import Derived.Lib.ConvBytes
import Derived.Test.YtlnghiefahcnpaaGreatQ42
import Derived.Test.YtlnghiefahcnpaaGreatRows
import Derived.ProofKit
import Derived.ShutString
import Derived.ChangeOld
import Derived.Below
set_option maxHeartbeats 40000000
set_option maxRecDepth 100000
set_option linter.all false
namespace Go.Proofs.YtlnghiefahcnpaaGreat
section
open Go.RowKit
def setRow (W:World)(g o:Nat):List Value->World
 |[]=>W
 |v::vs=>setRow (W.setCell ⟨g,o,none⟩ v) g (o+1) vs
def gQ (cs:Array Value)(o:Nat):List Value->Array Value
 |[]=>cs
 |v::vs=>gQ (cs.setIfInBounds o v) (o+1) vs
theorem KR (cs:Array Value)(o:Nat)(vs:List Value):(gQ cs o vs).size=cs.size:=by
 induction vs generalizing cs o with
 |nil=>rfl
 |cons v vs ih=>rw[gQ,ih,xx]
theorem KS (cs:Array Value)(o:Nat)(vs:List Value)(j:Nat)(h:j<o\/o+vs.length<=j):(gQ cs o vs)[j]? =cs[j]? :=by
 induction vs generalizing cs o with
 |nil=>rfl
 |cons v vs ih=>
  rw[gQ,ih _ _ (by simp only[List.length_cons] at h;omega),oY (by simp only[List.length_cons] at h;omega)]
theorem ahO (cs:Array Value)(o:Nat)(vs:List Value)(j:Nat)(hj:j<vs.length)(ho:o+vs.length<=cs.size):(gQ cs o vs)[o+j]? =vs[j]? :=by
 induction vs generalizing cs o j with
 |nil=>simp at hj
 |cons v vs ih=>
  simp only[List.length_cons] at hj ho;rw[gQ]
  cases j with
  |zero=>
   show(gQ (cs.setIfInBounds o v) (o+1) vs)[o]? =some v
   rw[KS _ _ _ _ aa,qq aa]
  |succ j=>
   have:=ih (cs.setIfInBounds o v) (o+1) j aa (by rw[xx];omega);rw[show o+(j+1)=o+1+j by omega,this];rfl
theorem ahP {W:World}{g o:Nat}{cs:Array Value}(h:az W g cs)(vs:List Value):az (setRow W g o vs) g (gQ cs o vs):=by
 induction vs generalizing W cs o with
 |nil=>exact h
 |cons v vs ih=>exact ih (h.set o v)
theorem ahQ {W w:World}{B g o:Nat}(h:Below B w W)(hg:B<=g)(vs:List Value):Below B w (setRow W g o vs):=by
 induction vs generalizing W o with
 |nil=>exact h
 |cons v vs ih=>exact ih (h.setCell hg _)
def DJ (run:List af)(i:Nat):List af:=run.take i++(run.drop (i+1)).take 1++(run.drop i).take 1++run.drop (i+2)
theorem KT (run:List af)(i:Nat)(h:i+1<run.length):run=run.take i++run[i]::run[i+1]::run.drop (i+2)/\DJ run i=run.take i++run[i+1]::run[i]::run.drop (i+2):=by
 have e1:run.drop i=run[i]::run.drop (i+1):=List.drop_eq_getElem_cons aa;have e2:run.drop (i+1)=run[i+1]::run.drop (i+2):=List.drop_eq_getElem_cons h;constructor
 ·rw[<-e2,<-e1,List.take_append_drop]
 ·unfold DJ;rw[e1,e2];simp only[HH,List.take_zero,List.append_assoc,List.cons_append,List.nil_append]
theorem avt (run:List af)(i:Nat)(h:i+1<run.length)(hd:bP run[i] run[i+1]=false):Sw run (DJ run i):=
 ⟨_,_,_,_,(KT run i h).1,(KT run i h).2,hd⟩
theorem avu (run:List af)(i:Nat)(h:i+1<run.length):(DJ run i).length=run.length:=by
 have h1:=KT run i h;have:=kp List.length h1.1;rw[h1.2];simp at this⊢;omega
theorem avv (run:List af)(i:Nat)(h:i+1<run.length)(k:Nat):(DJ run i)[k]? =if k=i then run[i+1]? else if k=i+1 then run[i]? else run[k]? :=by
 have h1:=KT run i h
 have hl:(run.take i).length=i:=by rw[eo];omega
 have h2:=Bd (run.take i) (run.drop (i+2)) run[i] run[i+1] (sig i k);rw[hl,Tr,<-h1.1,<-h1.2] at h2;rw[h2];unfold sig;by_cases e1:k=i
 ·simp[e1]
 ·by_cases e2:k=i+1
  ·simp[e2]
  ·simp[e1,e2]
theorem avw {w W:World}{g cap i:Nat}{run:List af}{cur:Array Value}{uI sW uJ sX:Value}(hi:i+1<run.length)(hm:run.length<=1000000)(hsz:run.length*11<=cur.size)(hc:eb w run (cur.toList.take (run.length*11)))
  (ha0:fk w uI run[i].asks) (Eo:fm w sW run[i].sent) (pJ:fk w uJ run[i+1].asks) (eC:fm w sX run[i+1].sent)
  (hb:az W g (gQ (gQ cur (i*11) (run[i+1].row uJ sX)) ((i+1)*11) (run[i].row uI sW))) (DK:Below w.heap.size w W):bU W (.slice (some ⟨g,0,none⟩) run.length cap) (DJ run i):=by
 have hlen:=avu run i hi;have oE:(run[i+1].row uJ sX).length=11:=rfl;have KL:(run[i].row uI sW).length=11:=rfl
 have avx:(gQ (gQ cur (i*11) (run[i+1].row uJ sX)) ((i+1)*11) (run[i].row uI sW)).size=cur.size:=by rw[KR,KR]
 have nb:((gQ (gQ cur (i*11) (run[i+1].row uJ sX)) ((i+1)*11) (run[i].row uI sW)).toList.take (run.length*11)).length=run.length*11:=by
  have ht:(gQ (gQ cur (i*11) (run[i+1].row uJ sX)) ((i+1)*11) (run[i].row uI sW)).toList.length=cur.size:=(Array.length_toList).trans avx;rw[eo,ht];omega
 refine⟨(gQ (gQ cur (i*11) (run[i+1].row uJ sX)) ((i+1)*11) (run[i].row uI sW)).toList.take (run.length*11),Lw _ _ (nb.trans (by rw[hlen])) ?_,?_⟩
 ·intro k s hk;have kr:=(bk.1 hk).1;rw[hlen] at kr;rw[avv run i hi] at hk
  have lG:∀j,j<11->((gQ (gQ cur (i*11) (run[i+1].row uJ sX)) ((i+1)*11) (run[i].row uI sW)).toList.take (run.length*11))[k*11+j]? =(gQ (gQ cur (i*11) (run[i+1].row uJ sX)) ((i+1)*11) (run[i].row uI sW))[k*11+j]? :=fun j hj=>by
   rw[xu aa,Array.getElem?_toList]
  by_cases e1:k=i
  ·subst e1;rw[if_pos rfl,List.getElem?_eq_getElem hi] at hk;cases hk;refine⟨uJ,sX,Flat.kept pJ DK av,Flat.kept eC DK av,fun j u hu=> ?_⟩
   have hj:j<11:=by have:=(bk.1 hu).1;omega
   rw[lG j hj,KS _ _ _ _ aa,ahO _ _ _ _ aa aa];exact hu
  ·rw[if_neg e1] at hk;by_cases e2:k=i+1
   ·subst e2;rw[if_pos rfl,List.getElem?_eq_getElem aa] at hk;cases hk;refine⟨uI,sW,Flat.kept ha0 DK av,Flat.kept Eo DK av,fun j u hu=> ?_⟩
    have hj:j<11:=by have:=(bk.1 hu).1;omega
    rw[lG j hj,ahO _ _ _ _ aa (by rw[KR];omega)];exact hu
   ·rw[if_neg e2] at hk;obtain⟨va,vs,h1,h2,h3⟩:=hc.at hk;refine⟨va,vs,Flat.kept h1 DK av,Flat.kept h2 DK av,fun j u hu=> ?_⟩
    have hj:j<11:=by have:=(bk.1 hu).1;exact this
    have h4:=h3 j u hu;rw[xu aa,Array.getElem?_toList] at h4;rw[lG j hj,KS _ _ _ _ aa,KS _ _ _ _ aa];exact h4
 ·rw[hlen]
  refine Flat.Bs nb aa fun j u hu=> ?_
  rw[fK,hb.cell j];have hj:=(bk.1 hu).1;rw[nb] at hj;rw[xu hj,Array.getElem?_toList] at hu;exact hu
end
section
open Go.RowKit
theorem avy {w:World}{B:Nat}{v:Value}{n:Nat}{xs:List Value}(h:w.ownsRow B 67 11 v n xs)(hn:0<n):∃g cap cur,v=.slice (some ⟨g,0,none⟩) n cap/\B<=g/\az w g cur/\n*11<=cur.size/\cur.toList.take (n*11)=xs:=by
 rcases h.2 with⟨_,h0⟩|⟨g,cap,cur,rfl,h1,h2,h3,_,h5,h6⟩
 ·omega
 ·exact⟨g,cap,cur,rfl,h1,⟨67,h2⟩,by rw[h5];exact pe _ h3,h6⟩
theorem jj {w:World}{g:Nat}{cur:Array Value}(h:az w g cur){j:Nat}(hj:j<cur.size):w.cell? ⟨g,j,none⟩=some (cur[j]'hj):=by rw[h.cell j];simp[hj]
theorem avz (run:List af)(i:Nat)(v:Value)(w:World)(hrun:bU w v run)(hi:i+1<run.length)(hm:run.length<=1000):
  Calls Tryz.prog 19 #[v,I i] w fun e w'=>∃u c,e=.returned (.tuple #[u,I c])/\Below w.heap.size w w'/\((c=0/\∃run',bU w' u run'/\Sw run run')\/c=5):=by
 obtain⟨ka,ca,rfl,ft⟩:=hrun.open;obtain⟨b,o,va,vs,rfl,dy,dk,x0,x1,x2,x3,x4,x5,x6,x7,x8,x9,x10⟩:=hrun.at (i:=i) (s:=run[i]) ae;obtain⟨b',o',ua,us,ed,oh,om,y0,y1,y2,y3,y4,y5,y6,y7,y8,y9,y10⟩:=hrun.at (i:=i+1) (s:=run[i+1]) ae;simp at ed;obtain⟨rfl,rfl⟩:=ed;obtain⟨qa,da,rfl,_⟩:=dy.open;obtain⟨qs,ds,rfl,_⟩:=dk.open;obtain⟨ra,ea,rfl,_⟩:=oh.open;obtain⟨rs,es,rfl,_⟩:=om.open;obtain⟨xs,hcs,dM⟩:=hrun
 have fC:b<w.heap.size:=by simpa using ic _ _ x0
 have py:=dependent run[i] run[i+1] (run[i].val (.slice qa run[i].asks.length da) (.slice qs run[i].sent.length ds)) (run[i+1].val (.slice ra run[i+1].asks.length ea) (.slice rs run[i+1].sent.length es)) w.drew
  ⟨_,_,rfl,dy.kept (Below.refl _ _).drew av,dk.kept (Below.refl _ _).drew av⟩ ⟨_,_,rfl,oh.kept (Below.refl _ _).drew av,om.kept (Below.refl _ _).drew av⟩
 simp only[af.val,af.row] at py;have rM:=ab py;clear py;have b0:(0:Int)<=(i:Int):=aa;have b1:(i:Int)<(run.length:Int):=aa;have b2:(0:Int)<=(i:Int)+1:=aa;have b3:(i:Int)+1<(run.length:Int):=aa
 have b4:IntKind.i64.wrap ((i:Int)+1)=(i:Int)+1:=by rw[IntKind.wrap_i64];omega
 have b5:((i:Int)+1).toNat=i+1:=aa;have b7:¬((run.length:Int)-2<(i:Int)):=aa;have b8:¬((i:Int)<0):=aa;go_enter Tryz.func19,Tryz.ntmps19;go_wp2_with fail;refine xK 9 [(0,true),(1,true),(2,true),(3,true),(4,true),(5,true),(6,true),(7,true),(8,true)] (fun w'=>w'.cell? ⟨b,o+i*11,none⟩=some (I run[i].ev.kind)/\w'.cell? ⟨b,o+i*11+1,none⟩=some (I run[i].ev.node)/\w'.cell? ⟨b,o+i*11+2,none⟩=some (I run[i].ev.arg)/\w'.cell? ⟨b,o+i*11+3,none⟩=some (I run[i].ev.msg.node)/\w'.cell? ⟨b,o+i*11+4,none⟩=some (I run[i].ev.msg.handler)/\w'.cell? ⟨b,o+i*11+5,none⟩=some (I run[i].ev.msg.count)/\w'.cell? ⟨b,o+i*11+6,none⟩=some (I run[i].ev.msg.index)/\w'.cell? ⟨b,o+i*11+7,none⟩=some (I run[i].ev.msg.copy)/\w'.cell? ⟨b,o+i*11+8,none⟩=some (.slice qa run[i].asks.length da)/\w'.cell? ⟨b,o+i*11+9,none⟩=some (.bool run[i].ax)/\w'.cell? ⟨b,o+i*11+10,none⟩=some (.slice qs run[i].sent.length ds)/\w'.cell? ⟨b,o+(i+1)*11,none⟩=some (I run[i+1].ev.kind)/\w'.cell? ⟨b,o+(i+1)*11+1,none⟩=some (I run[i+1].ev.node)/\w'.cell? ⟨b,o+(i+1)*11+2,none⟩=some (I run[i+1].ev.arg)/\w'.cell? ⟨b,o+(i+1)*11+3,none⟩=some (I run[i+1].ev.msg.node)/\w'.cell? ⟨b,o+(i+1)*11+4,none⟩=some (I run[i+1].ev.msg.handler)/\w'.cell? ⟨b,o+(i+1)*11+5,none⟩=some (I run[i+1].ev.msg.count)/\w'.cell? ⟨b,o+(i+1)*11+6,none⟩=some (I run[i+1].ev.msg.index)/\w'.cell? ⟨b,o+(i+1)*11+7,none⟩=some (I run[i+1].ev.msg.copy)/\w'.cell? ⟨b,o+(i+1)*11+8,none⟩=some (.slice ra run[i+1].asks.length ea)/\w'.cell? ⟨b,o+(i+1)*11+9,none⟩=some (.bool run[i+1].ax)/\w'.cell? ⟨b,o+(i+1)*11+10,none⟩=some (.slice rs run[i+1].sent.length es)) ah rfl rfl ah ⟨x0,x1,x2,x3,x4,x5,x6,x7,x8,x9,x10,y0,y1,y2,y3,y4,y5,y6,y7,y8,y9,y10⟩ ?_
 iterate 9 refine xR ?_
 refine xM ?_;go_wp2_with fail;refine rM.out.mono ?_;rintro e w1 ⟨rfl,ay⟩;have oy:Below w.heap.size w w1:=Below.then (w:=w) bc ay;go_wp2_with fail;refine NoPanic.normal ?_;by_cases hd:bP run[i] run[i+1]=true
 ·rw[hd];clear x0 x1 x2 x3 x4 x5 x6 x7 x8 x9 x10 y0 y1 y2 y3 y4 y5 y6 y7 y8 y9 y10;go_wp2_with fail;go_ret2;exact⟨_,5,rfl,oy,.inr rfl⟩
 ·have sb:bP run[i] run[i+1]=false:=by simpa using hd
  rw[sb];have Hd:=ab sb;have wC:=ab hcs;have Hfl:=ab dM;have HX:=ab (show w.cell? ⟨b,o+i*11,none⟩=some (I run[i].ev.kind)/\w.cell? ⟨b,o+i*11+1,none⟩=some (I run[i].ev.node)/\w.cell? ⟨b,o+i*11+2,none⟩=some (I run[i].ev.arg)/\w.cell? ⟨b,o+i*11+3,none⟩=some (I run[i].ev.msg.node)/\w.cell? ⟨b,o+i*11+4,none⟩=some (I run[i].ev.msg.handler)/\w.cell? ⟨b,o+i*11+5,none⟩=some (I run[i].ev.msg.count)/\w.cell? ⟨b,o+i*11+6,none⟩=some (I run[i].ev.msg.index)/\w.cell? ⟨b,o+i*11+7,none⟩=some (I run[i].ev.msg.copy)/\w.cell? ⟨b,o+i*11+8,none⟩=some (.slice qa run[i].asks.length da)/\w.cell? ⟨b,o+i*11+9,none⟩=some (.bool run[i].ax)/\w.cell? ⟨b,o+i*11+10,none⟩=some (.slice qs run[i].sent.length ds)/\w.cell? ⟨b,o+(i+1)*11,none⟩=some (I run[i+1].ev.kind)/\w.cell? ⟨b,o+(i+1)*11+1,none⟩=some (I run[i+1].ev.node)/\w.cell? ⟨b,o+(i+1)*11+2,none⟩=some (I run[i+1].ev.arg)/\w.cell? ⟨b,o+(i+1)*11+3,none⟩=some (I run[i+1].ev.msg.node)/\w.cell? ⟨b,o+(i+1)*11+4,none⟩=some (I run[i+1].ev.msg.handler)/\w.cell? ⟨b,o+(i+1)*11+5,none⟩=some (I run[i+1].ev.msg.count)/\w.cell? ⟨b,o+(i+1)*11+6,none⟩=some (I run[i+1].ev.msg.index)/\w.cell? ⟨b,o+(i+1)*11+7,none⟩=some (I run[i+1].ev.msg.copy)/\w.cell? ⟨b,o+(i+1)*11+8,none⟩=some (.slice ra run[i+1].asks.length ea)/\w.cell? ⟨b,o+(i+1)*11+9,none⟩=some (.bool run[i+1].ax)/\w.cell? ⟨b,o+(i+1)*11+10,none⟩=some (.slice rs run[i+1].sent.length es) from⟨x0,x1,x2,x3,x4,x5,x6,x7,x8,x9,x10,y0,y1,y2,y3,y4,y5,y6,y7,y8,y9,y10⟩);clear x0 x1 x2 x3 x4 x5 x6 x7 x8 x9 x10 y0 y1 y2 y3 y4 y5 y6 y7 y8 y9 y10;clear hd sb hcs dM
  go_upto_region 7 with(at_builtin;go_must (refine Ig rfl _ _ 28 rfl 67 _ 11 120 Tryz.underlying28 Bv rfl aa aa w.heap.size _ 0 [] rfl (HJ (n:=0) (cs:=#[]) (jH _ _) (by have:=oy.size;(try simp only[heap_drew,rI]);omega) rfl aa) ⟨b,o,none⟩ run.length ca _ rfl (Flat.kept (B:=w.heap.size) Hfl.out (oy.alloc oy.size _) av) (Lu wC.out) aa (by have:=oy.size;(try simp only[rI]);omega) ?_);intro u w2 bE jq bO)
  have hB:Below w.heap.size w w2:=Below.trans (oy.alloc oy.size _) bO;obtain⟨g,cap,cur,rfl,hg,eN,hsz,oX⟩:=avy bE aa;obtain⟨x0,x1,x2,x3,x4,x5,x6,x7,x8,x9,x10,y0,y1,y2,y3,y4,y5,y6,y7,y8,y9,y10⟩:=HX.out;replace x0:=cw hB av x0;replace y0:=cw hB av y0;replace x1:=cw hB av x1;replace y1:=cw hB av y1;replace x2:=cw hB av x2;replace y2:=cw hB av y2;replace x3:=cw hB av x3;replace y3:=cw hB av y3;replace x4:=cw hB av x4;replace y4:=cw hB av y4;replace x5:=cw hB av x5;replace y5:=cw hB av y5;replace x6:=cw hB av x6;replace y6:=cw hB av y6;replace x7:=cw hB av x7;replace y7:=cw hB av y7;replace x8:=cw hB av x8;replace y8:=cw hB av y8;replace x9:=cw hB av x9;replace y9:=cw hB av y9;replace x10:=cw hB av x10;replace y10:=cw hB av y10;have z0:w2.cell? ⟨g,i*11,none⟩=some (cur[i*11]' aa):=jj eN aa;have z1:w2.cell? ⟨g,i*11+1,none⟩=some (cur[i*11+1]' aa):=jj eN aa;have z2:w2.cell? ⟨g,i*11+2,none⟩=some (cur[i*11+2]' aa):=jj eN aa;have z3:w2.cell? ⟨g,i*11+3,none⟩=some (cur[i*11+3]' aa):=jj eN aa;have z4:w2.cell? ⟨g,i*11+4,none⟩=some (cur[i*11+4]' aa):=jj eN aa;have z5:w2.cell? ⟨g,i*11+5,none⟩=some (cur[i*11+5]' aa):=jj eN aa;have z6:w2.cell? ⟨g,i*11+6,none⟩=some (cur[i*11+6]' aa):=jj eN aa;have z7:w2.cell? ⟨g,i*11+7,none⟩=some (cur[i*11+7]' aa):=jj eN aa;have z8:w2.cell? ⟨g,i*11+8,none⟩=some (cur[i*11+8]' aa):=jj eN aa;have z9:w2.cell? ⟨g,i*11+9,none⟩=some (cur[i*11+9]' aa):=jj eN aa;have z10:w2.cell? ⟨g,i*11+10,none⟩=some (cur[i*11+10]' aa):=jj eN aa;have f0:w2.frozen? ⟨g,i*11,none⟩=false:=eN.frozen _;have f1:w2.frozen? ⟨g,i*11+1,none⟩=false:=eN.frozen _;have f2:w2.frozen? ⟨g,i*11+2,none⟩=false:=eN.frozen _;have f3:w2.frozen? ⟨g,i*11+3,none⟩=false:=eN.frozen _;have f4:w2.frozen? ⟨g,i*11+4,none⟩=false:=eN.frozen _;have f5:w2.frozen? ⟨g,i*11+5,none⟩=false:=eN.frozen _;have f6:w2.frozen? ⟨g,i*11+6,none⟩=false:=eN.frozen _;have f7:w2.frozen? ⟨g,i*11+7,none⟩=false:=eN.frozen _;have f8:w2.frozen? ⟨g,i*11+8,none⟩=false:=eN.frozen _;have f9:w2.frozen? ⟨g,i*11+9,none⟩=false:=eN.frozen _;have f10:w2.frozen? ⟨g,i*11+10,none⟩=false:=eN.frozen _;go_upto_region 8 with fail;change Code.wp Tryz.prog _ _ _ (setRow w2 g (i*11) (run[i+1].row (.slice ra run[i+1].asks.length ea) (.slice rs run[i+1].sent.length es)));clear x0 x1 x2 x3 x4 x5 x6 x7 x8 x9 x10 y0 y1 y2 y3 y4 y5 y6 y7 y8 y9 y10;clear z0 f0 z1 f1 z2 f2 z3 f3 z4 f4 z5 f5 z6 f6 z7 f7 z8 f8 z9 f9 z10 f10;generalize pH:setRow w2 g (i*11) (run[i+1].row (.slice ra run[i+1].asks.length ea) (.slice rs run[i+1].sent.length es))=w3;have cy:Below w.heap.size w w3:=pH▸ahQ hB hg _;have ia:az w3 g (gQ cur (i*11) (run[i+1].row (.slice ra run[i+1].asks.length ea) (.slice rs run[i+1].sent.length es))):=pH▸ahP eN _;clear pH;have Ew:=KR cur (i*11) (run[i+1].row (.slice ra run[i+1].asks.length ea) (.slice rs run[i+1].sent.length es));generalize JI:gQ cur (i*11) (run[i+1].row (.slice ra run[i+1].asks.length ea) (.slice rs run[i+1].sent.length es))=rE at ia Ew;have Hc3:=ab JI;clear JI;obtain⟨x0,x1,x2,x3,x4,x5,x6,x7,x8,x9,x10,y0,y1,y2,y3,y4,y5,y6,y7,y8,y9,y10⟩:=HX.out;clear y0 y1 y2 y3 y4 y5 y6 y7 y8 y9 y10;replace x0:=cw cy av x0;replace x1:=cw cy av x1;replace x2:=cw cy av x2;replace x3:=cw cy av x3;replace x4:=cw cy av x4;replace x5:=cw cy av x5;replace x6:=cw cy av x6;replace x7:=cw cy av x7;replace x8:=cw cy av x8;replace x9:=cw cy av x9;replace x10:=cw cy av x10;have z0:w3.cell? ⟨g,(i+1)*11,none⟩=some (rE[(i+1)*11]' aa):=jj ia aa;have z1:w3.cell? ⟨g,(i+1)*11+1,none⟩=some (rE[(i+1)*11+1]' aa):=jj ia aa;have z2:w3.cell? ⟨g,(i+1)*11+2,none⟩=some (rE[(i+1)*11+2]' aa):=jj ia aa;have z3:w3.cell? ⟨g,(i+1)*11+3,none⟩=some (rE[(i+1)*11+3]' aa):=jj ia aa;have z4:w3.cell? ⟨g,(i+1)*11+4,none⟩=some (rE[(i+1)*11+4]' aa):=jj ia aa;have z5:w3.cell? ⟨g,(i+1)*11+5,none⟩=some (rE[(i+1)*11+5]' aa):=jj ia aa;have z6:w3.cell? ⟨g,(i+1)*11+6,none⟩=some (rE[(i+1)*11+6]' aa):=jj ia aa;have z7:w3.cell? ⟨g,(i+1)*11+7,none⟩=some (rE[(i+1)*11+7]' aa):=jj ia aa;have z8:w3.cell? ⟨g,(i+1)*11+8,none⟩=some (rE[(i+1)*11+8]' aa):=jj ia aa;have z9:w3.cell? ⟨g,(i+1)*11+9,none⟩=some (rE[(i+1)*11+9]' aa):=jj ia aa;have z10:w3.cell? ⟨g,(i+1)*11+10,none⟩=some (rE[(i+1)*11+10]' aa):=jj ia aa;have f0:w3.frozen? ⟨g,(i+1)*11,none⟩=false:=ia.frozen _;have f1:w3.frozen? ⟨g,(i+1)*11+1,none⟩=false:=ia.frozen _;have f2:w3.frozen? ⟨g,(i+1)*11+2,none⟩=false:=ia.frozen _;have f3:w3.frozen? ⟨g,(i+1)*11+3,none⟩=false:=ia.frozen _;have f4:w3.frozen? ⟨g,(i+1)*11+4,none⟩=false:=ia.frozen _;have f5:w3.frozen? ⟨g,(i+1)*11+5,none⟩=false:=ia.frozen _;have f6:w3.frozen? ⟨g,(i+1)*11+6,none⟩=false:=ia.frozen _;have f7:w3.frozen? ⟨g,(i+1)*11+7,none⟩=false:=ia.frozen _;have f8:w3.frozen? ⟨g,(i+1)*11+8,none⟩=false:=ia.frozen _;have f9:w3.frozen? ⟨g,(i+1)*11+9,none⟩=false:=ia.frozen _;have f10:w3.frozen? ⟨g,(i+1)*11+10,none⟩=false:=ia.frozen _;go_upto_region 9 with fail;change Code.wp Tryz.prog _ _ _ (setRow w3 g ((i+1)*11) (run[i].row (.slice qa run[i].asks.length da) (.slice qs run[i].sent.length ds)));generalize Tu:setRow w3 g ((i+1)*11) (run[i].row (.slice qa run[i].asks.length da) (.slice qs run[i].sent.length ds))=w4;have mg:Below w.heap.size w w4:=Tu▸ahQ cy hg _;have JE:az w4 g (gQ rE ((i+1)*11) (run[i].row (.slice qa run[i].asks.length da) (.slice qs run[i].sent.length ds))):=Tu▸ahP ia _;clear Tu;clear x0 z0 f0 x1 z1 f1 x2 z2 f2 x3 z3 f3 x4 z4 f4 x5 z5 f5 x6 z6 f6 x7 z7 f7 x8 z8 f8 x9 z9 f9 x10 z10 f10;go_wp2_with fail;go_ret2;rw[fK] at hsz oX;rw[<-Hc3.out] at JE
  have avA:eb w run (cur.toList.take (run.length*11)):=by rw[oX];exact wC.out
  have nN:=avw (cap:=cap) hi aa hsz avA dy dk oh om JE mg;refine⟨_,0,rfl,mg,.inl ⟨rfl,_,?_,avt run i hi Hd.out⟩⟩
  (try rw[fK])
  exact nN
end
section
open Go.RowKit
theorem avB (l:List Int)(run:List af)(vl v:Value)(w:World)(hl:dZ w vl l)(hr:∀x∈l,yj x)(hrun:bU w v run)(hm:run.length<=1000):
  Calls Tryz.prog 6 #[v,vl] w fun e w'=>∃u run',e=.returned u/\bU w' u run'/\cr run run'/\Below w.heap.size w w':=by
 obtain⟨ka,ca,rfl,ft⟩:=hl.open;obtain⟨kb,cb,rfl,gr⟩:=hrun.open;have Hr:=ab hr;clear hr;go_enter Tryz.func6,Tryz.ntmps6;go_wp2_with fail;go_loopw [0,5] (fun v i wr=>∃(k:Nat) (cur:List af),k<=l.length/\k<=40/\i=.int .i64 k/\bU wr v cur/\cr run cur/\Below w.heap.size w wr) (fun _ i _=>l.length-(intOf i).toNat)
 case atStart=>exact⟨0,run,aa,aa,rfl,hrun,cr.refl _,Below.refl _ _⟩
 case round=>
  obtain⟨k,cur,hk,axJ,rfl,oX,rF,hB⟩:=hrel
  have hlen:cur.length<=1000:=by rw[rF.length];exact hm
  obtain⟨kc,cc,rfl,hmc⟩:=oX.open;have zh:=ab rF;clear rF;by_cases hlt:k<l.length
  ·by_cases h40:k<40
   ·by_cases h1:1<cur.length
    ·obtain⟨x,hx⟩:∃x,l[k]? =some x:=⟨l[k],by simp[hlt]⟩
     obtain⟨Am,wm⟩:=Hr.out x (dJ hx);obtain⟨b,o,rfl,qF⟩:=(hl.kept hB av).at hx
     obtain⟨L1,hL1⟩:∃L1:Nat,cur.length=L1+1:=⟨cur.length-1,aa⟩
     have Kk:=aiJ x ((cur.length:Int)-1) aa
     obtain⟨nn,jb⟩:∃nn:Nat,around x ((cur.length:Int)-1)=nn:=⟨_,(Int.toNat_of_nonneg Kk.1).symm⟩
     have Ik:nn+1<cur.length:=aa;have avC:=ab (aiK x ((cur.length:Int)-1));have Hnn:=ab jb;have Hx:=ab hx;clear Kk jb hx hL1;go_wp2_with fail;refine(avC.out _ aa Am wm).mono ?_;rintro e w1 ⟨rfl,rfl⟩;rw[Hnn.out];go_wp2_with fail;refine(avz cur nn _ _ oX Ik aa).mono ?_;rintro e w2 ⟨u,c,rfl,bO,rZ⟩;have ahR:=hB.trans (bO.mono hB.size)
     rcases rZ with⟨rfl,run',oE,oB⟩|rfl
     ·obtain⟨ku,cu,rfl,hmu⟩:=oE.open;go_wp2_with fail;go_roundw
      case rel=>exact⟨k+1,run',aa,aa,by go_num,oE,zh.out.step oB,ahR⟩
      case measure=>simp[intOf];omega
     ·have avD:=oX.kept bO av;go_wp2_with fail;go_roundw
      case rel=>exact⟨k+1,cur,aa,aa,by go_num,avD,zh.out,ahR⟩
      case measure=>simp[intOf];omega
    ·go_wp2_with fail;go_ret
     first|exact⟨_,cur,rfl,oX,zh.out,hB⟩|exact⟨_,rfl,cur,oX,zh.out,hB⟩
   ·go_wp2_with fail;go_ret
    first|exact⟨_,cur,rfl,oX,zh.out,hB⟩|exact⟨_,rfl,cur,oX,zh.out,hB⟩
  ·go_wp2_with fail;go_ret
   first|exact⟨_,cur,rfl,oX,zh.out,hB⟩|exact⟨_,rfl,cur,oX,zh.out,hB⟩
end
namespace aq
open dL
def Tv (c:aL)(m:bm):Prop:=m.node=c.node/\m.handler=c.handler/\m.count=c.count/\m.copy=0
theorem avE {r r':Rr}{a:dF}(h:mn r a=some r'):r'.s.counts=r.s.counts/\r'.dA=r.dA/\∀e∈r'.sent,e∈r.sent\/Tv r.dA e.msg:=by
 unfold mn at h;split at h
 ·simp only[bz] at h;obtain⟨d,_,rfl⟩:=h;exact⟨rfl,rfl,fun e he=> .inl he⟩
 split at h
 ·simp only[bz] at h;obtain⟨d,_,rfl⟩:=h;exact⟨rfl,rfl,fun e he=> .inl he⟩
 split at h
 ·(cases h;exact⟨rfl,rfl,fun e he=> .inl he⟩)
 split at h
 ·(cases h;exact⟨rfl,rfl,fun e he=> .inl he⟩)
 split at h
 ·cases h;refine⟨rfl,rfl,fun e he=> ?_⟩
  rcases fA.1 he with he|he
  ·exact .inl he
  ·simp only[qx] at he;subst he;exact .inr ⟨rfl,rfl,rfl,rfl⟩
 split at h
 ·split at h
  ·(cases h;exact⟨rfl,rfl,fun e he=> .inl he⟩)
  ·(cases h;exact⟨rfl,rfl,fun e he=> .inl he⟩)
 split at h
 ·(cases h;exact⟨rfl,rfl,fun e he=> .inl he⟩)
 ·(cases h;exact⟨rfl,rfl,fun e he=> .inl he⟩)
theorem ahS:∀{l:List dF} {r r':Rr},ny r l=some r'->r'.s.counts=r.s.counts/\r'.dA=r.dA/\∀e∈r'.sent,e∈r.sent\/Tv r.dA e.msg
 |[],r,r',h=>by cases h;exact⟨rfl,rfl,fun e he=> .inl he⟩
 |a::l,r,r',h=>by
  unfold ny at h;split at h
  ·cases h
  ·rename_i r1 h1;obtain⟨a1,a2,a3⟩:=avE h1;obtain⟨b1,b2,b3⟩:=ahS h;refine⟨b1.trans a1,b2.trans a2,fun e he=> ?_⟩
   rcases b3 e he with h|h
   ·exact a3 e h
   ·exact .inr (by rwa[a2] at h)
def uK (s:Node)(self:Int)(s':Node)(sent:List Env):Prop:=∃(hd:Nat) (k:Int),s.counts[hd]? =some k/\s'.counts=s.counts.set hd (k+1)/\∀e∈sent,Tv ⟨self,hd,k⟩ e.msg
theorem ahT {s:Node}{p:Prog}{handler:Nat}{self nodes drift:Int}{names:List Int}{l:List bf}{r:Rr}(h:ky s p handler self nodes drift names l=some r):uK s self r.s r.sent:=by
 unfold ky at h;split at h
 ·cases h
 ·rename_i k hk;dsimp only at h;split at h
  ·cases h
  ·split at h
   ·cases h
   ·split at h
    ·obtain⟨h1,h2,h3⟩:=ahS h;refine⟨handler,k,hk,h1,fun e he=> ?_⟩
     rcases h3 e he with h|h
     ·simp at h
     ·exact h
    ·cases h
theorem avF {s:Node}{p:Prog}{version self nodes drift:Int}{l:List bf}{r:Rr}(h:sv s p version self nodes drift l=some r):uK s self r.s r.sent:=by
 unfold sv at h;split at h
 ·cases h
 ·split at h
  ·cases h
  ·obtain⟨hd,k,h1,h2,h3⟩:=ahT h;exact⟨hd,k,h1,h2,h3⟩
theorem avG {s:Node}{self:Int}{l:List bf}{r:Rr}(h:lC s self l=some r):uK s self r.s r.sent:=by
 unfold lC at h;split at h
 ·cases h
 ·rename_i k hk;simp only[bz] at h;obtain⟨d,_,rfl⟩:=h;exact⟨40,k,hk,rfl,fun e he=>by simp at he⟩
theorem ahU {w w':aE}{n:Nat}(h:tQ w n=some w'):w'.nodes=w.nodes/\w'.aX=w.aX:=by
 unfold tQ at h;split at h
 ·simp only[bz] at h;obtain⟨v,_,rfl⟩:=h;exact⟨rfl,rfl⟩
 ·cases h
theorem avH:∀(m l:List Env) (e:Env),e∈m.foldl gH l->e∈l\/e∈m:=Pd
theorem ahV {w w':aE}{n:Nat}{r:Rr}{wt:Int}(h:qX w n r wt=some w'):n<w.nodes.length/\w'.nodes=w.nodes.set n r.s/\∀e∈w'.aX,e∈w.aX\/e∈r.sent:=by
 unfold qX at h;split at h
 ·rename_i hn;split at h
  ·cases h
  ·obtain⟨h1,h2⟩:=ahU h;exact⟨hn,h1,fun e he=>by rw[h2] at he;exact avH _ _ e he⟩
 ·cases h
theorem Tw {w w':aE}{n:Nat}{handler:Int}{names:List Int}{l:List bf}{r:Rr}(h:nC w n handler names l=some (w',r)):
  ∃s,w.nodes[n]? =some s/\w'.nodes=w.nodes.set n r.s/\uK s n r.s r.sent/\∀e∈w'.aX,e∈w.aX\/e∈r.sent:=by
 unfold nC at h;split at h
 ·cases h
 ·rename_i s hs;split at h
  ·cases h
  ·split at h
   ·cases h
   ·split at h
    ·cases h
    ·rename_i r1 hr;simp only[bz] at h;obtain⟨w1,h1,h2⟩:=h;cases h2;obtain⟨_,a2,a3⟩:=ahV h1;exact⟨s,hs,a2,ahT hr,a3⟩
def ahW (s s':Node):Prop:=∀h:Nat,s.counts.getD h 0<=s'.counts.getD h 0
theorem uK.le {s s':Node}{self:Int}{sent:List Env}(h:uK s self s' sent):ahW s s':=fun j=>by
 obtain⟨hd,k,h1,h2,_⟩:=h;rw[h2];simp only[eu,vR];by_cases e:hd=j
 ·subst e;have hl:=(bk.1 h1).1;rw[if_pos rfl,if_pos hl,h1];simp only[Bo];omega
 ·rw[if_neg e];exact Int.le_refl _
theorem uK.sent {s s':Node}{self:Int}{sent:List Env}(h:uK s self s' sent):∀e∈sent,e.msg.node=self/\e.msg.copy=0/\0<=e.msg.handler/\s.counts.getD e.msg.handler.toNat 0=e.msg.count/\e.msg.count<s'.counts.getD e.msg.handler.toNat 0:=fun e he=>by
 obtain⟨hd,k,h1,h2,h3⟩:=h;obtain⟨b1,b2,b3,b4⟩:=h3 e he;have hl:=(bk.1 h1).1
 have hh:e.msg.handler.toNat=hd:=by rw[b2];exact iT hd
 refine⟨b1,b4,by rw[b2];exact Int.natCast_nonneg _,?_,?_⟩
 ·rw[hh,eu,h1,b3];rfl
 ·rw[hh,h2,b3,eu,vR,if_pos rfl,if_pos hl]
  show k<k+1
  omega
def sY (w:aE)(n h:Int):Int:=((w.nodes[n.toNat]?).map fun s=>s.counts.getD h.toNat 0).getD 0
def rG (w w':aE):Prop:=∀n h,sY w n h<=sY w' n h
theorem rG.refl (w:aE):rG w w:=fun _ _=>Int.le_refl _
theorem rG.trans {a b c:aE}(h:rG a b)(h2:rG b c):rG a c:=fun n k=>Int.le_trans (h n k) (h2 n k)
theorem ahX {w w':aE}{n:Nat}{s s':Node}(hs:w.nodes[n]? =some s)(h:w'.nodes=w.nodes.set n s')(hc:ahW s s'):rG w w':=fun m k=>by
 unfold sY;rw[h,vR];by_cases e:n=m.toNat
 ·subst e;have hl:=(bk.1 hs).1;rw[if_pos rfl,if_pos hl,hs];exact hc _
 ·rw[if_neg e];exact Int.le_refl _
theorem ahY {w:aE}{n:Nat}{s:Node}(hs:w.nodes[n]? =some s)(h:Int):sY w n h=s.counts.getD h.toNat 0:=by
 unfold sY;rw[iT,hs];rfl
theorem avI {w w':aE}{n:Nat}{s s':Node}(hs:w.nodes[n]? =some s)(h:w'.nodes=w.nodes.set n s')(k:Int):sY w' n k=s'.counts.getD k.toNat 0:=by
 refine ahY ?_ k;have hl:=(bk.1 hs).1;rw[h,vR,if_pos rfl,if_pos hl]
def DL (w:aE):Prop:=∀x∈w.aX,x.msg.count<sY w x.msg.node x.msg.handler
structure Kept (w w':aE)(node:Int)(out:List Env):Prop where
 ahZ:rG w w'
 sent:∀x∈out,x.msg.node=node/\x.msg.copy=0/\x.msg.count=sY w x.msg.node x.msg.handler/\x.msg.count<sY w' x.msg.node x.msg.handler
 aX:∀x∈w'.aX,(∃y∈w.aX,y.msg.node=x.msg.node/\y.msg.handler=x.msg.handler/\y.msg.count=x.msg.count)\/x∈out
theorem Kept.fl {w w':aE}{node:Int}{sent:List Env}(h:Kept w w' node sent)(hf:DL w):DL w':=fun x hx=>by
 rcases h.aX x hx with⟨y,hy,e1,e2,e3⟩|hx
 ·have h1:=hf y hy;have h2:=h.ahZ y.msg.node y.msg.handler;rw[<-e1,<-e2,<-e3];omega
 ·exact(h.sent x hx).2.2.2
theorem Kept.of {w w0 w':aE}{n:Nat}{s s0 s':Node}{sent:List Env}(hs:w.nodes[n]? =some s)(hc:s0.counts=s.counts)(h1:w'.nodes=w.nodes.set n s')(h2:uK s0 n s' sent)
  (h0:∀e∈w0.aX,e∈w.aX) (h3:∀e∈w'.aX,e∈w0.aX\/e∈sent):Kept w w' n sent:=by
 have Kl:uK s n s' sent:=by
  obtain⟨hd,k,g1,g2,g3⟩:=h2;exact⟨hd,k,by rw[<-hc];exact g1,by rw[<-hc];exact g2,g3⟩
 refine⟨ahX hs h1 Kl.le,fun x hx=> ?_,fun x hx=> ?_⟩
 ·obtain⟨a1,a2,a3,a4,a5⟩:=Kl.sent x hx;refine⟨a1,a2,?_,?_⟩
  ·rw[a1,ahY hs,a4]
  ·rw[a1,avI hs h1];exact a5
 ·rcases h3 x hx with h|h
  ·exact .inl ⟨x,h0 x h,rfl,rfl,rfl⟩
  ·exact .inr h
theorem aia {α:Type}(l:List α)(n:Nat)(a b:α):(l.set n a).set n b=l.set n b:=List.set_set ..
theorem aib {w:aE}{n:Nat}{s:Node}(hs:w.nodes[n]? =some s)(s1:Node):(w.nodes.set n s1)[n]? =some s1:=by
 rw[vR,if_pos rfl,if_pos (bk.1 hs).1]
theorem aic {w w':aE}{n:Nat}{s s':Node}(hs:w.nodes[n]? =some s)(hc:s'.counts=s.counts)(h1:w'.nodes=w.nodes.set n s')
  (h3:∀x∈w'.aX,∃y∈w.aX,y.msg.node=x.msg.node/\y.msg.handler=x.msg.handler/\y.msg.count=x.msg.count):Kept w w' n []:=
 ⟨ahX hs h1 (fun h=>by rw[hc];exact Int.le_refl _),fun x hx=>by simp at hx,fun x hx=> .inl (h3 x hx)⟩
theorem avJ {w w':aE}{e:Ev}{l:List bf}{r:Rr}(h:oH w e l=some (w',r)):Kept w w' e.node r.sent:=by
 unfold oH at h;split at h
 ·cases h
 ·rename_i h0
  obtain⟨n,hn⟩:∃n:Nat,e.node=n:=⟨e.node.toNat,aa⟩
  rw[hn] at h⊢;simp only[iT] at h;split at h
  ·cases h
  ·rename_i s hs;split at h
   ·split at h
    ·cases h
    ·split at h
     ·cases h
     ·split at h
      ·cases h
      ·rename_i r1 hr;simp only[bz] at h;obtain⟨w1,h1,h2⟩:=h;cases h2;obtain⟨_,a2,a3⟩:=ahV h1;exact Kept.of (w0:=w) hs rfl a2 (avF hr) (fun e he=>he) a3
   split at h
   ·split at h
    ·cases h
    ·split at h
     ·cases h
     ·split at h
      ·obtain⟨s1,b1,b2,b3,b4⟩:=Tw h;replace b1:(w.nodes.set n { s with waiting:=e.arg })[n]? =some s1:=b1;replace b2:w'.nodes=(w.nodes.set n { s with waiting:=e.arg }).set n r.s:=b2;rw[aib hs] at b1;rw[aia] at b2;cases b1;exact Kept.of (w0:=w) hs rfl b2 b3 (fun e he=>he) b4
      ·cases h
   split at h
   ·split at h
    ·cases h
    ·obtain⟨s1,b1,b2,b3,b4⟩:=Tw h;have b1:w.nodes[n]? =some s1:=b1;rw[hs] at b1;cases b1;exact Kept.of (w0:={ w with aX:=jz w.aX e.msg }) hs rfl b2 b3 (fun e he=>FT he) b4
   split at h
   ·obtain⟨s1,b1,b2,b3,b4⟩:=Tw h;replace b1:(w.nodes.set n { s with timers:=s.timers.filter fun t=>decide (t≠e.arg) })[n]? =some s1:=b1;replace b2:w'.nodes=(w.nodes.set n { s with timers:=s.timers.filter fun t=>decide (t≠e.arg) }).set n r.s:=b2;rw[aib hs] at b1;rw[aia] at b2;cases b1;exact Kept.of (w0:=w) hs rfl b2 b3 (fun e he=>he) b4
   split at h
   ·cases h;exact aic hs (s':={ s with dropped:=s.dropped+1 }) rfl rfl (fun x hx=>⟨x,FT hx,rfl,rfl,rfl⟩)
   split at h
   ·cases h;refine aic hs (s':={ s with cI:=s.cI+1 }) rfl rfl (fun x hx=> ?_);have hx:x∈lD w.aX e.msg (s.cI+1):=hx;unfold lD at hx;split at hx
    ·simp at hx
    ·rename_i y hy
     rcases Pc hx with hx|rfl
     ·exact⟨x,hx,rfl,rfl,rfl⟩
     ·exact⟨y,List.mem_of_find?_eq_some hy,rfl,rfl,rfl⟩
   ·split at h
    ·cases h
    ·rename_i r1 hr;simp only[bz] at h;obtain⟨w1,h1,h2⟩:=h;cases h2;obtain⟨a1,a2⟩:=ahU h1;exact Kept.of (w0:=w) hs rfl a1 (avG hr) (fun e he=>he) (fun e he=> .inl (by rw[a2] at he;exact he))
structure Tx (w:aE)(s:af):Prop where
 sent:∀m∈s.sent,m.count=sY w m.node m.handler
 cons:s.ev.kind=3\/s.ev.kind=5\/s.ev.kind=6->s.ev.msg.count<sY w s.ev.msg.node s.ev.msg.handler
theorem avK {w w':aE}{e:Ev}{l:List bf}{s:af}(h:gA w e l=some (some (w',s))):e∈enabled w/\∃w1 r,oH w e l=some (w1,r)/\w'={ w1 with steps:=w.steps+1 }/\s=⟨e,r.asks,decide (w.ax.length<w1.ax.length),r.sent.map Env.msg⟩:=by
 unfold gA at h;split at h
 ·cases h
 ·split at h
  ·rename_i he;simp only[bz] at h;obtain⟨⟨w1,r⟩,h1,h2⟩:=h;cases h2;exact⟨he,w1,r,h1,rfl,rfl⟩
  ·cases h
theorem aid {w w':aE}{e:Ev}{l:List bf}{s:af}(h:gA w e l=some (some (w',s)))(hf:DL w):rG w w'/\DL w'/\Tx w s:=by
 obtain⟨he,w1,r,h1,rfl,rfl⟩:=avK h;have hk:=avJ h1;refine⟨fun n k=>hk.ahZ n k,fun x hx=>hk.fl hf x hx,⟨fun m hm=> ?_,fun hc=> ?_⟩⟩
 ·simp only[fZ] at hm;obtain⟨x,hx,rfl⟩:=hm;exact(hk.sent x hx).2.2.1
 ·obtain⟨n,nd,hn,hE,Az⟩:=FQ he;dsimp only at hc
  rcases Az with⟨a,_⟩|⟨a,_⟩|⟨a,b,d⟩|⟨a,_⟩|⟨a,_⟩
  ·omega
  ·omega
  ·obtain⟨x,hx,hm,_⟩:=Pb d;have:=hf x hx;rw[hm] at this;exact this
  ·omega
  ·omega
inductive sZ:aE->List af->Prop
 |nil (w:aE):sZ w []
 |cons {w w':aE} {s:af} {l:List af}:Tx w s->rG w w'->sZ w' l->sZ w (s::l)
theorem sZ.mem {w:aE}{l:List af}(h:sZ w l):∀s∈l,∃w',rG w w'/\Tx w' s:=by
 induction h with
 |nil=>intro s hs;simp at hs
 |cons hf hg _ ih=>
  intro s hs
  rcases eM.1 hs with rfl|hs
  ·exact⟨_,rG.refl _,hf⟩
  ·obtain⟨w1,g1,g2⟩:=ih s hs;exact⟨w1,hg.trans g1,g2⟩
theorem avL (c:bR):DL (iO c):=fun x hx=>by simp[iO] at hx
theorem aie {w:aE}{e:Ev}:∀(f:Nat) (out:List af) (s:af) (cs:List af),wJ w e f out s=some cs->∀x∈cs,x∈out\/x=s\/∃l w',gA w e l=some (some (w',x))
 |0,_,_,_,h,x,hx=>by cases h
 |f+1,out,s,cs,h,x,hx=>by
  unfold wJ at h;split at h
  ·cases h
   rcases fA.1 hx with hx|hx
   ·exact .inl hx
   ·exact .inr (.inl (by simpa using hx))
  ·split at h
   ·rename_i w1 t ht
    rcases aie f _ t cs h x hx with hx|hx|hx
    ·rcases fA.1 hx with hx|hx
     ·exact .inl hx
     ·exact .inr (.inl (by simpa using hx))
    ·subst hx;exact .inr (.inr ⟨_,_,ht⟩)
    ·exact .inr (.inr hx)
   ·cases h
theorem avM {fuel:Nat}{w:aE}{e:Ev}{cs:List af}(h:wK fuel w e=some cs):∀x∈cs,∃l w',gA w e l=some (some (w',x)):=fun x hx=>by
 unfold wK at h;split at h
 ·cases h
 ·cases h;simp at hx
 ·rename_i w1 s hs
  rcases aie _ _ _ _ h x hx with h|h|h
  ·simp at h
  ·subst h;exact⟨_,_,hs⟩
  ·exact h
theorem aif {fuel:Nat}:∀(l:List Int) (w:aE) (oW run:List af) (w':aE),DL w->pP fuel l w oW=some (run,w')->∃t,run=oW++t/\sZ w t
 |[],w,oW,run,w',hf,h=>by
  unfold pP at h;cases h;exact⟨[],ae,.nil w⟩
 |x::l,w,oW,run,w',hf,h=>by
  unfold pP at h;dsimp only at h;split at h
  ·cases h;exact⟨[],ae,.nil w⟩
  ·rename_i e he;split at h
   ·cases h
   ·rename_i cs hcs;split at h
    ·cases h
    ·rename_i s hs;split at h
     ·rename_i w1 s1 hst;obtain⟨l2,w2,h2⟩:=avM hcs s (dJ hs);obtain⟨_,_,Ga⟩:=aid h2 hf;obtain⟨hg,Wi,_⟩:=aid hst hf;obtain⟨t,rfl,ht⟩:=aif l w1 (oW++[s]) run w' Wi h;exact⟨s::t,ae,.cons Ga hg ht⟩
     ·cases h
theorem aih {fuel:Nat}{c:bR}{l:List Int}{run:List af}{w':aE}(h:walk fuel c l=some (run,w')):sZ (iO c) run:=by
 unfold walk at h;obtain⟨t,rfl,ht⟩:=aif _ _ _ _ _ (avL c) h;simpa using ht
end aq
section
open Go.RowKit
theorem si.app {a b:List af}(ha:si a)(hb:si b)(h:a.length+b.length<=64):si (a++b):=
 ⟨by rw[List.length_append];exact h,fun s hs=>(fA.1 hs).elim (ha.asks s) (hb.asks s),fun s hs=>(fA.1 hs).elim (ha.sent s) (hb.sent s)⟩
end
section
open Go.RowKit
theorem u64_in (n:Int)(h:0<=n/\n<18446744073709551616):IntKind.u64.wrap n=n:=by
 have e:IntKind.u64.wrap n=n%18446744073709551616:=by rw[IntKind.wrap_u64]
 rw[e];exact Int.emod_eq_of_lt h.1 h.2
end
section
open Go.RowKit
structure KW (w0:World)(B gS:Nat)(cs:Array Value)(W:World)(v:Value)(xs:List Int):Prop where
 own:W.ownsRow B 3 1 v xs.length (iv xs)
 im:az W gS cs
 ne:v.ownBlock≠some gS
 le:B<=W.heap.size
 uM:Below B w0 W
theorem KW.drew {w0:World}{B gS:Nat}{cs:Array Value}{W:World}{v:Value}{xs:List Int}(h:KW w0 B gS cs W v xs):KW w0 B gS cs W.drew v xs:=⟨h.own,h.im.drew,h.ne,h.le,h.uM.drew⟩
theorem KW.alloc {w0:World}{B gS:Nat}{cs:Array Value}{W:World}{v:Value}{xs:List Int}(h:KW w0 B gS cs W v xs)(o:Obj):KW w0 B gS cs (W.alloc o) v xs:=
 ⟨h.own.alloc o,h.im.alloc o,h.ne,by have:=h.le;rw[rI];omega,h.uM.alloc h.le o⟩
theorem KW.call {w0:World}{B gS:Nat}{cs:Array Value}{W W':World}{v:Value}{xs:List Int}(h:KW w0 B gS cs W v xs)(hB:Below W.heap.size W W'):KW w0 B gS cs W' v xs:=
 ⟨zA h.own hB,h.im.kept hB h.im.lt,h.ne,Nat.le_trans h.le hB.size,h.uM.trans (hB.mono h.le)⟩
theorem KW.app {w0:World}{B gS:Nat}{cs:Array Value}{W W':World}{v:Value}{xs:List Int}(h:KW w0 B gS cs W v xs){g cap m:Nat}{ys:List Int}(hm:ys.length=m)(hg:v.ownBlock=some g\/g=W.heap.size)
  (ho:W'.ownsRow B 3 1 (.slice (some ⟨g,0,none⟩) (xs.length+m) cap) (xs.length+m) (iv xs++iv ys)) (jq:W.grownBy W' v.ownBlock) (hB:Below B W W'):KW w0 B gS cs W' (.slice (some ⟨g,0,none⟩) (xs.length+m) cap) (xs++ys):=by
 refine⟨?_,h.im.grown jq h.ne,fun e=> ?_,Nat.le_trans h.le hB.size,h.uM.trans hB⟩
 ·have e1:(xs++ys).length=xs.length+m:=by rw[List.length_append,hm]
  have e2:iv (xs++ys)=iv xs++iv ys:=by simp[iv]
  rw[e1,e2];exact ho
 ·have e':g=gS:=by simpa [Value.ownBlock] using e
  subst e'
  rcases hg with h1|h1
  ·exact h.ne h1
  ·have:=h.im.lt;omega
theorem NF.len {l m:List af}(h:NF l m):m.length=l.length:=by
 induction h with
 |nil=>rfl
 |cons l m p s hs _ _ ih=>
  have hp:=(bk.1 hs).1;rw[List.length_cons,ih,List.length_eraseIdx,if_pos hp];omega
theorem NF.mem {l m:List af}(h:NF l m):∀s∈m,s∈l:=by
 induction h with
 |nil=>intro s h;exact h
 |cons l m p s hs _ _ ih=>
  intro t ht
  rcases eM.1 ht with rfl|h
  ·exact dJ hs
  ·exact List.mem_of_mem_eraseIdx (ih t h)
end
section
open Go.RowKit
theorem bU.row {w:World}{a:Option Addr}{n c:Nat}{l:List af}(h:bU w (.slice a n c) l){i:Nat}{s:af}(hi:l[i]? =some s):
  ∃b o qa ca qs cs,a=some ⟨b,o,none⟩/\fk w (.slice qa s.asks.length ca) s.asks/\fm w (.slice qs s.sent.length cs) s.sent/\w.rangeAt b (o+i*11) [I s.ev.kind,I s.ev.node,I s.ev.arg,I s.ev.msg.node,I s.ev.msg.handler,I s.ev.msg.count,I s.ev.msg.index,I s.ev.msg.copy,.slice qa s.asks.length ca,.bool s.ax,.slice qs s.sent.length cs]:=by
 obtain⟨xs,h1,h2⟩:=h;obtain⟨va,vs,g1,g2,g3⟩:=h1.at hi;have hlt:=(bk.1 hi).1;obtain⟨b,o,ha,hc⟩:=h2.cells (by rw[h1.length];omega);obtain⟨qa,ca,rfl,_⟩:=g1.open;obtain⟨qs,cs,rfl,_⟩:=g2.open;refine⟨b,o,qa,ca,qs,cs,ha,g1,g2,fun j u hu=> ?_⟩;have:=hc _ u (g3 j u hu);rwa[<-Nat.add_assoc] at this
section
variable {ops:Array Oper} {Q:Exit->Act->World->Prop} {S:World->Prop}
end
end
section
open Go.RowKit
structure GR (w wr:World)(vo:Value)(l:List af)(xs:List Value)(P:Nat->Prop):Prop where
 oo:wr.ownsRow w.heap.size 67 11 vo l.length xs
 sc:gT P wr l xs
 pl:∀b,P b->b<wr.heap.size/\vo.ownBlock≠some b
 be:Below w.heap.size w wr
theorem GR.start (w:World):GR w w (.slice none 0 0) [] [] (fun _=>False):=⟨lf _ _ _ _,rfl,fun _ h=>h.elim,Below.refl _ _⟩
theorem GR.next {w wr w3 w4:World}{vo yh va vs:Value}{l:List af}{s:af}{xs:List Value}{P:Nat->Prop}(hR:GR w wr vo l xs P)(h13:Below wr.heap.size wr w3)
  (dy:w3.ownsRow wr.heap.size 100 7 va s.asks.length (s.asks.flatMap Ask.cells)) (dk:w3.ownsRow wr.heap.size 61 5 vs s.sent.length (s.sent.flatMap bm.cells))
  (ho:w4.ownsRow w.heap.size 67 11 yh (l.length+1) (xs++s.row va vs)) (jq:w3.grownBy w4 vo.ownBlock) (hn:∀b,yh.ownBlock=some b->vo.ownBlock=some b\/b=w3.heap.size) (hb:Below w.heap.size w3 w4):
  ∃P',GR w w4 yh (l++[s]) (xs++s.row va vs) P':=by
 have hz:=h13.size;have xp:=hR.be.size
 have ng:∀b,vo.ownBlock=some b->b<wr.heap.size:=fun b hb=>(hR.oo.lt b hb).2
 have hS:cE (fun b=>b<w3.heap.size/\vo.ownBlock≠some b) w3 w4:=cE.grown jq fun b hb=>⟨hb.1,fun e=>hb.2 e.symm⟩
 refine⟨fun b=>P b\/va.ownBlock=some b\/vs.ownBlock=some b,by rw[List.length_append];exact ho,?_,?_,(hR.be.trans (h13.mono xp)).trans hb⟩
 ·have h1:=(hR.sc.kept (cE.below h13 fun b hb=>(hR.pl b hb).1)).kept (hS.ox fun b hb=>⟨jm (hR.pl b hb).1 hz,(hR.pl b hb).2⟩)
  have ha:=hS.own dy fun b hb=>⟨(dy.lt b hb).2,fun e=>by have:=ng b e;have:=(dy.lt b hb).1;omega⟩
  have hs:=hS.own dk fun b hb=>⟨(dk.lt b hb).2,fun e=>by have:=ng b e;have:=(dk.lt b hb).1;omega⟩
  exact(h1.ox fun b hb=> .inl hb).snoc (s:=s) ⟨Flat.iU ha,IK ha fun b hb=> .inr (.inl hb)⟩ ⟨Flat.iU hs,IK hs fun b hb=> .inr (.inr hb)⟩
 ·have h4:=jq.size;intro b hb
  rcases hb with hb|hb|hb
  ·have h1:=hR.pl b hb
   exact⟨aa,fun e=>by
    rcases hn b e with h2|h2
    ·exact h1.2 h2
    ·omega⟩
  ·have h1:=dy.lt b hb
   exact⟨aa,fun e=>by
    rcases hn b e with h2|h2
    ·have:=ng b h2;omega
    ·omega⟩
  ·have h1:=dk.lt b hb
   exact⟨aa,fun e=>by
    rcases hn b e with h2|h2
    ·have:=ng b h2;omega
    ·omega⟩
theorem GR.sl {w wr:World}{vo:Value}{l:List af}{xs:List Value}{P:Nat->Prop}(h:GR w wr vo l xs P):bU wr vo l:=⟨xs,h.sc.cells,Flat.iU h.oo⟩
theorem GR.row {w wr:World}{vo:Value}{l:List af}{xs:List Value}{P:Nat->Prop}{g:Nat}{cur:Array Value}(h:GR w wr vo l xs P)(eN:az wr g cur)(oX:cur.toList.take (l.length*11)=xs){i:Nat}{s:af}(hi:l[i]? =some s):
  ∃qa ca qs cs,(fk wr (.slice qa s.asks.length ca) s.asks/\kJ P (.slice qa s.asks.length ca))/\(fm wr (.slice qs s.sent.length cs) s.sent/\kJ P (.slice qs s.sent.length cs))/\wr.rangeAt g (i*11) [I s.ev.kind,I s.ev.node,I s.ev.arg,I s.ev.msg.node,I s.ev.msg.handler,I s.ev.msg.count,I s.ev.msg.index,I s.ev.msg.copy,.slice qa s.asks.length ca,.bool s.ax,.slice qs s.sent.length cs]:=by
 obtain⟨va,vs,g1,g2,g3⟩:=h.sc.at hi;have hlt:=(bk.1 hi).1;obtain⟨qa,ca,rfl,_⟩:=g1.1.open;obtain⟨qs,cs,rfl,_⟩:=g2.1.open;refine⟨qa,ca,qs,cs,g1,g2,fun j u hu=> ?_⟩;have hj:j<11:=(bk.1 hu).1;have:=g3 j u hu;rw[<-oX,xu aa,Array.getElem?_toList] at this;rw[eN.cell];exact this
section
variable {ops:Array Oper} {Q:Exit->Act->World->Prop} {S:World->Prop}
end
end
section
open Go.RowKit
theorem Sw.cons {l m:List af}(h:Sw l m)(s:af):Sw (s::l) (s::m):=by
 obtain⟨A,x,y,B,rfl,rfl,h⟩:=h;exact⟨s::A,x,y,B,rfl,rfl,h⟩
theorem cr.cons {l m:List af}(h:cr l m)(s:af):cr (s::l) (s::m):=by
 induction h with
 |refl=>exact cr.refl _
 |step _ h2 ih=>exact cr.step ih (h2.cons s)
theorem cr.trans {l m n:List af}(h:cr l m)(h2:cr m n):cr l n:=by
 induction h2 with
 |refl=>exact h
 |step _ h3 ih=>exact cr.step ih h3
theorem cr.front:∀(A:List af) (s:af) (B:List af),(∀a∈A,bP a s=false)->cr (A++s::B) (s::(A++B))
 |[],_,_,_=>cr.refl _
 |a::A,s,B,h=>by
  have h1:=(cr.front A s B (fun x hx=>h x (zm _ hx))).cons a;exact cr.step h1 ⟨[],a,s,A++B,rfl,rfl,h a (xz)⟩
theorem NF.Lx {l m:List af}(h:NF l m):cr l m:=by
 induction h with
 |nil=>exact cr.refl _
 |cons l m p s hs hp _ ih=>
  obtain⟨hl,he⟩:=bk.1 hs
  have hsp:l=l.take p++s::l.drop (p+1):=by
   rw[<-he,<-List.drop_eq_getElem_cons hl,List.take_append_drop]
  have hf:∀a∈l.take p,bP a s=false:=by
   intro a ha;obtain⟨q,hq⟩:=qu ha
   have DI:q<p:=by
    have:=(bk.1 hq).1;rw[eo] at this;omega
   rw[xu DI] at hq;exact hp.1.2 q a s DI hq hs
  have h1:=cr.front (l.take p) s (l.drop (p+1)) hf;rw[<-hsp,<-List.eraseIdx_eq_take_drop_succ] at h1;exact h1.trans (ih.cons s)
end
namespace aq
open dL
def zi (l:List af):Prop:=l.Pairwise fun a b=>bI b a=false
theorem Ll {b a:af}(h:bI b a=true):(a.ev.kind=3\/a.ev.kind=5\/a.ev.kind=6)/\∃m∈b.sent,m.copy=0/\m.node=a.ev.msg.node/\m.handler=a.ev.msg.handler/\m.count=a.ev.msg.count/\m.index=a.ev.msg.index:=by
 unfold bI at h;simp only[bN,og,xE,qy] at h;obtain⟨h1,m,hm,⟨⟨⟨h2,h3⟩,h4⟩,h5⟩,h6⟩:=h;exact⟨aa,m,hm,h2,h3,h4,h5,h6⟩
theorem sZ.late {w:aE}{l:List af}(h:sZ w l):zi l:=by
 unfold zi
 induction h with
 |nil=>exact List.Pairwise.nil
 |@cons w w' s l hf hg hl ih=>
  refine List.Pairwise.cons (fun b hb=> ?_) ih
  cases e:bI b s with
  |false=>rfl
  |true=>
   exfalso;obtain⟨hk,m,hm,_,h3,h4,h5,_⟩:=Ll e;obtain⟨w2,g1,g2⟩:=hl.mem b hb;have c1:=hf.cons hk;have c2:=g2.sent m hm;have c3:=(hg.trans g1) m.node m.handler;rw[<-h3,<-h4,<-h5] at c1;omega
theorem aii {p:af->Bool}{s:af}{l m:List af}(h:(s::l).filter p=(s::m).filter p):l.filter p=m.filter p:=by
 rw[oe,oe] at h;split at h
 ·exact(List.cons.inj h).2
 ·exact h
theorem aij:∀(a b:List af),zi a->zi b->(∀n:Int,(a.filter fun s=>s.ev.node==n)=b.filter fun s=>s.ev.node==n)->(a.filter fun s=>s.ax)=(b.filter fun s=>s.ax)->cr b a
 |[],b,_,_,hn,_=>by
  cases b with
  |nil=>exact cr.refl _
  |cons s b=>
   have:=hn s.ev.node;simp at this
 |s::a,b,la,lb,hn,ho=>by
  have h1:=hn s.ev.node;rw[oe,if_pos ae] at h1;obtain⟨A,B,rfl,hA,_,hB⟩:=List.filter_eq_cons_iff.1 h1.symm
  have jh:∀x∈A,x.ev.node≠s.ev.node:=fun x hx e=>hA x hx (by simp[e])
  have qN:∀x,x∈A++s::B->x∈s::a:=fun x hx=>by
   have h2:=hn x.ev.node
   have h3:x∈(A++s::B).filter fun t=>t.ev.node==x.ev.node:=jG.2 ⟨hx,ae⟩
   rw[<-h2] at h3;exact(jG.1 h3).1
  have py:∀x∈A,bP x s=false:=fun x hx=>by
   have hne:=jh x hx
   have f1:bI s x=false:=by
    have:=(List.pairwise_append.1 lb).2.2 x hx s xz;exact this
   have f2:bI x s=false:=by
    have DM:x∈s::a:=qN x (DO _ hx)
    rcases eM.1 DM with rfl|DM
    ·exact absurd rfl hne
    ·exact(List.pairwise_cons.1 la).1 x DM
   have f3:(x.ax && s.ax)=false:=by
    cases hb:(x.ax && s.ax) with
    |false=>rfl
    |true=>
     exfalso;rw[bN] at hb;rw[oe,if_pos hb.2,fY] at ho
     have Ly:x∈A.filter fun s=>s.ax:=jG.2 ⟨hx,hb.1⟩
     cases hf:A.filter fun s=>s.ax with
     |nil=>rw[hf] at Ly;simp at Ly
     |cons y t=>
      rw[hf] at ho;have hy:s=y:=(List.cons.inj ho).1
      have:y∈A.filter fun s=>s.ax:=by rw[hf];exact xz
      exact jh y (jG.1 this).1 (by rw[hy])
   unfold bP;rw[f1,f2,f3];simp[hne]
  have rF:=cr.front A s B py;have ik:List.Sublist (A++B) (A++s::B):=List.Sublist.append (List.Sublist.refl A) (List.sublist_cons_self s B)
  have ih:=aij a (A++B) (List.pairwise_cons.1 la).2 (lb.sublist ik)
   (fun n=>aii (s:=s) ((hn n).trans (rF.node n).symm))
   (aii (s:=s) (ho.trans rF.ax.symm))
  exact rF.trans (ih.cons s)
def KU (a b:List af):Prop:=(∀k:Nat,k<12->(a.filter fun s=>s.ev.node==(k:Int))=b.filter fun s=>s.ev.node==(k:Int))/\(a.filter fun s=>s.ax)=b.filter fun s=>s.ax
theorem cr.Ty {a b:List af}(h:cr a b):KU a b:=⟨fun k _=>(h.node k).symm,h.ax.symm⟩
theorem avN {a b:List af}(la:zi a)(lb:zi b)(ha:∀s∈a,0<=s.ev.node/\s.ev.node<=11)(hb:∀s∈b,0<=s.ev.node/\s.ev.node<=11)(h:KU a b):cr b a:=by
 refine aij a b la lb (fun n=> ?_) h.2;by_cases hn:0<=n/\n<12
 ·obtain⟨k,rfl⟩:∃k:Nat,n=k:=⟨n.toNat,aa⟩
  exact h.1 k aa
 ·have e:∀l:List af,(∀s∈l,0<=s.ev.node/\s.ev.node<=11)->(l.filter fun s=>s.ev.node==n)=[]:=fun l hl=>List.filter_eq_nil_iff.2 fun s hs=>by
   have:=hl s hs;simp only[xE];omega
  rw[e a ha,e b hb]
end aq
section
open Go.RowKit
def qp (l:List af)(n:Int):List af:=l.filter fun s=>s.ev.node==n
def GI (l:List af):List af:=l.filter fun s=>s.ax
def tc (a b:List af):Bool:=(List.range 12).all (fun k=>decide (qp a k=qp b k)) && decide (GI a=GI b)
theorem KV (a b:List af):tc a b=true↔aq.KU a b:=by
 unfold tc aq.KU qp GI;simp only[bN,dY,eF,dv]
theorem avO (a b:List af){k:Nat}(hk:k<12)(h:¬qp a k=qp b k):tc a b=false:=by
 cases e:tc a b with
 |false=>rfl
 |true=>exact absurd (((KV a b).1 e).1 k hk) h
theorem aik (a b:List af)(va vb:Value)(w:World)(ha:bU w va a)(hb:bU w vb b)(mS:a.length<=1000000)(GH:b.length<=1000000):
  Calls Tryz.prog 8 #[va,vb] w fun e w'=>e=.returned (.bool (tc a b))/\Below w.heap.size w w':=by
 obtain⟨ka,ca,rfl,ft⟩:=ha.open;obtain⟨kb,cb,rfl,gr⟩:=hb.open;go_enter Tryz.func8,Tryz.ntmps8;go_wp2_with fail;go_loopw [5] (fun i wr=>∃k:Nat,k<=12/\i=.int .i64 k/\Hid (∀j,j<k->qp a j=qp b j)/\Below w.heap.size w wr) (fun i _=>12-(intOf i).toNat)
 case atStart=>exact⟨0,aa,rfl,ab (fun j hj=>aa),Below.refl _ _⟩
 case round=>
  obtain⟨k,hk,rfl,Hj,hB⟩:=hrel;by_cases hlt:k<12
  ·go_wp2_with fail;refine(Uk a k _ _ (ha.kept hB av) mS).mono ?_;rintro e w2 ⟨x1,rfl,Am,bO⟩;have Be:=hB.trans (bO.mono hB.size);go_wp2_with fail;refine(Uk b k _ _ (hb.kept Be av) GH).mono ?_;rintro e w3 ⟨y1,rfl,Iz,cy⟩;have GJ:=Be.trans (cy.mono Be.size);go_wp2_with fail;refine(TZ _ _ _ _ _ (Am.kept cy av) Iz).mono ?_;rintro e w4 ⟨rfl,mg⟩;have KX:=GJ.trans (mg.mono GJ.size);have hd:decide ((a.filter fun s=>s.ev.node==(k:Int))=b.filter fun s=>s.ev.node==(k:Int))=decide (qp a k=qp b k):=rfl;rw[hd];by_cases hq:qp a k=qp b k
   ·rw[ll hq]
    have Hj':=ab (show∀j,j<k+1->qp a j=qp b j from fun j hj=>by
     rcases Nat.lt_or_ge j k with h|h
     ·exact Hj.out j h
     ·obtain rfl:j=k:=aa
      exact hq)
    clear hq hd;go_wp2_with fail;go_roundw
    case rel=>exact⟨k+1,aa,by go_num,Hj',KX⟩
    case measure=>simp[intOf];omega
   ·have hno:=avO a b hlt hq;rw[pg hq];clear hq hd;go_wp2_with fail;go_ret;exact⟨by rw[hno];rfl,KX⟩
  ·have avP:k=12:=aa
   have gu:tc a b=decide (GI a=GI b):=by
    unfold tc;rw[dY.2 (fun j hj=>ll (Hj.out j (by have:=eF.1 hj;omega)))];rfl
   have avQ:=ab gu;clear gu avP;go_wp2_with fail;refine(Ul a _ _ (ha.kept hB av) mS).mono ?_;rintro e w2 ⟨x1,rfl,Am,bO⟩;have Be:=hB.trans (bO.mono hB.size);go_wp2_with fail;refine(Ul b _ _ (hb.kept Be av) GH).mono ?_;rintro e w3 ⟨y1,rfl,Iz,cy⟩;have GJ:=Be.trans (cy.mono Be.size);go_wp2_with fail;refine(TZ _ _ _ _ _ (Am.kept cy av) Iz).mono ?_;rintro e w4 ⟨rfl,mg⟩;have KX:=GJ.trans (mg.mono GJ.size);go_wp2_with fail;go_ret;exact⟨by rw[avQ.out];rfl,KX⟩
end
section
open Go Go.RowKit
theorem ail {w:World}{l:List Int}{k:Option Addr}{c:Nat}(h:dZ w (.slice k l.length c) l)(hc:l.length<=c):Ab.WI w (fun _=>False) (.c (Ab.ints l)) (.slice k l.length c):=
 ⟨rfl,(Ab.apt h hc).zQ (S:=fun _=> .dead 0) (G:=fun _=>Ab.gh 0) (H:=fun _=>undef)⟩
theorem Tz {w w':World}{x:Ab.AW}{v:Value}(h:Ab.WI w (fun _=>False) x v)(hB:Below w.heap.size w w'):Ab.WI w' (fun _=>False) x v:=by
 have key:∀(y:Ab.AC) (u:Value),Ab.inl y=true->Ab.CR w (fun _=>False) (fun _=> .dead 0) (fun _=>Ab.gh 0) (fun _=>undef) y u->Ab.CR w' (fun _=>False) (fun _=> .dead 0) (fun _=>Ab.gh 0) (fun _=>undef) y u:=fun y u hi hr=>
  (Ab.IR.mono (hr.ir hi) hB.size (fun _ _ h=>h) (fun b hb _=>hB.block b hb)).zQ
 obtain⟨hi,hr⟩:=h;refine⟨hi,?_⟩
 cases x with
 |c y=>exact key y v (by simpa [Ab.AW.inl,Ab.AW.cells] using hi) hr
 |agg cs=>
  obtain⟨arr,e,h1,h2⟩:=hr;have hi':∀y∈cs,Ab.inl y=true:=dY.1 (by simpa [Ab.AW.inl,Ab.AW.cells] using hi);exact⟨arr,e,h1,fun j y u h3 h4=>key y u (hi' y (dJ h3)) (h2 j y u h3 h4)⟩
theorem avR {l:List Int}{k:Option Addr}{c:Nat}{w:World}(h:dZ w (.slice k l.length c) l)(hc:l.length<=c)(hi:∀x∈l,yj x){cf:aq.bR}(e1:aq.config l=some cf):
  Calls Tryz.prog 4 #[.slice k l.length c] w fun e w'=>∃v,e=.returned v/\Ab.WI w' (fun _=>False) (.agg (Ab.mH cf)) v/\Below w.heap.size w w':=by
 have hA:=Ab.auW l cf e1 hi h.2.1;refine(hA (fun _=>False) w [.slice k l.length c] (fun b hb=>hb.elim) rfl (fun i x v hx hv=> ?_)).mono ?_
 ·match i,hx,hv with
  |0,hx,hv=>
   simp only[Bg,ar] at hx hv;subst hx hv;exact ail h hc
  |i+1,hx,hv=>simp at hx
 ·rintro e w' ⟨v,r,rfl,rfl,hV,hF⟩;exact⟨v,rfl,hV,Ab.Fr.below hF⟩
theorem aim {cf:aq.bR}(mL:aq.fy cf){l:List Int}{k:Option Addr}{c:Nat}{v:Value}{w:World}(h:dZ w (.slice k l.length c) l)(hc:l.length<=c)(hi:∀x∈l,yj x)(hv:Ab.WI w (fun _=>False) (.agg (Ab.mH cf)) v)
  {run:List af} {wf:aq.aE} (e2:aq.walk 256 cf l=some (run,wf)):
  Calls Tryz.prog 5 #[v,.slice k l.length c] w fun e w'=>∃u x,e=.returned (.tuple #[u,x])/\bU w' u run/\Ab.WI w' (fun _=>False) (.agg (Ab.er wf)) x/\Below w.heap.size w w':=by
 have hA:=Ab.avd mL hi h.2.1 e2;refine(hA (fun _=>False) w [v,.slice k l.length c] (fun b hb=>hb.elim) rfl (fun i x u hx hv'=> ?_)).mono ?_
 ·match i,hx,hv' with
  |0,hx,hv'=>
   simp only[Bg,ar] at hx hv';subst hx hv';exact hv
  |1,hx,hv'=>
   simp only[Hk,Bg,ar] at hx hv';subst hx hv';exact ail h hc
  |i+2,hx,hv'=>simp at hx
 ·rintro e w' ⟨z,r,rfl,rfl,⟨arr,rfl,hlen,hV⟩,hF⟩
  match arr,hlen,hV with
  |[u,x],_,hV=>
   have h0:=hV 0 _ u rfl rfl;exact⟨u,x,rfl,Ab.apx (show Ab.IR w' (fun _=>False) (Ab.JS run) u from Ab.CR.ir (S:=fun _=> .dead 0) (G:=fun _=>Ab.gh 0) (H:=fun _=>undef) h0.2 rfl),hV 1 _ x rfl rfl,Ab.Fr.below hF⟩
theorem avS {w:World}{cf:aq.bR}{v:Value}(h:Ab.WI w (fun _=>False) (.agg (Ab.mH cf)) v):
  ∃(f0 f1 f2 f3:Option Addr) (n0 d0 n1 d1 n2 d2 n3 d3:Nat),v=.agg #[.slice f0 n0 d0,.slice f1 n1 d1,.slice f2 n2 d2,.slice f3 n3 d3,I cf.mr,I cf.jA,I cf.kz,I cf.drift]:=by
 obtain⟨_,arr,rfl,hlen,hc⟩:=h
 match arr,hlen,hc with
 |[u0,u1,u2,u3,u4,u5,u6,u7],_,hc=>
  have sl:∀(es:List (List Ab.AC)) (u:Value),Ab.IR w (fun _=>False) (.sl es) u->∃a n c,u=.slice a n c:=fun es u h=>by cases h;exact⟨_,_,_,rfl⟩
  have at_:∀(j:Nat) (x:Ab.AC) (u:Value),(Ab.mH cf)[j]? =some x->[u0,u1,u2,u3,u4,u5,u6,u7][j]? =some u->Ab.inl x=true->Ab.IR w (fun _=>False) x u:=fun j x u h1 h2 h3=>Ab.CR.ir (hc j x u h1 h2) h3
  obtain⟨f0,n0,d0,rfl⟩:=sl _ _ (at_ 0 _ _ rfl rfl rfl);obtain⟨f1,n1,d1,rfl⟩:=sl _ _ (at_ 1 _ _ rfl rfl rfl);obtain⟨f2,n2,d2,rfl⟩:=sl _ _ (at_ 2 _ _ rfl rfl rfl);obtain⟨f3,n3,d3,rfl⟩:=sl _ _ (at_ 3 _ _ rfl rfl rfl);obtain rfl:=Ab.kX (at_ 4 _ _ rfl rfl rfl);obtain rfl:=Ab.kX (at_ 5 _ _ rfl rfl rfl);obtain rfl:=Ab.kX (at_ 6 _ _ rfl rfl rfl);obtain rfl:=Ab.kX (at_ 7 _ _ rfl rfl rfl);exact⟨f0,f1,f2,f3,n0,d0,n1,d1,n2,d2,n3,d3,rfl⟩
theorem ain {w:World}{wf:aq.aE}{v:Value}(h:Ab.WI w (fun _=>False) (.agg (Ab.er wf)) v):
  ∃(f0:Option Addr) (n0 d0:Nat) (f1:Option Addr) (n1 d1:Nat) (f2:Option Addr) (n2 d2:Nat) (f3:Option Addr) (n3 d3:Nat) (f8:Option Addr) (n8 d8:Nat) (f9:Option Addr) (n9 d9:Nat) (f10:Option Addr) (n10 d10:Nat) (f11:Option Addr) (n11 d11:Nat) (f12:Option Addr) (n12 d12:Nat) (f13:Option Addr) (n13 d13:Nat) (f14:Option Addr) (n14 d14:Nat) (z4:Int) (z5:Int) (z6:Int) (z7:Int) (z15:Int),v=.agg #[.slice f0 n0 d0,.slice f1 n1 d1,.slice f2 n2 d2,.slice f3 n3 d3,.int .i64 z4,.int .i64 z5,.int .i64 z6,.int .i64 z7,.slice f8 n8 d8,.slice f9 n9 d9,.slice f10 n10 d10,.slice f11 n11 d11,.slice f12 n12 d12,.slice f13 n13 d13,.slice f14 n14 d14,.int .i64 z15]:=by
 obtain⟨_,arr,rfl,hlen,hc⟩:=h
 match arr,hlen,hc with
 |[u0,u1,u2,u3,u4,u5,u6,u7,u8,u9,u10,u11,u12,u13,u14,u15],_,hc=>
  have sl:∀(es:List (List Ab.AC)) (u:Value),Ab.IR w (fun _=>False) (.sl es) u->∃a n c,u=.slice a n c:=fun es u h=>by cases h;exact⟨_,_,_,rfl⟩
  have at_:∀(j:Nat) (x:Ab.AC) (u:Value),(Ab.er wf)[j]? =some x->[u0,u1,u2,u3,u4,u5,u6,u7,u8,u9,u10,u11,u12,u13,u14,u15][j]? =some u->Ab.inl x=true->Ab.IR w (fun _=>False) x u:=fun j x u h1 h2 h3=>Ab.CR.ir (hc j x u h1 h2) h3
  obtain⟨f0,n0,d0,rfl⟩:=sl _ _ (at_ 0 _ _ rfl rfl rfl);obtain⟨f1,n1,d1,rfl⟩:=sl _ _ (at_ 1 _ _ rfl rfl rfl);obtain⟨f2,n2,d2,rfl⟩:=sl _ _ (at_ 2 _ _ rfl rfl rfl);obtain⟨f3,n3,d3,rfl⟩:=sl _ _ (at_ 3 _ _ rfl rfl rfl);obtain⟨f8,n8,d8,rfl⟩:=sl _ _ (at_ 8 _ _ rfl rfl rfl);obtain⟨f9,n9,d9,rfl⟩:=sl _ _ (at_ 9 _ _ rfl rfl rfl);obtain⟨f10,n10,d10,rfl⟩:=sl _ _ (at_ 10 _ _ rfl rfl rfl);obtain⟨f11,n11,d11,rfl⟩:=sl _ _ (at_ 11 _ _ rfl rfl rfl);obtain⟨f12,n12,d12,rfl⟩:=sl _ _ (at_ 12 _ _ rfl rfl rfl);obtain⟨f13,n13,d13,rfl⟩:=sl _ _ (at_ 13 _ _ rfl rfl rfl);obtain⟨f14,n14,d14,rfl⟩:=sl _ _ (at_ 14 _ _ rfl rfl rfl);obtain rfl:=Ab.kX (at_ 4 _ _ rfl rfl rfl);obtain rfl:=Ab.kX (at_ 5 _ _ rfl rfl rfl);obtain rfl:=Ab.kX (at_ 6 _ _ rfl rfl rfl);obtain rfl:=Ab.kX (at_ 7 _ _ rfl rfl rfl);obtain rfl:=Ab.kX (at_ 15 _ _ rfl rfl rfl);exact⟨f0,n0,d0,f1,n1,d1,f2,n2,d2,f3,n3,d3,f8,n8,d8,f9,n9,d9,f10,n10,d10,f11,n11,d11,f12,n12,d12,f13,n13,d13,f14,n14,d14,_,_,_,_,_,rfl⟩
theorem avT {a b:List af}(la:aq.zi a)(lb:aq.zi b)(ha:∀s∈a,0<=s.ev.node/\s.ev.node<=11)(hb:∀s∈b,0<=s.ev.node/\s.ev.node<=11):decide (ix a=ix b)=tc a b:=by
 cases e:tc a b with
 |true=>exact ll (cr.norm (aq.avN la lb ha hb ((KV a b).1 e)))
 |false=>
  refine pg fun h=> ?_
  have pa:=aq.cr.Ty (KQ a).Lx;have pb:=aq.cr.Ty (KQ b).Lx;rw[h] at pa;rw[(KV a b).2 ⟨fun k hk=>(pa.1 k hk).trans (pb.1 k hk).symm,pa.2.trans pb.2.symm⟩] at e;cases e
theorem avU {a d:List af}(h:cr a d):decide (ix a=ix d)=true/\tc a d=true:=
 ⟨ll (cr.norm h).symm,(KV a d).2 (aq.cr.Ty h)⟩
theorem avV (cl l ml sl:List Int)(k0 k1 k2:Option Addr)(c0 c1 c2:Nat)(v3:Value)(w:World)(h0:dZ w (.slice k0 cl.length c0) cl)(hl:dZ w (.slice k1 l.length c1) l)(hm:dZ w (.slice k2 ml.length c2) ml)(hs:dZ w v3 sl)(KJ:cl.length<=c0)(Ln:l.length<=c1)(UH:ml.length<=c2)(KL:∀x∈cl,yj x)(oE:∀x∈l,yj x)(oB:∀x∈ml,yj x)(Dz:∀x∈sl,yj x):
  Calls Tryz.prog 3 #[.slice k0 cl.length c0,.slice k1 l.length c1,.slice k2 ml.length c2,v3] w fun e w'=>e=.returned (.bool true)/\Below w.heap.size w w':=by
 obtain⟨cf,e1,mL⟩:=aq.aeJ cl;obtain⟨a,wa,e2,e3,e4⟩:=aq.adL mL l;obtain⟨b,wb,f2,f3,f4⟩:=aq.adL mL ml
 have Oi:si a:=⟨aa,fun s hs=>by obtain⟨k,_,h⟩:=e4 s hs;have:=h.uw;omega,fun s hs=>by obtain⟨k,_,h⟩:=e4 s hs;have:=h.FR;omega⟩
 have Oj:si b:=⟨aa,fun s hs=>by obtain⟨k,_,h⟩:=f4 s hs;have:=h.uw;omega,fun s hs=>by obtain⟨k,_,h⟩:=f4 s hs;have:=h.FR;omega⟩
 have Hag:=ab (avT (aq.sZ.late (aq.aih e2)) (aq.sZ.late (aq.aih f2)) (fun s hs=>by obtain⟨k,_,h⟩:=e4 s hs;exact⟨h.ev.1,h.ev.2.1⟩) (fun s hs=>by obtain⟨k,_,h⟩:=f4 s hs;exact⟨h.ev.1,h.ev.2.1⟩));have mS:a.length<=30:=aa;have GH:b.length<=30:=aa;have TF:=ab Oi;have VE:=ab Oj;have H0:=ab (avR h0 KJ KL e1);have Hwa:=ab (fun(w':World) (v:Value) (hk:dZ w' (.slice k1 l.length c1) l) (hv:Ab.WI w' (fun _=>False) (.agg (Ab.mH cf)) v)=>aim mL hk Ln oE hv e2);have Hwb:=ab (fun(w':World) (v:Value) (hk:dZ w' (.slice k2 ml.length c2) ml) (hv:Ab.WI w' (fun _=>False) (.agg (Ab.mH cf)) v)=>aim mL hk UH oB hv f2);have Hr3:=ab Dz;clear KL oE oB Dz e1 e2 e3 e4 f2 f3 f4 Oi Oj h0;go_enter Tryz.func3,Tryz.ntmps3;go_wp2_with fail;refine H0.out.mono ?_;rintro e w1 ⟨vc,rfl,TG,ay⟩;obtain⟨f0,f1,f2,f3,n0,d0,n1,d1,n2,d2,n3,d3,rfl⟩:=avS TG;have Ok:=ab TG;clear TG;have bH:=az.new w1 #[.slice f0 n0 d0,.slice f1 n1 d1,.slice f2 n2 d2,.slice f3 n3 d3,.int .i64 cf.mr,.int .i64 cf.jA,.int .i64 cf.kz,.int .i64 cf.drift] 26;have TH:Below w1.heap.size w1 (w1.alloc (.cells #[.slice f0 n0 d0,.slice f1 n1 d1,.slice f2 n2 d2,.slice f3 n3 d3,.int .i64 cf.mr,.int .i64 cf.jA,.int .i64 cf.kz,.int .i64 cf.drift] 26)):=(Below.refl _ _).alloc av _
 have Ol:w1.heap.size<(w1.alloc (.cells #[.slice f0 n0 d0,.slice f1 n1 d1,.slice f2 n2 d2,.slice f3 n3 d3,.int .i64 cf.mr,.int .i64 cf.jA,.int .i64 cf.kz,.int .i64 cf.drift] 26)).heap.size:=by rw[rI];omega
 have TI:=ab (Tz Ok.out TH);have TJ:=ay.trans (TH.mono ay.size);go_wp2_with fail;refine(Hwa.out _ _ (hl.kept TJ av) TI.out).mono ?_;rintro e w2 ⟨ua,xa,rfl,iu,DM,bO⟩;obtain⟨uN,uO,uP,uQ,uR,uT,uU,uW,uX,uY,uZ,vd,ve,vg,vh,vi,vj,vk,vm,vp,vq,vt,vu,vw,vx,vy,vz,vA,vB,vC,vD,vE,vF,vG,vH,vI,vJ,vK,rfl⟩:=ain DM;clear DM;obtain⟨pa,qa,rfl,_⟩:=bU.open iu;have fq:=(bH.kept bO Ol).alloc (.cells #[.slice uN uO uP,.slice uQ uR uT,.slice uU uW uX,.slice uY uZ vd,.int .i64 vG,.int .i64 vH,.int .i64 vI,.int .i64 vJ,.slice ve vg vh,.slice vi vj vk,.slice vm vp vq,.slice vt vu vw,.slice vx vy vz,.slice vA vB vC,.slice vD vE vF,.int .i64 vK] 36);have TK:Below w2.heap.size w2 (w2.alloc (.cells #[.slice uN uO uP,.slice uQ uR uT,.slice uU uW uX,.slice uY uZ vd,.int .i64 vG,.int .i64 vH,.int .i64 vI,.int .i64 vJ,.slice ve vg vh,.slice vi vj vk,.slice vm vp vq,.slice vt vu vw,.slice vx vy vz,.slice vA vB vC,.slice vD vE vF,.int .i64 vK] 36)):=(Below.refl _ _).alloc av _;have On:=TJ.trans (bO.mono TJ.size);have GK:=On.trans (TK.mono On.size);have Oo:=ab (Tz (Tz TI.out bO) TK);have y0:(w2.alloc (.cells #[.slice uN uO uP,.slice uQ uR uT,.slice uU uW uX,.slice uY uZ vd,.int .i64 vG,.int .i64 vH,.int .i64 vI,.int .i64 vJ,.slice ve vg vh,.slice vi vj vk,.slice vm vp vq,.slice vt vu vw,.slice vx vy vz,.slice vA vB vC,.slice vD vE vF,.int .i64 vK] 36)).cell? ⟨w1.heap.size,0,none⟩=some (.slice f0 n0 d0):=fq.cell 0;have y1:(w2.alloc (.cells #[.slice uN uO uP,.slice uQ uR uT,.slice uU uW uX,.slice uY uZ vd,.int .i64 vG,.int .i64 vH,.int .i64 vI,.int .i64 vJ,.slice ve vg vh,.slice vi vj vk,.slice vm vp vq,.slice vt vu vw,.slice vx vy vz,.slice vA vB vC,.slice vD vE vF,.int .i64 vK] 36)).cell? ⟨w1.heap.size,1,none⟩=some (.slice f1 n1 d1):=fq.cell 1;have y2:(w2.alloc (.cells #[.slice uN uO uP,.slice uQ uR uT,.slice uU uW uX,.slice uY uZ vd,.int .i64 vG,.int .i64 vH,.int .i64 vI,.int .i64 vJ,.slice ve vg vh,.slice vi vj vk,.slice vm vp vq,.slice vt vu vw,.slice vx vy vz,.slice vA vB vC,.slice vD vE vF,.int .i64 vK] 36)).cell? ⟨w1.heap.size,2,none⟩=some (.slice f2 n2 d2):=fq.cell 2;have y3:(w2.alloc (.cells #[.slice uN uO uP,.slice uQ uR uT,.slice uU uW uX,.slice uY uZ vd,.int .i64 vG,.int .i64 vH,.int .i64 vI,.int .i64 vJ,.slice ve vg vh,.slice vi vj vk,.slice vm vp vq,.slice vt vu vw,.slice vx vy vz,.slice vA vB vC,.slice vD vE vF,.int .i64 vK] 36)).cell? ⟨w1.heap.size,3,none⟩=some (.slice f3 n3 d3):=fq.cell 3;have y4:(w2.alloc (.cells #[.slice uN uO uP,.slice uQ uR uT,.slice uU uW uX,.slice uY uZ vd,.int .i64 vG,.int .i64 vH,.int .i64 vI,.int .i64 vJ,.slice ve vg vh,.slice vi vj vk,.slice vm vp vq,.slice vt vu vw,.slice vx vy vz,.slice vA vB vC,.slice vD vE vF,.int .i64 vK] 36)).cell? ⟨w1.heap.size,4,none⟩=some (.int .i64 cf.mr):=fq.cell 4;have y5:(w2.alloc (.cells #[.slice uN uO uP,.slice uQ uR uT,.slice uU uW uX,.slice uY uZ vd,.int .i64 vG,.int .i64 vH,.int .i64 vI,.int .i64 vJ,.slice ve vg vh,.slice vi vj vk,.slice vm vp vq,.slice vt vu vw,.slice vx vy vz,.slice vA vB vC,.slice vD vE vF,.int .i64 vK] 36)).cell? ⟨w1.heap.size,5,none⟩=some (.int .i64 cf.jA):=fq.cell 5;have y6:(w2.alloc (.cells #[.slice uN uO uP,.slice uQ uR uT,.slice uU uW uX,.slice uY uZ vd,.int .i64 vG,.int .i64 vH,.int .i64 vI,.int .i64 vJ,.slice ve vg vh,.slice vi vj vk,.slice vm vp vq,.slice vt vu vw,.slice vx vy vz,.slice vA vB vC,.slice vD vE vF,.int .i64 vK] 36)).cell? ⟨w1.heap.size,6,none⟩=some (.int .i64 cf.kz):=fq.cell 6;have y7:(w2.alloc (.cells #[.slice uN uO uP,.slice uQ uR uT,.slice uU uW uX,.slice uY uZ vd,.int .i64 vG,.int .i64 vH,.int .i64 vI,.int .i64 vJ,.slice ve vg vh,.slice vi vj vk,.slice vm vp vq,.slice vt vu vw,.slice vx vy vz,.slice vA vB vC,.slice vD vE vF,.int .i64 vK] 36)).cell? ⟨w1.heap.size,7,none⟩=some (.int .i64 cf.drift):=fq.cell 7;go_wp2_with fail;refine(Hwb.out _ _ (hm.kept GK av) Oo.out).mono ?_;rintro e w3 ⟨ub,xb,rfl,xq,qE,cy⟩;obtain⟨bf0,bn0,bd0,bf1,bn1,bd1,bf2,bn2,bd2,bf3,bn3,bd3,bf8,bn8,bd8,bf9,bn9,bd9,avW,avX,avY,avZ,awa,awb,awc,awd,awe,awf,awg,awh,awi,awj,awk,bz4,bz5,bz6,bz7,awl,rfl⟩:=ain qE;clear qE;obtain⟨pb',qb',rfl,_⟩:=bU.open xq;clear bH fq TH Ol y0 y1 y2 y3 y4 y5 y6 y7 TI;have TL:Below w3.heap.size w3 (w3.alloc (.cells #[.slice bf0 bn0 bd0,.slice bf1 bn1 bd1,.slice bf2 bn2 bd2,.slice bf3 bn3 bd3,.int .i64 bz4,.int .i64 bz5,.int .i64 bz6,.int .i64 bz7,.slice bf8 bn8 bd8,.slice bf9 bn9 bd9,.slice avW avX avY,.slice avZ awa awb,.slice awc awd awe,.slice awf awg awh,.slice awi awj awk,.int .i64 awl] 36)):=(Below.refl _ _).alloc av _;have TM:=(GK.trans (cy.mono GK.size)).trans (TL.mono (GK.trans (cy.mono GK.size)).size);replace iu:=((iu.kept TK av).kept cy av).kept TL av;replace xq:=xq.kept TL av;go_wp2_with fail;refine(avB sl a _ _ _ (hs.kept TM av) Hr3.out iu aa).mono ?_;rintro e w4 ⟨ud,d,rfl,oI,rF,mg⟩;have Oq:=TM.trans (mg.mono TM.size);replace iu:=iu.kept mg av;replace xq:=xq.kept mg av
 have hld:d.length<=30:=by rw[rF.length];exact mS
 have Hod:=ab (rF.ok TF.out);obtain⟨q1,q2⟩:=avU rF;clear rF Ok Oo hs hl hm;go_wp2_with fail;refine(II a b _ _ _ iu xq TF.out VE.out).mono ?_;rintro e w5 ⟨rfl,kM⟩;rw[Hag.out];have Pu:=Oq.trans (kM.mono Oq.size);replace iu:=iu.kept kM av;replace xq:=xq.kept kM av;replace oI:=oI.kept kM av;go_wp2_with fail;refine(aik a b _ _ _ iu xq aa aa).mono ?_;rintro e w6 ⟨rfl,lz⟩;have Pv:=Pu.trans (lz.mono Pu.size);replace iu:=iu.kept lz av;replace oI:=oI.kept lz av
 obtain⟨pb,IG⟩:∃pb,tc a b=pb:=⟨_,rfl⟩
 rw[IG];go_wp2_with fail;refine(II a d _ _ _ iu oI TF.out Hod.out).mono ?_;rintro e w7 ⟨rfl,TN⟩;rw[q1];have PG:=Pv.trans (TN.mono Pv.size);replace iu:=iu.kept TN av;replace oI:=oI.kept TN av;go_wp2_with fail;refine(aik a d _ _ _ iu oI aa aa).mono ?_;rintro e w8 ⟨rfl,hB8⟩;rw[q2];have PH:=PG.trans (hB8.mono PG.size);go_wp2_with fail;refine(ali _).mono ?_;rintro e w9 ⟨rfl,hB9⟩;have hC9:=PH.trans (hB9.mono PH.size);go_wp2_with fail;go_ret;exact⟨rfl,hC9⟩
end
namespace traceRuns
open Go.ChangeShapes Go.WideShapes Go.ChangeAt Go.RowKit
open Go.ChangeMaps (open_string shut_string)
theorem own:ownKnob Tryz.prog.godebug=none:=ah
theorem laidOut:laidOutB Tryz.prog=true:=ah
def xr (k:IntKind)(w:World)(a:Option Addr)(len cap:Nat)(zs:List Int):Prop:=
 (a=none/\len=0/\cap=0/\zs=[])\/
 ∃x,a=some x/\len<=cap/\cap<=maxLen/\zs.length=cap/\(∀i,i<zs.length->w.cell? (x.add i)=some (.int k (zs.getD i 0)))/\∀n∈zs,(Lit.int k n).wf=true
theorem TP {w:World}{a:Option Addr}{len cap:Nat}{zs l:List Int}(h:xr .i64 w a len cap zs)(hl:dZ w (.slice a len cap) l):l.length=len/\len<=cap:=by
 obtain⟨k,c,e,_⟩:=hl.open;simp at e;refine⟨e.2.1.symm,?_⟩
 rcases h with⟨_,h1,h2,_⟩|⟨x,_,h1,_⟩
 ·omega
 ·exact h1
theorem walk (a0:Option Addr)(GL GM:Nat)(z0:List Int)(a1:Option Addr)(GN GO:Nat)(z1:List Int)(a2:Option Addr)(GQ GU:Nat)(z2:List Int)(a3:Option Addr)(GV GX:Nat)(z3:List Int)(w:World)(w0:xr .i64 w a0 GL GM z0)(w1:xr .i64 w a1 GN GO z1)(w2:xr .i64 w a2 GQ GU z2)(w3:xr .i64 w a3 GV GX z3):
  Calls Tryz.prog 3 #[.slice a0 GL GM,.slice a1 GN GO,.slice a2 GQ GU,.slice a3 GV GX] w fun e w'=>e=.returned (.bool true)/\Below w.heap.size w w':=by
 obtain⟨l0,h0,r0⟩:=IP w0;obtain⟨l1,h1,r1⟩:=IP w1;obtain⟨l2,h2,r2⟩:=IP w2;obtain⟨l3,h3,r3⟩:=IP w3;obtain⟨q0,p0⟩:=TP w0 h0;obtain⟨q1,p1⟩:=TP w1 h1;obtain⟨q2,p2⟩:=TP w2 h2;subst q0 q1 q2;exact avV l0 l1 l2 l3 _ _ _ _ _ _ _ w h0 h1 h2 h3 p0 p1 p2 r0 r1 r2 r3
theorem lifted (os:Os)(started:os.Started)(H:Type)(enc:TypeId×Value->H):
  ReturnsInHanded {} Tryz.checked os 3 .any (Rows.traceRunsSpec.pre6 enc Tryz.prog Tryz.f3 Rows.traceRunsRow.domain false) (Rows.traceRunsSpec.post enc Tryz.prog Tryz.f3 false true false false):=by
 refine returnsInHanded_of_change (C:=Tryz.checked) own started ah Tryz.func3
  (ChangeSpec.witness6 (enc:=enc) (C:=Tryz.checked) false ⟨#[],#[.slice none 0 0,.slice none 0 0,.slice none 0 0,.slice none 0 0],[]⟩ 8 ah ah ah ah) ?_
 intro W base args ds gs before aio hW hcnd _;have hval:∀(j:Nat) t v,Tryz.f3.params[j]? =some t->args[j]? =some v->Value.okWide Tryz.prog W .any base t v:=aio;have hW':=hW;obtain⟨p,q,PI,hV,rfl,Km,ct⟩:=hW;have hA:DataW.TrodAll enc Tryz.prog W 0 (fun _=>true) true Tryz.f3.params.toList args.toList ds p:=PI;rw[Tryz.params3] at hA hval;obtain⟨v0,sW,d0,ds0,p0,q0,Aa,rfl,rfl,h0,r0⟩:=trodAll_cons hA;obtain⟨v1,sX,d1,ds1,p1,q1,rfl,rfl,rfl,h1,r1⟩:=trodAll_cons r0;obtain⟨v2,vs2,d2,ds2,p2,q2,rfl,rfl,rfl,h2,r2⟩:=trodAll_cons r1;obtain⟨v3,vs3,d3,ds3,p3,q3,rfl,rfl,rfl,h3,r3⟩:=trodAll_cons r2;obtain⟨rfl,rfl,rfl⟩:=trodAll_nil r3
 obtain rfl:args=#[v0,v1,v2,v3]:=by cases args;simp_all
 obtain⟨rfl,rfl⟩:=trodVars_none hV;obtain⟨a0,GL,GM,rfl⟩:=okWide_slice Tryz.underlying22 (hval 0 22 v0 rfl rfl);have k0:=h0
 have lt0:∀x∈p0,x.block<W.heap.size:=by obtain⟨m,hm⟩:=k0;exact DataW.trod_lt m _ _ _ hm
 obtain⟨z0,w0⟩:∃zs,xr .i64 W a0 GL GM zs:=by
  obtain⟨fuel,hf⟩:=h0
  rcases open_ints Tryz.underlying22 Tryz.underlying3 ah hf with⟨hcs,_⟩|⟨x,l,c,zs,hcs,_,hl,hm,hz,_,hcell,xp⟩
  ·simp[Value.cells] at hcs;obtain⟨rfl,rfl,rfl⟩:=hcs;exact⟨[],.inl ⟨rfl,rfl,rfl,rfl⟩⟩
  ·simp[Value.cells] at hcs;obtain⟨rfl,rfl,rfl⟩:=hcs;exact⟨zs,.inr ⟨_,rfl,hl,hm,by simpa using hz,hcell,xp⟩⟩
 obtain⟨a1,GN,GO,rfl⟩:=okWide_slice Tryz.underlying22 (hval 1 22 v1 rfl rfl);have k1:=h1
 have lt1:∀x∈p1,x.block<W.heap.size:=by obtain⟨m,hm⟩:=k1;exact DataW.trod_lt m _ _ _ hm
 obtain⟨z1,w1⟩:∃zs,xr .i64 W a1 GN GO zs:=by
  obtain⟨fuel,hf⟩:=h1
  rcases open_ints Tryz.underlying22 Tryz.underlying3 ah hf with⟨hcs,_⟩|⟨x,l,c,zs,hcs,_,hl,hm,hz,_,hcell,xp⟩
  ·simp[Value.cells] at hcs;obtain⟨rfl,rfl,rfl⟩:=hcs;exact⟨[],.inl ⟨rfl,rfl,rfl,rfl⟩⟩
  ·simp[Value.cells] at hcs;obtain⟨rfl,rfl,rfl⟩:=hcs;exact⟨zs,.inr ⟨_,rfl,hl,hm,by simpa using hz,hcell,xp⟩⟩
 obtain⟨a2,GQ,GU,rfl⟩:=okWide_slice Tryz.underlying22 (hval 2 22 v2 rfl rfl);have k2:=h2
 have lt2:∀x∈p2,x.block<W.heap.size:=by obtain⟨m,hm⟩:=k2;exact DataW.trod_lt m _ _ _ hm
 obtain⟨z2,w2⟩:∃zs,xr .i64 W a2 GQ GU zs:=by
  obtain⟨fuel,hf⟩:=h2
  rcases open_ints Tryz.underlying22 Tryz.underlying3 ah hf with⟨hcs,_⟩|⟨x,l,c,zs,hcs,_,hl,hm,hz,_,hcell,xp⟩
  ·simp[Value.cells] at hcs;obtain⟨rfl,rfl,rfl⟩:=hcs;exact⟨[],.inl ⟨rfl,rfl,rfl,rfl⟩⟩
  ·simp[Value.cells] at hcs;obtain⟨rfl,rfl,rfl⟩:=hcs;exact⟨zs,.inr ⟨_,rfl,hl,hm,by simpa using hz,hcell,xp⟩⟩
 obtain⟨a3,GV,GX,rfl⟩:=okWide_slice Tryz.underlying22 (hval 3 22 v3 rfl rfl);have k3:=h3
 have lt3:∀x∈p3,x.block<W.heap.size:=by obtain⟨m,hm⟩:=k3;exact DataW.trod_lt m _ _ _ hm
 obtain⟨z3,w3⟩:∃zs,xr .i64 W a3 GV GX zs:=by
  obtain⟨fuel,hf⟩:=h3
  rcases open_ints Tryz.underlying22 Tryz.underlying3 ah hf with⟨hcs,_⟩|⟨x,l,c,zs,hcs,_,hl,hm,hz,_,hcell,xp⟩
  ·simp[Value.cells] at hcs;obtain⟨rfl,rfl,rfl⟩:=hcs;exact⟨[],.inl ⟨rfl,rfl,rfl,rfl⟩⟩
  ·simp[Value.cells] at hcs;obtain⟨rfl,rfl,rfl⟩:=hcs;exact⟨zs,.inr ⟨_,rfl,hl,hm,by simpa using hz,hcell,xp⟩⟩
 clear PI aio
 refine(walk a0 GL GM z0 a1 GN GO z1 a2 GQ GU z2 a3 GV GX z3 W w0 w1 w2 w3).mono fun e W' ⟨he,uM⟩=> ?_
 subst he;exact⟨_,rfl,_,_,_,[],_,[],hW',trodAll_mk1 (shut_bool Tryz.underlying4 _),(trodAll_cons_mk (Below.trod laidOut ah (Bn ah) k0 uM lt0) (trodAll_cons_mk (Below.trod laidOut ah (Bn ah) k1 uM lt1) (trodAll_cons_mk (Below.trod laidOut ah (Bn ah) k2 uM lt2) (trodAll_cons_mk (Below.trod laidOut ah (Bn ah) k3 uM lt3) trodAll_mk0)))),rfl,uM.frame _,fun h=>by cases h⟩
theorem over:Rows.traceRunsRow.holds Tryz.pinned (OpenSpec.ofChange Rows.traceRunsSpec):=
 OpenClaim.holds_of_wide 3 Tryz.f3 rfl rfl rfl rfl rfl rfl rfl ⟨rfl,rfl,rfl,rfl,rfl⟩ rfl rfl rfl rfl rfl ah Tryz.func3 ah
  (Bn ah) (by unfold Func.isWrapper;first|(rw[if_pos (by decide+kernel)];kernel_rfl)|(rw[if_neg (by decide+kernel)];exact⟨rfl,rfl⟩))
  (fun os started H enc _=>lifted os started H enc)
theorem proved:Rows.TraceRunsSaid:=over
end traceRuns
end Go.Proofs.YtlnghiefahcnpaaGreat
