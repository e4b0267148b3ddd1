import Derived.Test.YtkanpepkdcmpmaaGreatDoorW30
set_option maxHeartbeats 40000000
set_option maxRecDepth 100000
set_option linter.all false
namespace Go.Proofs.YtkanpepkdcmpmaaGreatDoor
section
open Go.RowKit
theorem azL (q:Qn)(cB:∀x∈q.ints,cJ x)(w:World)(hg:Gl w):Calls Tryz.prog 31 #[.agg (nk q)] w fun r w'=>r=.returned (sv (ja q))/\aw w w':=by
 have Hg:=ae hg;have mM:=ae cB;clear hg cB;have HT:=ae (azK q)
 obtain⟨T,hT⟩:∃T,T=ja q:=⟨_,rfl⟩
 rw[<-hT] at HT⊢;by_cases hk:q.kind<1\/3<q.kind
 ·have HF:=ae (show T=[] by
   rw[hT];unfold ja;rw[af];intro hw;obtain⟨h,_⟩:=(Fy q).1 hw
   omega)
  clear hT HT mM;obtain⟨a,b,c,kind,ix⟩:=q;dsimp only at hk;have HB:=ae (show aw w (w.alloc (.cells #[I a,I b,I c,I kind,I ix] 76)) from(Below.refl _ _).alloc ax _);unfold nk;dsimp only;by_cases h1:kind<1
  ·clear hk;go_enter Tryz.func31,Tryz.ntmps31;go_wp2_with fail;go_ret;exact⟨by rw[HF.out];rfl,HB.out⟩
  ·have h7:3<kind:=ab;clear hk;go_enter Tryz.func31,Tryz.ntmps31;go_wp2_with fail;go_ret;exact⟨by rw[HF.out];rfl,HB.out⟩
 ·clear hT;obtain⟨a,b,c,kind,ix⟩:=q;dsimp only at hk
  obtain⟨k,rfl⟩:∃k:Nat,kind=k:=⟨kind.toNat,ab⟩
  have ej:1<=k:=ab;have LV:k<4:=ab;clear hk;have Mx:(0:Int)<=k:=ab;have abB:(k:Int)<4:=ab;have azI:¬(k:Int)<1:=ab;have azJ:¬(3:Int)<k:=ab
  obtain⟨word,po⟩:∃x,x=ew.getD k []:=⟨_,rfl⟩
  have rG:word.length<=4:=by rw[po];exact abr k LV
  have ff:=mM.out ix (by simp[Qn.ints]);have fB:=iR ix ff;have fe:=ae (fun X (hX:Gl X)=>yR ix ff X hX)
  have abD:∀n∈[a,b,c],cJ n:=fun n hn=>mM.out n (by simp[Qn.ints] at hn⊢;omega)
  have zu:=ae (fun v X (hX:Gl X) (hv:br X v [a,b,c])=>akJ [a,b,c] abD ai v X hX hv)
  have eb:(bJ 46 ([a,b,c].map Lib.itoa)).length<=21*3:=zt 46 20 _ (fun y hy=>by
   obtain⟨n,hn,rfl⟩:=dp.1 hy
   exact iR n (abD n hn))
  have My:=ae po
  have HX:=ae (show Ju ⟨a,b,c,k,ix⟩=word++[32]++bJ 46 ([a,b,c].map Lib.itoa)++[32]++Lib.itoa ix by
   unfold Ju;dsimp only
   rw[gF,<-po])
  rw[HX.out] at HT;clear po ff abD HX;generalize Lib.itoa ix=dn at fB fe HT;generalize bJ 46 ([a,b,c].map Lib.itoa)=j at eb zu HT;have wh:=ae (show∀X,X=w.alloc (.cells #[I a,I b,I c,I k,I ix] 76)->ay X w.heap.size #[I a,I b,I c,I k,I ix]/\aw w X from fun X e=>by subst e;exact⟨ay.new w _ _,(Below.refl _ _).alloc ax _⟩);unfold nk;unfold sv at fe zu;dsimp only;go_enter Tryz.func31,Tryz.ntmps31;go_upto_region 3 with fail
  obtain⟨W,hW⟩:∃W,W=w.alloc (.cells #[I a,I b,I c,I k,I ix] 76):=⟨_,rfl⟩
  obtain⟨akN,akO⟩:=wh.out W hW;rw[<-hW];clear hW wh;have cD:¬9223372036854775807<word.length+1:=ab;have fb:¬9223372036854775807<word.length+1+j.length:=ab;have rm:¬9223372036854775807<word.length+1+j.length+1:=ab;have Mz:¬9223372036854775807<word.length+1+j.length+1+dn.length:=ab;go_cut [3] from 14 (fun t wd=>t=.string ⟨(word++[32]++j++[32]++dn).toArray⟩/\ay wd w.heap.size #[I a,I b,I c,I k,I ix]/\Hid (aw w wd))
  case first=>
   have aI:=akN.drew;have bt:=akO.drew;clear akN akO;refine Kw 22 (.take 1 (.take 2 (.take 6 (.take 7 (.take 8 (.take 9 (.take 10 (.take 11 (.take 12 (.take 13 (.take 14 (.take 19 (.take 20 (.fork 0 15 (.take 3 (.fork 4 15 (.take 5 (.move 15 (.move 16 (.take 17 (.take 18 (.move 21 .nil)))))) (.fork 4 16 (.take 5 (.move 16 (.take 17 (.take 18 (.move 21 .nil))))) (.fork 4 21 (.take 5 (.take 17 (.take 18 (.move 21 .nil)))) (.move 4 (.take 5 (.take 17 (.take 18 .nil)))))))) (.move 0 (.take 3 (.fork 4 16 (.take 5 (.move 16 (.take 17 (.take 18 (.move 21 .nil))))) (.fork 4 21 (.take 5 (.take 17 (.take 18 (.move 21 .nil)))) (.move 4 (.take 5 (.take 17 (.take 18 .nil)))))))))))))))))))))) (fun X=>(∀j,X.cell? ⟨w.heap.size,j,none⟩=(#[I a,I b,I c,I k,I ix]:Array Value)[j]?)) ah rfl ah aI.cell ?_;refine cU ?_;refine cU ?_;refine cU ?_;refine cU ?_;refine cU ?_;refine cU ?_;refine cU ?_;refine cU ?_;refine cU ?_;refine cU ?_;refine cU ?_;refine cU ?_;refine cU ?_;generalize W.drew=V at aI bt⊢;refine wS ?_ ?_
   ·refine dt rfl (fun K hK=> ?_);go_simp;go_at_call 77;refine(aan _).mono ?_;rintro e Y1 ⟨rfl,bg,D,-⟩
    have xJ:Y1.cell? ⟨V.heap.size,k,none⟩=some (sv word):=by
     refine gX.cell bg ?_;rw[My.out];have:k<ew.length:=LV;simp[List.getD,this]
    unfold sv at xJ;replace aI:=aI.kept D aI.lt;replace bt:=bt.trans (D.mono bt.size);refine hK.out _ _ aI.cell ?_;clear hK K;generalize V.heap.size=B at xJ⊢;have hc:=xJ;clear xJ bg;refine bC ?_;refine cU ?_;refine wS ?_ ?_
    ·refine dt rfl (fun K hK=> ?_);go_simp;refine hK.out _ _ aI.cell ?_;clear hK K;refine bC ?_;refine cU ?_;refine dt rfl (fun K hK=> ?_);go_simp;have D:aw Y1 (Y1.alloc (.cells #[I a,I b,I c] 3)):=(Below.refl _ _).alloc ax _;have fw:br (Y1.alloc (.cells #[I a,I b,I c] 3)) (.slice (some ⟨Y1.heap.size,0,none⟩) 3 3) [a,b,c]:=Flat.qD rfl ai (fun j u hu=>by rw[eP,(ay.new Y1 #[I a,I b,I c] 3).cell j];simpa [iv] using hu);replace aI:=aI.kept D aI.lt;replace bt:=bt.trans (D.mono bt.size);replace hc:=(D.cell (p:=⟨B,k,none⟩) (by simpa using ez _ _ hc)).trans hc;generalize Y1.alloc (.cells #[I a,I b,I c] 3)=Y3 at fw aI bt hc⊢;clear D;generalize Y1.heap.size=A at fw⊢;have bF:=fw;clear fw;refine hK.out _ _ aI.cell ?_;clear hK K;refine bC ?_;refine dt rfl (fun K hK=> ?_);go_simp;go_at_call 75;refine(zu.out _ _ (Hg.out.below bt) bF).mono ?_;rintro e Y4 ⟨rfl,D⟩;clear bF;replace aI:=aI.kept D aI.lt;replace bt:=bt.trans (D.mono bt.size);replace hc:=(D.cell (p:=⟨B,k,none⟩) (by simpa using ez _ _ hc)).trans hc;refine hK.out _ _ aI.cell ?_;clear hK K;refine bC ?_;refine cU ?_;refine cU ?_;refine dt rfl (fun K hK=> ?_);go_simp;go_at_call 29;refine(fe.out _ (Hg.out.below bt)).mono ?_;rintro e Y5 ⟨rfl,D⟩;replace aI:=aI.kept D aI.lt;replace bt:=bt.trans (D.mono bt.size);replace hc:=(D.cell (p:=⟨B,k,none⟩) (by simpa using ez _ _ hc)).trans hc;refine hK.out _ _ aI.cell ?_;clear hK K;refine bC ?_;refine pA ?_;go_wp2_with fail;refine NoPanic.normal ?_;go_wp2_with fail;go_meet;exact⟨aF Value.string (by rw[bp,bp,bp,bp]),aI,ae bt⟩
    ·refine dt rfl (fun K hK=> ?_);go_simp;have D:aw Y1 (Y1.alloc (.cells #[I a,I b,I c] 3)):=(Below.refl _ _).alloc ax _;have fw:br (Y1.alloc (.cells #[I a,I b,I c] 3)) (.slice (some ⟨Y1.heap.size,0,none⟩) 3 3) [a,b,c]:=Flat.qD rfl ai (fun j u hu=>by rw[eP,(ay.new Y1 #[I a,I b,I c] 3).cell j];simpa [iv] using hu);replace aI:=aI.kept D aI.lt;replace bt:=bt.trans (D.mono bt.size);replace hc:=(D.cell (p:=⟨B,k,none⟩) (by simpa using ez _ _ hc)).trans hc;generalize Y1.alloc (.cells #[I a,I b,I c] 3)=Y6 at fw aI bt hc⊢;clear D;generalize Y1.heap.size=A at fw⊢;have bF:=fw;clear fw;refine hK.out _ _ aI.cell ?_;clear hK K;refine bC ?_;refine wS ?_ ?_
     ·refine dt rfl (fun K hK=> ?_);go_simp;refine hK.out _ _ aI.cell ?_;clear hK K;refine bC ?_;refine cU ?_;refine dt rfl (fun K hK=> ?_);go_simp;go_at_call 75;refine(zu.out _ _ (Hg.out.below bt) bF).mono ?_;rintro e Y8 ⟨rfl,D⟩;clear bF;replace aI:=aI.kept D aI.lt;replace bt:=bt.trans (D.mono bt.size);replace hc:=(D.cell (p:=⟨B,k,none⟩) (by simpa using ez _ _ hc)).trans hc;refine hK.out _ _ aI.cell ?_;clear hK K;refine bC ?_;refine cU ?_;refine cU ?_;refine dt rfl (fun K hK=> ?_);go_simp;go_at_call 29;refine(fe.out _ (Hg.out.below bt)).mono ?_;rintro e Y9 ⟨rfl,D⟩;replace aI:=aI.kept D aI.lt;replace bt:=bt.trans (D.mono bt.size);replace hc:=(D.cell (p:=⟨B,k,none⟩) (by simpa using ez _ _ hc)).trans hc;refine hK.out _ _ aI.cell ?_;clear hK K;refine bC ?_;refine pA ?_;go_wp2_with fail;refine NoPanic.normal ?_;go_wp2_with fail;go_meet;exact⟨aF Value.string (by rw[bp,bp,bp,bp]),aI,ae bt⟩
     ·refine dt rfl (fun K hK=> ?_);go_simp;go_at_call 75;refine(zu.out _ _ (Hg.out.below bt) bF).mono ?_;rintro e UI ⟨rfl,D⟩;clear bF;replace aI:=aI.kept D aI.lt;replace bt:=bt.trans (D.mono bt.size);replace hc:=(D.cell (p:=⟨B,k,none⟩) (by simpa using ez _ _ hc)).trans hc;refine hK.out _ _ aI.cell ?_;clear hK K;refine bC ?_;refine wS ?_ ?_
      ·refine dt rfl (fun K hK=> ?_);go_simp;refine hK.out _ _ aI.cell ?_;clear hK K;refine bC ?_;refine cU ?_;refine cU ?_;refine cU ?_;refine dt rfl (fun K hK=> ?_);go_simp;go_at_call 29;refine(fe.out _ (Hg.out.below bt)).mono ?_;rintro e Y12 ⟨rfl,D⟩;replace aI:=aI.kept D aI.lt;replace bt:=bt.trans (D.mono bt.size);replace hc:=(D.cell (p:=⟨B,k,none⟩) (by simpa using ez _ _ hc)).trans hc;refine hK.out _ _ aI.cell ?_;clear hK K;refine bC ?_;refine pA ?_;go_wp2_with fail;refine NoPanic.normal ?_;go_wp2_with fail;go_meet;exact⟨aF Value.string (by rw[bp,bp,bp,bp]),aI,ae bt⟩
      ·refine dt rfl (fun K hK=> ?_);go_simp;go_at_call 29;refine(fe.out _ (Hg.out.below bt)).mono ?_;rintro e Y13 ⟨rfl,D⟩;replace aI:=aI.kept D aI.lt;replace bt:=bt.trans (D.mono bt.size);replace hc:=(D.cell (p:=⟨B,k,none⟩) (by simpa using ez _ _ hc)).trans hc;refine hK.out _ _ aI.cell ?_;clear hK K;refine bC ?_;refine dt rfl (fun K hK=> ?_);go_simp;refine hK.out _ _ aI.cell ?_;clear hK K;refine bC ?_;refine cU ?_;refine cU ?_;refine cU ?_;refine pA ?_;go_wp2_with fail;refine NoPanic.normal ?_;go_wp2_with fail;go_meet;exact⟨aF Value.string (by rw[bp,bp,bp,bp]),aI,ae bt⟩
   ·refine dt rfl (fun K hK=> ?_);go_simp;have D:aw V (V.alloc (.cells #[I a,I b,I c] 3)):=(Below.refl _ _).alloc ax _;have fw:br (V.alloc (.cells #[I a,I b,I c] 3)) (.slice (some ⟨V.heap.size,0,none⟩) 3 3) [a,b,c]:=Flat.qD rfl ai (fun j u hu=>by rw[eP,(ay.new V #[I a,I b,I c] 3).cell j];simpa [iv] using hu);replace aI:=aI.kept D aI.lt;replace bt:=bt.trans (D.mono bt.size);generalize V.alloc (.cells #[I a,I b,I c] 3)=Y15 at fw aI bt⊢;clear D;generalize V.heap.size=A at fw⊢;have bF:=fw;clear fw;refine hK.out _ _ aI.cell ?_;clear hK K;refine bC ?_;refine dt rfl (fun K hK=> ?_);go_simp;go_at_call 77;refine(aan _).mono ?_;rintro e Y16 ⟨rfl,bg,D,-⟩
    have xJ:Y16.cell? ⟨Y15.heap.size,k,none⟩=some (sv word):=by
     refine gX.cell bg ?_;rw[My.out];have:k<ew.length:=LV;simp[List.getD,this]
    unfold sv at xJ;replace aI:=aI.kept D aI.lt;replace bt:=bt.trans (D.mono bt.size);replace bF:=br.kept bF D ax;refine hK.out _ _ aI.cell ?_;clear hK K;generalize Y15.heap.size=B at xJ⊢;have hc:=xJ;clear xJ bg;refine bC ?_;refine cU ?_;refine wS ?_ ?_
    ·refine dt rfl (fun K hK=> ?_);go_simp;refine hK.out _ _ aI.cell ?_;clear hK K;refine bC ?_;refine cU ?_;refine dt rfl (fun K hK=> ?_);go_simp;go_at_call 75;refine(zu.out _ _ (Hg.out.below bt) bF).mono ?_;rintro e Y18 ⟨rfl,D⟩;clear bF;replace aI:=aI.kept D aI.lt;replace bt:=bt.trans (D.mono bt.size);replace hc:=(D.cell (p:=⟨B,k,none⟩) (by simpa using ez _ _ hc)).trans hc;refine hK.out _ _ aI.cell ?_;clear hK K;refine bC ?_;refine cU ?_;refine cU ?_;refine dt rfl (fun K hK=> ?_);go_simp;go_at_call 29;refine(fe.out _ (Hg.out.below bt)).mono ?_;rintro e Y19 ⟨rfl,D⟩;replace aI:=aI.kept D aI.lt;replace bt:=bt.trans (D.mono bt.size);replace hc:=(D.cell (p:=⟨B,k,none⟩) (by simpa using ez _ _ hc)).trans hc;refine hK.out _ _ aI.cell ?_;clear hK K;refine bC ?_;refine pA ?_;go_wp2_with fail;refine NoPanic.normal ?_;go_wp2_with fail;go_meet;exact⟨aF Value.string (by rw[bp,bp,bp,bp]),aI,ae bt⟩
    ·refine dt rfl (fun K hK=> ?_);go_simp;go_at_call 75;refine(zu.out _ _ (Hg.out.below bt) bF).mono ?_;rintro e Y20 ⟨rfl,D⟩;clear bF;replace aI:=aI.kept D aI.lt;replace bt:=bt.trans (D.mono bt.size);replace hc:=(D.cell (p:=⟨B,k,none⟩) (by simpa using ez _ _ hc)).trans hc;refine hK.out _ _ aI.cell ?_;clear hK K;refine bC ?_;refine wS ?_ ?_
     ·refine dt rfl (fun K hK=> ?_);go_simp;refine hK.out _ _ aI.cell ?_;clear hK K;refine bC ?_;refine cU ?_;refine cU ?_;refine cU ?_;refine dt rfl (fun K hK=> ?_);go_simp;go_at_call 29;refine(fe.out _ (Hg.out.below bt)).mono ?_;rintro e Y22 ⟨rfl,D⟩;replace aI:=aI.kept D aI.lt;replace bt:=bt.trans (D.mono bt.size);replace hc:=(D.cell (p:=⟨B,k,none⟩) (by simpa using ez _ _ hc)).trans hc;refine hK.out _ _ aI.cell ?_;clear hK K;refine bC ?_;refine pA ?_;go_wp2_with fail;refine NoPanic.normal ?_;go_wp2_with fail;go_meet;exact⟨aF Value.string (by rw[bp,bp,bp,bp]),aI,ae bt⟩
     ·refine dt rfl (fun K hK=> ?_);go_simp;go_at_call 29;refine(fe.out _ (Hg.out.below bt)).mono ?_;rintro e Y23 ⟨rfl,D⟩;replace aI:=aI.kept D aI.lt;replace bt:=bt.trans (D.mono bt.size);replace hc:=(D.cell (p:=⟨B,k,none⟩) (by simpa using ez _ _ hc)).trans hc;refine hK.out _ _ aI.cell ?_;clear hK K;refine bC ?_;refine dt rfl (fun K hK=> ?_);go_simp;refine hK.out _ _ aI.cell ?_;clear hK K;refine bC ?_;refine cU ?_;refine cU ?_;refine cU ?_;refine pA ?_;go_wp2_with fail;refine NoPanic.normal ?_;go_wp2_with fail;go_meet;exact⟨aF Value.string (by rw[bp,bp,bp,bp]),aI,ae bt⟩
  case rest=>
   obtain⟨rfl,pq,Jv⟩:=hcut;have PM:=ae pq
   obtain⟨x,hx⟩:∃x,x=word++[32]++j++[32]++dn:=⟨_,rfl⟩
   have qP:x.length<=1000:=by rw[hx];simp;omega
   rw[<-hx] at HT⊢;clear hx pq cD fb rm Mz;have Hp:=ae (abo x _ (Hg.out.below Jv.out) ab);unfold UC at Hp
   cases iC:kp x with
   |none=>
    rw[iC] at Hp;have HF:=ae (show T=[] by rw[<-HT.out,af (by rw[iC];simp)]);clear HT iC;unfold sv at Hp
    go_wp2_with (go_at_call 78;refine Hp.out.mono ?_;rintro e w5 ⟨rfl,D5⟩;unfold nk;replace D5:=ae D5)
    go_ret;exact⟨by rw[HF.out];rfl,(Jv.out.trans (D5.out.mono Jv.out.size)).alloc (by have:=Jv.out.size;have:=D5.out.size;omega) _⟩
   |some e2=>
    rw[iC] at Hp;have HF:=ae (show T=if e2=⟨a,b,c,k,ix⟩ then x else [] by rw[<-HT.out,iC];simp);clear HT iC;obtain⟨a0,a1,a2,a3,a4⟩:=e2
    have hz:=fun W=>adU a0 a1 a2 a3 a4 a b c k ix W
    obtain⟨ee,xI⟩:∃ee,ee=cL [a0,a1,a2,a3,a4] [a,b,c,(k:Int),ix]:=⟨_,rfl⟩
    rw[<-xI] at hz
    have HE:=ae (show T=if ee=true then x else [] by
     rw[HF.out,xI]
     by_cases h:[a0,a1,a2,a3,a4]=[a,b,c,(k:Int),ix]
     ·rw[Kr h,aj rfl,aj (by simp only[List.cons.injEq] at h;obtain⟨e1,e2,e3,e4,e5,_⟩:=h;rw[e1,e2,e3,e4,e5])]
     ·rw[Ks h,af (fun e=>h (by injection e with e1 e2 e3 e4 e5;rw[e1,e2,e3,e4,e5]))];rfl)
    clear xI HF;unfold sv at Hp
    go_upto_region 5 with(go_at_call 78;refine Hp.out.mono ?_;rintro e w5 ⟨rfl,D5⟩;unfold nk;replace D5:=ae D5)
    have h5:=(PM.out.kept D5.out PM.out.lt).alloc (.cells #[I a0,I a1,I a2,I a3,I a4] 76);have h6:=ay.new w5 #[I a0,I a1,I a2,I a3,I a4] 76;have mJ:=ae ((Jv.out.trans (D5.out.mono Jv.out.size)).alloc (by have:=Jv.out.size;have:=D5.out.size;omega) (.cells #[I a0,I a1,I a2,I a3,I a4] 76))
    obtain⟨V,hV⟩:∃V,V=w5.alloc (.cells #[I a0,I a1,I a2,I a3,I a4] 76):=⟨_,rfl⟩
    obtain⟨G,hG⟩:∃G,G=w5.heap.size:=⟨_,rfl⟩
    rw[<-hV] at h5 h6 mJ⊢;rw[<-hG] at h6⊢;clear hV hG;have x0:=h5.cell 0;have x1:=h5.cell 1;have x2:=h5.cell 2;have x3:=h5.cell 3;have x4:=h5.cell 4;have y0:=h6.cell 0;have y1:=h6.cell 1;have y2:=h6.cell 2;have y3:=h6.cell 3;have y4:=h6.cell 4
    cases ee with
    |true=>
     go_wp2_with fail;go_ret;exact⟨by rw[HE.out];rfl,mJ.out⟩
    |false=>
     go_wp2_with fail;go_ret;exact⟨by rw[HE.out];rfl,mJ.out⟩
end
end Go.Proofs.YtkanpepkdcmpmaaGreatDoor
