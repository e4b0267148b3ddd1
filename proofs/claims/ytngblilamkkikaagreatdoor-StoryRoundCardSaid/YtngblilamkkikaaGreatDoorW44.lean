import Derived.Test.YtngblilamkkikaaGreatDoorW42
set_option maxHeartbeats 40000000
set_option maxRecDepth 100000
set_option linter.all false
namespace Go.Proofs.YtngblilamkkikaaGreatDoor
section
open Go.RowKit
theorem aBE (q:Qn)(ct:∀x∈q.ints,dI x)(w:World)(hg:Gl w):Calls Tryz.prog 24 #[.agg (rG q)] w fun r w'=>r=.returned (sv (mU q))/\ay w w':=by
 have Hg:=ae hg;have oT:=ae ct;clear hg ct;have HT:=ae (aAL q)
 obtain⟨T,hT⟩:∃T,T=mU q:=⟨_,rfl⟩
 rw[<-hT] at HT⊢;by_cases hk:q.kind<1\/3<q.kind
 ·have HF:=ae (show T=[] by
   rw[hT];unfold mU;rw[af];intro hw;obtain⟨h,_⟩:=(KR q).1 hw
   omega)
  clear hT HT oT;obtain⟨a,b,c,kind,ix⟩:=q;dsimp only at hk;have HB:=ae (show ay w (w.alloc (.cells #[I a,I b,I c,I kind,I ix] 92)) from(Below.refl _ _).alloc aA _);unfold rG;dsimp only;by_cases h1:kind<1
  ·clear hk;go_enter Tryz.func24,Tryz.ntmps24;go_wp2_with fail;go_ret;exact⟨by rw[HF.out];rfl,HB.out⟩
  ·have h7:3<kind:=ab;clear hk;go_enter Tryz.func24,Tryz.ntmps24;go_wp2_with fail;go_ret;exact⟨by rw[HF.out];rfl,HB.out⟩
 ·clear hT;obtain⟨a,b,c,kind,ix⟩:=q;dsimp only at hk
  obtain⟨k,rfl⟩:∃k:Nat,kind=k:=⟨kind.toNat,ab⟩
  have fM:1<=k:=ab;have NN:k<4:=ab;clear hk;have TG:(0:Int)<=k:=ab;have aAI:(k:Int)<4:=ab;have aAJ:¬(k:Int)<1:=ab;have aAK:¬(3:Int)<k:=ab
  obtain⟨word,Ep⟩:∃x,x=dM.getD k []:=⟨_,rfl⟩
  have um:word.length<=4:=by rw[Ep];exact aka k NN
  have iR:=oT.out ix (by simp[Qn.ints]);have lE:=mV ix iR;have eI:=ae (fun X (hX:Gl X)=>vL ix iR X hX)
  have abH:∀n∈[a,b,c],dI n:=fun n hn=>oT.out n (by simp[Qn.ints] at hn⊢;omega)
  have xV:=ae (fun v X (hX:Gl X) (hv:bW X v [a,b,c])=>akC [a,b,c] abH ai v X hX hv)
  have dV:(bF 46 ([a,b,c].map Lib.itoa)).length<=21*3:=zN 46 20 _ (fun y hy=>by
   obtain⟨n,hn,rfl⟩:=dh.1 hy
   exact mV n (abH n hn))
  have KW:=ae Ep
  have HX:=ae (show HU ⟨a,b,c,k,ix⟩=word++[32]++bF 46 ([a,b,c].map Lib.itoa)++[32]++Lib.itoa ix by
   unfold HU;dsimp only
   rw[iZ,<-Ep])
  rw[HX.out] at HT;clear Ep iR abH HX;generalize Lib.itoa ix=dn at lE eI HT;generalize bF 46 ([a,b,c].map Lib.itoa)=j at dV xV HT;have qf:=ae (show∀X,X=w.alloc (.cells #[I a,I b,I c,I k,I ix] 92)->ax X w.heap.size #[I a,I b,I c,I k,I ix]/\ay w X from fun X e=>by subst e;exact⟨ax.new w _ _,(Below.refl _ _).alloc aA _⟩);unfold rG;unfold sv at eI xV;dsimp only;go_enter Tryz.func24,Tryz.ntmps24;go_upto_region 3 with fail
  obtain⟨W,hW⟩:∃W,W=w.alloc (.cells #[I a,I b,I c,I k,I ix] 92):=⟨_,rfl⟩
  obtain⟨alI,alJ⟩:=qf.out W hW;rw[<-hW];clear hW qf;have cq:¬9223372036854775807<word.length+1:=ab;have jY:¬9223372036854775807<word.length+1+j.length:=ab;have yT:¬9223372036854775807<word.length+1+j.length+1:=ab;have Ud:¬9223372036854775807<word.length+1+j.length+1+dn.length:=ab;go_cut [3] from 14 (fun t wd=>t=.string ⟨(word++[32]++j++[32]++dn).toArray⟩/\ax wd w.heap.size #[I a,I b,I c,I k,I ix]/\Hid (ay w wd))
  case first=>
   have aF:=alI.drew;have br:=alJ.drew;clear alI alJ;refine PJ 22 (.take 1 (.take 2 (.take 6 (.take 7 (.take 8 (.take 9 (.take 10 (.take 11 (.take 12 (.take 13 (.take 14 (.take 19 (.take 20 (.fork 0 15 (.take 3 (.fork 4 15 (.take 5 (.move 15 (.move 16 (.take 17 (.take 18 (.move 21 .nil)))))) (.fork 4 16 (.take 5 (.move 16 (.take 17 (.take 18 (.move 21 .nil))))) (.fork 4 21 (.take 5 (.take 17 (.take 18 (.move 21 .nil)))) (.move 4 (.take 5 (.take 17 (.take 18 .nil)))))))) (.move 0 (.take 3 (.fork 4 16 (.take 5 (.move 16 (.take 17 (.take 18 (.move 21 .nil))))) (.fork 4 21 (.take 5 (.take 17 (.take 18 (.move 21 .nil)))) (.move 4 (.take 5 (.take 17 (.take 18 .nil)))))))))))))))))))))) (fun X=>(∀j,X.cell? ⟨w.heap.size,j,none⟩=(#[I a,I b,I c,I k,I ix]:Array Value)[j]?)) ah rfl ah aF.cell ?_;refine dN ?_;refine dN ?_;refine dN ?_;refine dN ?_;refine dN ?_;refine dN ?_;refine dN ?_;refine dN ?_;refine dN ?_;refine dN ?_;refine dN ?_;refine dN ?_;refine dN ?_;generalize W.drew=V at aF br⊢;refine Ct ?_ ?_
   ·refine eN rfl (fun K hK=> ?_);go_simp;go_at_call 68;refine(aam _).mono ?_;rintro e Y1 ⟨rfl,aW,D,-⟩
    have BW:Y1.cell? ⟨V.heap.size,k,none⟩=some (sv word):=by
     refine du.cell aW ?_;rw[KW.out];have:k<dM.length:=NN;simp[List.getD,this]
    unfold sv at BW;replace aF:=aF.kept D aF.lt;replace br:=br.trans (D.mono br.size);refine hK.out _ _ aF.cell ?_;clear hK K;generalize V.heap.size=B at BW⊢;have hc:=BW;clear BW aW;refine bV ?_;refine dN ?_;refine Ct ?_ ?_
    ·refine eN rfl (fun K hK=> ?_);go_simp;refine hK.out _ _ aF.cell ?_;clear hK K;refine bV ?_;refine dN ?_;refine eN rfl (fun K hK=> ?_);go_simp;have D:ay Y1 (Y1.alloc (.cells #[I a,I b,I c] 3)):=(Below.refl _ _).alloc aA _;have eF:bW (Y1.alloc (.cells #[I a,I b,I c] 3)) (.slice (some ⟨Y1.heap.size,0,none⟩) 3 3) [a,b,c]:=Flat.rR rfl ai (fun j u hu=>by rw[eM,(ax.new Y1 #[I a,I b,I c] 3).cell j];simpa [iv] using hu);replace aF:=aF.kept D aF.lt;replace br:=br.trans (D.mono br.size);replace hc:=(D.cell (p:=⟨B,k,none⟩) (by simpa using eh _ _ hc)).trans hc;generalize Y1.alloc (.cells #[I a,I b,I c] 3)=Y3 at eF aF br hc⊢;clear D;generalize Y1.heap.size=A at eF⊢;have bN:=eF;clear eF;refine hK.out _ _ aF.cell ?_;clear hK K;refine bV ?_;refine eN rfl (fun K hK=> ?_);go_simp;go_at_call 67;refine(xV.out _ _ (Hg.out.below br) bN).mono ?_;rintro e Y4 ⟨rfl,D⟩;clear bN;replace aF:=aF.kept D aF.lt;replace br:=br.trans (D.mono br.size);replace hc:=(D.cell (p:=⟨B,k,none⟩) (by simpa using eh _ _ hc)).trans hc;refine hK.out _ _ aF.cell ?_;clear hK K;refine bV ?_;refine dN ?_;refine dN ?_;refine eN rfl (fun K hK=> ?_);go_simp;go_at_call 22;refine(eI.out _ (Hg.out.below br)).mono ?_;rintro e Y5 ⟨rfl,D⟩;replace aF:=aF.kept D aF.lt;replace br:=br.trans (D.mono br.size);replace hc:=(D.cell (p:=⟨B,k,none⟩) (by simpa using eh _ _ hc)).trans hc;refine hK.out _ _ aF.cell ?_;clear hK K;refine bV ?_;refine wB ?_;go_wp2_with fail;refine NoPanic.normal ?_;go_wp2_with fail;go_meet;exact⟨aG Value.string (by rw[dC,dC,dC,dC]),aF,ae br⟩
    ·refine eN rfl (fun K hK=> ?_);go_simp;have D:ay Y1 (Y1.alloc (.cells #[I a,I b,I c] 3)):=(Below.refl _ _).alloc aA _;have eF:bW (Y1.alloc (.cells #[I a,I b,I c] 3)) (.slice (some ⟨Y1.heap.size,0,none⟩) 3 3) [a,b,c]:=Flat.rR rfl ai (fun j u hu=>by rw[eM,(ax.new Y1 #[I a,I b,I c] 3).cell j];simpa [iv] using hu);replace aF:=aF.kept D aF.lt;replace br:=br.trans (D.mono br.size);replace hc:=(D.cell (p:=⟨B,k,none⟩) (by simpa using eh _ _ hc)).trans hc;generalize Y1.alloc (.cells #[I a,I b,I c] 3)=Y6 at eF aF br hc⊢;clear D;generalize Y1.heap.size=A at eF⊢;have bN:=eF;clear eF;refine hK.out _ _ aF.cell ?_;clear hK K;refine bV ?_;refine Ct ?_ ?_
     ·refine eN rfl (fun K hK=> ?_);go_simp;refine hK.out _ _ aF.cell ?_;clear hK K;refine bV ?_;refine dN ?_;refine eN rfl (fun K hK=> ?_);go_simp;go_at_call 67;refine(xV.out _ _ (Hg.out.below br) bN).mono ?_;rintro e Y8 ⟨rfl,D⟩;clear bN;replace aF:=aF.kept D aF.lt;replace br:=br.trans (D.mono br.size);replace hc:=(D.cell (p:=⟨B,k,none⟩) (by simpa using eh _ _ hc)).trans hc;refine hK.out _ _ aF.cell ?_;clear hK K;refine bV ?_;refine dN ?_;refine dN ?_;refine eN rfl (fun K hK=> ?_);go_simp;go_at_call 22;refine(eI.out _ (Hg.out.below br)).mono ?_;rintro e Y9 ⟨rfl,D⟩;replace aF:=aF.kept D aF.lt;replace br:=br.trans (D.mono br.size);replace hc:=(D.cell (p:=⟨B,k,none⟩) (by simpa using eh _ _ hc)).trans hc;refine hK.out _ _ aF.cell ?_;clear hK K;refine bV ?_;refine wB ?_;go_wp2_with fail;refine NoPanic.normal ?_;go_wp2_with fail;go_meet;exact⟨aG Value.string (by rw[dC,dC,dC,dC]),aF,ae br⟩
     ·refine eN rfl (fun K hK=> ?_);go_simp;go_at_call 67;refine(xV.out _ _ (Hg.out.below br) bN).mono ?_;rintro e Tx ⟨rfl,D⟩;clear bN;replace aF:=aF.kept D aF.lt;replace br:=br.trans (D.mono br.size);replace hc:=(D.cell (p:=⟨B,k,none⟩) (by simpa using eh _ _ hc)).trans hc;refine hK.out _ _ aF.cell ?_;clear hK K;refine bV ?_;refine Ct ?_ ?_
      ·refine eN rfl (fun K hK=> ?_);go_simp;refine hK.out _ _ aF.cell ?_;clear hK K;refine bV ?_;refine dN ?_;refine dN ?_;refine dN ?_;refine eN rfl (fun K hK=> ?_);go_simp;go_at_call 22;refine(eI.out _ (Hg.out.below br)).mono ?_;rintro e Y12 ⟨rfl,D⟩;replace aF:=aF.kept D aF.lt;replace br:=br.trans (D.mono br.size);replace hc:=(D.cell (p:=⟨B,k,none⟩) (by simpa using eh _ _ hc)).trans hc;refine hK.out _ _ aF.cell ?_;clear hK K;refine bV ?_;refine wB ?_;go_wp2_with fail;refine NoPanic.normal ?_;go_wp2_with fail;go_meet;exact⟨aG Value.string (by rw[dC,dC,dC,dC]),aF,ae br⟩
      ·refine eN rfl (fun K hK=> ?_);go_simp;go_at_call 22;refine(eI.out _ (Hg.out.below br)).mono ?_;rintro e Y13 ⟨rfl,D⟩;replace aF:=aF.kept D aF.lt;replace br:=br.trans (D.mono br.size);replace hc:=(D.cell (p:=⟨B,k,none⟩) (by simpa using eh _ _ hc)).trans hc;refine hK.out _ _ aF.cell ?_;clear hK K;refine bV ?_;refine eN rfl (fun K hK=> ?_);go_simp;refine hK.out _ _ aF.cell ?_;clear hK K;refine bV ?_;refine dN ?_;refine dN ?_;refine dN ?_;refine wB ?_;go_wp2_with fail;refine NoPanic.normal ?_;go_wp2_with fail;go_meet;exact⟨aG Value.string (by rw[dC,dC,dC,dC]),aF,ae br⟩
   ·refine eN rfl (fun K hK=> ?_);go_simp;have D:ay V (V.alloc (.cells #[I a,I b,I c] 3)):=(Below.refl _ _).alloc aA _;have eF:bW (V.alloc (.cells #[I a,I b,I c] 3)) (.slice (some ⟨V.heap.size,0,none⟩) 3 3) [a,b,c]:=Flat.rR rfl ai (fun j u hu=>by rw[eM,(ax.new V #[I a,I b,I c] 3).cell j];simpa [iv] using hu);replace aF:=aF.kept D aF.lt;replace br:=br.trans (D.mono br.size);generalize V.alloc (.cells #[I a,I b,I c] 3)=Y15 at eF aF br⊢;clear D;generalize V.heap.size=A at eF⊢;have bN:=eF;clear eF;refine hK.out _ _ aF.cell ?_;clear hK K;refine bV ?_;refine eN rfl (fun K hK=> ?_);go_simp;go_at_call 68;refine(aam _).mono ?_;rintro e Y16 ⟨rfl,aW,D,-⟩
    have BW:Y16.cell? ⟨Y15.heap.size,k,none⟩=some (sv word):=by
     refine du.cell aW ?_;rw[KW.out];have:k<dM.length:=NN;simp[List.getD,this]
    unfold sv at BW;replace aF:=aF.kept D aF.lt;replace br:=br.trans (D.mono br.size);replace bN:=bW.kept bN D aA;refine hK.out _ _ aF.cell ?_;clear hK K;generalize Y15.heap.size=B at BW⊢;have hc:=BW;clear BW aW;refine bV ?_;refine dN ?_;refine Ct ?_ ?_
    ·refine eN rfl (fun K hK=> ?_);go_simp;refine hK.out _ _ aF.cell ?_;clear hK K;refine bV ?_;refine dN ?_;refine eN rfl (fun K hK=> ?_);go_simp;go_at_call 67;refine(xV.out _ _ (Hg.out.below br) bN).mono ?_;rintro e Y18 ⟨rfl,D⟩;clear bN;replace aF:=aF.kept D aF.lt;replace br:=br.trans (D.mono br.size);replace hc:=(D.cell (p:=⟨B,k,none⟩) (by simpa using eh _ _ hc)).trans hc;refine hK.out _ _ aF.cell ?_;clear hK K;refine bV ?_;refine dN ?_;refine dN ?_;refine eN rfl (fun K hK=> ?_);go_simp;go_at_call 22;refine(eI.out _ (Hg.out.below br)).mono ?_;rintro e Y19 ⟨rfl,D⟩;replace aF:=aF.kept D aF.lt;replace br:=br.trans (D.mono br.size);replace hc:=(D.cell (p:=⟨B,k,none⟩) (by simpa using eh _ _ hc)).trans hc;refine hK.out _ _ aF.cell ?_;clear hK K;refine bV ?_;refine wB ?_;go_wp2_with fail;refine NoPanic.normal ?_;go_wp2_with fail;go_meet;exact⟨aG Value.string (by rw[dC,dC,dC,dC]),aF,ae br⟩
    ·refine eN rfl (fun K hK=> ?_);go_simp;go_at_call 67;refine(xV.out _ _ (Hg.out.below br) bN).mono ?_;rintro e Y20 ⟨rfl,D⟩;clear bN;replace aF:=aF.kept D aF.lt;replace br:=br.trans (D.mono br.size);replace hc:=(D.cell (p:=⟨B,k,none⟩) (by simpa using eh _ _ hc)).trans hc;refine hK.out _ _ aF.cell ?_;clear hK K;refine bV ?_;refine Ct ?_ ?_
     ·refine eN rfl (fun K hK=> ?_);go_simp;refine hK.out _ _ aF.cell ?_;clear hK K;refine bV ?_;refine dN ?_;refine dN ?_;refine dN ?_;refine eN rfl (fun K hK=> ?_);go_simp;go_at_call 22;refine(eI.out _ (Hg.out.below br)).mono ?_;rintro e Y22 ⟨rfl,D⟩;replace aF:=aF.kept D aF.lt;replace br:=br.trans (D.mono br.size);replace hc:=(D.cell (p:=⟨B,k,none⟩) (by simpa using eh _ _ hc)).trans hc;refine hK.out _ _ aF.cell ?_;clear hK K;refine bV ?_;refine wB ?_;go_wp2_with fail;refine NoPanic.normal ?_;go_wp2_with fail;go_meet;exact⟨aG Value.string (by rw[dC,dC,dC,dC]),aF,ae br⟩
     ·refine eN rfl (fun K hK=> ?_);go_simp;go_at_call 22;refine(eI.out _ (Hg.out.below br)).mono ?_;rintro e Y23 ⟨rfl,D⟩;replace aF:=aF.kept D aF.lt;replace br:=br.trans (D.mono br.size);replace hc:=(D.cell (p:=⟨B,k,none⟩) (by simpa using eh _ _ hc)).trans hc;refine hK.out _ _ aF.cell ?_;clear hK K;refine bV ?_;refine eN rfl (fun K hK=> ?_);go_simp;refine hK.out _ _ aF.cell ?_;clear hK K;refine bV ?_;refine dN ?_;refine dN ?_;refine dN ?_;refine wB ?_;go_wp2_with fail;refine NoPanic.normal ?_;go_wp2_with fail;go_meet;exact⟨aG Value.string (by rw[dC,dC,dC,dC]),aF,ae br⟩
  case rest=>
   obtain⟨rfl,zP,Ie⟩:=hcut;have OQ:=ae zP
   obtain⟨x,hx⟩:∃x,x=word++[32]++j++[32]++dn:=⟨_,rfl⟩
   have tu:x.length<=1000:=by rw[hx];simp;omega
   rw[<-hx] at HT⊢;clear hx zP cq jY yT Ud;have Hp:=ae (aas x _ (Hg.out.below Ie.out) ab);unfold uu at Hp
   cases gE:gQ x with
   |none=>
    rw[gE] at Hp;have HF:=ae (show T=[] by rw[<-HT.out,af (by rw[gE];simp)]);clear HT gE;unfold sv at Hp
    go_wp2_with (go_at_call 69;refine Hp.out.mono ?_;rintro e w5 ⟨rfl,D5⟩;unfold rG;replace D5:=ae D5)
    go_ret;exact⟨by rw[HF.out];rfl,(Ie.out.trans (D5.out.mono Ie.out.size)).alloc (by have:=Ie.out.size;have:=D5.out.size;omega) _⟩
   |some e2=>
    rw[gE] at Hp;have HF:=ae (show T=if e2=⟨a,b,c,k,ix⟩ then x else [] by rw[<-HT.out,gE];simp);clear HT gE;obtain⟨a0,a1,a2,a3,a4⟩:=e2
    have hz:=fun W=>ace a0 a1 a2 a3 a4 a b c k ix W
    obtain⟨ee,xu⟩:∃ee,ee=cF [a0,a1,a2,a3,a4] [a,b,c,(k:Int),ix]:=⟨_,rfl⟩
    rw[<-xu] at hz
    have HE:=ae (show T=if ee=true then x else [] by
     rw[HF.out,xu]
     by_cases h:[a0,a1,a2,a3,a4]=[a,b,c,(k:Int),ix]
     ·rw[Ly h,aj rfl,aj (by simp only[List.cons.injEq] at h;obtain⟨e1,e2,e3,e4,e5,_⟩:=h;rw[e1,e2,e3,e4,e5])]
     ·rw[Lz h,af (fun e=>h (by injection e with e1 e2 e3 e4 e5;rw[e1,e2,e3,e4,e5]))];rfl)
    clear xu HF;unfold sv at Hp
    go_upto_region 5 with(go_at_call 69;refine Hp.out.mono ?_;rintro e w5 ⟨rfl,D5⟩;unfold rG;replace D5:=ae D5)
    have h5:=(OQ.out.kept D5.out OQ.out.lt).alloc (.cells #[I a0,I a1,I a2,I a3,I a4] 92);have h6:=ax.new w5 #[I a0,I a1,I a2,I a3,I a4] 92;have nw:=ae ((Ie.out.trans (D5.out.mono Ie.out.size)).alloc (by have:=Ie.out.size;have:=D5.out.size;omega) (.cells #[I a0,I a1,I a2,I a3,I a4] 92))
    obtain⟨V,hV⟩:∃V,V=w5.alloc (.cells #[I a0,I a1,I a2,I a3,I a4] 92):=⟨_,rfl⟩
    obtain⟨G,hG⟩:∃G,G=w5.heap.size:=⟨_,rfl⟩
    rw[<-hV] at h5 h6 nw⊢;rw[<-hG] at h6⊢;clear hV hG;have x0:=h5.cell 0;have x1:=h5.cell 1;have x2:=h5.cell 2;have x3:=h5.cell 3;have x4:=h5.cell 4;have y0:=h6.cell 0;have y1:=h6.cell 1;have y2:=h6.cell 2;have y3:=h6.cell 3;have y4:=h6.cell 4
    cases ee with
    |true=>
     go_wp2_with fail;go_ret;exact⟨by rw[HE.out];rfl,nw.out⟩
    |false=>
     go_wp2_with fail;go_ret;exact⟨by rw[HE.out];rfl,nw.out⟩
end
end Go.Proofs.YtngblilamkkikaaGreatDoor
