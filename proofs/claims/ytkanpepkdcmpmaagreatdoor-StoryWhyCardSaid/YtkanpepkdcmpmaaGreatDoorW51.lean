/- The statement Rows.StoryWhyCardSaid: the law StoryWhy answers true whatever its arguments, and writes nothing that was there; no condition; the listed variables tied to the program's text. The texts were made small by a program. -/
import Derived.Test.YtkanpepkdcmpmaaGreatDoorW47
import Derived.Test.YtkanpepkdcmpmaaGreatDoorCards
import Derived.Test.YtkanpepkdcmpmaaGreatDoorTie
import Derived.SevenTiedAt
set_option maxHeartbeats 40000000
set_option maxRecDepth 100000
set_option linter.all false
namespace Go.Proofs.YtkanpepkdcmpmaaGreatDoor
section
open Go.RowKit
def FV (run:List az)(i:Int):List Int:=if 0<=i/\i<run.length then(JF run i.toNat).map fun k:Nat=>(k:Int) else []
theorem aDQ (run:List az)(v:Value)(w:World)(hrun:fH w v run)(hn:run.length<=64)(i:Int):
  Calls Tryz.prog 13 #[v,I i] w fun e w'=>∃u,e=.returned u/\br w' u (FV run i)/\aw w w':=by
 by_cases h:0<=i/\i<run.length
 ·obtain⟨k,rfl⟩:∃k:Nat,i=k:=⟨i.toNat,ab⟩
  refine(alY run v w hrun hn k ab).mono ?_;rintro e w' ⟨u,rfl,h1,h2⟩;refine⟨u,rfl,?_,h2⟩;unfold FV;rw[aj h,gF];exact h1
 ·have hw:FV run i=[]:=by unfold FV;rw[af h]
  rw[hw];obtain⟨ka,ca,rfl,gH⟩:=hrun.open;clear hw hrun;have hB:aw w (w.alloc (.cells #[I i] 3)):=(Below.refl _ _).alloc ax _;by_cases h0:i<0
  ·clear h;go_enter Tryz.func13,Tryz.ntmps13;go_wp2_with fail;go_ret;exact⟨_,rfl,Flat.nil _ _ _ _,hB⟩
  ·have h1:(run.length:Int)<=i:=ab;clear h;go_enter Tryz.func13,Tryz.ntmps13;go_wp2_with fail;go_ret;exact⟨_,rfl,Flat.nil _ _ _ _,hB⟩
end
section
open Go.RowKit
def rS (f:Nat->Nat->Bool)(i k:Nat):List Nat:=(List.range k).filter fun j=>decide (j=i)||f j i
theorem aDR (f:Nat->Nat->Bool)(i k:Nat):rS f i (k+1)=rS f i k++(if(decide (k=i)||f k i) then [k] else []):=by
 unfold rS;rw[mn,qz];congr 1;cases h:(decide (k=i)||f k i)<;>simp[h]
theorem aDS (run:List az)(i:Nat):JF run i=rS (dh run) i run.length:=rfl
theorem aDT (run:List az)(v:Value)(w:World)(hrun:fH w v run)(hn:run.length<=64)(i:Nat)(hi:i<run.length):
  Calls Tryz.prog 14 #[v,I i] w fun e w'=>∃u,e=.returned u/\br w' u ((JF run i).map fun k:Nat=>(k:Int))/\aw w w':=by
 obtain⟨ka,ca,rfl,gH⟩:=hrun.open;have HL:=ae (acu run (.slice ka run.length ca) w hrun ab);have hiI:(i:Int)<run.length:=ab;have aAY:¬(i:Int)<0:=ab;rw[aDS];clear hrun;generalize dh run=f at HL⊢;generalize run.length=n at HL hn hi hiI⊢;go_enter Tryz.func14,Tryz.ntmps14
 go_wp2_with (go_at_call 36;refine HL.out.mono ?_;rintro e w1 ⟨u,rfl,⟨g,c,rfl,hr⟩,aC⟩)
 have Hr:=ae hr;have kO:=ae aC;clear hr HL aC;go_loopw [6,7] (fun vo vi wr=>∃(k m:Nat) (av:Option Addr) (ac:Nat),k<=n/\vo=.slice av m ac/\vi=I k/\m<=k/\Hid (m=(rS f i k).length)/\Hid (wr.ownsRow w1.heap.size 3 1 (.slice av m ac) m (nv (rS f i k)))/\Hid (aw w1 wr)) (fun _ vi _=>n-(intOf vi).toNat)
 case atStart=>exact⟨0,0,none,0,ab,rfl,rfl,ab,ae rfl,ae (kz _ _ _ _),ae (Below.refl _ _)⟩
 case round=>
  obtain⟨k,m,av,ac,hk,rfl,rfl,yW,Hm,gM,HB⟩:=hrel;have jo:=HB.out.size;by_cases hlt:k<n
  ·obtain⟨gk,ck,aX,ej⟩:=Hr.out k hlt;have d0:=bE HB.out ax aX;have d1:=bE HB.out ax (ej i hi);have Hs:=ae (aDR f i k);clear aX ej;by_cases lN:k=i
   ·have xk:((k:Int)==(i:Int))=true:=by rw[lN];simp
    have qk:Hid (rS f i (k+1)=rS f i k++[k]):=ae (by rw[Hs.out,lN];simp);clear Hs lN
    go_wp2_with (at_builtin;go_must (refine tF rfl _ _ 22 rfl 3 _ 1 8 Tryz.underlying22 sd rfl ab ab w1.heap.size (.slice av m ac) m (nv (rS f i k)) rfl (gM.out.alloc _) wr.heap.size 1 1 #[I k] 3 rfl (dY _ _) rfl rfl ab ab (by rw[World.size_alloc];omega) ?_);intro g5 ui w5 fX gL jn jI nT eM)
    go_roundw
    case rel=>exact⟨k+1,m+1,_,ui,ab,rfl,by go_num,ab,by rw[qk.out,List.length_append,<-Hm.out];exact ae rfl,by rw[qk.out,Ly];exact ae jI,ae ((HB.out.alloc jo _).trans eM)⟩
    case measure=>simp[intOf];omega
   ·have xk:((k:Int)==(i:Int))=false:=by rw[mO];omega
    cases hf:f k i with
    |false=>
     rw[hf] at d1 Hs;have qk:Hid (rS f i (k+1)=rS f i k):=ae (by rw[Hs.out];simp[lN]);clear Hs lN;go_wp2_with fail;go_roundw
     case rel=>exact⟨k+1,m,av,ac,ab,rfl,by go_num,ab,by rw[qk.out];exact Hm,by rw[qk.out];exact gM,HB⟩
     case measure=>simp[intOf];omega
    |true=>
     rw[hf] at d1 Hs;have qk:Hid (rS f i (k+1)=rS f i k++[k]):=ae (by rw[Hs.out];simp);clear Hs lN
     go_wp2_with (at_builtin;go_must (refine tF rfl _ _ 22 rfl 3 _ 1 8 Tryz.underlying22 sd rfl ab ab w1.heap.size (.slice av m ac) m (nv (rS f i k)) rfl (gM.out.alloc _) wr.heap.size 1 1 #[I k] 3 rfl (dY _ _) rfl rfl ab ab (by rw[World.size_alloc];omega) ?_);intro g5 ui w5 fX gL jn jI nT eM)
     go_roundw
     case rel=>exact⟨k+1,m+1,_,ui,ab,rfl,by go_num,ab,by rw[qk.out,List.length_append,<-Hm.out];exact ae rfl,by rw[qk.out,Ly];exact ae jI,ae ((HB.out.alloc jo _).trans eM)⟩
     case measure=>simp[intOf];omega
  ·obtain rfl:k=n:=ab;go_wp2_with fail;go_ret;refine⟨_,rfl,?_,kO.out.trans (HB.out.mono kO.out.size)⟩;have:=Flat.eB gM.out;rw[show nv (rS f i k)=iv ((rS f i k).map fun n:Nat=>(n:Int)) by simp[nv,iv]] at this;unfold br;rw[dI,<-Hm.out];exact this
end
section
open Go.RowKit
theorem aDU (run:List az)(v:Value)(w:World)(hrun:fH w v run)(hn:run.length<=64)(i:Int):
  Calls Tryz.prog 14 #[v,I i] w fun e w'=>∃u,e=.returned u/\br w' u (FV run i)/\aw w w':=by
 by_cases h:0<=i/\i<run.length
 ·obtain⟨k,rfl⟩:∃k:Nat,i=k:=⟨i.toNat,ab⟩
  refine(aDT run v w hrun hn k ab).mono ?_;rintro e w' ⟨u,rfl,h1,h2⟩;refine⟨u,rfl,?_,h2⟩;unfold FV;rw[aj h,gF];exact h1
 ·have hw:FV run i=[]:=by unfold FV;rw[af h]
  rw[hw];obtain⟨ka,ca,rfl,gH⟩:=hrun.open;clear hw hrun;by_cases h0:i<0
  ·clear h;go_enter Tryz.func14,Tryz.ntmps14;go_wp2_with fail;go_ret;exact⟨_,rfl,Flat.nil _ _ _ _,Below.refl _ _⟩
  ·have h1:(run.length:Int)<=i:=ab;clear h;go_enter Tryz.func14,Tryz.ntmps14;go_wp2_with fail;go_ret;exact⟨_,rfl,Flat.nil _ _ _ _,Below.refl _ _⟩
def VG (W:World)(R:Nat)(n:Nat):Prop:=∀k,k<n->∃(r:List az) (a:Option Addr) (c:Nat),r.length<=20/\W.cell? ⟨R,k,none⟩=some (.slice a r.length c)/\fH W (.slice a r.length c) r
theorem VG.kept {W X:World}{R n:Nat}(h:VG W R n)(hX:aw W X):VG X R n:=fun k hk=>by
 obtain⟨r,a,c,h1,h2,h3⟩:=h k hk;exact⟨r,a,c,h1,bE hX ax h2,h3.kept hX ax⟩
theorem aDV (l l2 l3:List Int)(k k2 k3:Option Addr)(c c2 c3:Nat)(at_:Int)(w:World)(h:br w (.slice k l.length c) l)(hc:l.length<=c)(hi:∀x∈l,cJ x)(h2:br w (.slice k2 l2.length c2) l2)(dW:l2.length<=c2)(rL:∀x∈l2,cJ x)
  (h3:br w (.slice k3 l3.length c3) l3) (FT:l3.length<=c3) (MC:∀x∈l3,cJ x) (aHl:cJ at_) (hg:Gl w):
  Calls Tryz.prog 4 #[.slice k l.length c,.slice k2 l2.length c2,.slice k3 l3.length c3,I at_] w fun e w'=>e=.returned (.bool true)/\aw w w':=by
 obtain⟨run,eJ,iH,HW⟩:=acr h hc hi h2 dW rL hg;have HW:=ae HW;have Hg:=ae hg;have QJ:=ae (fun X (hX:aw w X)=>amH X (h3.kept hX ax) FT MC 12 ab (hg.below hX));clear h hc hi h2 dW rL h3 FT MC hg iH;go_enter Tryz.func4,Tryz.ntmps4
 go_wp2_with (go_at_call 7;refine HW.out.mono ?_;rintro e w1 ⟨u,rfl,eF,aC⟩)
 have oB:=ae (QJ.out w1 aC);have kO:=ae aC;have bF:=eF;obtain⟨ua,uc,rfl,_⟩:=bF.open;have FJ:=ae eF;clear bF eF aC HW QJ;refine oB.out.mono ?_;rintro e w2 ⟨u,gen,rfl,eD,sQ,FK,bh⟩;have iT:=ae (kO.out.trans (bh.mono kO.out.size));have MV:=FJ.out.kept bh ax;have bF:=eD;obtain⟨va,vc,rfl,_⟩:=bF.open;clear bF;go_upto_region 2 with fail
 obtain⟨w3,nX⟩:∃w3,w3=w2.alloc (.cells #[.slice ua run.length uc,.slice va gen.length vc] 23):=⟨_,rfl⟩
 have VH:aw w2 w3:=by rw[nX];exact(Below.refl _ _).alloc ax _
 have sR:VG w3 w2.heap.size 2:=fun j hj=>by
  have hb:=ay.new w2 #[.slice ua run.length uc,.slice va gen.length vc] 23;rw[<-nX] at hb
  rcases(show j=0\/j=1 by omega) with rfl|rfl
  ·exact⟨run,ua,uc,eJ,hb.cell 0,MV.kept VH ax⟩
  ·exact⟨gen,va,vc,ab,hb.cell 1,eD.kept VH ax⟩
 rw[<-nX];have pX:=ae (iT.out.trans (VH.mono iT.out.size));have LO:=ae sR;have jn:=Hg.out.below pX.out;have HL:=ae (fun X (hX:aw w3 X)=>aci X (jn.below hX));unfold Qp at HL;clear nX VH sR jn kO iT MV eD bh FK sQ eJ FJ oB Hg;generalize w2.heap.size=R at LO⊢;go_wp2_with fail;go_loopw [10] (fun v10 wr=>∃j:Nat,v10=.int .i64 j/\j<=2/\Hid (aw w3 wr)) (fun v10 _=>2-(intOf v10).toNat)
 case atStart=>exact⟨0,rfl,ab,ae (Below.refl _ _)⟩
 case round=>
  obtain⟨j,rfl,hj,HW⟩:=hrel;by_cases hlt:j<2
  ·obtain⟨r,ra,rc,eJ,hrc,zC⟩:=LO.out j hlt;have HC:=ae (show∀X,aw w3 X->X.cell? ⟨R,j,none⟩=some (.slice ra r.length rc) from fun X hX=>bE hX ax hrc);have HY:=ae (fun X (hX:aw w3 X) i=>aDQ r (.slice ra r.length rc) X (zC.kept hX ax) ab i);have HZ:=ae (fun X (hX:aw w3 X) i=>aDU r (.slice ra r.length rc) X (zC.kept hX ax) ab i);have hrm:r.length<=9223372036854775807:=ab;have hjI:(j:Int)<2:=ab;clear hrc zC;go_wp2_with fail;go_loopw [11] (fun v11 wr=>∃n:Nat,v11=.int .i64 ((n:Int)-1)/\n<=r.length+2/\Hid (aw w3 wr)) (fun v11 _=>r.length+2-((intOf v11)+1).toNat)
   case atStart=>exact⟨0,rfl,ab,HW⟩
   case round=>
    obtain⟨n,rfl,hn,HV⟩:=hrel;by_cases Bc:n<=r.length+1
    ·have hnI:((n:Int)-1)<=(r.length:Int):=ab;clear Bc;have HS:=ae (show∀X,aw wr X->X.cell? ⟨R,j,none⟩=some (.slice ra r.length rc) from fun X hX=>HC.out X (HV.out.trans (hX.mono HV.out.size)));have D0:aw wr wr.drew:=(Below.refl _ _).drew;have cR:=HC.out wr HV.out;go_upto_region 8 with fail;clear cR;refine kY 14 [(0,true),(1,true),(2,true),(3,true),(4,true),(6,true),(7,true),(8,true),(9,true),(10,true),(5,false),(11,false),(12,false),(13,true)] (fun w'=>w'.cell? ⟨R,j,none⟩=some (.slice ra r.length rc)) ah rfl rfl ah (HS.out _ D0) ?_
     iterate 10 refine gI ?_
     refine lf (fun K hK=> ?_);go_simp;go_at_call 13;refine(HY.out _ (HV.out.trans (D0.mono HV.out.size)) ((n:Int)-1)).mono ?_;rintro e X1 ⟨v1,rfl,i1,F⟩;have D1:=Below.then D0 F;refine hK.out _ _ (HS.out _ D1) ?_;clear hK K;refine bC ?_;refine lf (fun K hK=> ?_);go_simp;go_at_call 14;refine(HZ.out _ (HV.out.trans (D1.mono HV.out.size)) ((n:Int)-1)).mono ?_;rintro e X2 ⟨v2,rfl,i2,F⟩;have D2:=Below.then D1 F;refine hK.out _ _ (HS.out _ D2) ?_;clear hK K;refine bC ?_;have i1:=i1.kept F ax;refine lf (fun K hK=> ?_);go_simp;go_at_call 12;refine((Ro _ _ v1 v2 X2 i1 i2).mono (R':=fun e w'=>e=.returned (.bool true)/\aw X2 w') (fun e w' h=>by obtain⟨rfl,q,rfl⟩:=h;exact⟨ai,below_drewN (Below.refl _ _) q⟩)).mono ?_;rintro e X3 ⟨rfl,F⟩;have D3:=Below.then D2 F;refine hK.out _ _ (HS.out _ D3) ?_;clear hK K;refine bC ?_
     iterate 1 refine gI ?_
     refine kZ ?_;go_wp2_with fail;refine NoPanic.normal ?_;go_wp2_with fail;go_roundw
     case rel=>exact⟨n+1,by go_num,ab,ae (HV.out.trans (D3.mono HV.out.size))⟩
     case measure=>simp[intOf];omega
    ·have hnI:¬((n:Int)-1)<=(r.length:Int):=ab;have cR:=HC.out wr HV.out;clear Bc;have HS:=ae (show∀X,aw wr X->X.cell? ⟨R,j,none⟩=some (.slice ra r.length rc) from fun X hX=>HC.out X (HV.out.trans (hX.mono HV.out.size)));have D0:aw wr wr.drew:=(Below.refl _ _).drew;go_upto_region 10 with fail;clear cR;refine kY 14 [(0,true),(1,true),(2,true),(3,true),(4,true),(6,true),(7,true),(8,true),(9,true),(10,true),(5,false),(11,false),(12,false),(13,true)] (fun w'=>w'.cell? ⟨R,j,none⟩=some (.slice ra r.length rc)) ah rfl rfl ah (HS.out _ D0) ?_
     iterate 10 refine gI ?_
     refine lf (fun K hK=> ?_);go_simp;go_at_call 13;refine(HY.out _ (HV.out.trans (D0.mono HV.out.size)) at_).mono ?_;rintro e X1 ⟨v1,rfl,i1,F⟩;have D1:=Below.then D0 F;refine hK.out _ _ (HS.out _ D1) ?_;clear hK K;refine bC ?_;refine lf (fun K hK=> ?_);go_simp;go_at_call 14;refine(HZ.out _ (HV.out.trans (D1.mono HV.out.size)) at_).mono ?_;rintro e X2 ⟨v2,rfl,i2,F⟩;have D2:=Below.then D1 F;refine hK.out _ _ (HS.out _ D2) ?_;clear hK K;refine bC ?_;have i1:=i1.kept F ax;refine lf (fun K hK=> ?_);go_simp;go_at_call 12;refine((Ro _ _ v1 v2 X2 i1 i2).mono (R':=fun e w'=>e=.returned (.bool true)/\aw X2 w') (fun e w' h=>by obtain⟨rfl,q,rfl⟩:=h;exact⟨ai,below_drewN (Below.refl _ _) q⟩)).mono ?_;rintro e X3 ⟨rfl,F⟩;have D3:=Below.then D2 F;refine hK.out _ _ (HS.out _ D3) ?_;clear hK K;refine bC ?_
     iterate 1 refine gI ?_
     refine kZ ?_;go_wp2_with fail;refine NoPanic.normal ?_;go_wp2_with fail;go_roundw
     case rel=>exact⟨j+1,by go_num,ab,ae (HV.out.trans (D3.mono HV.out.size))⟩
     case measure=>simp[intOf];omega
  ·obtain rfl:j=2:=ab
   go_wp2_with (go_at_call 11;refine(HL.out _ HW.out).mono ?_;rintro e w7 ⟨rfl,F7⟩)
   go_ret;exact⟨rfl,pX.out.trans ((Below.then HW.out F7).mono pX.out.size)⟩
end
namespace storyWhy
open Go.ChangeShapes Go.WideShapes Go.ChangeAt Go.RowKit
theorem lifted (os:Os)(started:os.Started)(H:Type)(enc:TypeId×Value->H):
  ReturnsInHanded {} Tryz.checked os 4 .any (fun w args=>(Rows.storyWhySpec.pre enc Tryz.checked.prog Tryz.f4 [] false w args/\laidMetH Tryz.prog tY w)/\sizedMet enc Tryz.checked.prog Tryz.f4 (OpenSpec.ofChange Rows.storyWhySpec) false w args)
   (Rows.storyWhySpec.post enc Tryz.prog Tryz.f4 false true false false):=by
 refine Zg (s:=Rows.storyWhySpec) started ah Tryz.func4
  (ChangeSpec.witness_shaped (enc:=enc) (C:=Tryz.checked) (os:=os) (X:=fun w _=>laidMetH Tryz.prog tY w) false (World.laidAll Tryz.prog os tY) #[.slice none 0 0,.slice none 0 0,.slice none 0 0,.int .i64 0] 8 (World.laidAll_os _ _ _)
   (World.shaped_of_ZipB ah ah) ah ah ah (Zf os _)) ?_
 intro W base args ds gs before FU hW hG;have hval:∀(j:Nat) t v,Tryz.f4.params[j]? =some t->args[j]? =some v->Value.okWide Tryz.prog W .any base t v:=FU;have QL:=hW;obtain⟨p,q,uy,hV,rfl,IM,cK⟩:=hW;have hA:DataW.TrodAll enc Tryz.prog W 0 (fun _=>true) true Tryz.f4.params.toList args.toList ds p:=uy;rw[Tryz.params4] at hA hval;obtain⟨v0,vs0,d0,ds0,p0,q0,Cn,rfl,rfl,h0,r0⟩:=trodAll_cons hA;obtain⟨v1,vs1,d1,ds1,p1,q1,rfl,rfl,rfl,h1,r1⟩:=trodAll_cons r0;obtain⟨v2,vs2,d2,ds2,p2,q2,rfl,rfl,rfl,h2,r2⟩:=trodAll_cons r1;obtain⟨v3,vs3,d3,ds3,p3,q3,rfl,rfl,rfl,h3,r3⟩:=trodAll_cons r2;obtain⟨rfl,rfl,rfl⟩:=trodAll_nil r3
 obtain rfl:args=#[v0,v1,v2,v3]:=by cases args;simp_all
 obtain⟨rfl,rfl⟩:=trodVars_none hV;have k0:=h0
 have QN:∀x∈p0,x.block<W.heap.size:=by obtain⟨m,hm⟩:=k0;exact DN m _ _ _ hm
 obtain⟨a0,c0,l0,rfl,i0,e0,b0⟩:=FP (hval 0 22 v0 rfl rfl) h0;have k1:=h1
 have JH:∀x∈p1,x.block<W.heap.size:=by obtain⟨m,hm⟩:=k1;exact DN m _ _ _ hm
 obtain⟨a1,c1,l1,rfl,i1,e1,b1⟩:=FP (hval 1 22 v1 rfl rfl) h1;have k2:=h2
 have FL:∀x∈p2,x.block<W.heap.size:=by obtain⟨m,hm⟩:=k2;exact DN m _ _ _ hm
 obtain⟨a2,c2,l2,rfl,i2,e2,b2⟩:=FP (hval 2 22 v2 rfl rfl) h2;obtain⟨a3,rfl,rfl,rfl,w3⟩:=open_int Tryz.underlying3 (hval 3 3 v3 rfl rfl) h3;clear uy FU
 refine(aDV l0 l1 l2 a0 a1 a2 c0 c1 c2 a3 W i0 e0 b0 i1 e1 b1 i2 e2 b2 (bounds_i64 w3) hG).mono fun e W' ⟨he,wC⟩=> ?_
 subst he;exact⟨_,rfl,_,_,_,[],_,[],QL,trodAll_mk1 (shut_bool Tryz.underlying4 _),(trodAll_cons_mk (Below.trod laidOut ah (nC ah) k0 wC QN) (trodAll_cons_mk (Below.trod laidOut ah (nC ah) k1 wC JH) (trodAll_cons_mk (Below.trod laidOut ah (nC ah) k2 wC FL) (trodAll_cons_mk (shut_int Tryz.underlying3 w3) trodAll_mk0)))),rfl,wC.frame _,fun h=>by cases h⟩
theorem c01:Rows.storyWhyRow.wf (OpenSpec.ofChange Rows.storyWhySpec)=true:=ah
theorem c02:mapsRowed Tryz.checked.prog=true:=ah
theorem c03:Tryz.f4.params.all (Tryz.checked.prog.readableRec ·)=true:=ah
theorem c04:namedTie Tryz.checked.prog Rows.storyWhyRow.named Rows.storyWhySpec.vars=true:=ah
theorem c05:(Rows.storyWhyRow.inPlace==Tryz.checked.prog.inPlace 4)=true:=ah
theorem c06:(Rows.storyWhyRow.unfollowed==Tryz.checked.prog.unfollowed 4)=true:=ah
theorem c07:(Rows.storyWhyRow.recurses==Tryz.checked.prog.recurses 4)=true:=ah
theorem c08:(Rows.storyWhyRow.named==Tryz.checked.prog.varsNamed 4)=true:=ah
theorem c09:(Rows.storyWhyRow.plainKeys==Tryz.checked.prog.plainKeys)=true:=ah
theorem c10:Tryz.checked.prog.stopsHeard=true:=ah
theorem closed:joinedFacts Tryz.checked.prog 4 Tryz.f4 Rows.storyWhySpec Rows.storyWhyRow=true:=by
 unfold joinedFacts;rw[c01,c02,c03,c04,c05,c06,c07,c08,c09,c10,show laidOutB Tryz.checked.prog=true from laidOut];kernel_rfl
theorem over:Rows.storyWhyRow.holds Tryz.pinned (OpenSpec.ofChange Rows.storyWhySpec):=
 OpenClaim.holds_of_wide 4 Tryz.f4 rfl rfl rfl rfl rfl rfl rfl ⟨rfl,rfl,rfl,rfl,rfl⟩ rfl rfl rfl rfl rfl ah Tryz.func4 closed
  (nC ah) (by unfold Func.isWrapper;first|(rw[aj (by decide+kernel)];kernel_rfl)|(rw[af (by decide+kernel)];exact⟨rfl,rfl⟩))
  (fun os started H enc _=>lifted os started H enc)
theorem e01:Rows.storyWhyRow.wfByText (OpenSpec.ofChange Rows.storyWhySpec)=true:=ah
theorem e02:Tryz.pinned.checked.prog.mainIs=some (true,"88d78bb3b2d93f13657459ac48920b8bb0307b7c6a905cd56d26088ceb0a7ff2".toList):=ah
theorem e03:Tryz.prog.funcNamed "simproof/simprooflaw29.StoryWhy" =some 4:=ah
theorem e04:true=Tryz.pinned.checked.prog.looks []:=ah
theorem e05:false=Rows.storyWhyRow.goesBy Tryz.pinned.checked.prog:=ah
theorem e06:([22,22,22,3].all fun u=> !Tryz.prog.wantsStandIn u)=true:=ah
theorem proved:Rows.StoryWhyCardSaid:=
 Claim7.holds_tied_plain_at .later [] [.data,.data,.data,.data,.sentinel,.sentinel,.pinned] true (true,"88d78bb3b2d93f13657459ac48920b8bb0307b7c6a905cd56d26088ceb0a7ff2") true
  over (fun _ h=>by cases h) e01 (fun _ h=>by cases h) storyWhy_row_tie rfl ⟨rfl,rfl⟩ e02 rfl
  (fun f fn hf CA=>by
   obtain rfl:f=4:=eA (e03.symm.trans hf)|>.symm
   obtain rfl:fn=Tryz.f4:=(eA (Tryz.func4.symm.trans CA)).symm
   exact⟨e04,fun j t ht=>by
    rw[Tryz.params4] at ht
    have hm:t∈[22,22,22,3]:=by simpa using Array.mem_of_getElem? ht
    exact(show Tryz.prog.wantsStandIn t=false by simpa using fE.1 e06 t hm)⟩)
  e05
end storyWhy
end Go.Proofs.YtkanpepkdcmpmaaGreatDoor
