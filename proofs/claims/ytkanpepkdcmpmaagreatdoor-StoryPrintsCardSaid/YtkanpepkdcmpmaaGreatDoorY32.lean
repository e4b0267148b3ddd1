import Derived.Test.YtkanpepkdcmpmaaGreatDoorY31
import Derived.Test.YtkanpepkdcmpmaaGreatDoorY26
set_option maxHeartbeats 40000000
set_option maxRecDepth 100000
set_option linter.all false
namespace Go.Proofs.YtkanpepkdcmpmaaGreatDoor
section
open Go.RowKit
variable {W:World} {d:List Nat} {g:Nat} {t:Nat->Nat}
def uv (W:World)(g n:Nat)(d:List Nat):Prop:=∃arr:Array Value,az W g arr/\arr.size=n/\∀b<n,arr[b]? =some (.bool (decide (b∈d)))
theorem uv.cell{n:Nat}(h:uv W g n d){b:Nat}(hb:b<n):W.cell? ⟨g,b,none⟩=some (.bool (decide (b∈d)))/\W.frozen? ⟨g,b,none⟩=false:=by
 obtain⟨wa,h1,h2,h3⟩:=h;exact⟨(h1.cell b).trans (h3 b hb),h1.frozen b⟩
theorem uv.set{n:Nat}(h:uv W g n d)(b:Nat):uv (W.setCell ⟨g,b,none⟩ (.bool true)) g n (d++[b]):=by
 obtain⟨wa,h1,h2,h3⟩:=h;refine⟨_,h1.set b _,by rw[yi];exact h2,fun c hc=> ?_⟩;by_cases e:b=c
 ·subst e;rw[oz (by rw[h2];exact hc)];simp
 ·rw[nf e,h3 c hc];simp[Ne.symm e]
theorem uv.kept{W':World}{n B:Nat}(h:uv W g n d)(hb:Below B W W')(hg:g<B):uv W' g n d:=by
 obtain⟨wa,h1,h2,h3⟩:=h;exact⟨wa,h1.kept hb hg,h2,h3⟩
theorem uv.setOther{n:Nat}(h:uv W g n d)(a:Addr)(v:Value)(hne:a.block≠g):uv (W.setCell a v) g n d:=by
 obtain⟨wa,h1,h2,h3⟩:=h;exact⟨wa,h1.setOther a v hne,h2,h3⟩
theorem jc.setOther{n:Nat}(h:jc W g n t)(a:Addr)(v:Value)(hne:a.block≠g):jc (W.setCell a v) g n t:=by
 obtain⟨wa,h1,h2,h3⟩:=h;exact⟨wa,h1.setOther a v hne,h2,h3⟩
theorem jc.alloc{n:Nat}(h:jc W g n t)(o:Obj):jc (W.alloc o) g n t:=by
 obtain⟨wa,h1,h2,h3⟩:=h;exact⟨wa,h1.alloc o,h2,h3⟩
theorem alu(run:List ay)(v:Value)(w:World)(hrun:fw w v run)(hn:run.length<=64)(ud:∀s∈run,s.asks.length<=1000000)(EH:∀s∈run,s.sent.length<=1000000):
  Calls Tryz.prog 15 #[v] w fun e w'=>∃u,e=.returned u/\nH w.heap.size w' u (fS run)/\aw w w':=by
 have gF:=ae (avg run v w hrun ab ud EH)
 have yW:=fun W=>AJ (P:=Tryz.prog) 22 3 (.int .i64 0) 8 run.length Tryz.underlying22 rT rfl ab ab W
 have Tm:=fun W=>AJ (P:=Tryz.prog) 105 4 (.bool false) 1 run.length Tryz.underlying105 ahu rfl ab ab W
 clear ud EH;go_enter Tryz.func15,Tryz.ntmps15;go_wp2_with fail;refine gF.out.mono ?_;rintro e w1 ⟨u,rfl,Mx,aC⟩;have eC:=Mx.sl;obtain⟨ka,ca,rfl,gz⟩:=eC.open;go_wp2_with fail;refine(aac run _ _ eC hn).mono ?_;rintro e w2 ⟨p,rfl,hO,bg⟩;have eA:=eC.kept bg ax;have aAC:=Mx.kept bg;have abV:aw w w2:=aC.trans (bg.mono aC.size);clear eC Mx aC bg;go_wp2_with fail
 have alv:jc (w2.alloc (.cells (eB run.length (.int .i64 0)) 3)) w2.heap.size run.length (fun _=>0):=⟨_,az.new _ _ _,AH _ _,fun b hb=>Cy _ _ _ hb⟩
 go_loopw [21] (fun i wr=>∃k:Nat,k<=run.length/\i=.int .i64 k/\jc wr w2.heap.size run.length (fun x=>if x<k then gR run [] x else 0)/\aw w2 wr) (fun i _=>run.length-(intOf i).toNat)
 case atStart=>exact⟨0,ab,rfl,alv.congr (fun b _=>ai),(Below.refl _ _).alloc ax _⟩
 case round=>
  clear alv;obtain⟨k,hk,rfl,jY,hB⟩:=hrel;by_cases hlt:k<run.length
  ·go_wp2_with fail
   obtain⟨wo,rfl⟩:∃wo:World,wo=wr:=⟨_,rfl⟩
   go_loopw [25] (fun j wr=>∃m:Nat,m<=k/\j=.int .i64 m/\jc wr w2.heap.size run.length (fun x=>if x<k then gR run [] x else if x=k then ur run k m else 0)/\aw w2 wr) (fun j _=>k-(intOf j).toNat)
   case atStart=>exact⟨0,ab,rfl,jY.congr (fun b _=>by simp[ur]),hB⟩
   case round=>
    clear jY hB;obtain⟨m,hm,rfl,jY,hB⟩:=hrel;by_cases cY:m<k
    ·have hc:=jY.cell hlt;simp only[Gi,pd,nk] at hc;obtain⟨jN,dS⟩:=hc;have dB:=aAn run k m;have hcs:=ald run k m;by_cases hl:dc run m k=true
     ·have uw:=Ll p run.length (dc run) m k wr (hO.kept hB ax) ab hlt;rw[hl] at uw;rw[aq hl] at hcs;have hst:=jY.set (t':=fun x=>if x<k then gR run [] x else if x=k then ur run k (m+1) else 0) k (fun c hc=>by simp[hc]);simp only[Gi,pd,nk,hcs] at hst;rw[show((ur run k m+1:Nat):Int)=(ur run k m:Int)+1 from ab] at hst;have vF:=ae hst;have ze:=ae hcs;have oq:=ae uw;clear hst hcs uw hl jY;go_wp2_with fail;refine oq.out.mono ?_;rintro e w3 ⟨rfl,rfl⟩;go_wp2_with fail;go_roundw
      case rel=>exact⟨m+1,ab,by go_num,by rw[ze.out];exact vF.out,hB.setCell ax _⟩
      case measure=>simp[intOf];omega
     ·have ij:dc run m k=false:=by simpa using hl
      have uw:=Ll p run.length (dc run) m k wr (hO.kept hB ax) ab hlt;rw[ij] at uw;rw[af hl,qm] at hcs;have Lx:=ae jY;have ze:=ae hcs;have oq:=ae uw;clear hcs uw hl ij jY;go_wp2_with fail;refine oq.out.mono ?_;rintro e w3 ⟨rfl,rfl⟩;go_wp2_with fail;go_roundw
      case rel=>exact⟨m+1,ab,by go_num,by rw[ze.out];exact Lx.out,hB⟩
      case measure=>simp[intOf];omega
    ·have alw:m=k:=ab
     have xY:jc wr w2.heap.size run.length (fun x=>if x<k+1 then gR run [] x else 0):=jY.congr fun b _=>by
      by_cases h1:b<k
      ·simp[h1,Nat.lt_succ_of_lt h1]
      ·by_cases h2:b=k
       ·subst h2;rw[alw];simp[aAm run b hlt]
       ·have h3:¬b<k+1:=ab;simp[h1,h2,h3]
     have PN:=ae xY;clear xY jY alw;go_wp2_with fail;go_roundw
     case rel=>exact⟨k+1,ab,by go_num,PN.out,hB⟩
     case measure=>simp[intOf];omega
  ·have xY:jc wr w2.heap.size run.length (gR run []):=jY.congr fun b hb=>by
    have:b<k:=ab;simp[this]
   clear jY;have hBz:=hB.size;go_wp2_with fail
   obtain⟨wa,rfl⟩:∃wa:World,wa=wr:=⟨_,rfl⟩
   obtain⟨w3,nN⟩:∃w3:World,w3=wa.alloc (.cells (eB run.length (.bool false)) 4):=⟨_,rfl⟩
   have vJ:w3.heap.size=wa.heap.size+1:=by rw[nN];simp
   have fD:aw w2 w3:=by rw[nN];exact hB.alloc hBz _
   have alx:jc w3 w2.heap.size run.length (gR run []):=by rw[nN];exact xY.alloc _
   have aly:uv w3 wa.heap.size run.length []:=by
    rw[nN];exact⟨_,az.new _ _ _,AH _ _,fun b hb=>by rw[Cy _ _ _ hb];rfl⟩
   have sL:w2.heap.size<wa.heap.size:=by
    obtain⟨_,h,_⟩:=xY;exact h.lt
   rw[<-nN];have Hw3:=ae nN;clear nN xY hB yW Tm
   go_loopw [45,7] (fun r vo wr=>∃(d:List Nat) (xs:List Value),d.length<=run.length/\r=.int .i64 d.length/\(∀i∈d,i<run.length)/\jc wr w2.heap.size run.length (gR run d)/\uv wr wa.heap.size run.length d/\
    wr.ownsRow w3.heap.size 45 11 vo d.length xs/\nG (fun b=>w.heap.size<=b) w2 (iq run d) xs/\Hid (Jo run=Bk run (run.length-d.length) d)/\aw w2 wr/\w3.heap.size<=wr.heap.size) (fun r _ _=>run.length-(intOf r).toNat)
   case atStart=>exact⟨[],[],ai,rfl,ai,alx,aly,ko _ _ _ _,rfl,ae rfl,fD,cK _⟩
   case round=>
    clear alx aly fD;obtain⟨d,xs,ez,rfl,kU,jY,ff,aS,hcs,Hn,hB,hz⟩:=hrel;have PO:=ae kU;have Lx:=ae jY;have mB:=ae ff;have ze:=ae hcs;clear kU jY ff hcs;by_cases hlt:d.length<run.length
    ·obtain⟨aH,PQ,fc,jl⟩:=abI run d (abJ _ _ hlt);have PR:=ae PQ;have Hbd:=ae jl;clear PQ jl;go_wp2_with fail
     obtain⟨wo,rfl⟩:∃wo:World,wo=wr:=⟨_,rfl⟩
     go_loopw [49,9] (fun q p wr=>∃m:Nat,m<=run.length/\q=.int .i64 m/\p=.int .i64 (Fs (iQ run d m))/\aw wo wr) (fun q _ _=>run.length-(intOf q).toNat)
     case atStart=>exact⟨0,ab,rfl,rfl,Below.refl _ _⟩
     case round=>
      obtain⟨m,hm,rfl,rfl,sW⟩:=hrel;by_cases cY:m<run.length
      ·have nE:aw w2 wr:=hB.trans (sW.mono hB.size);obtain⟨b,o,va,vs,rfl,dU,dz,x0,x1,x2,x3,x4,x5,x6,x7,x8,x9,x10⟩:=(eA.kept nE ax).at (i:=m) (s:=run[m]) (by simp[cY]);have zu:=((mB.out.kept sW ab).cell cY).1;have LC:=((Lx.out.kept sW ab).cell cY).1;have vO:=ale run d m;by_cases jN:m∈d
       ·rw[ft jN] at zu;have jh:=PI run d m (.inl (by simp[mA,jN]));have pS:=ae jh;clear jN jh;go_wp2_with fail;refine kO 28 [(0,true),(1,true),(2,true),(3,true),(4,true),(5,true),(6,true),(7,true),(8,true),(9,true),(10,true),(11,true),(12,true),(13,true),(14,true),(15,true),(16,true),(17,true),(18,true),(19,true),(20,true),(21,true),(22,true),(23,true),(24,true),(25,true),(26,true),(27,true)] (fun w'=>w'.cell? ⟨wa.heap.size,m,none⟩=some (.bool true)) ah rfl rfl ah zu ?_
        iterate 28 (first|refine gA ?_|refine BQ ?_)
        refine kP ?_;go_wp2_with fail;refine NoPanic.normal ?_;go_wp2_with fail;go_roundw
        case rel=>exact⟨m+1,ab,by go_num,by rw[pS.out],sW.drew⟩
        case measure=>simp[intOf];omega
       ·rw[jk jN] at zu;by_cases dS:gR run d m=0
        ·have Iv:(((gR run d m:Nat):Int)==0)=true:=by rw[dS];rfl
         have dx:mA run d m=true:=by rw[alf];simp[jN,dS]
         clear jN dS
         cases pT:iQ run d m with
         |none=>
          have jh:=UF run d m dx (by rw[pT];rfl);have pS:=ae jh;have wh:Fs (none:Option Nat)= -1:=rfl;rw[wh];clear dx jh pT wh;go_wp2_with fail;refine kO 28 [(0,true),(1,true),(2,true),(3,true),(4,true),(5,true),(6,true),(7,true),(8,true),(9,true),(10,true),(11,true),(12,true),(13,true),(14,true),(15,true),(16,true),(17,true),(18,true),(19,true),(20,true),(21,true),(22,true),(23,true),(24,true),(25,true),(26,true),(27,true)] (fun w'=>w'.cell? ⟨wa.heap.size,m,none⟩=some (.bool false)/\w'.cell? ⟨w2.heap.size,m,none⟩=some (I (gR run d m))) ah rfl rfl ah ⟨zu,LC⟩ ?_
          iterate 28 (first|refine gA ?_|refine BQ ?_)
          refine kP ?_;go_wp2_with fail;refine NoPanic.normal ?_;go_wp2_with fail;go_roundw
          case rel=>exact⟨m+1,ab,by go_num,by rw[pS.out];rfl,sW.drew⟩
          case measure=>simp[intOf];omega
         |some j=>
          have hjm:=(Mt run d m j pT).1;have My:decide ((j:Int)<0)=false:=ai;obtain⟨b',o',ua,us,eL,sO,AQ,y0,y1,y2,y3,y4,y5,y6,y7,y8,y9,y10⟩:=(eA.kept nE ax).at (i:=j) (s:=run[j]' ab) ai;simp at eL;obtain⟨rfl,rfl⟩:=eL;have Jq:j<run.length:=ab;have wh:Fs (some j)=(j:Int):=rfl;rw[wh];by_cases iM:aK run[m].key run[j].key<0
          ·have jh:=UF run d m dx (by rw[pT];simp[wb,Bj cY,Bj Jq,iM]);have pS:=ae jh;clear dx jh pT wh;go_wp2_with fail;refine kO 24 [(0,true),(1,true),(2,true),(3,true),(4,true),(5,true),(6,true),(7,true),(8,true),(9,true),(10,true),(11,true),(12,true),(13,true),(14,true),(15,true),(16,true),(17,true),(18,true),(19,true),(20,true),(21,true),(22,true),(23,true)] (fun w'=>w'.cell? ⟨wa.heap.size,m,none⟩=some (.bool false)/\w'.cell? ⟨w2.heap.size,m,none⟩=some (I (gR run d m))/\w'.cell? ⟨b,o+m*11,none⟩=some (I run[m].ev.kind)/\w'.cell? ⟨b,o+m*11+1,none⟩=some (I run[m].ev.node)/\w'.cell? ⟨b,o+m*11+2,none⟩=some (I run[m].ev.arg)/\w'.cell? ⟨b,o+m*11+3,none⟩=some (I run[m].ev.msg.node)/\w'.cell? ⟨b,o+m*11+4,none⟩=some (I run[m].ev.msg.handler)/\w'.cell? ⟨b,o+m*11+5,none⟩=some (I run[m].ev.msg.count)/\w'.cell? ⟨b,o+m*11+6,none⟩=some (I run[m].ev.msg.index)/\w'.cell? ⟨b,o+m*11+7,none⟩=some (I run[m].ev.msg.copy)/\w'.cell? ⟨b,o+m*11+8,none⟩=some (va)/\w'.cell? ⟨b,o+m*11+9,none⟩=some (.bool run[m].aJ)/\w'.cell? ⟨b,o+m*11+10,none⟩=some (vs)/\w'.cell? ⟨b,o+j*11,none⟩=some (I run[j].ev.kind)/\w'.cell? ⟨b,o+j*11+1,none⟩=some (I run[j].ev.node)/\w'.cell? ⟨b,o+j*11+2,none⟩=some (I run[j].ev.arg)/\w'.cell? ⟨b,o+j*11+3,none⟩=some (I run[j].ev.msg.node)/\w'.cell? ⟨b,o+j*11+4,none⟩=some (I run[j].ev.msg.handler)/\w'.cell? ⟨b,o+j*11+5,none⟩=some (I run[j].ev.msg.count)/\w'.cell? ⟨b,o+j*11+6,none⟩=some (I run[j].ev.msg.index)/\w'.cell? ⟨b,o+j*11+7,none⟩=some (I run[j].ev.msg.copy)/\w'.cell? ⟨b,o+j*11+8,none⟩=some (ua)/\w'.cell? ⟨b,o+j*11+9,none⟩=some (.bool run[j].aJ)/\w'.cell? ⟨b,o+j*11+10,none⟩=some (us)) ah rfl rfl ah ⟨zu,LC,x0,x1,x2,x3,x4,x5,x6,x7,x8,x9,x10,y0,y1,y2,y3,y4,y5,y6,y7,y8,y9,y10⟩ ?_
           iterate 24 (first|refine gA ?_|refine BQ ?_)
           refine kP ?_;go_wp2_with fail;refine(ahn run[m] run[j] _ _ _ ⟨va,vs,rfl,dU.kept (Below.refl _ _).drew ax,dz.kept (Below.refl _ _).drew ax⟩ ⟨ua,us,rfl,sO.kept (Below.refl _ _).drew ax,AQ.kept (Below.refl _ _).drew ax⟩).mono ?_;rintro e w5 ⟨rfl,aC⟩;go_wp2_with fail;refine NoPanic.normal ?_;go_wp2_with fail;go_roundw
           case rel=>exact⟨m+1,ab,by go_num,by rw[pS.out];rfl,sW.drew.trans (aC.mono sW.size)⟩
           case measure=>simp[intOf];omega
          ·have jh:=PI run d m (.inr (by rw[pT];simp[wb,Bj cY,Bj Jq,iM]));rw[pT] at jh;have pS:=ae jh;clear dx jh pT wh;go_wp2_with fail;refine kO 24 [(0,true),(1,true),(2,true),(3,true),(4,true),(5,true),(6,true),(7,true),(8,true),(9,true),(10,true),(11,true),(12,true),(13,true),(14,true),(15,true),(16,true),(17,true),(18,true),(19,true),(20,true),(21,true),(22,true),(23,true)] (fun w'=>w'.cell? ⟨wa.heap.size,m,none⟩=some (.bool false)/\w'.cell? ⟨w2.heap.size,m,none⟩=some (I (gR run d m))/\w'.cell? ⟨b,o+m*11,none⟩=some (I run[m].ev.kind)/\w'.cell? ⟨b,o+m*11+1,none⟩=some (I run[m].ev.node)/\w'.cell? ⟨b,o+m*11+2,none⟩=some (I run[m].ev.arg)/\w'.cell? ⟨b,o+m*11+3,none⟩=some (I run[m].ev.msg.node)/\w'.cell? ⟨b,o+m*11+4,none⟩=some (I run[m].ev.msg.handler)/\w'.cell? ⟨b,o+m*11+5,none⟩=some (I run[m].ev.msg.count)/\w'.cell? ⟨b,o+m*11+6,none⟩=some (I run[m].ev.msg.index)/\w'.cell? ⟨b,o+m*11+7,none⟩=some (I run[m].ev.msg.copy)/\w'.cell? ⟨b,o+m*11+8,none⟩=some (va)/\w'.cell? ⟨b,o+m*11+9,none⟩=some (.bool run[m].aJ)/\w'.cell? ⟨b,o+m*11+10,none⟩=some (vs)/\w'.cell? ⟨b,o+j*11,none⟩=some (I run[j].ev.kind)/\w'.cell? ⟨b,o+j*11+1,none⟩=some (I run[j].ev.node)/\w'.cell? ⟨b,o+j*11+2,none⟩=some (I run[j].ev.arg)/\w'.cell? ⟨b,o+j*11+3,none⟩=some (I run[j].ev.msg.node)/\w'.cell? ⟨b,o+j*11+4,none⟩=some (I run[j].ev.msg.handler)/\w'.cell? ⟨b,o+j*11+5,none⟩=some (I run[j].ev.msg.count)/\w'.cell? ⟨b,o+j*11+6,none⟩=some (I run[j].ev.msg.index)/\w'.cell? ⟨b,o+j*11+7,none⟩=some (I run[j].ev.msg.copy)/\w'.cell? ⟨b,o+j*11+8,none⟩=some (ua)/\w'.cell? ⟨b,o+j*11+9,none⟩=some (.bool run[j].aJ)/\w'.cell? ⟨b,o+j*11+10,none⟩=some (us)) ah rfl rfl ah ⟨zu,LC,x0,x1,x2,x3,x4,x5,x6,x7,x8,x9,x10,y0,y1,y2,y3,y4,y5,y6,y7,y8,y9,y10⟩ ?_
           iterate 24 (first|refine gA ?_|refine BQ ?_)
           refine kP ?_;go_wp2_with fail;refine(ahn run[m] run[j] _ _ _ ⟨va,vs,rfl,dU.kept (Below.refl _ _).drew ax,dz.kept (Below.refl _ _).drew ax⟩ ⟨ua,us,rfl,sO.kept (Below.refl _ _).drew ax,AQ.kept (Below.refl _ _).drew ax⟩).mono ?_;rintro e w5 ⟨rfl,aC⟩;go_wp2_with fail;refine NoPanic.normal ?_;go_wp2_with fail;go_roundw
           case rel=>exact⟨m+1,ab,by go_num,by rw[pS.out];rfl,sW.drew.trans (aC.mono sW.size)⟩
           case measure=>simp[intOf];omega
        ·have Iv:(((gR run d m:Nat):Int)==0)=false:=by rw[mE];omega
         have jh:=PI run d m (.inl (by rw[alf];simp[dS]));have pS:=ae jh;clear jN dS jh;go_wp2_with fail;refine kO 28 [(0,true),(1,true),(2,true),(3,true),(4,true),(5,true),(6,true),(7,true),(8,true),(9,true),(10,true),(11,true),(12,true),(13,true),(14,true),(15,true),(16,true),(17,true),(18,true),(19,true),(20,true),(21,true),(22,true),(23,true),(24,true),(25,true),(26,true),(27,true)] (fun w'=>w'.cell? ⟨wa.heap.size,m,none⟩=some (.bool false)/\w'.cell? ⟨w2.heap.size,m,none⟩=some (I (gR run d m))) ah rfl rfl ah ⟨zu,LC⟩ ?_
         iterate 28 (first|refine gA ?_|refine BQ ?_)
         refine kP ?_;go_wp2_with fail;refine NoPanic.normal ?_;go_wp2_with fail;go_roundw
         case rel=>exact⟨m+1,ab,by go_num,by rw[pS.out],sW.drew⟩
         case measure=>simp[intOf];omega
      ·have UG:m=run.length:=ab
       have PT:Fs (iQ run d m)=(aH:Int):=by rw[UG,PR.out];rfl
       rw[PT];have nE:aw w2 wr:=hB.trans (sW.mono hB.size);have hoz:=sW.size;obtain⟨b,o,va,vs,rfl,⟨dU,hpa⟩,⟨dz,lK⟩,z0,z1,z2,z3,z4,z5,z6,z7,z8,z9,z10⟩:=aAC.at (i:=aH) (s:=run[aH]) (by simp[fc]);obtain⟨qa,da,rfl,_⟩:=dU.open;obtain⟨qs,ds,rfl,_⟩:=dz.open;have wj:aw w2 (wr.setCell ⟨wa.heap.size,aH,none⟩ (.bool true)):=nE.setCell bq _;have x0:=bB wj ax z0;have x1:=bB wj ax z1;have x2:=bB wj ax z2;have x3:=bB wj ax z3;have x4:=bB wj ax z4;have x5:=bB wj ax z5;have x6:=bB wj ax z6;have x7:=bB wj ax z7;have x8:=bB wj ax z8;have x9:=bB wj ax z9;have x10:=bB wj ax z10;have abW:=mB.out.kept sW ab;have alz:=Lx.out.kept sW ab;obtain⟨zu,tC⟩:=abW.cell fc;have Lo:=Zp (pj aS sW) ⟨wa.heap.size,aH,none⟩ (.bool true) bq
       have yY:((wr.setCell ⟨wa.heap.size,aH,none⟩ (.bool true)).alloc (.cells #[I run[aH].ev.kind,I run[aH].ev.node,I run[aH].ev.arg,I run[aH].ev.msg.node,I run[aH].ev.msg.handler,I run[aH].ev.msg.count,I run[aH].ev.msg.index,I run[aH].ev.msg.copy,.slice qa run[aH].asks.length da,.bool run[aH].aJ,.slice qs run[aH].sent.length ds] 45)).heap[wr.heap.size]? =some (.cells #[I run[aH].ev.kind,I run[aH].ev.node,I run[aH].ev.arg,I run[aH].ev.msg.node,I run[aH].ev.msg.handler,I run[aH].ev.msg.count,I run[aH].ev.msg.index,I run[aH].ev.msg.copy,.slice qa run[aH].asks.length da,.bool run[aH].aJ,.slice qs run[aH].sent.length ds] 45 (0,0)):=by
        have:=dV (wr.setCell ⟨wa.heap.size,aH,none⟩ (.bool true)) (.cells #[I run[aH].ev.kind,I run[aH].ev.node,I run[aH].ev.arg,I run[aH].ev.msg.node,I run[aH].ev.msg.handler,I run[aH].ev.msg.count,I run[aH].ev.msg.index,I run[aH].ev.msg.copy,.slice qa run[aH].asks.length da,.bool run[aH].aJ,.slice qs run[aH].sent.length ds] 45);simpa using this
       have alA:nG (fun b=>w.heap.size<=b) w2 (iq run (d++[aH])) (xs++(#[I run[aH].ev.kind,I run[aH].ev.node,I run[aH].ev.arg,I run[aH].ev.msg.node,I run[aH].ev.msg.handler,I run[aH].ev.msg.count,I run[aH].ev.msg.index,I run[aH].ev.msg.copy,.slice qa run[aH].asks.length da,.bool run[aH].aJ,.slice qs run[aH].sent.length ds]).toList):=by
        rw[ala run d aH fc];exact ze.out.snoc (s:=run[aH]) ⟨dU,hpa⟩ ⟨dz,lK⟩
       have alB:=(abW.set aH)
       have alC:=alz.setOther ⟨wa.heap.size,aH,none⟩ (.bool true) bq;have abX:=ae alB;have aAD:=ae alC;have Hos:=ae Lo;have yZ:=ae yY;have aAE:=ae alA;have HBs:=ae wj;clear UG PT z0 z1 z2 z3 z4 z5 z6 z7 z8 z9 z10 abW alz Lo yY alA alB alC wj dU dz
       go_wp2_with (at_builtin;go_must (refine tB rfl _ _ 23 rfl 45 _ 11 120 Tryz.underlying23 Rc rfl ab ab w3.heap.size _ _ xs rfl (Hos.out.alloc _) wr.heap.size 1 1 _ 45 rfl yZ.out rfl rfl ab ab bq ?_);intro g cap w5 fQ gE je jy nJ eI)
       have alD:=(aAD.out.alloc (.cells #[I run[aH].ev.kind,I run[aH].ev.node,I run[aH].ev.arg,I run[aH].ev.msg.node,I run[aH].ev.msg.handler,I run[aH].ev.msg.count,I run[aH].ev.msg.index,I run[aH].ev.msg.copy,.slice qa run[aH].asks.length da,.bool run[aH].aJ,.slice qs run[aH].sent.length ds] 45)).kept eI ab;have alE:=(abX.out.kept ((Below.refl _ _).alloc ax (.cells #[I run[aH].ev.kind,I run[aH].ev.node,I run[aH].ev.arg,I run[aH].ev.msg.node,I run[aH].ev.msg.handler,I run[aH].ev.msg.count,I run[aH].ev.msg.index,I run[aH].ev.msg.copy,.slice qa run[aH].asks.length da,.bool run[aH].aJ,.slice qs run[aH].sent.length ds] 45)) bq).kept eI ab;have kg:aw w2 w5:=(HBs.out.alloc bq (.cells #[I run[aH].ev.kind,I run[aH].ev.node,I run[aH].ev.arg,I run[aH].ev.msg.node,I run[aH].ev.msg.handler,I run[aH].ev.msg.count,I run[aH].ev.msg.index,I run[aH].ev.msg.copy,.slice qa run[aH].asks.length da,.bool run[aH].aJ,.slice qs run[aH].sent.length ds] 45)).trans (eI.mono ab)
       have UH:w3.heap.size<=w5.heap.size:=by have:=eI.size;simp at this;omega
       have aAF:=ae alD;have aAG:=ae alE;have Hb5:=ae kg;have Ho5:=ae jy;clear alD alE kg jy nJ eI fQ gE je x0 x1 x2 x3 x4 x5 x6 x7 x8 x9 x10 zu tC
       go_loopw [11] (fun i wr=>∃m:Nat,aH+1<=m/\m<=run.length/\i=.int .i64 m/\jc wr w2.heap.size run.length (fun x=>if x<m then gR run (d++[aH]) x else gR run d x)/\uv wr wa.heap.size run.length (d++[aH])/\
        wr.ownsRow w3.heap.size 45 11 (.slice (some ⟨g,0,none⟩) (d.length+1) cap) (d.length+1) (xs++(#[I run[aH].ev.kind,I run[aH].ev.node,I run[aH].ev.arg,I run[aH].ev.msg.node,I run[aH].ev.msg.handler,I run[aH].ev.msg.count,I run[aH].ev.msg.index,I run[aH].ev.msg.copy,.slice qa run[aH].asks.length da,.bool run[aH].aJ,.slice qs run[aH].sent.length ds]).toList)/\aw w2 wr/\w3.heap.size<=wr.heap.size) (fun i _=>run.length-(intOf i).toNat)
       case atStart=>
        refine⟨aH+1,ab,ab,by go_num,aAF.out.congr (fun x hx=> ?_),aAG.out,Ho5.out,Hb5.out,UH⟩;by_cases Ct:x<aH+1
        ·have h1:=alc run d aH x fc Hbd.out;rw[Zi run aH x ab] at h1;simp[Ct,h1]
        ·simp[Ct]
       case round=>
        clear UH;obtain⟨m,hbm,hm,rfl,jY,ff,aS,hB,hz⟩:=hrel;by_cases cY:m<run.length
        ·have hwd:=alc run d aH m fc Hbd.out;have vO:=ale run (d++[aH]) m;have hc:=jY.cell cY;simp only[Gi,pd] at hc;have mB:=ae ff;have gF:=ae aS;clear ff aS;have uw:=Ll p run.length (dc run) aH m wr (hO.kept hB ax) fc cY;by_cases hl:dc run aH m=true
         ·rw[hl] at uw;rw[aq hl] at hwd;rw[hwd,show((gR run (d++[aH]) m+1:Nat):Int)=(gR run (d++[aH]) m:Int)+1 from ab] at hc;obtain⟨jN,dS⟩:=hc
          have hst:=jY.set (t':=fun x=>if x<m+1 then gR run (d++[aH]) x else gR run d x) m (fun c hc=>by
           by_cases h1:c<m
           ·simp[h1,Nat.lt_succ_of_lt h1]
           ·have:¬c<m+1:=ab
            simp[h1,this])
          simp only[Nat.lt_succ_self,nk] at hst;have vF:=ae hst;have oq:=ae uw;clear hst uw hl jY hwd;go_wp2_with fail;refine oq.out.mono ?_;rintro e w6 ⟨rfl,rfl⟩;go_wp2_with fail;go_roundw
          case rel=>exact⟨m+1,ab,ab,by go_num,vF.out,mB.out.setOther _ _ bq,Zp gF.out _ _ bq,hB.setCell ai _,by simp;omega⟩
          case measure=>simp[intOf];omega
         ·have ij:dc run aH m=false:=by simpa using hl
          rw[ij] at uw;rw[af hl,qm] at hwd
          have xY:=jY.congr (t':=fun x=>if x<m+1 then gR run (d++[aH]) x else gR run d x) (fun c _=>by
           by_cases h1:c<m
           ·simp[h1,Nat.lt_succ_of_lt h1]
           ·by_cases h2:c=m
            ·subst h2;simp[hwd]
            ·have:¬c<m+1:=ab
             simp[h1,this])
          have PN:=ae xY;have oq:=ae uw;clear xY uw hl ij jY hwd hc;go_wp2_with fail;refine oq.out.mono ?_;rintro e w6 ⟨rfl,rfl⟩;go_wp2_with fail;go_roundw
          case rel=>exact⟨m+1,ab,ab,by go_num,PN.out,mB.out,gF.out,hB,hz⟩
          case measure=>simp[intOf];omega
        ·have xY:jc wr w2.heap.size run.length (gR run (d++[aH])):=jY.congr fun x hx=>by
          have:x<m:=ab;simp[this]
         have hHn:Jo run=Bk run (run.length-(d++[aH]).length) (d++[aH]):=by
          rw[Hn.out,show run.length-d.length=(run.length-(d.length+1))+1 by omega,abK run d _ aH PR.out,List.length_append];rfl
         have PN:=ae xY;have HHn:=ae hHn;have mB:=ae ff;have gF:=ae aS;clear xY hHn jY ff aS;go_wp2_with fail;go_roundw
         case rel=>exact⟨d++[aH],_,by simp;omega,by rw[List.length_append];go_num,fun i hi=>by
          rcases fL.1 hi with h|h
          ·exact PO.out i h
          ·simp at h;omega,PN.out,mB.out,by rw[List.length_append];exact gF.out,aAE.out,HHn,hB,hz⟩
         case measure=>simp[intOf];omega
    ·have aAH:d.length=run.length:=ab
     have cP:Jo run=d:=by
      rw[Hn.out,aAH,Nat.sub_self];rfl
     have cg:nH w.heap.size wr u7 (fS run):=by
      unfold fS;rw[cP];exact nH.eu aS (abL run d PO.out).symm ze.out hB ax (by have:=abV.size;omega)
     have OI:=ae cg;have Hbb:=ae (abV.trans (hB.mono abV.size));clear cP cg aS;go_wp2_with fail;go_ret;exact⟨_,rfl,OI.out,Hbb.out⟩
end
section
open Go.RowKit
def sw (p:Nat×Nat):Nat×Nat:=(p.2,p.1)
theorem aAI (l:List Nat):nv l=iv (l.map fun n:Nat=>(n:Int)):=by simp[nv,iv]
theorem PU (run:List ay)(v:Value)(w:World)(hrun:fw w v run)(hn:run.length<=64)(hint:∀s∈run,Dc s)(EH:∀s∈run,s.sent.length<=1000000)(hg:Gl w):
  Calls Tryz.prog 9 #[v] w fun e w'=>e=.returned (sv (zt (fS run)))/\aw w w':=by
 have HN:=ae (alu run v w hrun hn (fun s hs=>(hint s hs).2.2) EH);have Hg:=ae hg
 obtain⟨N,hN⟩:∃N,N=fS run:=⟨_,rfl⟩
 have EL:N.length<=64:=by rw[hN,abQ (Mw run)];exact hn
 have HI:=ae (show∀s∈N,Dc s from fun s hs=>hint s (abR (Mw run) s (hN▸hs)));rw[<-hN] at HN⊢;clear hN hrun hn EH hint hg
 have yW:=fun W=>AJ (P:=Tryz.prog) 79 22 (.slice none 0 0) 24 N.length Tryz.underlying79 ahB rfl ab ab W
 go_enter Tryz.func9,Tryz.ntmps9;go_wp2_with fail;refine HN.out.mono ?_;rintro e w1 ⟨u,rfl,Mx,aC⟩;have eC:=Mx.sl;clear Mx HN;obtain⟨ka,ca,rfl,gz⟩:=eC.open;have kH:=ae aC;have cL:=aC.size;clear aC;go_wp2_with fail
 obtain⟨w2,jo⟩:∃w2,w2=w1.alloc (.cells (eB N.length (.slice none 0 0)) 22):=⟨_,rfl⟩
 have fj:w2.heap.size=w1.heap.size+1:=by rw[jo];simp
 have Cs:az w2 w1.heap.size (eB N.length (.slice none 0 0)):=by rw[jo];exact az.new _ _ _
 have abY:aw w1 w2:=by rw[jo];exact(Below.refl _ _).alloc ax _
 rw[<-jo];clear jo yW;refine(aac N _ w2 (eC.kept abY ax) EL).mono ?_;rintro e w3 ⟨p,rfl,hO,fD⟩;go_wp2_with fail;refine(awe p N.length (dc N) w3 hO).mono ?_;rintro e w4 ⟨vl,rfl,aS,lN⟩;have cM:=Flat.eu aS
 have hLv:=fun g (hg:vl.ownBlock=some g)=>aS.lt g hg
 obtain⟨la,lc,rfl,jg⟩:=cM.open;have vJ:=fD.size;have IU:=lN.size
 obtain⟨L,hL⟩:∃L,L=fF (dc N) N.length N.length:=⟨_,rfl⟩
 rw[<-hL] at cM hLv jg⊢
 have lR:lq N=L.map sw:=by rw[hL];rfl
 have rp:∀q∈L,q.1<N.length/\q.2<N.length:=fun q hq=>by rw[hL] at hq;exact alr hq
 have Lt:L.length<=4096:=by
  have:=als N EL;rwa[lR,dE] at this
 have HLb:=ae rp;have Hbf:=ae lR;have alF:aw w1 w4:=abY.trans ((fD.mono ab).trans (lN.mono ab));have alG:=ae alF
 have oP:ri (fun b=>b<w4.heap.size/\b≠w1.heap.size) (.slice la L.length lc):=fun b o m c e=>by
  have:=hLv b (by rw[e];rfl);constructor
  ·exact this.2
  ·omega
 have Hfl:=ae cM;have alH:=ae oP;have alI:=ae ((Cs.kept fD Cs.lt).kept lN ab);have Fu:=ae eC;clear hL lR rp alF abY fD lN hO aS hLv cM oP Cs eC;go_wp2_with fail;go_loopw [20] (fun vi wr=>∃(k:Nat) (arr:Array Value),k<=L.length/\vi=I k/\Hid (uj w4.heap.size w1.heap.size N.length wr ((L.take k).map sw) arr)/\Hid (Same (fun b=>b<w4.heap.size/\b≠w1.heap.size) w4 wr)/\Hid (aw w1 wr)) (fun vi _=>L.length-(intOf vi).toNat)
 case atStart=>exact⟨0,_,ab,rfl,ae (by rw[List.take_zero];exact uj.start alI.out ab ax),ae (Same.refl _ _),alG⟩
 case round=>
  clear alI;obtain⟨k,arr,hk,rfl,Mz,Hs,HB⟩:=hrel;by_cases hlt:k<L.length
  ·obtain⟨x,hx⟩:∃x,L[k]? =some x:=⟨L[k],by simp[hlt]⟩
   obtain⟨rm,yV⟩:=HLb.out x (eE hx);obtain⟨b,o,rfl,x0,x1⟩:=Zo (Hfl.out.Zl alH.out Hs.out) (i:=k) (x:=x) hx
   have fc:b<wr.heap.size:=by simpa using iT _ _ x0
   obtain⟨Lk,UI⟩:∃Lk,Lk=(L.take k).map sw:=⟨_,rfl⟩
   rw[<-UI] at Mz
   have db:(L.take (k+1)).map sw=Lk++[(x.2,x.1)]:=by rw[UI,DB,hx];simp[sw]
   have qD:=Mz.out;obtain⟨va,dU,bl⟩:=qD.row x.2 yV
   have hlen:(aQ Lk x.2).length<=10000:=by
    rw[UI];unfold aQ;rw[dE];exact bj (nQ _ _) (by rw[dE,dN];omega)
   clear UI
   have yX:∀x,(x<w4.heap.size\/wr.heap.size<=x)->va.ownBlock≠some x:=fun x hx e=>by
    rcases EI bl with h0|⟨g,h0,h1,h2⟩
    ·rw[h0] at e;cases e
    ·rw[h0] at e;cases e;omega
   have jZ:=Hs.out.1;have OC:=ae ((bl.alloc (.cells #[I x.1,I x.2] 84)).alloc (.cells #[I x.1] 3))
   have yZ:Hid (((wr.alloc (.cells #[I x.1,I x.2] 84)).alloc (.cells #[I x.1] 3)).heap[wr.heap.size+1]? =some (.cells #[I x.1] 3 (0,0))):=ae (by
    have:=dV (wr.alloc (.cells #[I x.1,I x.2] 84)) (.cells #[I x.1] 3)
    simpa using this)
   have Ir:aw wr ((wr.alloc (.cells #[I x.1,I x.2] 84)).alloc (.cells #[I x.1] 3)):=((Below.refl _ _).alloc ax _).alloc ai _;have PV:=ae (qD.kept Ir);have HX:Hid (az ((wr.alloc (.cells #[I x.1,I x.2] 84)).alloc (.cells #[I x.1] 3)) wr.heap.size #[I x.1,I x.2]):=ae ((az.new _ _ _).alloc _);have EM:=ae Ir;have Zz:=ae (yX w1.heap.size ab);have ZA:=ae (yX wr.heap.size ab);have mu:=ae dU;have vP:=ae db;have aAJ:=ae yX;have sL:w1.heap.size<wr.heap.size:=ab;clear hx bl db Ir yX dU qD;have hgn:=(Mz.out.bn.cell x.2).trans mu.out;go_wp2_with fail
   obtain⟨wx,pL⟩:∃wx,wx=wr.alloc (.cells #[I x.1,I x.2] 84):=⟨_,rfl⟩
   have dG:wx.cell? ⟨w1.heap.size,x.2,none⟩=some va:=by rw[pL];exact((Mz.out.bn.alloc _).cell x.2).trans mu.out
   have ZB:wx.cell? ⟨wr.heap.size,0,none⟩=some (I x.1):=by rw[pL];exact(az.new _ _ _).cell 0
   have ZC:wx.cell? ⟨wr.heap.size,1,none⟩=some (I x.2):=by rw[pL];exact(az.new _ _ _).cell 1
   have hzx:wx.heap.size=wr.heap.size+1:=by rw[pL];simp
   rw[<-pL] at OC yZ PV HX EM⊢;clear pL;have eG:(wx.alloc (.cells #[I x.1] 3)).cell? ⟨w1.heap.size,x.2,none⟩=some va:=(PV.out.bn.cell x.2).trans mu.out;have ZD:(wx.alloc (.cells #[I x.1] 3)).cell? ⟨wr.heap.size,0,none⟩=some (I x.1):=HX.out.cell 0;have ZE:(wx.alloc (.cells #[I x.1] 3)).cell? ⟨wr.heap.size,1,none⟩=some (I x.2):=HX.out.cell 1;refine kO 12 [(0,true),(1,true),(2,true),(3,true),(4,true),(5,true),(6,true),(7,true),(8,true),(9,true),(10,false),(11,false)] (fun w'=>w'.cell? ⟨wr.heap.size,0,none⟩=some (I x.1)/\w'.cell? ⟨wr.heap.size,1,none⟩=some (I x.2)/\w'.cell? ⟨w1.heap.size,x.2,none⟩=some va) ah rfl rfl ah ⟨ZB,ZC,dG⟩ ?_
   repeat refine gA ?_
   (refine kQ (fun K hK=> ?_);go_simp;refine hK.out _ _ ?_ ?_)
   ·exact⟨ZD,ZE,eG⟩
   clear hK K;refine cJ ?_;refine kQ (fun K hK=> ?_);refine Gp eD _ _ 22 eD 3 _ 1 8 Tryz.underlying22 rT rfl ab ab w4.heap.size va (aQ Lk x.2).length (nv (aQ Lk x.2)) eD OC.out (wr.heap.size+1) 1 1 #[I x.1] 3 eD yZ.out rfl rfl ab ab PV.out.hB ?_;intro g cap w5 fQ gE je jy nJ eI;have hG5:=PV.out.bn.drew.grown nJ Zz.out;have hX5:=HX.out.drew.grown nJ ZA.out;have cG5:=(hG5.cell x.2).trans mu.out;have fG5:=hG5.frozen x.2;have ZF:w5.cell? ⟨wr.heap.size,0,none⟩=some (I x.1):=hX5.cell 0;have cX1:w5.cell? ⟨wr.heap.size,1,none⟩=some (I x.2):=hX5.cell 1;refine hK.out _ _ ⟨ZF,cX1,cG5⟩ ?_;clear hK K;refine cJ ?_;refine kP ?_;go_wp2_with fail;refine NoPanic.normal ?_;go_wp2_with fail;go_roundw
   case rel=>
    have hst:=PV.out.drew.step (x.2,x.1) yV va mu.out g cap jy nJ (je.imp id (fun e=>by rw[e];exact cK _)) eI.size;refine⟨k+1,_,ab,by go_num,by rw[vP.out];exact ae hst,ae ?_,ae ?_⟩
    ·refine Same.set (Hs.out.trans (Same.trans (B:=(wx.alloc (.cells #[I x.1] 3)).drew) ⟨EM.out.size,fun b hb=>EM.out.block b ab⟩ (Same.grown nJ (fun b hb=>⟨?_,fun e=>aAJ.out b (.inl hb.1) e.symm⟩)))) _ _ (fun h=>h.2 rfl);have:=EM.out.size;simp only[oE];omega
    ·exact(((HB.out.trans (EM.out.drew.mono ab)).trans (eI.mono ab)).setCell ax _)
   case measure=>simp[intOf];omega
  ·obtain rfl:k=L.length:=ab
   have qD:uj w4.heap.size w1.heap.size N.length wr (lq N) arr:=by
    have:=Mz.out;rw[fK] at this;rw[Hbf.out];exact this
   have Hbx:=ae qD;have jZ:=Hs.out.1;have HN5:=ae (Fu.out.kept HB.out ax);have HB5:=ae (kH.out.trans (HB.out.mono cL));have Jr:=ae (Hg.out.below HB5.out);have UH:=HB5.out.size
   obtain⟨F,hF⟩:∃F:Nat->List Nat,F=fun i=>aQ (lq N) i:=⟨_,rfl⟩
   have vF:=ae (show zt N=et N F N.length by rw[hF];rfl)
   have hFb:∀i,(F i).length<=10000/\∀n∈F i,n<=64:=by rw[hF];exact aAA N EL
   have HL:=ae (alq N F EL HI.out hFb);have HFb:=ae hFb;have jd:=ae (show∀i,i<N.length->∃va,arr[i]? =some va/\wr.ownsRow w4.heap.size 3 1 va (F i).length (nv (F i)) by rw[hF];exact qD.row);clear qD Mz Hs HB alG Fu Hbf HLb Hfl alH hF hFb kH
   obtain⟨W5,rfl⟩:∃W5:World,W5=wr:=⟨_,rfl⟩
   go_wp2_with fail;go_loopw [40] (fun vi wr=>∃i:Nat,i<=N.length/\vi=I i/\Hid (Bd wr W5.heap.size (et N F i))/\Hid (aw W5 wr)) (fun vi _=>N.length-(intOf vi).toNat)
   case atStart=>exact⟨0,ab,rfl,ae (Bd.new _),ae ((Below.refl _ _).alloc ax _)⟩
   case round=>
    obtain⟨i,hi,rfl,UJ,HB⟩:=hrel
    obtain⟨w6,rfl⟩:∃w6:World,w6=wr:=⟨_,rfl⟩
    have aAK:=HB.out.size;by_cases hlt:i<N.length
    ·have fc:=UJ.out.lt;obtain⟨bb,o,va,vs,rfl,dU,dz,y0,y1,y2,y3,y4,y5,y6,y7,y8,y9,y10⟩:=HN5.out.at (i:=i) (s:=N[i]) (by simp[hlt]);have pO:=HI.out N[i] (bP hlt);have MA:=HL.out i hi;have alJ:301000000*i<=301000000*64:=nR ax ab;have pU:=ae (Bl N F i hlt);obtain⟨vb,Ip,UK⟩:=jd.out i hlt;obtain⟨hFl,zw⟩:=HFb.out i;obtain⟨ba,bc,rfl,hbm⟩:=(Flat.eu UK).open;have UL:=ae ((Hbx.out.bn.cell i).trans Ip)
     have UM:Hid (br W5 (.slice ba (F i).length bc) ((F i).map fun n:Nat=>(n:Int))):=ae (by
      have:=Flat.eu UK;rw[aAI] at this;unfold br;rw[dE]
      exact this)
     generalize F i=bf at pU UK hFl zw hbm UL UM Ip;generalize et N F i=T at UJ MA pU;generalize N[i]=s at dU dz y0 y1 y2 y3 y4 y5 y6 y7 y8 y9 y10 pO pU;obtain⟨⟨kind,node,arg,⟨m0,m1,m2,m3,m4⟩⟩,asks,aJ,sent⟩:=s;dsimp only at dU dz y0 y1 y2 y3 y4 y5 y6 y7 y8 y9 y10;obtain⟨UN,wm,PW⟩:=pO;dsimp only at UN wm PW;obtain⟨aa,ac,rfl,uU⟩:=dU.open;obtain⟨sa,sc,rfl,_⟩:=dz.open;generalize sent.length=sl at dz y10;have MB:=iP (i:Int) (uu i ab);have rH:=abS _ UN;have lj:=ae (fun X (hX:Gl X)=>EC (i:Int) (uu i ab) X hX);have mC:=ae (fun X (hX:Gl X)=>azE ⟨kind,node,arg,⟨m0,m1,m2,m3,m4⟩⟩ UN X hX)
     have rI:Hid (et N F (i+1)=T++(Lib.itoa i++[58,32]++ei ⟨kind,node,arg,⟨m0,m1,m2,m3,m4⟩⟩)++lp asks asks.length++mX aJ++dQ bf++[10]):=ae (by
      rw[pU.out];unfold xX sV
      simp only[List.append_assoc])
     generalize Lib.itoa (i:Int)=di at MB lj rI;generalize ei ⟨kind,node,arg,⟨m0,m1,m2,m3,m4⟩⟩=te at rH mC rI;have mu:=ae dU;have Js:=ae wm;have x0:=bB HB.out ax y0;have x1:=bB HB.out ax y1;have x2:=bB HB.out ax y2;have x3:=bB HB.out ax y3;have x4:=bB HB.out ax y4;have x5:=bB HB.out ax y5;have x6:=bB HB.out ax y6;have x7:=bB HB.out ax y7;have x8:=bB HB.out ax y8;have x9:=bB HB.out ax y9;have x10:=bB HB.out ax y10;clear dU dz y0 y1 y2 y3 y4 y5 y6 y7 y8 y9 y10 UN wm pU UK Ip
     have sX:Hid (PS W5 (w6.alloc (.cells #[I kind,I node,I arg,I m0,I m1,I m2,I m3,I m4,.slice aa asks.length ac,.bool aJ,.slice sa sl sc] 45)) w6.heap.size #[I kind,I node,I arg,I m0,I m1,I m2,I m3,I m4,.slice aa asks.length ac,.bool aJ,.slice sa sl sc] T):=ae {
      row:=dV _ _
      below:=HB.out.alloc aAK _
      bd:=UJ.out.kept ((Below.refl _ _).alloc ax _)
      lt:=fc }
     unfold sv at lj mC;unfold iH at mC;dsimp only at mC;go_wp2_with fail;clear x0 x1 x2 x3 x4 x5 x6 x7 x8 x9 x10;have cF:¬9223372036854775807<di.length+2:=ab;have fO:¬9223372036854775807<di.length+2+te.length:=ab;have hP:=sX.out.drew;clear sX;refine kO 6 [(0,true),(3,true),(4,true),(1,false),(2,true),(5,false)] (fun X=>∀j,X.cell? ⟨w6.heap.size,j,none⟩=(#[I kind,I node,I arg,I m0,I m1,I m2,I m3,I m4,.slice aa asks.length ac,.bool aJ,.slice sa sl sc]:Array Value)[j]?) ah rfl rfl ah hP.cell ?_
     iterate 3 refine gA ?_
     obtain⟨V,hV⟩:∃V,V=(w6.alloc (.cells #[I kind,I node,I arg,I m0,I m1,I m2,I m3,I m4,.slice aa asks.length ac,.bool aJ,.slice sa sl sc] 45)).drew:=⟨_,rfl⟩
     rw[<-hV] at hP⊢;clear hV;have HP:=ae hP;clear hP;refine kQ (fun K hK=> ?_);go_simp;go_at_call 29;refine(lj.out _ (Jr.out.below HP.out.below)).mono ?_;rintro e V1 ⟨rfl,D⟩;replace HP:=ae (HP.out.then D);refine hK.out _ _ HP.out.cell ?_;clear hK K D;refine cJ ?_;refine gA ?_;refine kQ (fun K hK=> ?_);go_simp;go_at_call 30;refine(mC.out _ (Jr.out.below HP.out.below)).mono ?_;rintro e V2 ⟨rfl,D⟩;replace HP:=ae (HP.out.then D);refine hK.out _ _ HP.out.cell ?_;clear hK K D;refine cJ ?_;refine kP ?_
     have e1:(⟨di.toArray⟩++⟨[58,32].toArray⟩++⟨te.toArray⟩:ByteArray)=⟨(di++[58,32]++te).toArray⟩:=by rw[cH,cH]
     have Hw:=ae (OM V2 W5.heap.size T (di++[58,32]++te) HP.out.bd (by simp only[List.length_append,List.length_cons,List.length_nil];omega));unfold sv at Hw;rw[<-e1] at Hw;clear e1
     go_wp2_with (go_at_call 28;refine Hw.out.mono ?_;rintro e V3 ⟨rfl,D⟩;have PX:=ae (HP.out.wrote D);clear D)
     refine NoPanic.normal ?_
     obtain⟨hd,PY⟩:∃hd,hd=di++[58,32]++te:=⟨_,rfl⟩
     have aGT:hd.length<=300:=by
      rw[PY];simp only[List.length_append,List.length_cons,List.length_nil];omega
     rw[<-PY] at PX rI;clear cF fO lj mC Hw HP PY MB rH;have c8:=PX.out.cell 8;have IV:w6.heap.size<V3.heap.size:=PX.out.qlt;go_wp2_with fail;clear c8;go_loopw [56] (fun vk wk=>∃k:Nat,k<=asks.length/\vk=I k/\Hid (PS W5 wk w6.heap.size #[I kind,I node,I arg,I m0,I m1,I m2,I m3,I m4,.slice aa asks.length ac,.bool aJ,.slice sa sl sc] (T++hd++lp asks k))) (fun vk _=>asks.length-(intOf vk).toNat)
     case atStart=>exact⟨0,ab,rfl,ae (by simpa [lp] using PX.out)⟩
     case round=>
      clear PX;obtain⟨k,hk,rfl,Bm⟩:=hrel;have kt:=alp asks k Js.out PW;by_cases eb:k<asks.length
      ·obtain⟨qb,qo,rfl,z0,z1,z2,z3,z4,z5,z6⟩:=(mu.out.kept Bm.out.below ax).at (i:=k) (x:=asks[k]) (by simp[eb]);have Dd:=Js.out asks[k] (bP eb);have Hs:=ae (aln asks k eb);generalize lp asks k=Tk at Bm Hs kt;generalize asks[k]=a at z0 z1 z2 z3 z4 z5 z6 Dd Hs;obtain⟨n0,n1,n2,n3,n4,n5,n6⟩:=a;dsimp only at z0 z1 z2 z3 z4 z5 z6;have hqn:∀x∈(⟨n0,n1,n2,n3,n4⟩:Qn).ints,bY x:=alo Dd;have fC:=abT _ hqn;have hi5:=Dd n5 (by simp[Ask.ints]);have hi6:=Dd n6 (by simp[Ask.ints]);have hl5:=iP n5 hi5;have hl6:=iP n6 hi6;have xZ:=ae (fun X (hX:Gl X)=>azF ⟨n0,n1,n2,n3,n4⟩ hqn X hX);have H5:=ae (fun X (hX:Gl X)=>EC n5 hi5 X hX);have H6:=ae (fun X (hX:Gl X)=>EC n6 hi6 X hX);unfold gS Ask.qn at Hs;dsimp only at Hs;generalize gQ ⟨n0,n1,n2,n3,n4⟩=tq at fC xZ Hs;generalize Lib.itoa n5=d5 at hl5 H5 Hs;generalize Lib.itoa n6=d6 at hl6 H6 Hs;clear Dd hqn hi5 hi6;unfold sv at xZ H5 H6;unfold pQ at xZ;dsimp only at xZ;have UO:=(Bm.out.alloc (.cells #[I n0,I n1,I n2,I n3,I n4,I n5,I n6] 78)).drew;have ux:az (wr.alloc (.cells #[I n0,I n1,I n2,I n3,I n4,I n5,I n6] 78)).drew wr.heap.size #[I n0,I n1,I n2,I n3,I n4,I n5,I n6]:=(az.new _ _ _).drew;have sX:=ae UO;have pV:=ae ux;clear UO ux;have cF:¬9223372036854775807<2+tq.length:=ab;have fO:¬9223372036854775807<2+tq.length+3:=ab;have xp:¬9223372036854775807<2+tq.length+3+d6.length:=ab;have hl4:¬9223372036854775807<2+tq.length+3+d6.length+1:=ab;have hl7:¬9223372036854775807<2+tq.length+3+d6.length+1+d5.length:=ab;have Sp:¬9223372036854775807<2+tq.length+3+d6.length+1+d5.length+1:=ab;go_wp2_with fail;clear z0 z1 z2 z3 z4 z5 z6;refine kO 13 [(0,true),(1,true),(5,true),(6,true),(10,true),(11,true),(2,false),(3,true),(4,true),(7,false),(8,true),(9,true),(12,false)] (fun X=>∀j,X.cell? ⟨wr.heap.size,j,none⟩=(#[I n0,I n1,I n2,I n3,I n4,I n5,I n6]:Array Value)[j]?) ah rfl rfl ah pV.out.cell ?_
       iterate 6 refine gA ?_
       obtain⟨V,hV⟩:∃V,V=(wr.alloc (.cells #[I n0,I n1,I n2,I n3,I n4,I n5,I n6] 78)).drew:=⟨_,rfl⟩
       rw[<-hV] at sX pV⊢;clear hV;refine kQ (fun K hK=> ?_);go_simp;go_at_call 31;refine(xZ.out _ (Jr.out.below sX.out.below)).mono ?_;rintro e V4 ⟨rfl,D⟩;replace pV:=ae (pV.out.kept D pV.out.lt);replace sX:=ae (sX.out.then D);refine hK.out _ _ pV.out.cell ?_;clear hK K D;refine cJ ?_
       iterate 2 refine gA ?_
       refine kQ (fun K hK=> ?_);go_simp;go_at_call 29;refine(H6.out _ (Jr.out.below sX.out.below)).mono ?_;rintro e V5 ⟨rfl,D⟩;replace pV:=ae (pV.out.kept D pV.out.lt);replace sX:=ae (sX.out.then D);refine hK.out _ _ pV.out.cell ?_;clear hK K D;refine cJ ?_
       iterate 2 refine gA ?_
       refine kQ (fun K hK=> ?_);go_simp;go_at_call 29;refine(H5.out _ (Jr.out.below sX.out.below)).mono ?_;rintro e V6 ⟨rfl,D⟩;replace pV:=ae (pV.out.kept D pV.out.lt);replace sX:=ae (sX.out.then D);refine hK.out _ _ pV.out.cell ?_;clear hK K D;refine cJ ?_;refine kP ?_
       have e1:(⟨[32,91].toArray⟩++⟨tq.toArray⟩++⟨[32,61,32].toArray⟩++⟨d6.toArray⟩++⟨[47].toArray⟩++⟨d5.toArray⟩++⟨[93].toArray⟩:ByteArray)=⟨([32,91]++tq++[32,61,32]++d6++[47]++d5++[93]).toArray⟩:=by rw[cH,cH,cH,cH,cH,cH]
       have Hw:=ae (OM V6 W5.heap.size (T++hd++Tk) ([32,91]++tq++[32,61,32]++d6++[47]++d5++[93]) sX.out.bd (by simp only[List.length_append,List.length_cons,List.length_nil];omega));unfold sv at Hw;rw[<-e1] at Hw;clear e1 H5 H6 xZ
       go_wp2_with (go_at_call 28;refine Hw.out.mono ?_;rintro e V7 ⟨rfl,D⟩;have HP7:=ae (sX.out.wrote D);clear D)
       refine NoPanic.normal ?_;go_wp2_with fail;go_roundw
       case rel=>
        have:=HP7.out;rw[List.append_assoc,<-Hs.out] at this;exact⟨k+1,ab,by go_num,ae this⟩
       case measure=>simp[intOf];omega
      ·obtain rfl:k=asks.length:=ab
       obtain⟨T1,rz⟩:∃T1,T1=T++hd++lp asks asks.length:=⟨_,rfl⟩
       have alK:T1.length<=20000000000:=by
        rw[rz];simp only[List.length_append];omega
       rw[<-rz] at Bm rI;clear rz kt mu Js
       obtain⟨m,hm⟩:∃m,m=bf.length:=⟨_,rfl⟩
       rw[<-hm] at UM UL;have c9:=Bm.out.cell 9
       obtain⟨T2,fR⟩:∃T2,T2=T1++mX aJ:=⟨_,rfl⟩
       have aAL:T2.length<=20000000002:=by
        rw[fR,List.length_append];have:=PL aJ;omega
       have cb:=bB Bm.out.below ax UL.out;have Fv:w6.heap.size<wr.heap.size:=Bm.out.qlt
       cases aJ with
       |true=>
        have Hw:=ae (OM wr W5.heap.size T1 [32,42] Bm.out.bd (by simp only[List.length_cons,List.length_nil];omega));rw[show T1++[32,42]=T2 by rw[fR];rfl] at Hw;unfold sv at Hw
        go_upto_region 20 with(go_at_call 28;refine Hw.out.mono ?_;rintro e V8 ⟨rfl,D⟩;have ya:=ae (Bm.out.wrote D);clear D)
        have cb8:=bB ya.out.below ax UL.out;clear c9 cb;by_cases lR:bf=[]
        ·have zx:=ae (Tv V8 W5.heap.size T2 ya.out.bd ab)
         have MC:m=0:=by rw[hm,lR];rfl
         have De:Hid (et N F (i+1)=T2++[10]):=ae (by rw[rI.out,lR,fR];simp[dQ]);clear hm lR fR;subst MC
         go_wp2_with (go_at_call 33;refine zx.out.mono ?_;rintro e V9 ⟨rfl,D⟩;have zy:=ae (ya.out.wrote D);clear D)
         go_roundw
         case rel=>exact⟨i+1,ab,by go_num,by rw[De.out];exact ae zy.out.bd,ae zy.out.below⟩
         case measure=>simp[intOf];omega
        ·have Ij:0<m:=by rw[hm];exact Dy.2 lR
         have aAM:(0:Int)<m:=ab
         have dJ:(bI 44 ((bf.map fun n:Nat=>(n:Int)).map Lib.itoa)).length<=21*10000:=by
          have:=Bf 44 20 ((bf.map fun n:Nat=>(n:Int)).map Lib.itoa) (fun y hy=>by
           obtain⟨n,hn,rfl⟩:=dm.1 hy;obtain⟨u,hu,rfl⟩:=dm.1 hn
           exact iP _ (uu u (by have:=zw u hu;omega)))
          simp only[dE] at this;omega
         have Hj:=ae (akx (bf.map fun n:Nat=>(n:Int)) (fun n hn=>by
           obtain⟨u,hu,rfl⟩:=dm.1 hn
           exact uu u (by have:=zw u hu;omega)) (by rw[dE];omega) 44 _ V8 (Jr.out.below ya.out.below) (UM.out.kept ya.out.below ax))
         have De:Hid (et N F (i+1)=T2++([32,97,102,116,101,114,32]++bI 44 ((bf.map fun n:Nat=>(n:Int)).map Lib.itoa))++[10]):=ae (by rw[rI.out,fR];unfold dQ;rw[af lR]);clear hm lR fR;generalize bI 44 ((bf.map fun n:Nat=>(n:Int)).map Lib.itoa)=tj at dJ Hj De;have cF:¬9223372036854775807<7+tj.length:=ab;have e1:Hid ((⟨[32,97,102,116,101,114,32].toArray⟩++⟨tj.toArray⟩:ByteArray)=⟨([32,97,102,116,101,114,32]++tj).toArray⟩):=ae (by rw[cH]);unfold sv at Hj
         go_wp2_with (first
          |(go_at_call 32;refine Hj.out.mono ?_;rintro e V9 ⟨rfl,D⟩;have zy:=ae (ya.out.then D);have Jt:=ae (OM V9 W5.heap.size T2 ([32,97,102,116,101,114,32]++tj) zy.out.bd (by simp only[List.length_append,List.length_cons,List.length_nil];omega));unfold sv at Jt;rw[<-e1.out] at Jt;clear D)
          |(go_at_call 28;refine Jt.out.mono ?_;rintro e V10 ⟨rfl,D⟩;have PZ:=ae (zy.out.wrote D);have zx:=ae (Tv V10 W5.heap.size _ PZ.out.bd (by simp only[List.length_append,List.length_cons,List.length_nil];omega));clear D)
          |(go_at_call 33;refine zx.out.mono ?_;rintro e V11 ⟨rfl,D⟩;have Qa:=ae (PZ.out.wrote D);clear D))
         go_roundw
         case rel=>exact⟨i+1,ab,by go_num,by rw[De.out];exact ae Qa.out.bd,ae Qa.out.below⟩
         case measure=>simp[intOf];omega
       |false=>
        have ya:Hid (PS W5 wr w6.heap.size #[I kind,I node,I arg,I m0,I m1,I m2,I m3,I m4,.slice aa asks.length ac,.bool false,.slice sa sl sc] T2):=ae (by rw[fR];simpa [mX] using Bm.out);go_upto_region 20 with fail;clear c9;by_cases lR:bf=[]
        ·have zx:=ae (Tv wr W5.heap.size T2 ya.out.bd ab)
         have MC:m=0:=by rw[hm,lR];rfl
         have De:Hid (et N F (i+1)=T2++[10]):=ae (by rw[rI.out,lR,fR];simp[dQ]);clear hm lR fR;subst MC
         go_wp2_with (go_at_call 33;refine zx.out.mono ?_;rintro e V9 ⟨rfl,D⟩;have zy:=ae (ya.out.wrote D);clear D)
         go_roundw
         case rel=>exact⟨i+1,ab,by go_num,by rw[De.out];exact ae zy.out.bd,ae zy.out.below⟩
         case measure=>simp[intOf];omega
        ·have Ij:0<m:=by rw[hm];exact Dy.2 lR
         have aAM:(0:Int)<m:=ab
         have dJ:(bI 44 ((bf.map fun n:Nat=>(n:Int)).map Lib.itoa)).length<=21*10000:=by
          have:=Bf 44 20 ((bf.map fun n:Nat=>(n:Int)).map Lib.itoa) (fun y hy=>by
           obtain⟨n,hn,rfl⟩:=dm.1 hy;obtain⟨u,hu,rfl⟩:=dm.1 hn
           exact iP _ (uu u (by have:=zw u hu;omega)))
          simp only[dE] at this;omega
         have Hj:=ae (akx (bf.map fun n:Nat=>(n:Int)) (fun n hn=>by
           obtain⟨u,hu,rfl⟩:=dm.1 hn
           exact uu u (by have:=zw u hu;omega)) (by rw[dE];omega) 44 _ wr (Jr.out.below ya.out.below) (UM.out.kept ya.out.below ax))
         have De:Hid (et N F (i+1)=T2++([32,97,102,116,101,114,32]++bI 44 ((bf.map fun n:Nat=>(n:Int)).map Lib.itoa))++[10]):=ae (by rw[rI.out,fR];unfold dQ;rw[af lR]);clear hm lR fR;generalize bI 44 ((bf.map fun n:Nat=>(n:Int)).map Lib.itoa)=tj at dJ Hj De;have cF:¬9223372036854775807<7+tj.length:=ab;have e1:Hid ((⟨[32,97,102,116,101,114,32].toArray⟩++⟨tj.toArray⟩:ByteArray)=⟨([32,97,102,116,101,114,32]++tj).toArray⟩):=ae (by rw[cH]);unfold sv at Hj
         go_wp2_with (first
          |(go_at_call 32;refine Hj.out.mono ?_;rintro e V9 ⟨rfl,D⟩;have zy:=ae (ya.out.then D);have Jt:=ae (OM V9 W5.heap.size T2 ([32,97,102,116,101,114,32]++tj) zy.out.bd (by simp only[List.length_append,List.length_cons,List.length_nil];omega));unfold sv at Jt;rw[<-e1.out] at Jt;clear D)
          |(go_at_call 28;refine Jt.out.mono ?_;rintro e V10 ⟨rfl,D⟩;have PZ:=ae (zy.out.wrote D);have zx:=ae (Tv V10 W5.heap.size _ PZ.out.bd (by simp only[List.length_append,List.length_cons,List.length_nil];omega));clear D)
          |(go_at_call 33;refine zx.out.mono ?_;rintro e V11 ⟨rfl,D⟩;have Qa:=ae (PZ.out.wrote D);clear D))
         go_roundw
         case rel=>exact⟨i+1,ab,by go_num,by rw[De.out];exact ae Qa.out.bd,ae Qa.out.below⟩
         case measure=>simp[intOf];omega
    ·obtain rfl:i=N.length:=ab;have Hs:=ae (awl w6 W5.heap.size _ UJ.out);unfold sv at Hs
     go_wp2_with (go_at_call 34;refine Hs.out.mono ?_;rintro e V9 ⟨rfl,D⟩)
     go_ret;exact⟨by rw[vF.out];rfl,HB5.out.trans ((HB.out.trans D).mono UH)⟩
end
end Go.Proofs.YtkanpepkdcmpmaaGreatDoor
