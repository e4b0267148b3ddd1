import Derived.Test.YtkanpepkdcmpmaaGreatDoorW36
import Derived.Test.YtkanpepkdcmpmaaGreatDoorW31
set_option maxHeartbeats 40000000
set_option maxRecDepth 100000
set_option linter.all false
namespace Go.Proofs.YtkanpepkdcmpmaaGreatDoor
section
open Go.RowKit
variable {W:World} {d:List Nat} {g:Nat} {t:Nat->Nat}
def uw (W:World)(g n:Nat)(d:List Nat):Prop:=∃arr:Array Value,ay W g arr/\arr.size=n/\∀b<n,arr[b]? =some (.bool (decide (b∈d)))
theorem uw.cell{n:Nat}(h:uw W g n d){b:Nat}(hb:b<n):W.cell? ⟨g,b,none⟩=some (.bool (decide (b∈d)))/\W.frozen? ⟨g,b,none⟩=false:=by
 obtain⟨wa,h1,h2,h3⟩:=h;exact⟨(h1.cell b).trans (h3 b hb),h1.frozen b⟩
theorem uw.set{n:Nat}(h:uw W g n d)(b:Nat):uw (W.setCell ⟨g,b,none⟩ (.bool true)) g n (d++[b]):=by
 obtain⟨wa,h1,h2,h3⟩:=h;refine⟨_,h1.set b _,by rw[yc];exact h2,fun c hc=> ?_⟩;by_cases e:b=c
 ·subst e;rw[oI (by rw[h2];exact hc)];simp
 ·rw[nz e,h3 c hc];simp[Ne.symm e]
theorem uw.kept{W':World}{n B:Nat}(h:uw W g n d)(hb:Below B W W')(hg:g<B):uw W' g n d:=by
 obtain⟨wa,h1,h2,h3⟩:=h;exact⟨wa,h1.kept hb hg,h2,h3⟩
theorem uw.setOther{n:Nat}(h:uw W g n d)(a:Addr)(v:Value)(hne:a.block≠g):uw (W.setCell a v) g n d:=by
 obtain⟨wa,h1,h2,h3⟩:=h;exact⟨wa,h1.setOther a v hne,h2,h3⟩
theorem jl.setOther{n:Nat}(h:jl W g n t)(a:Addr)(v:Value)(hne:a.block≠g):jl (W.setCell a v) g n t:=by
 obtain⟨wa,h1,h2,h3⟩:=h;exact⟨wa,h1.setOther a v hne,h2,h3⟩
theorem jl.alloc{n:Nat}(h:jl W g n t)(o:Obj):jl (W.alloc o) g n t:=by
 obtain⟨wa,h1,h2,h3⟩:=h;exact⟨wa,h1.alloc o,h2,h3⟩
theorem alG(run:List az)(v:Value)(w:World)(hrun:fH w v run)(hn:run.length<=64)(ud:∀s∈run,s.asks.length<=1000000)(ER:∀s∈run,s.sent.length<=1000000):
  Calls Tryz.prog 15 #[v] w fun e w'=>∃u,e=.returned u/\nR w.heap.size w' u (fZ run)/\aw w w':=by
 have gM:=ae (avd run v w hrun ab ud ER)
 have yW:=fun W=>AZ (P:=Tryz.prog) 22 3 (.int .i64 0) 8 run.length Tryz.underlying22 sd rfl ab ab W
 have Tu:=fun W=>AZ (P:=Tryz.prog) 105 4 (.bool false) 1 run.length Tryz.underlying105 ahx rfl ab ab W
 clear ud ER;go_enter Tryz.func15,Tryz.ntmps15;go_wp2_with fail;refine gM.out.mono ?_;rintro e w1 ⟨u,rfl,MK,aC⟩;have eF:=MK.sl;obtain⟨ka,ca,rfl,gH⟩:=eF.open;go_wp2_with fail;refine(aac run _ _ eF hn).mono ?_;rintro e w2 ⟨p,rfl,hO,bh⟩;have eD:=eF.kept bh ax;have aAI:=MK.kept bh;have acd:aw w w2:=aC.trans (bh.mono aC.size);clear eF MK aC bh;go_wp2_with fail
 have alH:jl (w2.alloc (.cells (eE run.length (.int .i64 0)) 3)) w2.heap.size run.length (fun _=>0):=⟨_,ay.new _ _ _,AY _ _,fun b hb=>CH _ _ _ hb⟩
 go_loopw [21] (fun i wr=>∃k:Nat,k<=run.length/\i=.int .i64 k/\jl wr w2.heap.size run.length (fun x=>if x<k then gZ run [] x else 0)/\aw w2 wr) (fun i _=>run.length-(intOf i).toNat)
 case atStart=>exact⟨0,ab,rfl,alH.congr (fun b _=>ai),(Below.refl _ _).alloc ax _⟩
 case round=>
  clear alH;obtain⟨k,hk,rfl,ks,hB⟩:=hrel;by_cases hlt:k<run.length
  ·go_wp2_with fail
   obtain⟨wo,rfl⟩:∃wo:World,wo=wr:=⟨_,rfl⟩
   go_loopw [25] (fun j wr=>∃m:Nat,m<=k/\j=.int .i64 m/\jl wr w2.heap.size run.length (fun x=>if x<k then gZ run [] x else if x=k then uu run k m else 0)/\aw w2 wr) (fun j _=>k-(intOf j).toNat)
   case atStart=>exact⟨0,ab,rfl,ks.congr (fun b _=>by simp[uu]),hB⟩
   case round=>
    clear ks hB;obtain⟨m,hm,rfl,ks,hB⟩:=hrel;by_cases db:m<k
    ·have hc:=ks.cell hlt;simp only[Gy,py,nE] at hc;obtain⟨jV,dW⟩:=hc;have dE:=aAt run k m;have hcs:=alq run k m;by_cases hl:dh run m k=true
     ·have ux:=Lt p run.length (dh run) m k wr (hO.kept hB ax) ab hlt;rw[hl] at ux;rw[aj hl] at hcs;have hst:=ks.set (t':=fun x=>if x<k then gZ run [] x else if x=k then uu run k (m+1) else 0) k (fun c hc=>by simp[hc]);simp only[Gy,py,nE,hcs] at hst;rw[show((uu run k m+1:Nat):Int)=(uu run k m:Int)+1 from ab] at hst;have vT:=ae hst;have ze:=ae hcs;have oC:=ae ux;clear hst hcs ux hl ks;go_wp2_with fail;refine oC.out.mono ?_;rintro e w3 ⟨rfl,rfl⟩;go_wp2_with fail;go_roundw
      case rel=>exact⟨m+1,ab,by go_num,by rw[ze.out];exact vT.out,hB.setCell ax _⟩
      case measure=>simp[intOf];omega
     ·have iy:dh run m k=false:=by simpa using hl
      have ux:=Lt p run.length (dh run) m k wr (hO.kept hB ax) ab hlt;rw[iy] at ux;rw[af hl,qA] at hcs;have LF:=ae ks;have ze:=ae hcs;have oC:=ae ux;clear hcs ux hl iy ks;go_wp2_with fail;refine oC.out.mono ?_;rintro e w3 ⟨rfl,rfl⟩;go_wp2_with fail;go_roundw
      case rel=>exact⟨m+1,ab,by go_num,by rw[ze.out];exact LF.out,hB⟩
      case measure=>simp[intOf];omega
    ·have alI:m=k:=ab
     have xR:jl wr w2.heap.size run.length (fun x=>if x<k+1 then gZ run [] x else 0):=ks.congr fun b _=>by
      by_cases h1:b<k
      ·simp[h1,Nat.lt_succ_of_lt h1]
      ·by_cases h2:b=k
       ·subst h2;rw[alI];simp[aAs run b hlt]
       ·have h3:¬b<k+1:=ab;simp[h1,h2,h3]
     have Qb:=ae xR;clear xR ks alI;go_wp2_with fail;go_roundw
     case rel=>exact⟨k+1,ab,by go_num,Qb.out,hB⟩
     case measure=>simp[intOf];omega
  ·have xR:jl wr w2.heap.size run.length (gZ run []):=ks.congr fun b hb=>by
    have:b<k:=ab;simp[this]
   clear ks;have hBz:=hB.size;go_wp2_with fail
   obtain⟨wa,rfl⟩:∃wa:World,wa=wr:=⟨_,rfl⟩
   obtain⟨w3,nX⟩:∃w3:World,w3=wa.alloc (.cells (eE run.length (.bool false)) 4):=⟨_,rfl⟩
   have vL:w3.heap.size=wa.heap.size+1:=by rw[nX];simp
   have fP:aw w2 w3:=by rw[nX];exact hB.alloc hBz _
   have alJ:jl w3 w2.heap.size run.length (gZ run []):=by rw[nX];exact xR.alloc _
   have alK:uw w3 wa.heap.size run.length []:=by
    rw[nX];exact⟨_,ay.new _ _ _,AY _ _,fun b hb=>by rw[CH _ _ _ hb];rfl⟩
   have sQ:w2.heap.size<wa.heap.size:=by
    obtain⟨_,h,_⟩:=xR;exact h.lt
   rw[<-nX];have Hw3:=ae nX;clear nX xR hB yW Tu
   go_loopw [45,7] (fun r vo wr=>∃(d:List Nat) (xs:List Value),d.length<=run.length/\r=.int .i64 d.length/\(∀i∈d,i<run.length)/\jl wr w2.heap.size run.length (gZ run d)/\uw wr wa.heap.size run.length d/\
    wr.ownsRow w3.heap.size 45 11 vo d.length xs/\lY (fun b=>w.heap.size<=b) w2 (iE run d) xs/\Hid (Jz run=Bq run (run.length-d.length) d)/\aw w2 wr/\w3.heap.size<=wr.heap.size) (fun r _ _=>run.length-(intOf r).toNat)
   case atStart=>exact⟨[],[],ai,rfl,ai,alJ,alK,kz _ _ _ _,rfl,ae rfl,fP,cP _⟩
   case round=>
    clear alJ alK fP;obtain⟨d,xs,fB,rfl,ll,ks,eK,aT,hcs,Hn,hB,hz⟩:=hrel;have Qc:=ae ll;have LF:=ae ks;have kR:=ae eK;have ze:=ae hcs;clear ll ks eK hcs;by_cases hlt:d.length<run.length
    ·obtain⟨aH,Qd,fq,jx⟩:=abP run d (abQ _ _ hlt);have Qe:=ae Qd;have Hbd:=ae jx;clear Qd jx;go_wp2_with fail
     obtain⟨wo,rfl⟩:∃wo:World,wo=wr:=⟨_,rfl⟩
     go_loopw [49,9] (fun q p wr=>∃m:Nat,m<=run.length/\q=.int .i64 m/\p=.int .i64 (FH (jb run d m))/\aw wo wr) (fun q _ _=>run.length-(intOf q).toNat)
     case atStart=>exact⟨0,ab,rfl,rfl,Below.refl _ _⟩
     case round=>
      obtain⟨m,hm,rfl,rfl,tf⟩:=hrel;by_cases db:m<run.length
      ·have nP:aw w2 wr:=hB.trans (tf.mono hB.size);obtain⟨b,o,va,vs,rfl,dX,dV,x0,x1,x2,x3,x4,x5,x6,x7,x8,x9,x10⟩:=(eD.kept nP ax).at (i:=m) (s:=run[m]) (by simp[db]);have zx:=((kR.out.kept tf ab).cell db).1;have LK:=((LF.out.kept tf ab).cell db).1;have rG:=alr run d m;by_cases jV:m∈d
       ·rw[fF jV] at zx;have jt:=PX run d m (.inl (by simp[mN,jV]));have qf:=ae jt;clear jV jt;go_wp2_with fail;refine kY 28 [(0,true),(1,true),(2,true),(3,true),(4,true),(5,true),(6,true),(7,true),(8,true),(9,true),(10,true),(11,true),(12,true),(13,true),(14,true),(15,true),(16,true),(17,true),(18,true),(19,true),(20,true),(21,true),(22,true),(23,true),(24,true),(25,true),(26,true),(27,true)] (fun w'=>w'.cell? ⟨wa.heap.size,m,none⟩=some (.bool true)) ah rfl rfl ah zx ?_
        iterate 28 (first|refine gI ?_|refine BZ ?_)
        refine kZ ?_;go_wp2_with fail;refine NoPanic.normal ?_;go_wp2_with fail;go_roundw
        case rel=>exact⟨m+1,ab,by go_num,by rw[qf.out],tf.drew⟩
        case measure=>simp[intOf];omega
       ·rw[jw jV] at zx;by_cases dW:gZ run d m=0
        ·have ID:(((gZ run d m:Nat):Int)==0)=true:=by rw[dW];rfl
         have dC:mN run d m=true:=by rw[als];simp[jV,dW]
         clear jV dW
         cases qg:jb run d m with
         |none=>
          have jt:=UR run d m dC (by rw[qg];rfl);have qf:=ae jt;have wu:FH (none:Option Nat)= -1:=rfl;rw[wu];clear dC jt qg wu;go_wp2_with fail;refine kY 28 [(0,true),(1,true),(2,true),(3,true),(4,true),(5,true),(6,true),(7,true),(8,true),(9,true),(10,true),(11,true),(12,true),(13,true),(14,true),(15,true),(16,true),(17,true),(18,true),(19,true),(20,true),(21,true),(22,true),(23,true),(24,true),(25,true),(26,true),(27,true)] (fun w'=>w'.cell? ⟨wa.heap.size,m,none⟩=some (.bool false)/\w'.cell? ⟨w2.heap.size,m,none⟩=some (I (gZ run d m))) ah rfl rfl ah ⟨zx,LK⟩ ?_
          iterate 28 (first|refine gI ?_|refine BZ ?_)
          refine kZ ?_;go_wp2_with fail;refine NoPanic.normal ?_;go_wp2_with fail;go_roundw
          case rel=>exact⟨m+1,ab,by go_num,by rw[qf.out];rfl,tf.drew⟩
          case measure=>simp[intOf];omega
         |some j=>
          have hjm:=(MG run d m j qg).1;have ML:decide ((j:Int)<0)=false:=ai;obtain⟨b',o',ua,us,eQ,sS,Bf,y0,y1,y2,y3,y4,y5,y6,y7,y8,y9,y10⟩:=(eD.kept nP ax).at (i:=j) (s:=run[j]' ab) ai;simp at eQ;obtain⟨rfl,rfl⟩:=eQ;have JB:j<run.length:=ab;have wu:FH (some j)=(j:Int):=rfl;rw[wu];by_cases iX:aM run[m].key run[j].key<0
          ·have jt:=UR run d m dC (by rw[qg];simp[wm,Bp db,Bp JB,iX]);have qf:=ae jt;clear dC jt qg wu;go_wp2_with fail;refine kY 24 [(0,true),(1,true),(2,true),(3,true),(4,true),(5,true),(6,true),(7,true),(8,true),(9,true),(10,true),(11,true),(12,true),(13,true),(14,true),(15,true),(16,true),(17,true),(18,true),(19,true),(20,true),(21,true),(22,true),(23,true)] (fun w'=>w'.cell? ⟨wa.heap.size,m,none⟩=some (.bool false)/\w'.cell? ⟨w2.heap.size,m,none⟩=some (I (gZ run d m))/\w'.cell? ⟨b,o+m*11,none⟩=some (I run[m].ev.kind)/\w'.cell? ⟨b,o+m*11+1,none⟩=some (I run[m].ev.node)/\w'.cell? ⟨b,o+m*11+2,none⟩=some (I run[m].ev.arg)/\w'.cell? ⟨b,o+m*11+3,none⟩=some (I run[m].ev.msg.node)/\w'.cell? ⟨b,o+m*11+4,none⟩=some (I run[m].ev.msg.handler)/\w'.cell? ⟨b,o+m*11+5,none⟩=some (I run[m].ev.msg.count)/\w'.cell? ⟨b,o+m*11+6,none⟩=some (I run[m].ev.msg.index)/\w'.cell? ⟨b,o+m*11+7,none⟩=some (I run[m].ev.msg.copy)/\w'.cell? ⟨b,o+m*11+8,none⟩=some (va)/\w'.cell? ⟨b,o+m*11+9,none⟩=some (.bool run[m].aK)/\w'.cell? ⟨b,o+m*11+10,none⟩=some (vs)/\w'.cell? ⟨b,o+j*11,none⟩=some (I run[j].ev.kind)/\w'.cell? ⟨b,o+j*11+1,none⟩=some (I run[j].ev.node)/\w'.cell? ⟨b,o+j*11+2,none⟩=some (I run[j].ev.arg)/\w'.cell? ⟨b,o+j*11+3,none⟩=some (I run[j].ev.msg.node)/\w'.cell? ⟨b,o+j*11+4,none⟩=some (I run[j].ev.msg.handler)/\w'.cell? ⟨b,o+j*11+5,none⟩=some (I run[j].ev.msg.count)/\w'.cell? ⟨b,o+j*11+6,none⟩=some (I run[j].ev.msg.index)/\w'.cell? ⟨b,o+j*11+7,none⟩=some (I run[j].ev.msg.copy)/\w'.cell? ⟨b,o+j*11+8,none⟩=some (ua)/\w'.cell? ⟨b,o+j*11+9,none⟩=some (.bool run[j].aK)/\w'.cell? ⟨b,o+j*11+10,none⟩=some (us)) ah rfl rfl ah ⟨zx,LK,x0,x1,x2,x3,x4,x5,x6,x7,x8,x9,x10,y0,y1,y2,y3,y4,y5,y6,y7,y8,y9,y10⟩ ?_
           iterate 24 (first|refine gI ?_|refine BZ ?_)
           refine kZ ?_;go_wp2_with fail;refine(ahq run[m] run[j] _ _ _ ⟨va,vs,rfl,dX.kept (Below.refl _ _).drew ax,dV.kept (Below.refl _ _).drew ax⟩ ⟨ua,us,rfl,sS.kept (Below.refl _ _).drew ax,Bf.kept (Below.refl _ _).drew ax⟩).mono ?_;rintro e w5 ⟨rfl,aC⟩;go_wp2_with fail;refine NoPanic.normal ?_;go_wp2_with fail;go_roundw
           case rel=>exact⟨m+1,ab,by go_num,by rw[qf.out];rfl,tf.drew.trans (aC.mono tf.size)⟩
           case measure=>simp[intOf];omega
          ·have jt:=PX run d m (.inr (by rw[qg];simp[wm,Bp db,Bp JB,iX]));rw[qg] at jt;have qf:=ae jt;clear dC jt qg wu;go_wp2_with fail;refine kY 24 [(0,true),(1,true),(2,true),(3,true),(4,true),(5,true),(6,true),(7,true),(8,true),(9,true),(10,true),(11,true),(12,true),(13,true),(14,true),(15,true),(16,true),(17,true),(18,true),(19,true),(20,true),(21,true),(22,true),(23,true)] (fun w'=>w'.cell? ⟨wa.heap.size,m,none⟩=some (.bool false)/\w'.cell? ⟨w2.heap.size,m,none⟩=some (I (gZ run d m))/\w'.cell? ⟨b,o+m*11,none⟩=some (I run[m].ev.kind)/\w'.cell? ⟨b,o+m*11+1,none⟩=some (I run[m].ev.node)/\w'.cell? ⟨b,o+m*11+2,none⟩=some (I run[m].ev.arg)/\w'.cell? ⟨b,o+m*11+3,none⟩=some (I run[m].ev.msg.node)/\w'.cell? ⟨b,o+m*11+4,none⟩=some (I run[m].ev.msg.handler)/\w'.cell? ⟨b,o+m*11+5,none⟩=some (I run[m].ev.msg.count)/\w'.cell? ⟨b,o+m*11+6,none⟩=some (I run[m].ev.msg.index)/\w'.cell? ⟨b,o+m*11+7,none⟩=some (I run[m].ev.msg.copy)/\w'.cell? ⟨b,o+m*11+8,none⟩=some (va)/\w'.cell? ⟨b,o+m*11+9,none⟩=some (.bool run[m].aK)/\w'.cell? ⟨b,o+m*11+10,none⟩=some (vs)/\w'.cell? ⟨b,o+j*11,none⟩=some (I run[j].ev.kind)/\w'.cell? ⟨b,o+j*11+1,none⟩=some (I run[j].ev.node)/\w'.cell? ⟨b,o+j*11+2,none⟩=some (I run[j].ev.arg)/\w'.cell? ⟨b,o+j*11+3,none⟩=some (I run[j].ev.msg.node)/\w'.cell? ⟨b,o+j*11+4,none⟩=some (I run[j].ev.msg.handler)/\w'.cell? ⟨b,o+j*11+5,none⟩=some (I run[j].ev.msg.count)/\w'.cell? ⟨b,o+j*11+6,none⟩=some (I run[j].ev.msg.index)/\w'.cell? ⟨b,o+j*11+7,none⟩=some (I run[j].ev.msg.copy)/\w'.cell? ⟨b,o+j*11+8,none⟩=some (ua)/\w'.cell? ⟨b,o+j*11+9,none⟩=some (.bool run[j].aK)/\w'.cell? ⟨b,o+j*11+10,none⟩=some (us)) ah rfl rfl ah ⟨zx,LK,x0,x1,x2,x3,x4,x5,x6,x7,x8,x9,x10,y0,y1,y2,y3,y4,y5,y6,y7,y8,y9,y10⟩ ?_
           iterate 24 (first|refine gI ?_|refine BZ ?_)
           refine kZ ?_;go_wp2_with fail;refine(ahq run[m] run[j] _ _ _ ⟨va,vs,rfl,dX.kept (Below.refl _ _).drew ax,dV.kept (Below.refl _ _).drew ax⟩ ⟨ua,us,rfl,sS.kept (Below.refl _ _).drew ax,Bf.kept (Below.refl _ _).drew ax⟩).mono ?_;rintro e w5 ⟨rfl,aC⟩;go_wp2_with fail;refine NoPanic.normal ?_;go_wp2_with fail;go_roundw
           case rel=>exact⟨m+1,ab,by go_num,by rw[qf.out];rfl,tf.drew.trans (aC.mono tf.size)⟩
           case measure=>simp[intOf];omega
        ·have ID:(((gZ run d m:Nat):Int)==0)=false:=by rw[mO];omega
         have jt:=PX run d m (.inl (by rw[als];simp[dW]));have qf:=ae jt;clear jV dW jt;go_wp2_with fail;refine kY 28 [(0,true),(1,true),(2,true),(3,true),(4,true),(5,true),(6,true),(7,true),(8,true),(9,true),(10,true),(11,true),(12,true),(13,true),(14,true),(15,true),(16,true),(17,true),(18,true),(19,true),(20,true),(21,true),(22,true),(23,true),(24,true),(25,true),(26,true),(27,true)] (fun w'=>w'.cell? ⟨wa.heap.size,m,none⟩=some (.bool false)/\w'.cell? ⟨w2.heap.size,m,none⟩=some (I (gZ run d m))) ah rfl rfl ah ⟨zx,LK⟩ ?_
         iterate 28 (first|refine gI ?_|refine BZ ?_)
         refine kZ ?_;go_wp2_with fail;refine NoPanic.normal ?_;go_wp2_with fail;go_roundw
         case rel=>exact⟨m+1,ab,by go_num,by rw[qf.out],tf.drew⟩
         case measure=>simp[intOf];omega
      ·have UT:m=run.length:=ab
       have Qf:FH (jb run d m)=(aH:Int):=by rw[UT,Qe.out];rfl
       rw[Qf];have nP:aw w2 wr:=hB.trans (tf.mono hB.size);have hoz:=tf.size;obtain⟨b,o,va,vs,rfl,⟨dX,hpa⟩,⟨dV,lV⟩,z0,z1,z2,z3,z4,z5,z6,z7,z8,z9,z10⟩:=aAI.at (i:=aH) (s:=run[aH]) (by simp[fq]);obtain⟨qa,da,rfl,_⟩:=dX.open;obtain⟨qs,ds,rfl,_⟩:=dV.open;have wv:aw w2 (wr.setCell ⟨wa.heap.size,aH,none⟩ (.bool true)):=nP.setCell bz _;have x0:=bE wv ax z0;have x1:=bE wv ax z1;have x2:=bE wv ax z2;have x3:=bE wv ax z3;have x4:=bE wv ax z4;have x5:=bE wv ax z5;have x6:=bE wv ax z6;have x7:=bE wv ax z7;have x8:=bE wv ax z8;have x9:=bE wv ax z9;have x10:=bE wv ax z10;have ace:=kR.out.kept tf ab;have alL:=LF.out.kept tf ab;obtain⟨zx,tG⟩:=ace.cell fq;have Lw:=Zs (pB aT tf) ⟨wa.heap.size,aH,none⟩ (.bool true) bz
       have yY:((wr.setCell ⟨wa.heap.size,aH,none⟩ (.bool true)).alloc (.cells #[I run[aH].ev.kind,I run[aH].ev.node,I run[aH].ev.arg,I run[aH].ev.msg.node,I run[aH].ev.msg.handler,I run[aH].ev.msg.count,I run[aH].ev.msg.index,I run[aH].ev.msg.copy,.slice qa run[aH].asks.length da,.bool run[aH].aK,.slice qs run[aH].sent.length ds] 45)).heap[wr.heap.size]? =some (.cells #[I run[aH].ev.kind,I run[aH].ev.node,I run[aH].ev.arg,I run[aH].ev.msg.node,I run[aH].ev.msg.handler,I run[aH].ev.msg.count,I run[aH].ev.msg.index,I run[aH].ev.msg.copy,.slice qa run[aH].asks.length da,.bool run[aH].aK,.slice qs run[aH].sent.length ds] 45 (0,0)):=by
        have:=dY (wr.setCell ⟨wa.heap.size,aH,none⟩ (.bool true)) (.cells #[I run[aH].ev.kind,I run[aH].ev.node,I run[aH].ev.arg,I run[aH].ev.msg.node,I run[aH].ev.msg.handler,I run[aH].ev.msg.count,I run[aH].ev.msg.index,I run[aH].ev.msg.copy,.slice qa run[aH].asks.length da,.bool run[aH].aK,.slice qs run[aH].sent.length ds] 45);simpa using this
       have alM:lY (fun b=>w.heap.size<=b) w2 (iE run (d++[aH])) (xs++(#[I run[aH].ev.kind,I run[aH].ev.node,I run[aH].ev.arg,I run[aH].ev.msg.node,I run[aH].ev.msg.handler,I run[aH].ev.msg.count,I run[aH].ev.msg.index,I run[aH].ev.msg.copy,.slice qa run[aH].asks.length da,.bool run[aH].aK,.slice qs run[aH].sent.length ds]).toList):=by
        rw[aln run d aH fq];exact ze.out.snoc (s:=run[aH]) ⟨dX,hpa⟩ ⟨dV,lV⟩
       have alN:=(ace.set aH)
       have alO:=alL.setOther ⟨wa.heap.size,aH,none⟩ (.bool true) bz;have acf:=ae alN;have aAJ:=ae alO;have Hos:=ae Lw;have yZ:=ae yY;have aAK:=ae alM;have HBs:=ae wv;clear UT Qf z0 z1 z2 z3 z4 z5 z6 z7 z8 z9 z10 ace alL Lw yY alM alN alO wv dX dV
       go_wp2_with (at_builtin;go_must (refine tF rfl _ _ 23 rfl 45 _ 11 120 Tryz.underlying23 Rn rfl ab ab w3.heap.size _ _ xs rfl (Hos.out.alloc _) wr.heap.size 1 1 _ 45 rfl yZ.out rfl rfl ab ab bz ?_);intro g cap w5 fX gL jn jI nT eM)
       have alP:=(aAJ.out.alloc (.cells #[I run[aH].ev.kind,I run[aH].ev.node,I run[aH].ev.arg,I run[aH].ev.msg.node,I run[aH].ev.msg.handler,I run[aH].ev.msg.count,I run[aH].ev.msg.index,I run[aH].ev.msg.copy,.slice qa run[aH].asks.length da,.bool run[aH].aK,.slice qs run[aH].sent.length ds] 45)).kept eM ab;have alQ:=(acf.out.kept ((Below.refl _ _).alloc ax (.cells #[I run[aH].ev.kind,I run[aH].ev.node,I run[aH].ev.arg,I run[aH].ev.msg.node,I run[aH].ev.msg.handler,I run[aH].ev.msg.count,I run[aH].ev.msg.index,I run[aH].ev.msg.copy,.slice qa run[aH].asks.length da,.bool run[aH].aK,.slice qs run[aH].sent.length ds] 45)) bz).kept eM ab;have kt:aw w2 w5:=(HBs.out.alloc bz (.cells #[I run[aH].ev.kind,I run[aH].ev.node,I run[aH].ev.arg,I run[aH].ev.msg.node,I run[aH].ev.msg.handler,I run[aH].ev.msg.count,I run[aH].ev.msg.index,I run[aH].ev.msg.copy,.slice qa run[aH].asks.length da,.bool run[aH].aK,.slice qs run[aH].sent.length ds] 45)).trans (eM.mono ab)
       have UU:w3.heap.size<=w5.heap.size:=by have:=eM.size;simp at this;omega
       have aAL:=ae alP;have aAM:=ae alQ;have Hb5:=ae kt;have Ho5:=ae jI;clear alP alQ kt jI nT eM fX gL jn x0 x1 x2 x3 x4 x5 x6 x7 x8 x9 x10 zx tG
       go_loopw [11] (fun i wr=>∃m:Nat,aH+1<=m/\m<=run.length/\i=.int .i64 m/\jl wr w2.heap.size run.length (fun x=>if x<m then gZ run (d++[aH]) x else gZ run d x)/\uw wr wa.heap.size run.length (d++[aH])/\
        wr.ownsRow w3.heap.size 45 11 (.slice (some ⟨g,0,none⟩) (d.length+1) cap) (d.length+1) (xs++(#[I run[aH].ev.kind,I run[aH].ev.node,I run[aH].ev.arg,I run[aH].ev.msg.node,I run[aH].ev.msg.handler,I run[aH].ev.msg.count,I run[aH].ev.msg.index,I run[aH].ev.msg.copy,.slice qa run[aH].asks.length da,.bool run[aH].aK,.slice qs run[aH].sent.length ds]).toList)/\aw w2 wr/\w3.heap.size<=wr.heap.size) (fun i _=>run.length-(intOf i).toNat)
       case atStart=>
        refine⟨aH+1,ab,ab,by go_num,aAL.out.congr (fun x hx=> ?_),aAM.out,Ho5.out,Hb5.out,UU⟩;by_cases CC:x<aH+1
        ·have h1:=alp run d aH x fq Hbd.out;rw[Zm run aH x ab] at h1;simp[CC,h1]
        ·simp[CC]
       case round=>
        clear UU;obtain⟨m,hbm,hm,rfl,ks,eK,aT,hB,hz⟩:=hrel;by_cases db:m<run.length
        ·have hwd:=alp run d aH m fq Hbd.out;have rG:=alr run (d++[aH]) m;have hc:=ks.cell db;simp only[Gy,py] at hc;have kR:=ae eK;have gM:=ae aT;clear eK aT;have ux:=Lt p run.length (dh run) aH m wr (hO.kept hB ax) fq db;by_cases hl:dh run aH m=true
         ·rw[hl] at ux;rw[aj hl] at hwd;rw[hwd,show((gZ run (d++[aH]) m+1:Nat):Int)=(gZ run (d++[aH]) m:Int)+1 from ab] at hc;obtain⟨jV,dW⟩:=hc
          have hst:=ks.set (t':=fun x=>if x<m+1 then gZ run (d++[aH]) x else gZ run d x) m (fun c hc=>by
           by_cases h1:c<m
           ·simp[h1,Nat.lt_succ_of_lt h1]
           ·have:¬c<m+1:=ab
            simp[h1,this])
          simp only[Nat.lt_succ_self,nE] at hst;have vT:=ae hst;have oC:=ae ux;clear hst ux hl ks hwd;go_wp2_with fail;refine oC.out.mono ?_;rintro e w6 ⟨rfl,rfl⟩;go_wp2_with fail;go_roundw
          case rel=>exact⟨m+1,ab,ab,by go_num,vT.out,kR.out.setOther _ _ bz,Zs gM.out _ _ bz,hB.setCell ai _,by simp;omega⟩
          case measure=>simp[intOf];omega
         ·have iy:dh run aH m=false:=by simpa using hl
          rw[iy] at ux;rw[af hl,qA] at hwd
          have xR:=ks.congr (t':=fun x=>if x<m+1 then gZ run (d++[aH]) x else gZ run d x) (fun c _=>by
           by_cases h1:c<m
           ·simp[h1,Nat.lt_succ_of_lt h1]
           ·by_cases h2:c=m
            ·subst h2;simp[hwd]
            ·have:¬c<m+1:=ab
             simp[h1,this])
          have Qb:=ae xR;have oC:=ae ux;clear xR ux hl iy ks hwd hc;go_wp2_with fail;refine oC.out.mono ?_;rintro e w6 ⟨rfl,rfl⟩;go_wp2_with fail;go_roundw
          case rel=>exact⟨m+1,ab,ab,by go_num,Qb.out,kR.out,gM.out,hB,hz⟩
          case measure=>simp[intOf];omega
        ·have xR:jl wr w2.heap.size run.length (gZ run (d++[aH])):=ks.congr fun x hx=>by
          have:x<m:=ab;simp[this]
         have hHn:Jz run=Bq run (run.length-(d++[aH]).length) (d++[aH]):=by
          rw[Hn.out,show run.length-d.length=(run.length-(d.length+1))+1 by omega,abR run d _ aH Qe.out,List.length_append];rfl
         have Qb:=ae xR;have HHn:=ae hHn;have kR:=ae eK;have gM:=ae aT;clear xR hHn ks eK aT;go_wp2_with fail;go_roundw
         case rel=>exact⟨d++[aH],_,by simp;omega,by rw[List.length_append];go_num,fun i hi=>by
          rcases fU.1 hi with h|h
          ·exact Qc.out i h
          ·simp at h;omega,Qb.out,kR.out,by rw[List.length_append];exact gM.out,aAK.out,HHn,hB,hz⟩
         case measure=>simp[intOf];omega
    ·have aAN:d.length=run.length:=ab
     have cK:Jz run=d:=by
      rw[Hn.out,aAN,Nat.sub_self];rfl
     have cq:nR w.heap.size wr u7 (fZ run):=by
      unfold fZ;rw[cK];exact nR.eB aT (abS run d Qc.out).symm ze.out hB ax (by have:=acd.size;omega)
     have OW:=ae cq;have Hbb:=ae (acd.trans (hB.mono acd.size));clear cK cq aT;go_wp2_with fail;go_ret;exact⟨_,rfl,OW.out,Hbb.out⟩
end
section
open Go.RowKit
def sw (p:Nat×Nat):Nat×Nat:=(p.2,p.1)
theorem aAO (l:List Nat):nv l=iv (l.map fun n:Nat=>(n:Int)):=by simp[nv,iv]
theorem Qg (run:List az)(v:Value)(w:World)(hrun:fH w v run)(hn:run.length<=64)(hint:∀s∈run,Dk s)(ER:∀s∈run,s.sent.length<=1000000)(hg:Gl w):
  Calls Tryz.prog 9 #[v] w fun e w'=>e=.returned (sv (zw (fZ run)))/\aw w w':=by
 have HN:=ae (alG run v w hrun hn (fun s hs=>(hint s hs).2.2) ER);have Hg:=ae hg
 obtain⟨N,hN⟩:∃N,N=fZ run:=⟨_,rfl⟩
 have EX:N.length<=64:=by rw[hN,abX (MJ run)];exact hn
 have HI:=ae (show∀s∈N,Dk s from fun s hs=>hint s (abY (MJ run) s (hN▸hs)));rw[<-hN] at HN⊢;clear hN hrun hn ER hint hg
 have yW:=fun W=>AZ (P:=Tryz.prog) 79 22 (.slice none 0 0) 24 N.length Tryz.underlying79 ahE rfl ab ab W
 go_enter Tryz.func9,Tryz.ntmps9;go_wp2_with fail;refine HN.out.mono ?_;rintro e w1 ⟨u,rfl,MK,aC⟩;have eF:=MK.sl;clear MK HN;obtain⟨ka,ca,rfl,gH⟩:=eF.open;have kO:=ae aC;have cQ:=aC.size;clear aC;go_wp2_with fail
 obtain⟨w2,jA⟩:∃w2,w2=w1.alloc (.cells (eE N.length (.slice none 0 0)) 22):=⟨_,rfl⟩
 have fy:w2.heap.size=w1.heap.size+1:=by rw[jA];simp
 have CB:ay w2 w1.heap.size (eE N.length (.slice none 0 0)):=by rw[jA];exact ay.new _ _ _
 have acg:aw w1 w2:=by rw[jA];exact(Below.refl _ _).alloc ax _
 rw[<-jA];clear jA yW;refine(aac N _ w2 (eF.kept acg ax) EX).mono ?_;rintro e w3 ⟨p,rfl,hO,fP⟩;go_wp2_with fail;refine(awb p N.length (dh N) w3 hO).mono ?_;rintro e w4 ⟨vl,rfl,aT,lZ⟩;have cS:=Flat.eB aT
 have hLv:=fun g (hg:vl.ownBlock=some g)=>aT.lt g hg
 obtain⟨la,lc,rfl,jr⟩:=cS.open;have vL:=fP.size;have Jc:=lZ.size
 obtain⟨L,hL⟩:∃L,L=fR (dh N) N.length N.length:=⟨_,rfl⟩
 rw[<-hL] at cS hLv jr⊢
 have mh:lD N=L.map sw:=by rw[hL];rfl
 have rF:∀q∈L,q.1<N.length/\q.2<N.length:=fun q hq=>by rw[hL] at hq;exact alE hq
 have LA:L.length<=4096:=by
  have:=alF N EX;rwa[mh,dI] at this
 have HLb:=ae rF;have Hbf:=ae mh;have alR:aw w1 w4:=acg.trans ((fP.mono ab).trans (lZ.mono ab));have alS:=ae alR
 have oY:rB (fun b=>b<w4.heap.size/\b≠w1.heap.size) (.slice la L.length lc):=fun b o m c e=>by
  have:=hLv b (by rw[e];rfl);constructor
  ·exact this.2
  ·omega
 have Hfl:=ae cS;have alT:=ae oY;have alU:=ae ((CB.kept fP CB.lt).kept lZ ab);have FJ:=ae eF;clear hL mh rF alR acg fP lZ hO aT hLv cS oY CB eF;go_wp2_with fail;go_loopw [20] (fun vi wr=>∃(k:Nat) (arr:Array Value),k<=L.length/\vi=I k/\Hid (uj w4.heap.size w1.heap.size N.length wr ((L.take k).map sw) arr)/\Hid (Same (fun b=>b<w4.heap.size/\b≠w1.heap.size) w4 wr)/\Hid (aw w1 wr)) (fun vi _=>L.length-(intOf vi).toNat)
 case atStart=>exact⟨0,_,ab,rfl,ae (by rw[List.take_zero];exact uj.start alU.out ab ax),ae (Same.refl _ _),alS⟩
 case round=>
  clear alU;obtain⟨k,arr,hk,rfl,MN,Hs,HB⟩:=hrel;by_cases hlt:k<L.length
  ·obtain⟨x,hx⟩:∃x,L[k]? =some x:=⟨L[k],by simp[hlt]⟩
   obtain⟨rE,yV⟩:=HLb.out x (eI hx);obtain⟨b,o,rfl,x0,x1⟩:=Zr (Hfl.out.Zp alT.out Hs.out) (i:=k) (x:=x) hx
   have fq:b<wr.heap.size:=by simpa using ez _ _ x0
   obtain⟨Lk,UW⟩:∃Lk,Lk=(L.take k).map sw:=⟨_,rfl⟩
   rw[<-UW] at MN
   have de:(L.take (k+1)).map sw=Lk++[(x.2,x.1)]:=by rw[UW,DL,hx];simp[sw]
   have qL:=MN.out;obtain⟨va,dX,bg⟩:=qL.row x.2 yV
   have hlen:(aR Lk x.2).length<=10000:=by
    rw[UW];unfold aR;rw[dI];exact bm (oc _ _) (by rw[dI,dN];omega)
   clear UW
   have yX:∀x,(x<w4.heap.size\/wr.heap.size<=x)->va.ownBlock≠some x:=fun x hx e=>by
    rcases ES bg with h0|⟨g,h0,h1,h2⟩
    ·rw[h0] at e;cases e
    ·rw[h0] at e;cases e;omega
   have jo:=Hs.out.1;have OP:=ae ((bg.alloc (.cells #[I x.1,I x.2] 84)).alloc (.cells #[I x.1] 3))
   have yZ:Hid (((wr.alloc (.cells #[I x.1,I x.2] 84)).alloc (.cells #[I x.1] 3)).heap[wr.heap.size+1]? =some (.cells #[I x.1] 3 (0,0))):=ae (by
    have:=dY (wr.alloc (.cells #[I x.1,I x.2] 84)) (.cells #[I x.1] 3)
    simpa using this)
   have IB:aw wr ((wr.alloc (.cells #[I x.1,I x.2] 84)).alloc (.cells #[I x.1] 3)):=((Below.refl _ _).alloc ax _).alloc ai _;have Qh:=ae (qL.kept IB);have HX:Hid (ay ((wr.alloc (.cells #[I x.1,I x.2] 84)).alloc (.cells #[I x.1] 3)) wr.heap.size #[I x.1,I x.2]):=ae ((ay.new _ _ _).alloc _);have EY:=ae IB;have ZC:=ae (yX w1.heap.size ab);have ZD:=ae (yX wr.heap.size ab);have mL:=ae dX;have vQ:=ae de;have aAP:=ae yX;have sQ:w1.heap.size<wr.heap.size:=ab;clear hx bg de IB yX dX qL;have hgn:=(MN.out.bn.cell x.2).trans mL.out;go_wp2_with fail
   obtain⟨wx,pV⟩:∃wx,wx=wr.alloc (.cells #[I x.1,I x.2] 84):=⟨_,rfl⟩
   have dG:wx.cell? ⟨w1.heap.size,x.2,none⟩=some va:=by rw[pV];exact((MN.out.bn.alloc _).cell x.2).trans mL.out
   have ZE:wx.cell? ⟨wr.heap.size,0,none⟩=some (I x.1):=by rw[pV];exact(ay.new _ _ _).cell 0
   have ZF:wx.cell? ⟨wr.heap.size,1,none⟩=some (I x.2):=by rw[pV];exact(ay.new _ _ _).cell 1
   have hzx:wx.heap.size=wr.heap.size+1:=by rw[pV];simp
   rw[<-pV] at OP yZ Qh HX EY⊢;clear pV;have eG:(wx.alloc (.cells #[I x.1] 3)).cell? ⟨w1.heap.size,x.2,none⟩=some va:=(Qh.out.bn.cell x.2).trans mL.out;have ZG:(wx.alloc (.cells #[I x.1] 3)).cell? ⟨wr.heap.size,0,none⟩=some (I x.1):=HX.out.cell 0;have ZH:(wx.alloc (.cells #[I x.1] 3)).cell? ⟨wr.heap.size,1,none⟩=some (I x.2):=HX.out.cell 1;refine kY 12 [(0,true),(1,true),(2,true),(3,true),(4,true),(5,true),(6,true),(7,true),(8,true),(9,true),(10,false),(11,false)] (fun w'=>w'.cell? ⟨wr.heap.size,0,none⟩=some (I x.1)/\w'.cell? ⟨wr.heap.size,1,none⟩=some (I x.2)/\w'.cell? ⟨w1.heap.size,x.2,none⟩=some va) ah rfl rfl ah ⟨ZE,ZF,dG⟩ ?_
   repeat refine gI ?_
   (refine lf (fun K hK=> ?_);go_simp;refine hK.out _ _ ?_ ?_)
   ·exact⟨ZG,ZH,eG⟩
   clear hK K;refine bC ?_;refine lf (fun K hK=> ?_);refine GG eH _ _ 22 eH 3 _ 1 8 Tryz.underlying22 sd rfl ab ab w4.heap.size va (aR Lk x.2).length (nv (aR Lk x.2)) eH OP.out (wr.heap.size+1) 1 1 #[I x.1] 3 eH yZ.out rfl rfl ab ab Qh.out.hB ?_;intro g cap w5 fX gL jn jI nT eM;have hG5:=Qh.out.bn.drew.grown nT ZC.out;have hX5:=HX.out.drew.grown nT ZD.out;have cG5:=(hG5.cell x.2).trans mL.out;have fG5:=hG5.frozen x.2;have ZI:w5.cell? ⟨wr.heap.size,0,none⟩=some (I x.1):=hX5.cell 0;have cX1:w5.cell? ⟨wr.heap.size,1,none⟩=some (I x.2):=hX5.cell 1;refine hK.out _ _ ⟨ZI,cX1,cG5⟩ ?_;clear hK K;refine bC ?_;refine kZ ?_;go_wp2_with fail;refine NoPanic.normal ?_;go_wp2_with fail;go_roundw
   case rel=>
    have hst:=Qh.out.drew.step (x.2,x.1) yV va mL.out g cap jI nT (jn.imp id (fun e=>by rw[e];exact cP _)) eM.size;refine⟨k+1,_,ab,by go_num,by rw[vQ.out];exact ae hst,ae ?_,ae ?_⟩
    ·refine Same.set (Hs.out.trans (Same.trans (B:=(wx.alloc (.cells #[I x.1] 3)).drew) ⟨EY.out.size,fun b hb=>EY.out.block b ab⟩ (Same.grown nT (fun b hb=>⟨?_,fun e=>aAP.out b (.inl hb.1) e.symm⟩)))) _ _ (fun h=>h.2 rfl);have:=EY.out.size;simp only[oN];omega
    ·exact(((HB.out.trans (EY.out.drew.mono ab)).trans (eM.mono ab)).setCell ax _)
   case measure=>simp[intOf];omega
  ·obtain rfl:k=L.length:=ab
   have qL:uj w4.heap.size w1.heap.size N.length wr (lD N) arr:=by
    have:=MN.out;rw[fT] at this;rw[Hbf.out];exact this
   have Hbx:=ae qL;have jo:=Hs.out.1;have HN5:=ae (FJ.out.kept HB.out ax);have HB5:=ae (kO.out.trans (HB.out.mono cQ));have JC:=ae (Hg.out.below HB5.out);have UU:=HB5.out.size
   obtain⟨F,hF⟩:∃F:Nat->List Nat,F=fun i=>aR (lD N) i:=⟨_,rfl⟩
   have vT:=ae (show zw N=ey N F N.length by rw[hF];rfl)
   have hFb:∀i,(F i).length<=10000/\∀n∈F i,n<=64:=by rw[hF];exact aAG N EX
   have HL:=ae (alD N F EX HI.out hFb);have HFb:=ae hFb;have jm:=ae (show∀i,i<N.length->∃va,arr[i]? =some va/\wr.ownsRow w4.heap.size 3 1 va (F i).length (nv (F i)) by rw[hF];exact qL.row);clear qL MN Hs HB alS FJ Hbf HLb Hfl alT hF hFb kO
   obtain⟨W5,rfl⟩:∃W5:World,W5=wr:=⟨_,rfl⟩
   go_wp2_with fail;go_loopw [40] (fun vi wr=>∃i:Nat,i<=N.length/\vi=I i/\Hid (Bd wr W5.heap.size (ey N F i))/\Hid (aw W5 wr)) (fun vi _=>N.length-(intOf vi).toNat)
   case atStart=>exact⟨0,ab,rfl,ae (Bd.new _),ae ((Below.refl _ _).alloc ax _)⟩
   case round=>
    obtain⟨i,hi,rfl,UX,HB⟩:=hrel
    obtain⟨w6,rfl⟩:∃w6:World,w6=wr:=⟨_,rfl⟩
    have aAQ:=HB.out.size;by_cases hlt:i<N.length
    ·have fq:=UX.out.lt;obtain⟨bb,o,va,vs,rfl,dX,dV,y0,y1,y2,y3,y4,y5,y6,y7,y8,y9,y10⟩:=HN5.out.at (i:=i) (s:=N[i]) (by simp[hlt]);have pY:=HI.out N[i] (bW hlt);have MO:=HL.out i hi;have alV:301000000*i<=301000000*64:=og ax ab;have qh:=ae (Br N F i hlt);obtain⟨vb,Iz,UY⟩:=jm.out i hlt;obtain⟨hFl,zy⟩:=HFb.out i;obtain⟨ba,bc,rfl,hbm⟩:=(Flat.eB UY).open;have UZ:=ae ((Hbx.out.bn.cell i).trans Iz)
     have Va:Hid (br W5 (.slice ba (F i).length bc) ((F i).map fun n:Nat=>(n:Int))):=ae (by
      have:=Flat.eB UY;rw[aAO] at this;unfold br;rw[dI]
      exact this)
     generalize F i=bf at qh UY hFl zy hbm UZ Va Iz;generalize ey N F i=T at UX MO qh;generalize N[i]=s at dX dV y0 y1 y2 y3 y4 y5 y6 y7 y8 y9 y10 pY qh;obtain⟨⟨kind,node,arg,⟨m0,m1,m2,m3,m4⟩⟩,asks,aK,sent⟩:=s;dsimp only at dX dV y0 y1 y2 y3 y4 y5 y6 y7 y8 y9 y10;obtain⟨Vb,wy,Qi⟩:=pY;dsimp only at Vb wy Qi;obtain⟨aa,ac,rfl,xd⟩:=dX.open;obtain⟨sa,sc,rfl,_⟩:=dV.open;generalize sent.length=sl at dV y10;have FA:=iR (i:Int) (uv i ab);have rP:=abZ _ Vb;have fe:=ae (fun X (hX:Gl X)=>yR (i:Int) (uv i ab) X hX);have js:=ae (fun X (hX:Gl X)=>azH ⟨kind,node,arg,⟨m0,m1,m2,m3,m4⟩⟩ Vb X hX)
     have rQ:Hid (ey N F (i+1)=T++(Lib.itoa i++[58,32]++eU ⟨kind,node,arg,⟨m0,m1,m2,m3,m4⟩⟩)++lC asks asks.length++nu aK++dS bf++[10]):=ae (by
      rw[qh.out];unfold xQ td
      simp only[List.append_assoc])
     generalize Lib.itoa (i:Int)=di at FA fe rQ;generalize eU ⟨kind,node,arg,⟨m0,m1,m2,m3,m4⟩⟩=te at rP js rQ;have mL:=ae dX;have JD:=ae wy;have x0:=bE HB.out ax y0;have x1:=bE HB.out ax y1;have x2:=bE HB.out ax y2;have x3:=bE HB.out ax y3;have x4:=bE HB.out ax y4;have x5:=bE HB.out ax y5;have x6:=bE HB.out ax y6;have x7:=bE HB.out ax y7;have x8:=bE HB.out ax y8;have x9:=bE HB.out ax y9;have x10:=bE HB.out ax y10;clear dX dV y0 y1 y2 y3 y4 y5 y6 y7 y8 y9 y10 Vb wy qh UY Iz
     have tg:Hid (PS W5 (w6.alloc (.cells #[I kind,I node,I arg,I m0,I m1,I m2,I m3,I m4,.slice aa asks.length ac,.bool aK,.slice sa sl sc] 45)) w6.heap.size #[I kind,I node,I arg,I m0,I m1,I m2,I m3,I m4,.slice aa asks.length ac,.bool aK,.slice sa sl sc] T):=ae {
      row:=dY _ _
      below:=HB.out.alloc aAQ _
      bd:=UX.out.kept ((Below.refl _ _).alloc ax _)
      lt:=fq }
     unfold sv at fe js;unfold gQ at js;dsimp only at js;go_wp2_with fail;clear x0 x1 x2 x3 x4 x5 x6 x7 x8 x9 x10;have cD:¬9223372036854775807<di.length+2:=ab;have fb:¬9223372036854775807<di.length+2+te.length:=ab;have hP:=tg.out.drew;clear tg;refine kY 6 [(0,true),(3,true),(4,true),(1,false),(2,true),(5,false)] (fun X=>∀j,X.cell? ⟨w6.heap.size,j,none⟩=(#[I kind,I node,I arg,I m0,I m1,I m2,I m3,I m4,.slice aa asks.length ac,.bool aK,.slice sa sl sc]:Array Value)[j]?) ah rfl rfl ah hP.cell ?_
     iterate 3 refine gI ?_
     obtain⟨V,hV⟩:∃V,V=(w6.alloc (.cells #[I kind,I node,I arg,I m0,I m1,I m2,I m3,I m4,.slice aa asks.length ac,.bool aK,.slice sa sl sc] 45)).drew:=⟨_,rfl⟩
     rw[<-hV] at hP⊢;clear hV;have HP:=ae hP;clear hP;refine lf (fun K hK=> ?_);go_simp;go_at_call 29;refine(fe.out _ (JC.out.below HP.out.below)).mono ?_;rintro e V1 ⟨rfl,D⟩;replace HP:=ae (HP.out.then D);refine hK.out _ _ HP.out.cell ?_;clear hK K D;refine bC ?_;refine gI ?_;refine lf (fun K hK=> ?_);go_simp;go_at_call 30;refine(js.out _ (JC.out.below HP.out.below)).mono ?_;rintro e V2 ⟨rfl,D⟩;replace HP:=ae (HP.out.then D);refine hK.out _ _ HP.out.cell ?_;clear hK K D;refine bC ?_;refine kZ ?_
     have e1:(⟨di.toArray⟩++⟨[58,32].toArray⟩++⟨te.toArray⟩:ByteArray)=⟨(di++[58,32]++te).toArray⟩:=by rw[bp,bp]
     have Hw:=ae (Pa V2 W5.heap.size T (di++[58,32]++te) HP.out.bd (by simp only[List.length_append,List.length_cons,List.length_nil];omega));unfold sv at Hw;rw[<-e1] at Hw;clear e1
     go_wp2_with (go_at_call 28;refine Hw.out.mono ?_;rintro e V3 ⟨rfl,D⟩;have Qj:=ae (HP.out.wrote D);clear D)
     refine NoPanic.normal ?_
     obtain⟨hd,Qk⟩:∃hd,hd=di++[58,32]++te:=⟨_,rfl⟩
     have aGW:hd.length<=300:=by
      rw[Qk];simp only[List.length_append,List.length_cons,List.length_nil];omega
     rw[<-Qk] at Qj rQ;clear cD fb fe js Hw HP Qk FA rP;have c8:=Qj.out.cell 8;have Jd:w6.heap.size<V3.heap.size:=Qj.out.qlt;go_wp2_with fail;clear c8;go_loopw [56] (fun vk wk=>∃k:Nat,k<=asks.length/\vk=I k/\Hid (PS W5 wk w6.heap.size #[I kind,I node,I arg,I m0,I m1,I m2,I m3,I m4,.slice aa asks.length ac,.bool aK,.slice sa sl sc] (T++hd++lC asks k))) (fun vk _=>asks.length-(intOf vk).toNat)
     case atStart=>exact⟨0,ab,rfl,ae (by simpa [lC] using Qj.out)⟩
     case round=>
      clear Qj;obtain⟨k,hk,rfl,Bs⟩:=hrel;have kD:=alC asks k JD.out Qi;by_cases ei:k<asks.length
      ·obtain⟨qb,qo,rfl,z0,z1,z2,z3,z4,z5,z6⟩:=(mL.out.kept Bs.out.below ax).at (i:=k) (x:=asks[k]) (by simp[ei]);have Dl:=JD.out asks[k] (bW ei);have Hs:=ae (alA asks k ei);generalize lC asks k=Tk at Bs Hs kD;generalize asks[k]=a at z0 z1 z2 z3 z4 z5 z6 Dl Hs;obtain⟨n0,n1,n2,n3,n4,n5,n6⟩:=a;dsimp only at z0 z1 z2 z3 z4 z5 z6;have hqn:∀x∈(⟨n0,n1,n2,n3,n4⟩:Qn).ints,cJ x:=alB Dl;have fO:=aca _ hqn;have hi5:=Dl n5 (by simp[Ask.ints]);have hi6:=Dl n6 (by simp[Ask.ints]);have hl5:=iR n5 hi5;have hl6:=iR n6 hi6;have xS:=ae (fun X (hX:Gl X)=>azL ⟨n0,n1,n2,n3,n4⟩ hqn X hX);have H5:=ae (fun X (hX:Gl X)=>yR n5 hi5 X hX);have H6:=ae (fun X (hX:Gl X)=>yR n6 hi6 X hX);unfold ib Ask.qn at Hs;dsimp only at Hs;generalize ja ⟨n0,n1,n2,n3,n4⟩=tq at fO xS Hs;generalize Lib.itoa n5=d5 at hl5 H5 Hs;generalize Lib.itoa n6=d6 at hl6 H6 Hs;clear Dl hqn hi5 hi6;unfold sv at xS H5 H6;unfold nk at xS;dsimp only at xS;have Vc:=(Bs.out.alloc (.cells #[I n0,I n1,I n2,I n3,I n4,I n5,I n6] 78)).drew;have uy:ay (wr.alloc (.cells #[I n0,I n1,I n2,I n3,I n4,I n5,I n6] 78)).drew wr.heap.size #[I n0,I n1,I n2,I n3,I n4,I n5,I n6]:=(ay.new _ _ _).drew;have tg:=ae Vc;have qj:=ae uy;clear Vc uy;have cD:¬9223372036854775807<2+tq.length:=ab;have fb:¬9223372036854775807<2+tq.length+3:=ab;have rm:¬9223372036854775807<2+tq.length+3+d6.length:=ab;have Mz:¬9223372036854775807<2+tq.length+3+d6.length+1:=ab;have hl7:¬9223372036854775807<2+tq.length+3+d6.length+1+d5.length:=ab;have SB:¬9223372036854775807<2+tq.length+3+d6.length+1+d5.length+1:=ab;go_wp2_with fail;clear z0 z1 z2 z3 z4 z5 z6;refine kY 13 [(0,true),(1,true),(5,true),(6,true),(10,true),(11,true),(2,false),(3,true),(4,true),(7,false),(8,true),(9,true),(12,false)] (fun X=>∀j,X.cell? ⟨wr.heap.size,j,none⟩=(#[I n0,I n1,I n2,I n3,I n4,I n5,I n6]:Array Value)[j]?) ah rfl rfl ah qj.out.cell ?_
       iterate 6 refine gI ?_
       obtain⟨V,hV⟩:∃V,V=(wr.alloc (.cells #[I n0,I n1,I n2,I n3,I n4,I n5,I n6] 78)).drew:=⟨_,rfl⟩
       rw[<-hV] at tg qj⊢;clear hV;refine lf (fun K hK=> ?_);go_simp;go_at_call 31;refine(xS.out _ (JC.out.below tg.out.below)).mono ?_;rintro e V4 ⟨rfl,D⟩;replace qj:=ae (qj.out.kept D qj.out.lt);replace tg:=ae (tg.out.then D);refine hK.out _ _ qj.out.cell ?_;clear hK K D;refine bC ?_
       iterate 2 refine gI ?_
       refine lf (fun K hK=> ?_);go_simp;go_at_call 29;refine(H6.out _ (JC.out.below tg.out.below)).mono ?_;rintro e V5 ⟨rfl,D⟩;replace qj:=ae (qj.out.kept D qj.out.lt);replace tg:=ae (tg.out.then D);refine hK.out _ _ qj.out.cell ?_;clear hK K D;refine bC ?_
       iterate 2 refine gI ?_
       refine lf (fun K hK=> ?_);go_simp;go_at_call 29;refine(H5.out _ (JC.out.below tg.out.below)).mono ?_;rintro e V6 ⟨rfl,D⟩;replace qj:=ae (qj.out.kept D qj.out.lt);replace tg:=ae (tg.out.then D);refine hK.out _ _ qj.out.cell ?_;clear hK K D;refine bC ?_;refine kZ ?_
       have e1:(⟨[32,91].toArray⟩++⟨tq.toArray⟩++⟨[32,61,32].toArray⟩++⟨d6.toArray⟩++⟨[47].toArray⟩++⟨d5.toArray⟩++⟨[93].toArray⟩:ByteArray)=⟨([32,91]++tq++[32,61,32]++d6++[47]++d5++[93]).toArray⟩:=by rw[bp,bp,bp,bp,bp,bp]
       have Hw:=ae (Pa V6 W5.heap.size (T++hd++Tk) ([32,91]++tq++[32,61,32]++d6++[47]++d5++[93]) tg.out.bd (by simp only[List.length_append,List.length_cons,List.length_nil];omega));unfold sv at Hw;rw[<-e1] at Hw;clear e1 H5 H6 xS
       go_wp2_with (go_at_call 28;refine Hw.out.mono ?_;rintro e V7 ⟨rfl,D⟩;have HP7:=ae (tg.out.wrote D);clear D)
       refine NoPanic.normal ?_;go_wp2_with fail;go_roundw
       case rel=>
        have:=HP7.out;rw[List.append_assoc,<-Hs.out] at this;exact⟨k+1,ab,by go_num,ae this⟩
       case measure=>simp[intOf];omega
      ·obtain rfl:k=asks.length:=ab
       obtain⟨T1,rK⟩:∃T1,T1=T++hd++lC asks asks.length:=⟨_,rfl⟩
       have alW:T1.length<=20000000000:=by
        rw[rK];simp only[List.length_append];omega
       rw[<-rK] at Bs rQ;clear rK kD mL JD
       obtain⟨m,hm⟩:∃m,m=bf.length:=⟨_,rfl⟩
       rw[<-hm] at Va UZ;have c9:=Bs.out.cell 9
       obtain⟨T2,fY⟩:∃T2,T2=T1++nu aK:=⟨_,rfl⟩
       have aAR:T2.length<=20000000002:=by
        rw[fY,List.length_append];have:=PZ aK;omega
       have cb:=bE Bs.out.below ax UZ.out;have FK:w6.heap.size<wr.heap.size:=Bs.out.qlt
       cases aK with
       |true=>
        have Hw:=ae (Pa wr W5.heap.size T1 [32,42] Bs.out.bd (by simp only[List.length_cons,List.length_nil];omega));rw[show T1++[32,42]=T2 by rw[fY];rfl] at Hw;unfold sv at Hw
        go_upto_region 20 with(go_at_call 28;refine Hw.out.mono ?_;rintro e V8 ⟨rfl,D⟩;have xU:=ae (Bs.out.wrote D);clear D)
        have cb8:=bE xU.out.below ax UZ.out;clear c9 cb;by_cases mh:bf=[]
        ·have zz:=ae (TD V8 W5.heap.size T2 xU.out.bd ab)
         have MP:m=0:=by rw[hm,mh];rfl
         have Dm:Hid (ey N F (i+1)=T2++[10]):=ae (by rw[rQ.out,mh,fY];simp[dS]);clear hm mh fY;subst MP
         go_wp2_with (go_at_call 33;refine zz.out.mono ?_;rintro e V9 ⟨rfl,D⟩;have zA:=ae (xU.out.wrote D);clear D)
         go_roundw
         case rel=>exact⟨i+1,ab,by go_num,by rw[Dm.out];exact ae zA.out.bd,ae zA.out.below⟩
         case measure=>simp[intOf];omega
        ·have Iv:0<m:=by rw[hm];exact DI.2 mh
         have aAS:(0:Int)<m:=ab
         have eb:(bJ 44 ((bf.map fun n:Nat=>(n:Int)).map Lib.itoa)).length<=21*10000:=by
          have:=zt 44 20 ((bf.map fun n:Nat=>(n:Int)).map Lib.itoa) (fun y hy=>by
           obtain⟨n,hn,rfl⟩:=dp.1 hy;obtain⟨u,hu,rfl⟩:=dp.1 hn
           exact iR _ (uv u (by have:=zy u hu;omega)))
          simp only[dI] at this;omega
         have Hj:=ae (akK (bf.map fun n:Nat=>(n:Int)) (fun n hn=>by
           obtain⟨u,hu,rfl⟩:=dp.1 hn
           exact uv u (by have:=zy u hu;omega)) (by rw[dI];omega) 44 _ V8 (JC.out.below xU.out.below) (Va.out.kept xU.out.below ax))
         have Dm:Hid (ey N F (i+1)=T2++([32,97,102,116,101,114,32]++bJ 44 ((bf.map fun n:Nat=>(n:Int)).map Lib.itoa))++[10]):=ae (by rw[rQ.out,fY];unfold dS;rw[af mh]);clear hm mh fY;generalize bJ 44 ((bf.map fun n:Nat=>(n:Int)).map Lib.itoa)=tj at eb Hj Dm;have cD:¬9223372036854775807<7+tj.length:=ab;have e1:Hid ((⟨[32,97,102,116,101,114,32].toArray⟩++⟨tj.toArray⟩:ByteArray)=⟨([32,97,102,116,101,114,32]++tj).toArray⟩):=ae (by rw[bp]);unfold sv at Hj
         go_wp2_with (first
          |(go_at_call 32;refine Hj.out.mono ?_;rintro e V9 ⟨rfl,D⟩;have zA:=ae (xU.out.then D);have JE:=ae (Pa V9 W5.heap.size T2 ([32,97,102,116,101,114,32]++tj) zA.out.bd (by simp only[List.length_append,List.length_cons,List.length_nil];omega));unfold sv at JE;rw[<-e1.out] at JE;clear D)
          |(go_at_call 28;refine JE.out.mono ?_;rintro e V10 ⟨rfl,D⟩;have Ql:=ae (zA.out.wrote D);have zz:=ae (TD V10 W5.heap.size _ Ql.out.bd (by simp only[List.length_append,List.length_cons,List.length_nil];omega));clear D)
          |(go_at_call 33;refine zz.out.mono ?_;rintro e V11 ⟨rfl,D⟩;have Qm:=ae (Ql.out.wrote D);clear D))
         go_roundw
         case rel=>exact⟨i+1,ab,by go_num,by rw[Dm.out];exact ae Qm.out.bd,ae Qm.out.below⟩
         case measure=>simp[intOf];omega
       |false=>
        have xU:Hid (PS W5 wr w6.heap.size #[I kind,I node,I arg,I m0,I m1,I m2,I m3,I m4,.slice aa asks.length ac,.bool false,.slice sa sl sc] T2):=ae (by rw[fY];simpa [nu] using Bs.out);go_upto_region 20 with fail;clear c9;by_cases mh:bf=[]
        ·have zz:=ae (TD wr W5.heap.size T2 xU.out.bd ab)
         have MP:m=0:=by rw[hm,mh];rfl
         have Dm:Hid (ey N F (i+1)=T2++[10]):=ae (by rw[rQ.out,mh,fY];simp[dS]);clear hm mh fY;subst MP
         go_wp2_with (go_at_call 33;refine zz.out.mono ?_;rintro e V9 ⟨rfl,D⟩;have zA:=ae (xU.out.wrote D);clear D)
         go_roundw
         case rel=>exact⟨i+1,ab,by go_num,by rw[Dm.out];exact ae zA.out.bd,ae zA.out.below⟩
         case measure=>simp[intOf];omega
        ·have Iv:0<m:=by rw[hm];exact DI.2 mh
         have aAS:(0:Int)<m:=ab
         have eb:(bJ 44 ((bf.map fun n:Nat=>(n:Int)).map Lib.itoa)).length<=21*10000:=by
          have:=zt 44 20 ((bf.map fun n:Nat=>(n:Int)).map Lib.itoa) (fun y hy=>by
           obtain⟨n,hn,rfl⟩:=dp.1 hy;obtain⟨u,hu,rfl⟩:=dp.1 hn
           exact iR _ (uv u (by have:=zy u hu;omega)))
          simp only[dI] at this;omega
         have Hj:=ae (akK (bf.map fun n:Nat=>(n:Int)) (fun n hn=>by
           obtain⟨u,hu,rfl⟩:=dp.1 hn
           exact uv u (by have:=zy u hu;omega)) (by rw[dI];omega) 44 _ wr (JC.out.below xU.out.below) (Va.out.kept xU.out.below ax))
         have Dm:Hid (ey N F (i+1)=T2++([32,97,102,116,101,114,32]++bJ 44 ((bf.map fun n:Nat=>(n:Int)).map Lib.itoa))++[10]):=ae (by rw[rQ.out,fY];unfold dS;rw[af mh]);clear hm mh fY;generalize bJ 44 ((bf.map fun n:Nat=>(n:Int)).map Lib.itoa)=tj at eb Hj Dm;have cD:¬9223372036854775807<7+tj.length:=ab;have e1:Hid ((⟨[32,97,102,116,101,114,32].toArray⟩++⟨tj.toArray⟩:ByteArray)=⟨([32,97,102,116,101,114,32]++tj).toArray⟩):=ae (by rw[bp]);unfold sv at Hj
         go_wp2_with (first
          |(go_at_call 32;refine Hj.out.mono ?_;rintro e V9 ⟨rfl,D⟩;have zA:=ae (xU.out.then D);have JE:=ae (Pa V9 W5.heap.size T2 ([32,97,102,116,101,114,32]++tj) zA.out.bd (by simp only[List.length_append,List.length_cons,List.length_nil];omega));unfold sv at JE;rw[<-e1.out] at JE;clear D)
          |(go_at_call 28;refine JE.out.mono ?_;rintro e V10 ⟨rfl,D⟩;have Ql:=ae (zA.out.wrote D);have zz:=ae (TD V10 W5.heap.size _ Ql.out.bd (by simp only[List.length_append,List.length_cons,List.length_nil];omega));clear D)
          |(go_at_call 33;refine zz.out.mono ?_;rintro e V11 ⟨rfl,D⟩;have Qm:=ae (Ql.out.wrote D);clear D))
         go_roundw
         case rel=>exact⟨i+1,ab,by go_num,by rw[Dm.out];exact ae Qm.out.bd,ae Qm.out.below⟩
         case measure=>simp[intOf];omega
    ·obtain rfl:i=N.length:=ab;have Hs:=ae (awi w6 W5.heap.size _ UX.out);unfold sv at Hs
     go_wp2_with (go_at_call 34;refine Hs.out.mono ?_;rintro e V9 ⟨rfl,D⟩)
     go_ret;exact⟨by rw[vT.out];rfl,HB5.out.trans ((HB.out.trans D).mono UU)⟩
end
end Go.Proofs.YtkanpepkdcmpmaaGreatDoor
