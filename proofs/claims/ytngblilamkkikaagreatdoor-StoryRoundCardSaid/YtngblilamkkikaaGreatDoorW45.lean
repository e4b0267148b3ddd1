import Derived.Test.YtngblilamkkikaaGreatDoorW43
import Derived.Test.YtngblilamkkikaaGreatDoorW44
set_option maxHeartbeats 40000000
set_option maxRecDepth 100000
set_option linter.all false
namespace Go.Proofs.YtngblilamkkikaaGreatDoor
section
open Go.RowKit
variable {W:World} {d:List Nat} {g:Nat} {t:Nat->Nat}
def sP (W:World)(g n:Nat)(d:List Nat):Prop:=∃arr:Array Value,ax W g arr/\arr.size=n/\∀b<n,arr[b]? =some (.bool (decide (b∈d)))
theorem sP.cell{n:Nat}(h:sP W g n d){b:Nat}(hb:b<n):W.cell? ⟨g,b,none⟩=some (.bool (decide (b∈d)))/\W.frozen? ⟨g,b,none⟩=false:=by
 obtain⟨wa,h1,h2,h3⟩:=h;exact⟨(h1.cell b).trans (h3 b hb),h1.frozen b⟩
theorem sP.set{n:Nat}(h:sP W g n d)(b:Nat):sP (W.setCell ⟨g,b,none⟩ (.bool true)) g n (d++[b]):=by
 obtain⟨wa,h1,h2,h3⟩:=h;refine⟨_,h1.set b _,by rw[Ip];exact h2,fun c hc=> ?_⟩;by_cases e:b=c
 ·subst e;rw[sT (by rw[h2];exact hc)];simp
 ·rw[qp e,h3 c hc];simp[Ne.symm e]
theorem sP.kept{W':World}{n B:Nat}(h:sP W g n d)(hb:Below B W W')(hg:g<B):sP W' g n d:=by
 obtain⟨wa,h1,h2,h3⟩:=h;exact⟨wa,h1.kept hb hg,h2,h3⟩
theorem sP.setOther{n:Nat}(h:sP W g n d)(a:Addr)(v:Value)(hne:a.block≠g):sP (W.setCell a v) g n d:=by
 obtain⟨wa,h1,h2,h3⟩:=h;exact⟨wa,h1.setOther a v hne,h2,h3⟩
theorem iu.setOther{n:Nat}(h:iu W g n t)(a:Addr)(v:Value)(hne:a.block≠g):iu (W.setCell a v) g n t:=by
 obtain⟨wa,h1,h2,h3⟩:=h;exact⟨wa,h1.setOther a v hne,h2,h3⟩
theorem iu.alloc{n:Nat}(h:iu W g n t)(o:Obj):iu (W.alloc o) g n t:=by
 obtain⟨wa,h1,h2,h3⟩:=h;exact⟨wa,h1.alloc o,h2,h3⟩
theorem alK(run:List az)(v:Value)(w:World)(hrun:gH w v run)(hn:run.length<=64)(zk:∀s∈run,s.asks.length<=1000000)(Dr:∀s∈run,s.sent.length<=1000000):
  Calls Tryz.prog 9 #[v] w fun e w'=>∃u,e=.returned u/\mh w.heap.size w' u (mY run)/\ay w w':=by
 have iy:=ae (awR run v w hrun ab zk Dr)
 have DM:=fun W=>DI (P:=Tryz.prog) 22 3 (.int .i64 0) 8 run.length Tryz.underlying22 Co rfl ab ab W
 have Zo:=fun W=>DI (P:=Tryz.prog) 102 4 (.bool false) 1 run.length Tryz.underlying102 awJ rfl ab ab W
 clear zk Dr;go_enter Tryz.func9,Tryz.ntmps9;go_wp2_with fail;refine iy.out.mono ?_;rintro e w1 ⟨u,rfl,Ld,aM⟩;have jw:=Ld.sl;obtain⟨ka,ca,rfl,jf⟩:=jw.open;go_wp2_with fail;refine(aab run _ _ jw hn).mono ?_;rintro e w2 ⟨p,rfl,hO,cn⟩;have fC:=jw.kept cn aA;have aBF:=Ld.kept cn;have abI:ay w w2:=aM.trans (cn.mono aM.size);clear jw Ld aM cn;go_wp2_with fail
 have alL:iu (w2.alloc (.cells (eW run.length (.int .i64 0)) 3)) w2.heap.size run.length (fun _=>0):=⟨_,ax.new _ _ _,DF _ _,fun b hb=>DG _ _ _ hb⟩
 go_loopw [21] (fun i wr=>∃k:Nat,k<=run.length/\i=.int .i64 k/\iu wr w2.heap.size run.length (fun x=>if x<k then fS run [] x else 0)/\ay w2 wr) (fun i _=>run.length-(intOf i).toNat)
 case atStart=>exact⟨0,ab,rfl,alL.congr (fun b _=>ai),(Below.refl _ _).alloc aA _⟩
 case round=>
  clear alL;obtain⟨k,hk,rfl,jx,hB⟩:=hrel;by_cases hlt:k<run.length
  ·go_wp2_with fail
   obtain⟨wo,rfl⟩:∃wo:World,wo=wr:=⟨_,rfl⟩
   go_loopw [25] (fun j wr=>∃m:Nat,m<=k/\j=.int .i64 m/\iu wr w2.heap.size run.length (fun x=>if x<k then fS run [] x else if x=k then sO run k m else 0)/\ay w2 wr) (fun j _=>k-(intOf j).toNat)
   case atStart=>exact⟨0,ab,rfl,jx.congr (fun b _=>by simp[sO]),hB⟩
   case round=>
    clear jx hB;obtain⟨m,hm,rfl,jx,hB⟩:=hrel;by_cases fb:m<k
    ·have hc:=jx.cell hlt;simp only[Nat.lt_irrefl,nY,mr] at hc;obtain⟨lu,oG⟩:=hc;have dp:=aAO run k m;have hcs:=akM run k m;by_cases hl:ed run m k=true
     ·have sQ:=Kb p run.length (ed run) m k wr (hO.kept hB aA) ab hlt;rw[hl] at sQ;rw[aj hl] at hcs;have hst:=jx.set (t':=fun x=>if x<k then fS run [] x else if x=k then sO run k (m+1) else 0) k (fun c hc=>by simp[hc]);simp only[Nat.lt_irrefl,nY,mr,hcs] at hst;rw[show((sO run k m+1:Nat):Int)=(sO run k m:Int)+1 from ab] at hst;have xH:=ae hst;have DV:=ae hcs;have ny:=ae sQ;clear hst hcs sQ hl jx;go_wp2_with fail;refine ny.out.mono ?_;rintro e w3 ⟨rfl,rfl⟩;go_wp2_with fail;go_roundw
      case rel=>exact⟨m+1,ab,by go_num,by rw[DV.out];exact xH.out,hB.setCell aA _⟩
      case measure=>simp[intOf];omega
     ·have jl:ed run m k=false:=by simpa using hl
      have sQ:=Kb p run.length (ed run) m k wr (hO.kept hB aA) ab hlt;rw[jl] at sQ;rw[af hl,uP] at hcs;have Km:=ae jx;have DV:=ae hcs;have ny:=ae sQ;clear hcs sQ hl jl jx;go_wp2_with fail;refine ny.out.mono ?_;rintro e w3 ⟨rfl,rfl⟩;go_wp2_with fail;go_roundw
      case rel=>exact⟨m+1,ab,by go_num,by rw[DV.out];exact Km.out,hB⟩
      case measure=>simp[intOf];omega
    ·have alM:m=k:=ab
     have wb:iu wr w2.heap.size run.length (fun x=>if x<k+1 then fS run [] x else 0):=jx.congr fun b _=>by
      by_cases h1:b<k
      ·simp[h1,Nat.lt_succ_of_lt h1]
      ·by_cases h2:b=k
       ·subst h2;rw[alM];simp[aAN run b hlt]
       ·have h3:¬b<k+1:=ab;simp[h1,h2,h3]
     have Pa:=ae wb;clear wb jx alM;go_wp2_with fail;go_roundw
     case rel=>exact⟨k+1,ab,by go_num,Pa.out,hB⟩
     case measure=>simp[intOf];omega
  ·have wb:iu wr w2.heap.size run.length (fS run []):=jx.congr fun b hb=>by
    have:b<k:=ab;simp[this]
   clear jx;have hBz:=hB.size;go_wp2_with fail
   obtain⟨wa,rfl⟩:∃wa:World,wa=wr:=⟨_,rfl⟩
   obtain⟨w3,ri⟩:∃w3:World,w3=wa.alloc (.cells (eW run.length (.bool false)) 4):=⟨_,rfl⟩
   have uf:w3.heap.size=wa.heap.size+1:=by rw[ri];simp
   have gm:ay w2 w3:=by rw[ri];exact hB.alloc hBz _
   have alN:iu w3 w2.heap.size run.length (fS run []):=by rw[ri];exact wb.alloc _
   have alO:sP w3 wa.heap.size run.length []:=by
    rw[ri];exact⟨_,ax.new _ _ _,DF _ _,fun b hb=>by rw[DG _ _ _ hb];rfl⟩
   have rA:w2.heap.size<wa.heap.size:=by
    obtain⟨_,h,_⟩:=wb;exact h.lt
   rw[<-ri];have Hw3:=ae ri;clear ri wb hB DM Zo
   go_loopw [45,7] (fun r vo wr=>∃(d:List Nat) (xs:List Value),d.length<=run.length/\r=.int .i64 d.length/\(∀i∈d,i<run.length)/\iu wr w2.heap.size run.length (fS run d)/\sP wr wa.heap.size run.length d/\
    wr.ownsRow w3.heap.size 84 11 vo d.length xs/\kU (fun b=>w.heap.size<=b) w2 (gT run d) xs/\Hid (OS run=BR run (run.length-d.length) d)/\ay w2 wr/\w3.heap.size<=wr.heap.size) (fun r _ _=>run.length-(intOf r).toNat)
   case atStart=>exact⟨[],[],ai,rfl,ai,alN,alO,jU _ _ _ _,rfl,ae rfl,gm,cI _⟩
   case round=>
    clear alN alO gm;obtain⟨d,xs,lE,rfl,mc,jx,iN,aV,hcs,Hn,hB,hz⟩:=hrel;have Hdr:=ae mc;have Km:=ae jx;have zO:=ae iN;have DV:=ae hcs;clear mc jx iN hcs;by_cases hlt:d.length<run.length
    ·obtain⟨aQ,alP,fB,jW⟩:=akH run d (akI _ _ hlt);have alQ:=ae alP;have Hbd:=ae jW;clear alP jW;go_wp2_with fail
     obtain⟨wo,rfl⟩:∃wo:World,wo=wr:=⟨_,rfl⟩
     go_loopw [49,9] (fun q p wr=>∃m:Nat,m<=run.length/\q=.int .i64 m/\p=.int .i64 (Ug (jy run d m))/\ay wo wr) (fun q _ _=>run.length-(intOf q).toNat)
     case atStart=>exact⟨0,ab,rfl,rfl,Below.refl _ _⟩
     case round=>
      obtain⟨m,hm,rfl,rfl,rL⟩:=hrel;by_cases fb:m<run.length
      ·have xz:ay w2 wr:=hB.trans (rL.mono hB.size);obtain⟨b,o,va,vs,rfl,gG,jI,x0,x1,x2,x3,x4,x5,x6,x7,x8,x9,x10⟩:=(fC.kept xz aA).at (i:=m) (s:=run[m]) (by simp[fb]);have BX:=((zO.out.kept rL ab).cell fb).1;have Kq:=((Km.out.kept rL ab).cell fb).1;have um:=akN run d m;by_cases lu:m∈d
       ·rw[fh lu] at BX;have rM:=abx run d m (.inl (by simp[mX,lu]));have BZ:=ae rM;clear lu rM;go_wp2_with fail;refine lP 28 [(0,true),(1,true),(2,true),(3,true),(4,true),(5,true),(6,true),(7,true),(8,true),(9,true),(10,true),(11,true),(12,true),(13,true),(14,true),(15,true),(16,true),(17,true),(18,true),(19,true),(20,true),(21,true),(22,true),(23,true),(24,true),(25,true),(26,true),(27,true)] (fun w'=>w'.cell? ⟨wa.heap.size,m,none⟩=some (.bool true)) ah rfl rfl ah BX ?_
        iterate 28 (first|refine jh ?_|refine LI ?_)
        refine lQ ?_;go_wp2_with fail;refine NoPanic.normal ?_;go_wp2_with fail;go_roundw
        case rel=>exact⟨m+1,ab,by go_num,by rw[BZ.out],rL.drew⟩
        case measure=>simp[intOf];omega
       ·rw[ja lu] at BX;by_cases oG:fS run d m=0
        ·have NA:(((fS run d m:Nat):Int)==0)=true:=by rw[oG];rfl
         have dQ:mX run d m=true:=by rw[akO];simp[lu,oG]
         clear lu oG
         cases EA:jy run d m with
         |none=>
          have rM:=akQ run d m dQ (by rw[EA];rfl);have BZ:=ae rM;have Le:Ug (none:Option Nat)= -1:=rfl;rw[Le];clear dQ rM EA Le;go_wp2_with fail;refine lP 28 [(0,true),(1,true),(2,true),(3,true),(4,true),(5,true),(6,true),(7,true),(8,true),(9,true),(10,true),(11,true),(12,true),(13,true),(14,true),(15,true),(16,true),(17,true),(18,true),(19,true),(20,true),(21,true),(22,true),(23,true),(24,true),(25,true),(26,true),(27,true)] (fun w'=>w'.cell? ⟨wa.heap.size,m,none⟩=some (.bool false)/\w'.cell? ⟨w2.heap.size,m,none⟩=some (I (fS run d m))) ah rfl rfl ah ⟨BX,Kq⟩ ?_
          iterate 28 (first|refine jh ?_|refine LI ?_)
          refine lQ ?_;go_wp2_with fail;refine NoPanic.normal ?_;go_wp2_with fail;go_roundw
          case rel=>exact⟨m+1,ab,by go_num,by rw[BZ.out];rfl,rL.drew⟩
          case measure=>simp[intOf];omega
         |some j=>
          have hjm:=(OU run d m j EA).1;have hj0:decide ((j:Int)<0)=false:=ai;obtain⟨b',o',ua,us,dH,Bu,SC,y0,y1,y2,y3,y4,y5,y6,y7,y8,y9,y10⟩:=(fC.kept xz aA).at (i:=j) (s:=run[j]' ab) ai;simp at dH;obtain⟨rfl,rfl⟩:=dH;have Pb:j<run.length:=ab;have Le:Ug (some j)=(j:Int):=rfl;rw[Le];by_cases jq:aK run[m].key run[j].key<0
          ·have rM:=akQ run d m dQ (by rw[EA];simp[xX,KY fb,KY Pb,jq]);have BZ:=ae rM;clear dQ rM EA Le;go_wp2_with fail;refine lP 24 [(0,true),(1,true),(2,true),(3,true),(4,true),(5,true),(6,true),(7,true),(8,true),(9,true),(10,true),(11,true),(12,true),(13,true),(14,true),(15,true),(16,true),(17,true),(18,true),(19,true),(20,true),(21,true),(22,true),(23,true)] (fun w'=>w'.cell? ⟨wa.heap.size,m,none⟩=some (.bool false)/\w'.cell? ⟨w2.heap.size,m,none⟩=some (I (fS run d m))/\w'.cell? ⟨b,o+m*11,none⟩=some (I run[m].ev.kind)/\w'.cell? ⟨b,o+m*11+1,none⟩=some (I run[m].ev.node)/\w'.cell? ⟨b,o+m*11+2,none⟩=some (I run[m].ev.arg)/\w'.cell? ⟨b,o+m*11+3,none⟩=some (I run[m].ev.msg.node)/\w'.cell? ⟨b,o+m*11+4,none⟩=some (I run[m].ev.msg.handler)/\w'.cell? ⟨b,o+m*11+5,none⟩=some (I run[m].ev.msg.count)/\w'.cell? ⟨b,o+m*11+6,none⟩=some (I run[m].ev.msg.index)/\w'.cell? ⟨b,o+m*11+7,none⟩=some (I run[m].ev.msg.copy)/\w'.cell? ⟨b,o+m*11+8,none⟩=some (va)/\w'.cell? ⟨b,o+m*11+9,none⟩=some (.bool run[m].aX)/\w'.cell? ⟨b,o+m*11+10,none⟩=some (vs)/\w'.cell? ⟨b,o+j*11,none⟩=some (I run[j].ev.kind)/\w'.cell? ⟨b,o+j*11+1,none⟩=some (I run[j].ev.node)/\w'.cell? ⟨b,o+j*11+2,none⟩=some (I run[j].ev.arg)/\w'.cell? ⟨b,o+j*11+3,none⟩=some (I run[j].ev.msg.node)/\w'.cell? ⟨b,o+j*11+4,none⟩=some (I run[j].ev.msg.handler)/\w'.cell? ⟨b,o+j*11+5,none⟩=some (I run[j].ev.msg.count)/\w'.cell? ⟨b,o+j*11+6,none⟩=some (I run[j].ev.msg.index)/\w'.cell? ⟨b,o+j*11+7,none⟩=some (I run[j].ev.msg.copy)/\w'.cell? ⟨b,o+j*11+8,none⟩=some (ua)/\w'.cell? ⟨b,o+j*11+9,none⟩=some (.bool run[j].aX)/\w'.cell? ⟨b,o+j*11+10,none⟩=some (us)) ah rfl rfl ah ⟨BX,Kq,x0,x1,x2,x3,x4,x5,x6,x7,x8,x9,x10,y0,y1,y2,y3,y4,y5,y6,y7,y8,y9,y10⟩ ?_
           iterate 24 (first|refine jh ?_|refine LI ?_)
           refine lQ ?_;go_wp2_with fail;refine(ahH run[m] run[j] _ _ _ ⟨va,vs,rfl,gG.kept (Below.refl _ _).drew aA,jI.kept (Below.refl _ _).drew aA⟩ ⟨ua,us,rfl,Bu.kept (Below.refl _ _).drew aA,SC.kept (Below.refl _ _).drew aA⟩).mono ?_;rintro e w5 ⟨rfl,aM⟩;go_wp2_with fail;refine NoPanic.normal ?_;go_wp2_with fail;go_roundw
           case rel=>exact⟨m+1,ab,by go_num,by rw[BZ.out];rfl,rL.drew.trans (aM.mono rL.size)⟩
           case measure=>simp[intOf];omega
          ·have rM:=abx run d m (.inr (by rw[EA];simp[xX,KY fb,KY Pb,jq]));rw[EA] at rM;have BZ:=ae rM;clear dQ rM EA Le;go_wp2_with fail;refine lP 24 [(0,true),(1,true),(2,true),(3,true),(4,true),(5,true),(6,true),(7,true),(8,true),(9,true),(10,true),(11,true),(12,true),(13,true),(14,true),(15,true),(16,true),(17,true),(18,true),(19,true),(20,true),(21,true),(22,true),(23,true)] (fun w'=>w'.cell? ⟨wa.heap.size,m,none⟩=some (.bool false)/\w'.cell? ⟨w2.heap.size,m,none⟩=some (I (fS run d m))/\w'.cell? ⟨b,o+m*11,none⟩=some (I run[m].ev.kind)/\w'.cell? ⟨b,o+m*11+1,none⟩=some (I run[m].ev.node)/\w'.cell? ⟨b,o+m*11+2,none⟩=some (I run[m].ev.arg)/\w'.cell? ⟨b,o+m*11+3,none⟩=some (I run[m].ev.msg.node)/\w'.cell? ⟨b,o+m*11+4,none⟩=some (I run[m].ev.msg.handler)/\w'.cell? ⟨b,o+m*11+5,none⟩=some (I run[m].ev.msg.count)/\w'.cell? ⟨b,o+m*11+6,none⟩=some (I run[m].ev.msg.index)/\w'.cell? ⟨b,o+m*11+7,none⟩=some (I run[m].ev.msg.copy)/\w'.cell? ⟨b,o+m*11+8,none⟩=some (va)/\w'.cell? ⟨b,o+m*11+9,none⟩=some (.bool run[m].aX)/\w'.cell? ⟨b,o+m*11+10,none⟩=some (vs)/\w'.cell? ⟨b,o+j*11,none⟩=some (I run[j].ev.kind)/\w'.cell? ⟨b,o+j*11+1,none⟩=some (I run[j].ev.node)/\w'.cell? ⟨b,o+j*11+2,none⟩=some (I run[j].ev.arg)/\w'.cell? ⟨b,o+j*11+3,none⟩=some (I run[j].ev.msg.node)/\w'.cell? ⟨b,o+j*11+4,none⟩=some (I run[j].ev.msg.handler)/\w'.cell? ⟨b,o+j*11+5,none⟩=some (I run[j].ev.msg.count)/\w'.cell? ⟨b,o+j*11+6,none⟩=some (I run[j].ev.msg.index)/\w'.cell? ⟨b,o+j*11+7,none⟩=some (I run[j].ev.msg.copy)/\w'.cell? ⟨b,o+j*11+8,none⟩=some (ua)/\w'.cell? ⟨b,o+j*11+9,none⟩=some (.bool run[j].aX)/\w'.cell? ⟨b,o+j*11+10,none⟩=some (us)) ah rfl rfl ah ⟨BX,Kq,x0,x1,x2,x3,x4,x5,x6,x7,x8,x9,x10,y0,y1,y2,y3,y4,y5,y6,y7,y8,y9,y10⟩ ?_
           iterate 24 (first|refine jh ?_|refine LI ?_)
           refine lQ ?_;go_wp2_with fail;refine(ahH run[m] run[j] _ _ _ ⟨va,vs,rfl,gG.kept (Below.refl _ _).drew aA,jI.kept (Below.refl _ _).drew aA⟩ ⟨ua,us,rfl,Bu.kept (Below.refl _ _).drew aA,SC.kept (Below.refl _ _).drew aA⟩).mono ?_;rintro e w5 ⟨rfl,aM⟩;go_wp2_with fail;refine NoPanic.normal ?_;go_wp2_with fail;go_roundw
           case rel=>exact⟨m+1,ab,by go_num,by rw[BZ.out];rfl,rL.drew.trans (aM.mono rL.size)⟩
           case measure=>simp[intOf];omega
        ·have NA:(((fS run d m:Nat):Int)==0)=false:=by rw[nV];omega
         have rM:=abx run d m (.inl (by rw[akO];simp[oG]));have BZ:=ae rM;clear lu oG rM;go_wp2_with fail;refine lP 28 [(0,true),(1,true),(2,true),(3,true),(4,true),(5,true),(6,true),(7,true),(8,true),(9,true),(10,true),(11,true),(12,true),(13,true),(14,true),(15,true),(16,true),(17,true),(18,true),(19,true),(20,true),(21,true),(22,true),(23,true),(24,true),(25,true),(26,true),(27,true)] (fun w'=>w'.cell? ⟨wa.heap.size,m,none⟩=some (.bool false)/\w'.cell? ⟨w2.heap.size,m,none⟩=some (I (fS run d m))) ah rfl rfl ah ⟨BX,Kq⟩ ?_
         iterate 28 (first|refine jh ?_|refine LI ?_)
         refine lQ ?_;go_wp2_with fail;refine NoPanic.normal ?_;go_wp2_with fail;go_roundw
         case rel=>exact⟨m+1,ab,by go_num,by rw[BZ.out],rL.drew⟩
         case measure=>simp[intOf];omega
      ·have hmn:m=run.length:=ab
       have hpb:Ug (jy run d m)=(aQ:Int):=by rw[hmn,alQ.out];rfl
       rw[hpb];have xz:ay w2 wr:=hB.trans (rL.mono hB.size);have hoz:=rL.size;obtain⟨b,o,va,vs,rfl,⟨gG,hpa⟩,⟨jI,kP⟩,z0,z1,z2,z3,z4,z5,z6,z7,z8,z9,z10⟩:=aBF.at (i:=aQ) (s:=run[aQ]) (by simp[fB]);obtain⟨qa,da,rfl,_⟩:=gG.open;obtain⟨qs,ds,rfl,_⟩:=jI.open;have uG:ay w2 (wr.setCell ⟨wa.heap.size,aQ,none⟩ (.bool true)):=xz.setCell bC _;have x0:=eK uG aA z0;have x1:=eK uG aA z1;have x2:=eK uG aA z2;have x3:=eK uG aA z3;have x4:=eK uG aA z4;have x5:=eK uG aA z5;have x6:=eK uG aA z6;have x7:=eK uG aA z7;have x8:=eK uG aA z8;have x9:=eK uG aA z9;have x10:=eK uG aA z10;have abJ:=zO.out.kept rL ab;have alR:=Km.out.kept rL ab;obtain⟨BX,rT⟩:=abJ.cell fB;have Ke:=Ze (rU aV rL) ⟨wa.heap.size,aQ,none⟩ (.bool true) bC
       have xC:((wr.setCell ⟨wa.heap.size,aQ,none⟩ (.bool true)).alloc (.cells #[I run[aQ].ev.kind,I run[aQ].ev.node,I run[aQ].ev.arg,I run[aQ].ev.msg.node,I run[aQ].ev.msg.handler,I run[aQ].ev.msg.count,I run[aQ].ev.msg.index,I run[aQ].ev.msg.copy,.slice qa run[aQ].asks.length da,.bool run[aQ].aX,.slice qs run[aQ].sent.length ds] 84)).heap[wr.heap.size]? =some (.cells #[I run[aQ].ev.kind,I run[aQ].ev.node,I run[aQ].ev.arg,I run[aQ].ev.msg.node,I run[aQ].ev.msg.handler,I run[aQ].ev.msg.count,I run[aQ].ev.msg.index,I run[aQ].ev.msg.copy,.slice qa run[aQ].asks.length da,.bool run[aQ].aX,.slice qs run[aQ].sent.length ds] 84 (0,0)):=by
        have:=ej (wr.setCell ⟨wa.heap.size,aQ,none⟩ (.bool true)) (.cells #[I run[aQ].ev.kind,I run[aQ].ev.node,I run[aQ].ev.arg,I run[aQ].ev.msg.node,I run[aQ].ev.msg.handler,I run[aQ].ev.msg.count,I run[aQ].ev.msg.index,I run[aQ].ev.msg.copy,.slice qa run[aQ].asks.length da,.bool run[aQ].aX,.slice qs run[aQ].sent.length ds] 84);simpa using this
       have alS:kU (fun b=>w.heap.size<=b) w2 (gT run (d++[aQ])) (xs++(#[I run[aQ].ev.kind,I run[aQ].ev.node,I run[aQ].ev.arg,I run[aQ].ev.msg.node,I run[aQ].ev.msg.handler,I run[aQ].ev.msg.count,I run[aQ].ev.msg.index,I run[aQ].ev.msg.copy,.slice qa run[aQ].asks.length da,.bool run[aQ].aX,.slice qs run[aQ].sent.length ds]).toList):=by
        rw[aAM run d aQ fB];exact DV.out.snoc (s:=run[aQ]) ⟨gG,hpa⟩ ⟨jI,kP⟩
       have alT:=(abJ.set aQ)
       have alU:=alR.setOther ⟨wa.heap.size,aQ,none⟩ (.bool true) bC;have aBG:=ae alT;have aBH:=ae alU;have Hos:=ae Ke;have xD:=ae xC;have aBI:=ae alS;have HBs:=ae uG;clear hmn hpb z0 z1 z2 z3 z4 z5 z6 z7 z8 z9 z10 abJ alR Ke xC alS alT alU uG gG jI
       go_wp2_with (at_builtin;go_must (refine uT rfl _ _ 23 rfl 84 _ 11 120 Tryz.underlying23 UO rfl ab ab w3.heap.size _ _ xs rfl (Hos.out.alloc _) wr.heap.size 1 1 _ 84 rfl xD.out rfl rfl ab ab bC ?_);intro g cap w5 kj kS oR mQ rE iP)
       have alV:=(aBH.out.alloc (.cells #[I run[aQ].ev.kind,I run[aQ].ev.node,I run[aQ].ev.arg,I run[aQ].ev.msg.node,I run[aQ].ev.msg.handler,I run[aQ].ev.msg.count,I run[aQ].ev.msg.index,I run[aQ].ev.msg.copy,.slice qa run[aQ].asks.length da,.bool run[aQ].aX,.slice qs run[aQ].sent.length ds] 84)).kept iP ab;have alW:=(aBG.out.kept ((Below.refl _ _).alloc aA (.cells #[I run[aQ].ev.kind,I run[aQ].ev.node,I run[aQ].ev.arg,I run[aQ].ev.msg.node,I run[aQ].ev.msg.handler,I run[aQ].ev.msg.count,I run[aQ].ev.msg.index,I run[aQ].ev.msg.copy,.slice qa run[aQ].asks.length da,.bool run[aQ].aX,.slice qs run[aQ].sent.length ds] 84)) bC).kept iP ab;have jt:ay w2 w5:=(HBs.out.alloc bC (.cells #[I run[aQ].ev.kind,I run[aQ].ev.node,I run[aQ].ev.arg,I run[aQ].ev.msg.node,I run[aQ].ev.msg.handler,I run[aQ].ev.msg.count,I run[aQ].ev.msg.index,I run[aQ].ev.msg.copy,.slice qa run[aQ].asks.length da,.bool run[aQ].aX,.slice qs run[aQ].sent.length ds] 84)).trans (iP.mono ab)
       have Uk:w3.heap.size<=w5.heap.size:=by have:=iP.size;simp at this;omega
       have aBJ:=ae alV;have aBK:=ae alW;have Hb5:=ae jt;have Ho5:=ae mQ;clear alV alW jt mQ rE iP kj kS oR x0 x1 x2 x3 x4 x5 x6 x7 x8 x9 x10 BX rT
       go_loopw [11] (fun i wr=>∃m:Nat,aQ+1<=m/\m<=run.length/\i=.int .i64 m/\iu wr w2.heap.size run.length (fun x=>if x<m then fS run (d++[aQ]) x else fS run d x)/\sP wr wa.heap.size run.length (d++[aQ])/\
        wr.ownsRow w3.heap.size 84 11 (.slice (some ⟨g,0,none⟩) (d.length+1) cap) (d.length+1) (xs++(#[I run[aQ].ev.kind,I run[aQ].ev.node,I run[aQ].ev.arg,I run[aQ].ev.msg.node,I run[aQ].ev.msg.handler,I run[aQ].ev.msg.count,I run[aQ].ev.msg.index,I run[aQ].ev.msg.copy,.slice qa run[aQ].asks.length da,.bool run[aQ].aX,.slice qs run[aQ].sent.length ds]).toList)/\ay w2 wr/\w3.heap.size<=wr.heap.size) (fun i _=>run.length-(intOf i).toNat)
       case atStart=>
        refine⟨aQ+1,ab,ab,by go_num,aBJ.out.congr (fun x hx=> ?_),aBK.out,Ho5.out,Hb5.out,Uk⟩;by_cases Bl:x<aQ+1
        ·have h1:=akL run d aQ x fB Hbd.out;rw[ahP run aQ x ab] at h1;simp[Bl,h1]
        ·simp[Bl]
       case round=>
        clear Uk;obtain⟨m,hbm,hm,rfl,jx,iN,aV,hB,hz⟩:=hrel;by_cases fb:m<run.length
        ·have hwd:=akL run d aQ m fB Hbd.out;have um:=akN run (d++[aQ]) m;have hc:=jx.cell fb;simp only[Nat.lt_irrefl,nY] at hc;have zO:=ae iN;have iy:=ae aV;clear iN aV;have sQ:=Kb p run.length (ed run) aQ m wr (hO.kept hB aA) fB fb;by_cases hl:ed run aQ m=true
         ·rw[hl] at sQ;rw[aj hl] at hwd;rw[hwd,show((fS run (d++[aQ]) m+1:Nat):Int)=(fS run (d++[aQ]) m:Int)+1 from ab] at hc;obtain⟨lu,oG⟩:=hc
          have hst:=jx.set (t':=fun x=>if x<m+1 then fS run (d++[aQ]) x else fS run d x) m (fun c hc=>by
           by_cases h1:c<m
           ·simp[h1,Nat.lt_succ_of_lt h1]
           ·have:¬c<m+1:=ab
            simp[h1,this])
          simp only[Nat.lt_succ_self,mr] at hst;have xH:=ae hst;have ny:=ae sQ;clear hst sQ hl jx hwd;go_wp2_with fail;refine ny.out.mono ?_;rintro e w6 ⟨rfl,rfl⟩;go_wp2_with fail;go_roundw
          case rel=>exact⟨m+1,ab,ab,by go_num,xH.out,zO.out.setOther _ _ bC,Ze iy.out _ _ bC,hB.setCell ai _,by simp;omega⟩
          case measure=>simp[intOf];omega
         ·have jl:ed run aQ m=false:=by simpa using hl
          rw[jl] at sQ;rw[af hl,uP] at hwd
          have wb:=jx.congr (t':=fun x=>if x<m+1 then fS run (d++[aQ]) x else fS run d x) (fun c _=>by
           by_cases h1:c<m
           ·simp[h1,Nat.lt_succ_of_lt h1]
           ·by_cases h2:c=m
            ·subst h2;simp[hwd]
            ·have:¬c<m+1:=ab
             simp[h1,this])
          have Pa:=ae wb;have ny:=ae sQ;clear wb sQ hl jl jx hwd hc;go_wp2_with fail;refine ny.out.mono ?_;rintro e w6 ⟨rfl,rfl⟩;go_wp2_with fail;go_roundw
          case rel=>exact⟨m+1,ab,ab,by go_num,Pa.out,zO.out,iy.out,hB,hz⟩
          case measure=>simp[intOf];omega
        ·have wb:iu wr w2.heap.size run.length (fS run (d++[aQ])):=jx.congr fun x hx=>by
          have:x<m:=ab;simp[this]
         have hHn:OS run=BR run (run.length-(d++[aQ]).length) (d++[aQ]):=by
          rw[Hn.out,show run.length-d.length=(run.length-(d.length+1))+1 by omega,akJ run d _ aQ alQ.out,List.length_append];rfl
         have Pa:=ae wb;have HHn:=ae hHn;have zO:=ae iN;have iy:=ae aV;clear wb hHn jx iN aV;go_wp2_with fail;go_roundw
         case rel=>exact⟨d++[aQ],_,by simp;omega,by rw[List.length_append];go_num,fun i hi=>by
          rcases fJ.1 hi with h|h
          ·exact Hdr.out i h
          ·simp at h;omega,Pa.out,zO.out,by rw[List.length_append];exact iy.out,aBI.out,HHn,hB,hz⟩
         case measure=>simp[intOf];omega
    ·have aBL:d.length=run.length:=ab
     have cB:OS run=d:=by
      rw[Hn.out,aBL,Nat.sub_self];rfl
     have au:mh w.heap.size wr u7 (mY run):=by
      unfold mY;rw[cB];exact mh.dU aV (akP run d Hdr.out).symm DV.out hB aA (by have:=abI.size;omega)
     have Gx:=ae au;have Hbb:=ae (abI.trans (hB.mono abI.size));clear cB au aV;go_wp2_with fail;go_ret;exact⟨_,rfl,Gx.out,Hbb.out⟩
end
section
open Go.RowKit
def sw (p:Nat×Nat):Nat×Nat:=(p.2,p.1)
theorem aBM (l:List Nat):nv l=iv (l.map fun n:Nat=>(n:Int)):=by simp[nv,iv]
theorem abK (run:List az)(v:Value)(w:World)(hrun:gH w v run)(hn:run.length<=64)(hint:∀s∈run,Eu s)(Dr:∀s∈run,s.sent.length<=1000000)(hg:Gl w):
  Calls Tryz.prog 6 #[v] w fun e w'=>e=.returned (sv (BU (mY run)))/\ay w w':=by
 have HN:=ae (alK run v w hrun hn (fun s hs=>(hint s hs).2.2) Dr);have Hg:=ae hg
 obtain⟨N,hN⟩:∃N,N=mY run:=⟨_,rfl⟩
 have Kj:N.length<=64:=by rw[hN,akX (Uh run)];exact hn
 have HI:=ae (show∀s∈N,Eu s from fun s hs=>hint s (akY (Uh run) s (hN▸hs)));rw[<-hN] at HN⊢;clear hN hrun hn Dr hint hg
 have DM:=fun W=>DI (P:=Tryz.prog) 71 22 (.slice none 0 0) 24 N.length Tryz.underlying71 ahW rfl ab ab W
 go_enter Tryz.func6,Tryz.ntmps6;go_wp2_with fail;refine HN.out.mono ?_;rintro e w1 ⟨u,rfl,Ld,aM⟩;have jw:=Ld.sl;clear Ld HN;obtain⟨ka,ca,rfl,jf⟩:=jw.open;have rD:=ae aM;have dE:=aM.size;clear aM;go_wp2_with fail
 obtain⟨w2,iF⟩:∃w2,w2=w1.alloc (.cells (eW N.length (.slice none 0 0)) 22):=⟨_,rfl⟩
 have eB:w2.heap.size=w1.heap.size+1:=by rw[iF];simp
 have Bc:ax w2 w1.heap.size (eW N.length (.slice none 0 0)):=by rw[iF];exact ax.new _ _ _
 have abL:ay w1 w2:=by rw[iF];exact(Below.refl _ _).alloc aA _
 rw[<-iF];clear iF DM;refine(aab N _ w2 (jw.kept abL aA) Kj).mono ?_;rintro e w3 ⟨p,rfl,hO,gm⟩;go_wp2_with fail;refine(axQ p N.length (ed N) w3 hO).mono ?_;rintro e w4 ⟨vl,rfl,aV,ks⟩;have cH:=Flat.dU aV
 have hLv:=fun g (hg:vl.ownBlock=some g)=>aV.lt g hg
 obtain⟨la,lc,rfl,mM⟩:=cH.open;have uf:=gm.size;have GM:=ks.size
 obtain⟨L,hL⟩:∃L,L=eU (ed N) N.length N.length:=⟨_,rfl⟩
 rw[<-hL] at cH hLv mM⊢
 have kT:mo N=L.map sw:=by rw[hL];rfl
 have pX:∀q∈L,q.1<N.length/\q.2<N.length:=fun q hq=>by rw[hL] at hq;exact alf hq
 have Kh:L.length<=4096:=by
  have:=alg N Kj;rwa[kT,dy] at this
 have HLb:=ae pX;have Hbf:=ae kT;have alX:ay w1 w4:=abL.trans ((gm.mono ab).trans (ks.mono ab));have alY:=ae alX
 have nO:pV (fun b=>b<w4.heap.size/\b≠w1.heap.size) (.slice la L.length lc):=fun b o m c e=>by
  have:=hLv b (by rw[e];rfl);constructor
  ·exact this.2
  ·omega
 have Hfl:=ae cH;have alZ:=ae nO;have ama:=ae ((Bc.kept gm Bc.lt).kept ks ab);have Pc:=ae jw;clear hL kT pX alX abL gm ks hO aV hLv cH nO Bc jw;go_wp2_with fail;go_loopw [20] (fun vi wr=>∃(k:Nat) (arr:Array Value),k<=L.length/\vi=I k/\Hid (sG w4.heap.size w1.heap.size N.length wr ((L.take k).map sw) arr)/\Hid (Same (fun b=>b<w4.heap.size/\b≠w1.heap.size) w4 wr)/\Hid (ay w1 wr)) (fun vi _=>L.length-(intOf vi).toNat)
 case atStart=>exact⟨0,_,ab,rfl,ae (by rw[List.take_zero];exact sG.start ama.out ab aA),ae (Same.refl _ _),alY⟩
 case round=>
  clear ama;obtain⟨k,arr,hk,rfl,Lf,Hs,HB⟩:=hrel;by_cases hlt:k<L.length
  ·obtain⟨x,hx⟩:∃x,L[k]? =some x:=⟨L[k],by simp[hlt]⟩
   obtain⟨pS,xp⟩:=HLb.out x (dD hx);obtain⟨b,o,rfl,x0,x1⟩:=Zd (Hfl.out.Zb alZ.out Hs.out) (i:=k) (x:=x) hx
   have fB:b<wr.heap.size:=by simpa using eh _ _ x0
   obtain⟨Lk,Ul⟩:∃Lk,Lk=(L.take k).map sw:=⟨_,rfl⟩
   rw[<-Ul] at Lf
   have cM:(L.take (k+1)).map sw=Lk++[(x.2,x.1)]:=by rw[Ul,Ci,hx];simp[sw]
   have nr:=Lf.out;obtain⟨va,gG,aW⟩:=nr.row x.2 xp
   have hlen:(aR Lk x.2).length<=10000:=by
    rw[Ul];unfold aR;rw[dy];exact bh (nb _ _) (by rw[dy,dS];omega)
   clear Ul
   have xA:∀x,(x<w4.heap.size\/wr.heap.size<=x)->va.ownBlock≠some x:=fun x hx e=>by
    rcases DK aW with h0|⟨g,h0,h1,h2⟩
    ·rw[h0] at e;cases e
    ·rw[h0] at e;cases e;omega
   have nT:=Hs.out.1;have Nx:=ae ((aW.alloc (.cells #[I x.1,I x.2] 76)).alloc (.cells #[I x.1] 3))
   have xD:Hid (((wr.alloc (.cells #[I x.1,I x.2] 76)).alloc (.cells #[I x.1] 3)).heap[wr.heap.size+1]? =some (.cells #[I x.1] 3 (0,0))):=ae (by
    have:=ej (wr.alloc (.cells #[I x.1,I x.2] 76)) (.cells #[I x.1] 3)
    simpa using this)
   have Gt:ay wr ((wr.alloc (.cells #[I x.1,I x.2] 76)).alloc (.cells #[I x.1] 3)):=((Below.refl _ _).alloc aA _).alloc ai _;have Pd:=ae (nr.kept Gt);have HX:Hid (ax ((wr.alloc (.cells #[I x.1,I x.2] 76)).alloc (.cells #[I x.1] 3)) wr.heap.size #[I x.1,I x.2]):=ae ((ax.new _ _ _).alloc _);have DR:=ae Gt;have Zq:=ae (xA w1.heap.size ab);have Zs:=ae (xA wr.heap.size ab);have oP:=ae gG;have uo:=ae cM;have aBN:=ae xA;have rA:w1.heap.size<wr.heap.size:=ab;clear hx aW cM Gt xA gG nr;have hgn:=(Lf.out.bn.cell x.2).trans oP.out;go_wp2_with fail
   obtain⟨wx,oQ⟩:∃wx,wx=wr.alloc (.cells #[I x.1,I x.2] 76):=⟨_,rfl⟩
   have dG:wx.cell? ⟨w1.heap.size,x.2,none⟩=some va:=by rw[oQ];exact((Lf.out.bn.alloc _).cell x.2).trans oP.out
   have Zt:wx.cell? ⟨wr.heap.size,0,none⟩=some (I x.1):=by rw[oQ];exact(ax.new _ _ _).cell 0
   have Zu:wx.cell? ⟨wr.heap.size,1,none⟩=some (I x.2):=by rw[oQ];exact(ax.new _ _ _).cell 1
   have hzx:wx.heap.size=wr.heap.size+1:=by rw[oQ];simp
   rw[<-oQ] at Nx xD Pd HX DR⊢;clear oQ;have eG:(wx.alloc (.cells #[I x.1] 3)).cell? ⟨w1.heap.size,x.2,none⟩=some va:=(Pd.out.bn.cell x.2).trans oP.out;have Zv:(wx.alloc (.cells #[I x.1] 3)).cell? ⟨wr.heap.size,0,none⟩=some (I x.1):=HX.out.cell 0;have Zw:(wx.alloc (.cells #[I x.1] 3)).cell? ⟨wr.heap.size,1,none⟩=some (I x.2):=HX.out.cell 1;refine lP 12 [(0,true),(1,true),(2,true),(3,true),(4,true),(5,true),(6,true),(7,true),(8,true),(9,true),(10,false),(11,false)] (fun w'=>w'.cell? ⟨wr.heap.size,0,none⟩=some (I x.1)/\w'.cell? ⟨wr.heap.size,1,none⟩=some (I x.2)/\w'.cell? ⟨w1.heap.size,x.2,none⟩=some va) ah rfl rfl ah ⟨Zt,Zu,dG⟩ ?_
   repeat refine jh ?_
   (refine nG (fun K hK=> ?_);go_simp;refine hK.out _ _ ?_ ?_)
   ·exact⟨Zv,Zw,eG⟩
   clear hK K;refine bV ?_;refine nG (fun K hK=> ?_);refine UN iY _ _ 22 iY 3 _ 1 8 Tryz.underlying22 Co rfl ab ab w4.heap.size va (aR Lk x.2).length (nv (aR Lk x.2)) iY Nx.out (wr.heap.size+1) 1 1 #[I x.1] 3 iY xD.out rfl rfl ab ab Pd.out.hB ?_;intro g cap w5 kj kS oR mQ rE iP;have hG5:=Pd.out.bn.drew.grown rE Zq.out;have hX5:=HX.out.drew.grown rE Zs.out;have cG5:=(hG5.cell x.2).trans oP.out;have fG5:=hG5.frozen x.2;have Zx:w5.cell? ⟨wr.heap.size,0,none⟩=some (I x.1):=hX5.cell 0;have cX1:w5.cell? ⟨wr.heap.size,1,none⟩=some (I x.2):=hX5.cell 1;refine hK.out _ _ ⟨Zx,cX1,cG5⟩ ?_;clear hK K;refine bV ?_;refine lQ ?_;go_wp2_with fail;refine NoPanic.normal ?_;go_wp2_with fail;go_roundw
   case rel=>
    have hst:=Pd.out.drew.step (x.2,x.1) xp va oP.out g cap mQ rE (oR.imp id (fun e=>by rw[e];exact cI _)) iP.size;refine⟨k+1,_,ab,by go_num,by rw[uo.out];exact ae hst,ae ?_,ae ?_⟩
    ·refine Same.set (Hs.out.trans (Same.trans (B:=(wx.alloc (.cells #[I x.1] 3)).drew) ⟨DR.out.size,fun b hb=>DR.out.block b ab⟩ (Same.grown rE (fun b hb=>⟨?_,fun e=>aBN.out b (.inl hb.1) e.symm⟩)))) _ _ (fun h=>h.2 rfl);have:=DR.out.size;simp only[heap_drew];omega
    ·exact(((HB.out.trans (DR.out.drew.mono ab)).trans (iP.mono ab)).setCell aA _)
   case measure=>simp[intOf];omega
  ·obtain rfl:k=L.length:=ab
   have nr:sG w4.heap.size w1.heap.size N.length wr (mo N) arr:=by
    have:=Lf.out;rw[fx] at this;rw[Hbf.out];exact this
   have Hbx:=ae nr;have nT:=Hs.out.1;have HN5:=ae (Pc.out.kept HB.out aA);have HB5:=ae (rD.out.trans (HB.out.mono dE));have Ig:=ae (Hg.out.below HB5.out);have Uk:=HB5.out.size
   obtain⟨F,hF⟩:∃F:Nat->List Nat,F=fun i=>aR (mo N) i:=⟨_,rfl⟩
   have xH:=ae (show BU N=mZ N F N.length by rw[hF];rfl)
   have hFb:∀i,(F i).length<=10000/\∀n∈F i,n<=64:=by rw[hF];exact aBc N Kj
   have HL:=ae (ale N F Kj HI.out hFb);have HFb:=ae hFb;have pY:=ae (show∀i,i<N.length->∃va,arr[i]? =some va/\wr.ownsRow w4.heap.size 3 1 va (F i).length (nv (F i)) by rw[hF];exact nr.row);clear nr Lf Hs HB alY Pc Hbf HLb Hfl alZ hF hFb rD
   obtain⟨W5,rfl⟩:∃W5:World,W5=wr:=⟨_,rfl⟩
   go_wp2_with fail;go_loopw [40] (fun vi wr=>∃i:Nat,i<=N.length/\vi=I i/\Hid (Bd wr W5.heap.size (mZ N F i))/\Hid (ay W5 wr)) (fun vi _=>N.length-(intOf vi).toNat)
   case atStart=>exact⟨0,ab,rfl,ae (Bd.new _),ae ((Below.refl _ _).alloc aA _)⟩
   case round=>
    obtain⟨i,hi,rfl,Um,HB⟩:=hrel
    obtain⟨w6,rfl⟩:∃w6:World,w6=wr:=⟨_,rfl⟩
    have aBO:=HB.out.size;by_cases hlt:i<N.length
    ·have fB:=Um.out.lt;obtain⟨bb,o,va,vs,rfl,gG,jI,y0,y1,y2,y3,y4,y5,y6,y7,y8,y9,y10⟩:=HN5.out.at (i:=i) (s:=N[i]) (by simp[hlt]);have sy:=HI.out N[i] (cA hlt);have hTl:=HL.out i hi;have aEe:301000000*i<=301000000*64:=oY aA ab;have Pe:=ae (Ui N F i hlt);obtain⟨vb,Gr,Un⟩:=pY.out i hlt;obtain⟨hFl,Pg⟩:=HFb.out i;obtain⟨ba,bc,rfl,hbm⟩:=(Flat.dU Un).open;have Uo:=ae ((Hbx.out.bn.cell i).trans Gr)
     have Up:Hid (bW W5 (.slice ba (F i).length bc) ((F i).map fun n:Nat=>(n:Int))):=ae (by
      have:=Flat.dU Un;rw[aBM] at this;unfold bW;rw[dy]
      exact this)
     generalize F i=bf at Pe Un hFl Pg hbm Uo Up Gr;generalize mZ N F i=T at Um hTl Pe;generalize N[i]=s at gG jI y0 y1 y2 y3 y4 y5 y6 y7 y8 y9 y10 sy Pe;obtain⟨⟨kind,node,arg,⟨m0,m1,m2,m3,m4⟩⟩,asks,aX,sent⟩:=s;dsimp only at gG jI y0 y1 y2 y3 y4 y5 y6 y7 y8 y9 y10;obtain⟨Uq,hI2,hI3⟩:=sy;dsimp only at Uq hI2 hI3;obtain⟨aa,ac,rfl,tw⟩:=gG.open;obtain⟨sa,sc,rfl,_⟩:=jI.open;generalize sent.length=sl at jI y10;have Uc:=mV (i:Int) (Ew i ab);have Bi:=akZ _ Uq;have eI:=ae (fun X (hX:Gl X)=>vL (i:Int) (Ew i ab) X hX);have sK:=ae (fun X (hX:Gl X)=>aAH ⟨kind,node,arg,⟨m0,m1,m2,m3,m4⟩⟩ Uq X hX)
     have EB:Hid (mZ N F (i+1)=T++(Lib.itoa i++[58,32]++lh ⟨kind,node,arg,⟨m0,m1,m2,m3,m4⟩⟩)++rK asks asks.length++qm aX++eY bf++[10]):=ae (by
      rw[Pe.out];unfold Et BS
      simp only[List.append_assoc])
     generalize Lib.itoa (i:Int)=di at Uc eI EB;generalize lh ⟨kind,node,arg,⟨m0,m1,m2,m3,m4⟩⟩=te at Bi sK EB;have oP:=ae gG;have HI2:=ae hI2;have x0:=eK HB.out aA y0;have x1:=eK HB.out aA y1;have x2:=eK HB.out aA y2;have x3:=eK HB.out aA y3;have x4:=eK HB.out aA y4;have x5:=eK HB.out aA y5;have x6:=eK HB.out aA y6;have x7:=eK HB.out aA y7;have x8:=eK HB.out aA y8;have x9:=eK HB.out aA y9;have x10:=eK HB.out aA y10;clear gG jI y0 y1 y2 y3 y4 y5 y6 y7 y8 y9 y10 Uq hI2 Pe Un Gr
     have rN:Hid (PS W5 (w6.alloc (.cells #[I kind,I node,I arg,I m0,I m1,I m2,I m3,I m4,.slice aa asks.length ac,.bool aX,.slice sa sl sc] 84)) w6.heap.size #[I kind,I node,I arg,I m0,I m1,I m2,I m3,I m4,.slice aa asks.length ac,.bool aX,.slice sa sl sc] T):=ae {
      row:=ej _ _
      below:=HB.out.alloc aBO _
      bd:=Um.out.kept ((Below.refl _ _).alloc aA _)
      lt:=fB }
     unfold sv at eI sK;unfold iV at sK;dsimp only at sK;go_wp2_with fail;clear x0 x1 x2 x3 x4 x5 x6 x7 x8 x9 x10;have cq:¬9223372036854775807<di.length+2:=ab;have jY:¬9223372036854775807<di.length+2+te.length:=ab;have hP:=rN.out.drew;clear rN;refine lP 6 [(0,true),(3,true),(4,true),(1,false),(2,true),(5,false)] (fun X=>∀j,X.cell? ⟨w6.heap.size,j,none⟩=(#[I kind,I node,I arg,I m0,I m1,I m2,I m3,I m4,.slice aa asks.length ac,.bool aX,.slice sa sl sc]:Array Value)[j]?) ah rfl rfl ah hP.cell ?_
     iterate 3 refine jh ?_
     obtain⟨V,hV⟩:∃V,V=(w6.alloc (.cells #[I kind,I node,I arg,I m0,I m1,I m2,I m3,I m4,.slice aa asks.length ac,.bool aX,.slice sa sl sc] 84)).drew:=⟨_,rfl⟩
     rw[<-hV] at hP⊢;clear hV;have HP:=ae hP;clear hP;refine nG (fun K hK=> ?_);go_simp;go_at_call 22;refine(eI.out _ (Ig.out.below HP.out.below)).mono ?_;rintro e V1 ⟨rfl,D⟩;replace HP:=ae (HP.out.then D);refine hK.out _ _ HP.out.cell ?_;clear hK K D;refine bV ?_;refine jh ?_;refine nG (fun K hK=> ?_);go_simp;go_at_call 23;refine(sK.out _ (Ig.out.below HP.out.below)).mono ?_;rintro e V2 ⟨rfl,D⟩;replace HP:=ae (HP.out.then D);refine hK.out _ _ HP.out.cell ?_;clear hK K D;refine bV ?_;refine lQ ?_
     have e1:(⟨di.toArray⟩++⟨[58,32].toArray⟩++⟨te.toArray⟩:ByteArray)=⟨(di++[58,32]++te).toArray⟩:=by rw[dC,dC]
     have Hw:=ae (NI V2 W5.heap.size T (di++[58,32]++te) HP.out.bd (by simp only[List.length_append,List.length_cons,List.length_nil];omega));unfold sv at Hw;rw[<-e1] at Hw;clear e1
     go_wp2_with (go_at_call 21;refine Hw.out.mono ?_;rintro e V3 ⟨rfl,D⟩;have Ph:=ae (HP.out.wrote D);clear D)
     refine NoPanic.normal ?_
     obtain⟨hd,hhd⟩:∃hd,hd=di++[58,32]++te:=⟨_,rfl⟩
     have aEf:hd.length<=300:=by
      rw[hhd];simp only[List.length_append,List.length_cons,List.length_nil];omega
     rw[<-hhd] at Ph EB;clear cq jY eI sK Hw HP hhd Uc Bi;have c8:=Ph.out.cell 8;have NT:w6.heap.size<V3.heap.size:=Ph.out.qlt;go_wp2_with fail;clear c8;go_loopw [56] (fun vk wk=>∃k:Nat,k<=asks.length/\vk=I k/\Hid (PS W5 wk w6.heap.size #[I kind,I node,I arg,I m0,I m1,I m2,I m3,I m4,.slice aa asks.length ac,.bool aX,.slice sa sl sc] (T++hd++rK asks k))) (fun vk _=>asks.length-(intOf vk).toNat)
     case atStart=>exact⟨0,ab,rfl,ae (by simpa [rK] using Ph.out)⟩
     case round=>
      clear Ph;obtain⟨k,hk,rfl,zT⟩:=hrel;have ll:=ald asks k HI2.out hI3;by_cases lW:k<asks.length
      ·obtain⟨qb,qo,rfl,z0,z1,z2,z3,z4,z5,z6⟩:=(oP.out.kept zT.out.below aA).at (i:=k) (x:=asks[k]) (by simp[lW]);have Pj:=HI2.out asks[k] (cA lW);have Hs:=ae (aAW asks k lW);generalize rK asks k=Tk at zT Hs ll;generalize asks[k]=a at z0 z1 z2 z3 z4 z5 z6 Pj Hs;obtain⟨n0,n1,n2,n3,n4,n5,n6⟩:=a;dsimp only at z0 z1 z2 z3 z4 z5 z6;have hqn:∀x∈(⟨n0,n1,n2,n3,n4⟩:Qn).ints,dI x:=alb Pj;have fu:=ala _ hqn;have hi5:=Pj n5 (by simp[Ask.ints]);have hi6:=Pj n6 (by simp[Ask.ints]);have GV:=mV n5 hi5;have hl6:=mV n6 hi6;have Lg:=ae (fun X (hX:Gl X)=>aBE ⟨n0,n1,n2,n3,n4⟩ hqn X hX);have H5:=ae (fun X (hX:Gl X)=>vL n5 hi5 X hX);have H6:=ae (fun X (hX:Gl X)=>vL n6 hi6 X hX);unfold gY Ask.qn at Hs;dsimp only at Hs;generalize mU ⟨n0,n1,n2,n3,n4⟩=tq at fu Lg Hs;generalize Lib.itoa n5=d5 at GV H5 Hs;generalize Lib.itoa n6=d6 at hl6 H6 Hs;clear Pj hqn hi5 hi6;unfold sv at Lg H5 H6;unfold rG at Lg;dsimp only at Lg;have hP0:=(zT.out.alloc (.cells #[I n0,I n1,I n2,I n3,I n4,I n5,I n6] 94)).drew;have Pk:ax (wr.alloc (.cells #[I n0,I n1,I n2,I n3,I n4,I n5,I n6] 94)).drew wr.heap.size #[I n0,I n1,I n2,I n3,I n4,I n5,I n6]:=(ax.new _ _ _).drew;have rN:=ae hP0;have sR:=ae Pk;clear hP0 Pk;have cq:¬9223372036854775807<2+tq.length:=ab;have jY:¬9223372036854775807<2+tq.length+3:=ab;have yT:¬9223372036854775807<2+tq.length+3+d6.length:=ab;have Ud:¬9223372036854775807<2+tq.length+3+d6.length+1:=ab;have hl7:¬9223372036854775807<2+tq.length+3+d6.length+1+d5.length:=ab;have Wy:¬9223372036854775807<2+tq.length+3+d6.length+1+d5.length+1:=ab;go_wp2_with fail;clear z0 z1 z2 z3 z4 z5 z6;refine lP 13 [(0,true),(1,true),(5,true),(6,true),(10,true),(11,true),(2,false),(3,true),(4,true),(7,false),(8,true),(9,true),(12,false)] (fun X=>∀j,X.cell? ⟨wr.heap.size,j,none⟩=(#[I n0,I n1,I n2,I n3,I n4,I n5,I n6]:Array Value)[j]?) ah rfl rfl ah sR.out.cell ?_
       iterate 6 refine jh ?_
       obtain⟨V,hV⟩:∃V,V=(wr.alloc (.cells #[I n0,I n1,I n2,I n3,I n4,I n5,I n6] 94)).drew:=⟨_,rfl⟩
       rw[<-hV] at rN sR⊢;clear hV;refine nG (fun K hK=> ?_);go_simp;go_at_call 24;refine(Lg.out _ (Ig.out.below rN.out.below)).mono ?_;rintro e V4 ⟨rfl,D⟩;replace sR:=ae (sR.out.kept D sR.out.lt);replace rN:=ae (rN.out.then D);refine hK.out _ _ sR.out.cell ?_;clear hK K D;refine bV ?_
       iterate 2 refine jh ?_
       refine nG (fun K hK=> ?_);go_simp;go_at_call 22;refine(H6.out _ (Ig.out.below rN.out.below)).mono ?_;rintro e V5 ⟨rfl,D⟩;replace sR:=ae (sR.out.kept D sR.out.lt);replace rN:=ae (rN.out.then D);refine hK.out _ _ sR.out.cell ?_;clear hK K D;refine bV ?_
       iterate 2 refine jh ?_
       refine nG (fun K hK=> ?_);go_simp;go_at_call 22;refine(H5.out _ (Ig.out.below rN.out.below)).mono ?_;rintro e V6 ⟨rfl,D⟩;replace sR:=ae (sR.out.kept D sR.out.lt);replace rN:=ae (rN.out.then D);refine hK.out _ _ sR.out.cell ?_;clear hK K D;refine bV ?_;refine lQ ?_
       have e1:(⟨[32,91].toArray⟩++⟨tq.toArray⟩++⟨[32,61,32].toArray⟩++⟨d6.toArray⟩++⟨[47].toArray⟩++⟨d5.toArray⟩++⟨[93].toArray⟩:ByteArray)=⟨([32,91]++tq++[32,61,32]++d6++[47]++d5++[93]).toArray⟩:=by rw[dC,dC,dC,dC,dC,dC]
       have Hw:=ae (NI V6 W5.heap.size (T++hd++Tk) ([32,91]++tq++[32,61,32]++d6++[47]++d5++[93]) rN.out.bd (by simp only[List.length_append,List.length_cons,List.length_nil];omega));unfold sv at Hw;rw[<-e1] at Hw;clear e1 H5 H6 Lg
       go_wp2_with (go_at_call 21;refine Hw.out.mono ?_;rintro e V7 ⟨rfl,D⟩;have HP7:=ae (rN.out.wrote D);clear D)
       refine NoPanic.normal ?_;go_wp2_with fail;go_roundw
       case rel=>
        have:=HP7.out;rw[List.append_assoc,<-Hs.out] at this;exact⟨k+1,ab,by go_num,ae this⟩
       case measure=>simp[intOf];omega
      ·obtain rfl:k=asks.length:=ab
       obtain⟨T1,Dq⟩:∃T1,T1=T++hd++rK asks asks.length:=⟨_,rfl⟩
       have aEg:T1.length<=20000000000:=by
        rw[Dq];simp only[List.length_append];omega
       rw[<-Dq] at zT EB;clear Dq ll oP HI2
       obtain⟨m,hm⟩:∃m,m=bf.length:=⟨_,rfl⟩
       rw[<-hm] at Up Uo;have c9:=zT.out.cell 9
       obtain⟨T2,gX⟩:∃T2,T2=T1++qm aX:=⟨_,rfl⟩
       have aEh:T2.length<=20000000002:=by
        rw[gX,List.length_append];have:=abC aX;omega
       have cb:=eK zT.out.below aA Uo.out;have hgk:w6.heap.size<wr.heap.size:=zT.out.qlt
       cases aX with
       |true=>
        have Hw:=ae (NI wr W5.heap.size T1 [32,42] zT.out.bd (by simp only[List.length_cons,List.length_nil];omega));rw[show T1++[32,42]=T2 by rw[gX];rfl] at Hw;unfold sv at Hw
        go_upto_region 20 with(go_at_call 21;refine Hw.out.mono ?_;rintro e V8 ⟨rfl,D⟩;have wh:=ae (zT.out.wrote D);clear D)
        have cb8:=eK wh.out.below aA Uo.out;clear c9 cb;by_cases kT:bf=[]
        ·have Ih:=ae (SG V8 W5.heap.size T2 wh.out.bd ab)
         have Bh:m=0:=by rw[hm,kT];rfl
         have Ca:Hid (mZ N F (i+1)=T2++[10]):=ae (by rw[EB.out,kT,gX];simp[eY]);clear hm kT gX;subst Bh
         go_wp2_with (go_at_call 26;refine Ih.out.mono ?_;rintro e V9 ⟨rfl,D⟩;have xY:=ae (wh.out.wrote D);clear D)
         go_roundw
         case rel=>exact⟨i+1,ab,by go_num,by rw[Ca.out];exact ae xY.out.bd,ae xY.out.below⟩
         case measure=>simp[intOf];omega
        ·have Ns:0<m:=by rw[hm];exact Cf.2 kT
         have aBP:(0:Int)<m:=ab
         have dV:(bF 44 ((bf.map fun n:Nat=>(n:Int)).map Lib.itoa)).length<=21*10000:=by
          have:=zN 44 20 ((bf.map fun n:Nat=>(n:Int)).map Lib.itoa) (fun y hy=>by
           obtain⟨n,hn,rfl⟩:=dh.1 hy;obtain⟨u,hu,rfl⟩:=dh.1 hn
           exact mV _ (Ew u (by have:=Pg u hu;omega)))
          simp only[dy] at this;omega
         have Hj:=ae (akD (bf.map fun n:Nat=>(n:Int)) (fun n hn=>by
           obtain⟨u,hu,rfl⟩:=dh.1 hn
           exact Ew u (by have:=Pg u hu;omega)) (by rw[dy];omega) 44 _ V8 (Ig.out.below wh.out.below) (Up.out.kept wh.out.below aA))
         have Ca:Hid (mZ N F (i+1)=T2++([32,97,102,116,101,114,32]++bF 44 ((bf.map fun n:Nat=>(n:Int)).map Lib.itoa))++[10]):=ae (by rw[EB.out,gX];unfold eY;rw[af kT]);clear hm kT gX;generalize bF 44 ((bf.map fun n:Nat=>(n:Int)).map Lib.itoa)=tj at dV Hj Ca;have cq:¬9223372036854775807<7+tj.length:=ab;have e1:Hid ((⟨[32,97,102,116,101,114,32].toArray⟩++⟨tj.toArray⟩:ByteArray)=⟨([32,97,102,116,101,114,32]++tj).toArray⟩):=ae (by rw[dC]);unfold sv at Hj
         go_wp2_with (first
          |(go_at_call 25;refine Hj.out.mono ?_;rintro e V9 ⟨rfl,D⟩;have xY:=ae (wh.out.then D);have Ii:=ae (NI V9 W5.heap.size T2 ([32,97,102,116,101,114,32]++tj) xY.out.bd (by simp only[List.length_append,List.length_cons,List.length_nil];omega));unfold sv at Ii;rw[<-e1.out] at Ii;clear D)
          |(go_at_call 21;refine Ii.out.mono ?_;rintro e V10 ⟨rfl,D⟩;have Pl:=ae (xY.out.wrote D);have Ih:=ae (SG V10 W5.heap.size _ Pl.out.bd (by simp only[List.length_append,List.length_cons,List.length_nil];omega));clear D)
          |(go_at_call 26;refine Ih.out.mono ?_;rintro e V11 ⟨rfl,D⟩;have Pm:=ae (Pl.out.wrote D);clear D))
         go_roundw
         case rel=>exact⟨i+1,ab,by go_num,by rw[Ca.out];exact ae Pm.out.bd,ae Pm.out.below⟩
         case measure=>simp[intOf];omega
       |false=>
        have wh:Hid (PS W5 wr w6.heap.size #[I kind,I node,I arg,I m0,I m1,I m2,I m3,I m4,.slice aa asks.length ac,.bool false,.slice sa sl sc] T2):=ae (by rw[gX];simpa [qm] using zT.out);go_upto_region 20 with fail;clear c9;by_cases kT:bf=[]
        ·have Ih:=ae (SG wr W5.heap.size T2 wh.out.bd ab)
         have Bh:m=0:=by rw[hm,kT];rfl
         have Ca:Hid (mZ N F (i+1)=T2++[10]):=ae (by rw[EB.out,kT,gX];simp[eY]);clear hm kT gX;subst Bh
         go_wp2_with (go_at_call 26;refine Ih.out.mono ?_;rintro e V9 ⟨rfl,D⟩;have xY:=ae (wh.out.wrote D);clear D)
         go_roundw
         case rel=>exact⟨i+1,ab,by go_num,by rw[Ca.out];exact ae xY.out.bd,ae xY.out.below⟩
         case measure=>simp[intOf];omega
        ·have Ns:0<m:=by rw[hm];exact Cf.2 kT
         have aBP:(0:Int)<m:=ab
         have dV:(bF 44 ((bf.map fun n:Nat=>(n:Int)).map Lib.itoa)).length<=21*10000:=by
          have:=zN 44 20 ((bf.map fun n:Nat=>(n:Int)).map Lib.itoa) (fun y hy=>by
           obtain⟨n,hn,rfl⟩:=dh.1 hy;obtain⟨u,hu,rfl⟩:=dh.1 hn
           exact mV _ (Ew u (by have:=Pg u hu;omega)))
          simp only[dy] at this;omega
         have Hj:=ae (akD (bf.map fun n:Nat=>(n:Int)) (fun n hn=>by
           obtain⟨u,hu,rfl⟩:=dh.1 hn
           exact Ew u (by have:=Pg u hu;omega)) (by rw[dy];omega) 44 _ wr (Ig.out.below wh.out.below) (Up.out.kept wh.out.below aA))
         have Ca:Hid (mZ N F (i+1)=T2++([32,97,102,116,101,114,32]++bF 44 ((bf.map fun n:Nat=>(n:Int)).map Lib.itoa))++[10]):=ae (by rw[EB.out,gX];unfold eY;rw[af kT]);clear hm kT gX;generalize bF 44 ((bf.map fun n:Nat=>(n:Int)).map Lib.itoa)=tj at dV Hj Ca;have cq:¬9223372036854775807<7+tj.length:=ab;have e1:Hid ((⟨[32,97,102,116,101,114,32].toArray⟩++⟨tj.toArray⟩:ByteArray)=⟨([32,97,102,116,101,114,32]++tj).toArray⟩):=ae (by rw[dC]);unfold sv at Hj
         go_wp2_with (first
          |(go_at_call 25;refine Hj.out.mono ?_;rintro e V9 ⟨rfl,D⟩;have xY:=ae (wh.out.then D);have Ii:=ae (NI V9 W5.heap.size T2 ([32,97,102,116,101,114,32]++tj) xY.out.bd (by simp only[List.length_append,List.length_cons,List.length_nil];omega));unfold sv at Ii;rw[<-e1.out] at Ii;clear D)
          |(go_at_call 21;refine Ii.out.mono ?_;rintro e V10 ⟨rfl,D⟩;have Pl:=ae (xY.out.wrote D);have Ih:=ae (SG V10 W5.heap.size _ Pl.out.bd (by simp only[List.length_append,List.length_cons,List.length_nil];omega));clear D)
          |(go_at_call 26;refine Ih.out.mono ?_;rintro e V11 ⟨rfl,D⟩;have Pm:=ae (Pl.out.wrote D);clear D))
         go_roundw
         case rel=>exact⟨i+1,ab,by go_num,by rw[Ca.out];exact ae Pm.out.bd,ae Pm.out.below⟩
         case measure=>simp[intOf];omega
    ·obtain rfl:i=N.length:=ab;have Hs:=ae (axX w6 W5.heap.size _ Um.out);unfold sv at Hs
     go_wp2_with (go_at_call 27;refine Hs.out.mono ?_;rintro e V9 ⟨rfl,D⟩)
     go_ret;exact⟨by rw[xH.out];rfl,HB5.out.trans ((HB.out.trans D).mono Uk)⟩
end
end Go.Proofs.YtngblilamkkikaaGreatDoor
