import Derived.Shelf.SlLaysH
import Derived.Shelf.SlicesE.DeleteFunc
import Derived.Ground.SlgfProg
import Derived.Lib.OwnBridge
import Derived.ArgAppend
import Derived.Test.YtkanpepkdcmpmaaGreatDoorW37
set_option maxHeartbeats 40000000
set_option maxRecDepth 100000
set_option linter.all false
namespace Go.Proofs.YtkanpepkdcmpmaaGreatDoor
section
open Go.Shelf
def Tryz.aAT:Go.Shelf.Ren:=⟨fun|10=>41|6=>85|n=>n,fun|22=>22|23=>3|25=>104|3=>3|4=>4|0=>0|n=>n,fun|n=>n⟩
theorem Tryz.aAU:Go.Proofs.SlLaysH.n10 Tryz.prog Tryz.aAT:={
 mixed:=ah
 f6:=⟨Tryz.f85.name,au,Tryz.func85.trans (aF some ah)⟩
 f10:=⟨Tryz.f41.name,au,Tryz.func41.trans (aF some ah)⟩
 t0:=Tryz.underlying0
 a0:=Tryz.isAgg0
 z0:=Tryz.sizeOf0
 v0:=Tryz.zeroValue0
 t3:=Tryz.underlying3
 a3:=Tryz.isAgg3
 z3:=Tryz.sizeOf3
 v3:=Tryz.zeroValue3
 t4:=Tryz.underlying4
 a4:=Tryz.isAgg4
 z4:=Tryz.sizeOf4
 v4:=Tryz.zeroValue4
 t22:=Tryz.underlying22
 a22:=Tryz.isAgg22
 z22:=Tryz.sizeOf22
 v22:=Tryz.zeroValue22
 a23:=Tryz.isAgg3
 z23:=Tryz.sizeOf3
 t25:=Tryz.underlying104
 a25:=Tryz.isAgg104
 z25:=Tryz.sizeOf104
 v25:=Tryz.zeroValue104 }
end
section
open Go.RowKit Go.Lib Go.Sort
def JF (run:List az)(i:Nat):List Nat:=(List.range run.length).filter fun k=>decide (k=i)||dh run k i
theorem aAV (n:Nat):(List.finRange n).map (fun k=>I (k.val:Int))=nv (List.range n):=by
 apply Nq
 ·simp[nv]
 ·intro j h1 h2;simp[nv]
theorem aAW (n:Nat):(List.finRange n).map Fin.val=List.range n:=by
 apply Nq
 ·simp
 ·intro j h1 h2;simp
theorem alX (n:Nat)(f:Nat->Nat->Bool)(p:Value)(bi bo i k:Nat)(W:World)(hO:AX W p n f)(hi:i<n)(hk:k<n)(h0:W.cell? ⟨bi,0,none⟩=some (I i))(h1:W.cell? ⟨bo,0,none⟩=some p):
  FnGives Tryz.prog 42 #[.pointer (some ⟨bi,0,none⟩),.pointer (some ⟨bo,0,none⟩)] #[I k] (.bool (!(decide (k=i)||f k i))) W:=by
 show Calls Tryz.prog 42 #[I k,.pointer (some ⟨bi,0,none⟩),.pointer (some ⟨bo,0,none⟩)] W _
 have Hl:=ae (Lt p n f k i W hO hk hi);by_cases lN:k=i
 ·subst lN;clear hO;go_enter Tryz.func42,Tryz.ntmps42;go_wp2_with fail;go_ret;exact⟨ai,0,rfl⟩
 ·have aAX:¬(k:Int)=i:=ab
  have hd:decide (k=i)=false:=by simp[lN]
  have xk:=ae (show((k:Int) !=(i:Int))=true by simpa using aAX);rw[hd];clear hO hd
  cases hf:f k i with
  |true=>
   rw[hf] at Hl;clear hf;go_enter Tryz.func42,Tryz.ntmps42
   go_wp2_with (go_at_call 43;refine Hl.out.mono ?_;rintro e w3 ⟨rfl,rfl⟩)
   go_ret;exact⟨rfl,0,rfl⟩
  |false=>
   rw[hf] at Hl;clear hf;go_enter Tryz.func42,Tryz.ntmps42
   go_wp2_with (go_at_call 43;refine Hl.out.mono ?_;rintro e w3 ⟨rfl,rfl⟩)
   go_ret;exact⟨by show Ending.returned (Value.bool _)=_;rw[xk.out];rfl,0,rfl⟩
theorem alY (run:List az)(v:Value)(w:World)(hrun:fH w v run)(hn:run.length<=64)(i:Nat)(hi:i<run.length):
  Calls Tryz.prog 13 #[v,I i] w fun e w'=>∃u,e=.returned u/\br w' u ((JF run i).map fun k:Nat=>(k:Int))/\aw w w':=by
 obtain⟨ka,ca,rfl,gH⟩:=hrun.open;have hiI:(i:Int)<run.length:=ab;have aAY:¬(i:Int)<0:=ab;have HD:=ae (fun W hW=>aac run (.slice ka run.length ca) W hW hn);have alZ:=ae hrun;clear hrun;go_enter Tryz.func13,Tryz.ntmps13;go_wp2_with fail
 obtain⟨w1,pH⟩:∃w1,w1=w.alloc (.cells #[I i] 3):=⟨_,rfl⟩
 have cQ:w1.heap.size=w.heap.size+1:=by rw[pH];simp
 have cY:ay w1 w.heap.size #[I i]:=by rw[pH];exact ay.new _ _ _
 have aC:aw w w1:=by rw[pH];exact(Below.refl _ _).alloc ax _
 rw[<-pH];clear pH;refine(HD.out w1 (alZ.out.kept aC ax)).mono ?_;rintro e w2 ⟨p,rfl,hO,bh⟩;have hO':=hO;obtain⟨_,pg,_,_,rfl,_⟩:=hO';have fy:=bh.size;have fc:=cY.kept bh cY.lt;have iT:=ae (aC.trans (bh.mono ab));have HO:=ae hO;have Qo:=ae fc;clear cY aC bh hO fc HD alZ;go_wp2_with fail
 obtain⟨w3,nX⟩:∃w3,w3=w2.alloc (.cells #[.pointer (some ⟨pg,0,none⟩)] 81):=⟨_,rfl⟩
 have vL:w3.heap.size=w2.heap.size+1:=by rw[nX];simp
 have Hb3:=ae (show ay w3 w2.heap.size #[.pointer (some ⟨pg,0,none⟩)] by rw[nX];exact ay.new _ _ _);have aAZ:Hid (aw w2 w3):=ae (by rw[nX];exact(Below.refl _ _).alloc ax _);rw[<-nX];clear nX;go_loopw [6,20] (fun vo vi wr=>∃(k:Nat) (av:Option Addr) (ac:Nat),k<=run.length/\vo=.slice av k ac/\vi=I k/\Hid (aw w3 wr)/\Hid (wr.ownsRow w3.heap.size 3 1 (.slice av k ac) k (nv (List.range k)))) (fun _ vi _=>run.length-(intOf vi).toNat)
 case atStart=>exact⟨0,none,0,ab,rfl,rfl,ae (Below.refl _ _),ae (kz _ _ _ _)⟩
 case round=>
  obtain⟨k,av,ac,hk,rfl,rfl,HB,gM⟩:=hrel;have jo:=HB.out.size;by_cases hlt:k<run.length
  ·go_wp2_with (at_builtin;go_must (refine tF rfl _ _ 22 rfl 3 _ 1 8 Tryz.underlying22 sd rfl ab ab w3.heap.size (.slice av k ac) k (nv (List.range k)) rfl (gM.out.alloc _) wr.heap.size 1 1 #[I k] 3 rfl (dY _ _) rfl rfl ab ab (by rw[World.size_alloc];omega) ?_);intro g5 ui w5 fX gL jn jI nT eM)
   go_roundw
   case rel=>exact⟨k+1,_,ui,ab,rfl,by go_num,ae ((HB.out.alloc jo _).trans eM),ae (by rw[mn,Ly];exact jI)⟩
   case measure=>simp[intOf];omega
  ·obtain rfl:k=run.length:=ab;have aT:=gM.out;rw[<-aAV] at aT
   letI:Inhabited (Fin run.length):=⟨⟨i,hi⟩⟩
   have hne:Value.slice av run.length ac≠ .slice none 0 0:=by
    intro e;injection e with _ e _;omega
   obtain⟨g,cap,hv,hbg,sQ,ou,Cm,qU,hH⟩:=holds_of_ownsRow (enc:=fun k:Fin run.length=>I (k.val:Int)) aT hne;injection hv with ea _ ec;subst ea;subst ec;have eg:∀args w,(callFunc 42 args).run Tryz.prog w=.ok (.enter 42 args) w:=enters_of Tryz.func42 ah rfl;have rR:=Qo.out;have Vd:=aAZ.out
   have EN:∀W:World,aw w3 W->AX W (.pointer (some ⟨pg,0,none⟩)) run.length (dh run)/\W.cell? ⟨w.heap.size,0,none⟩=some (I i)/\W.cell? ⟨w2.heap.size,0,none⟩=some (.pointer (some ⟨pg,0,none⟩)):=fun W hW=>by
    refine⟨HO.out.kept (Vd.trans (hW.mono Vd.size)) ax,?_,?_⟩
    ·exact((rR.kept Vd rR.lt).kept hW (by have:=rR.lt;omega)).cell 0
    ·exact(Hb3.out.kept hW ab).cell 0
   have Ff:=AnyE.slices_DeleteFunc Tryz.aAU (fun k:Fin run.length=>I (k.val:Int)) (fun _=>rfl) (fun k:Fin run.length=> !(decide (k.val=i)||dh run k.val i)) 42 #[.pointer (some ⟨w.heap.size,0,none⟩),.pointer (some ⟨w2.heap.size,0,none⟩)] eg ⟨0,ab⟩ Tryz.zeroValue3 g 0 ac (List.finRange run.length).toArray wr
    (fun W x hb=>by
     obtain⟨h1,h2,h3⟩:=EN W (HB.out.trans (hb.mono jo))
     exact alX run.length (dh run) (.pointer (some ⟨pg,0,none⟩)) w.heap.size w2.heap.size i x.val W h1 hi x.isLt h2 h3)
    (fun m os dk x _=>by
     have hbw:aw w3 (sortWorld (fun k:Fin run.length=>I (k.val:Int)) wr g 0 m dk os):=by
      have h1:aw w3 (putRow (fun k:Fin run.length=>I (k.val:Int)) (Sort.ahead wr m) g 0 dk):=below_putRow HB.out hbg;exact h1.trans ((_root_.Go.Proofs.below_grown _ 0 os).mono h1.size)
     obtain⟨h1,h2,h3⟩:=EN _ hbw
     exact alX run.length (dh run) (.pointer (some ⟨pg,0,none⟩)) w.heap.size w2.heap.size i x.val _ h1 hi x.isLt h2 h3)
    hH bz (by simpa using ou)
   change Calls Tryz.prog 41 _ _ _ at Ff;have hlen:(List.finRange run.length).toArray.size=run.length:=ai;rw[hlen] at Ff
   obtain⟨r,hr⟩:∃r,r=(List.finRange run.length).toArray.toList.filter (fun k:Fin run.length=> !(!(decide (k.val=i)||dh run k.val i))):=⟨_,rfl⟩
   rw[<-hr] at Ff
   have eJ:r.length<=run.length:=by
    rw[hr];exact bm (oc _ _) ai
   have pN:r.map (fun k=>k.val)=JF run i:=by
    rw[hr];unfold JF;rw[<-aAW,List.filter_map];simp only[Bool.not_not];rfl
   have aBa:=ae Ff;have Bg:=ae aT;have Hrv:=ae pN;clear Ff aT hr pN EN hH hne
   go_wp2_with (go_at_call 41;refine aBa.out.mono ?_;rintro e w5 ⟨rfl,q,rfl⟩)
   go_ret;have ho:=ownsRow_putRow (q:=q) Bg.out (ys:=r++List.replicate (run.length-r.length) ⟨0,ab⟩) (k:=r.length) bz eJ;rw[List.take_left' rfl] at ho;refine⟨_,rfl,?_,?_⟩
   ·have:=Flat.eB ho;unfold br;rw[<-Hrv.out,dI,dI];rw[show iv ((r.map fun k=>k.val).map fun k:Nat=>(k:Int))=r.map (fun k=>I (k.val:Int)) by simp only[iv,List.map_map];rfl];exact this
   ·exact(below_putRow (iT.out.trans ((Vd.mono ab).trans (HB.out.mono ab))) ab)
end
namespace Ab
open Go Go.RowKit
variable {A:Nat->Prop} {es:List (List AC)} {k:Nat} {w:World}
def MQ (w:World)(A:Nat->Prop):List AC->List Value->Prop
 |[],_=>True
 |x::l,u::r=>IR w A x u/\MQ w A l r
 |_::_,[]=>False
theorem MQ.get:∀{l:List AC} {us:List Value},MQ w A l us->∀{j:Nat} {x:AC},l[j]? =some x->∃u,us[j]? =some u/\IR w A x u
 |[],_,_,j,x,h=>by simp at h
 |_::_,[],hc,_,_,_=>hc.elim
 |y::l,u::us,hc,0,x,h=>by simp at h;subst h;exact⟨u,rfl,hc.1⟩
 |y::l,u::us,hc,j+1,x,h=>by simpa using MQ.get hc.2 (j:=j) (by simpa using h)
theorem ama {w:World}{A:Nat->Prop}:∀l:List Int,MQ w A (l.map iA) (iv l)
 |[]=>trivial
 |_::l=>⟨.v _ rfl,ama l⟩
theorem amb(hk:∀row∈es,row.length=k){i j:Nat}{row:List AC}{x:AC}(h1:es[i]? =some row)(h2:row[j]? =some x):es.flatten[i*k+j]? =some x:=by
 have hi:=(bN.1 h1).1;have hr:=Yi hk i hi;rw[h1,aA] at hr;have hj:=(bN.1 h2).1;rw[hk row (eI h1)] at hj;rw[<-hr,wK,aj hj,oJ] at h2;exact h2
theorem Ve{a:Option Addr}{c:Nat}{xs:List Value}(h:Flat w k (.slice a es.length c) es.length xs)(EL:es.length<=c)(hk:∀row∈es,row.length=k)(hc:MQ w A es.flatten xs)(hA:∀b o,a=some ⟨b,o,none⟩->¬A b):IR w A (.sl es) (.slice a es.length c):=by
 obtain⟨_,hm,a',c',e,hr⟩:=h;cases e;refine IR.sl k es a c (fun i j=>xs.getD (i*k+j) undef) EL ab (fun i row h1=>hk row (eI h1)) (fun i row j x h1 h2=> ?_) (fun i row j h1 h2=> ?_)
 ·obtain⟨u,hu,RH⟩:=hc.get (amb hk h1 h2);rw[fC,hu];exact RH
 ·obtain⟨u,hu,_⟩:=hc.get (amb hk h1 (cz h2));obtain⟨b,o,ha,hcell⟩:=hr _ u hu;exact⟨b,o,ha,hA b o ha,by rw[fC,hu,Nat.add_assoc];exact hcell⟩
theorem amc{α:Type}(f:α->List Int)(k:Nat)(hf:∀x,(f x).length=k){B e:Nat}{v:Value}{l:List α}{M:Nat->Prop}(h:w.ownsRow B e k v l.length (l.flatMap fun x=>iv (f x)))(hM:∀b,M b->b<B):IR w M (.sl (l.map fun x=>(f x).map iA)) v:=by
 have IJ:=Flat.eB h;obtain⟨a,c,rfl,_⟩:=IJ.open
 have hx:(l.map fun x=>(f x).map iA).flatten=(l.flatMap f).map iA:=by rw[List.map_flatMap,List.flatMap_def]
 have hy:(l.flatMap fun x=>iv (f x))=iv (l.flatMap f):=by unfold iv;rw[List.map_flatMap]
 rw[hy] at IJ h
 have EL:l.length<=c:=by
  rcases h.2 with⟨e1,e2⟩|⟨_,_,_,e1,_,_,h2,_⟩
  ·omega
  ·injection e1 with _ _ e2;rw[e2];exact h2
 have:=Ve (A:=M) (k:=k) (a:=a) (c:=c) (es:=l.map fun x=>(f x).map iA) (xs:=iv (l.flatMap f)) (by simpa using IJ) (by simpa using EL) (fun row hr=>by
  obtain⟨x,_,rfl⟩:=dp.1 hr
  simpa using hf x) (by rw[hx];exact ama _) (fun b o ha hb=>by
  rcases h.2 with⟨e1,_⟩|⟨g,_,_,e1,hg,_⟩
  ·injection e1 with e2 _ _;rw[e2] at ha;cases ha
  ·injection e1 with e2 _ _;rw[e2] at ha;cases ha
   exact absurd (hM _ hb) (Nat.not_lt.2 hg))
 simpa using this
abbrev JG (a:aL):List AC:=a.ints.map iA
end Ab
section
def fx:az:=⟨⟨1,0,0,⟨0,0,0,0,0⟩⟩,[],false,[]⟩
def gy:az:=⟨⟨4,0,0,⟨0,0,0,0,0⟩⟩,[⟨0,2,0,1,0,3,2⟩],true,[]⟩
end
namespace Ab
open Go Go.RowKit
def c0:C1:=fun _ _=>none
theorem amd:iM Tryz.prog c0:=fun _ _ _ h=>by cases h
noncomputable def aBb:FD:=cw Tryz.f135 aN [tz 4 8,tz 6 8] [.t 4] [4,5] []
noncomputable def aBc:FD:=cw Tryz.f184 aN [] [.t 2] [1,2] [1]
noncomputable def aBd:FD:=cw Tryz.f185 aN [(1,3,tk 0 1 (tk 2 1 (.move 1 .nil)),[])] [.t 4] [2,3,4] [2,3]
noncomputable def aBe:FD:=cw Tryz.f138 aN [tz 5 7] [.t 4] [2,3,4,5,6] [2,3]
noncomputable def aBf:FD:=cw Tryz.f139 (aO [6]) [tz 2 12,tz 5 7] [.t 4] [3,4,5,6] [3,6]
noncomputable def aBg:FD:=cw Tryz.f84 ⟨0,[],[],[(9,[901])],cZ,[(3,[0])],[(2,[(3,0,901,41,8)])]⟩ [tz 6 7,tz 8 10] [(.cell 2 2)] [1,2,3,4,5] [1,2,3,901]
noncomputable def aBh:FD:=cw Tryz.f40 ⟨0,[],[],[(10,[901,902])],cZ,[(3,[0,1])],[(2,[(3,0,901,41,8),(3,1,902,161,6)])]⟩ [tm 5 7,tm 9 21] [(.cell 2 2)] [2,3,4,5] [2,3,901,902]
noncomputable def ame:List (FuncId×FD):=[(135,aBb),(184,aBc),(185,aBd),(138,aBe),(139,aBf),(84,aBg),(40,aBh)]
theorem aBi:La ame:=tc (okF Tryz.func135)<|tc (okF Tryz.func184)<|tc (okF Tryz.func185)<|tc (okF Tryz.func138)<|tc (okF Tryz.func139)<|tc (okF Tryz.func84)<|tc (okF Tryz.func40)<|tn
theorem aBj:jh ((xP ame c0 1000 60).1 40 [.c (CU [fx,gy])]) (.w (.agg [.sl ((zj [fx,gy]).map iP),.sl ((lx (xy [fx,gy])).map JG)]))=true:=ah
end Ab
section
open Go Go.RowKit
theorem ofL {X:World}{v:Value}(hg:Gl X)(h:Ab.IR X (fun _=>False) (Ab.CU [fx,gy]) v):Calls Tryz.prog 40 #[v] X fun e w'=>∃k c k2 c2,e=.returned (.agg #[.slice k (zj [fx,gy]).length c,.slice k2 (lx (xy [fx,gy])).length c2])/\lz w' k c k2 c2 (zj [fx,gy]) (lx (xy [fx,gy]))/\aw X w':=by
 refine((Ab.kh Ab.aBi Ab.amd 1000 60 (Ab.ki Ab.aBj)) (fun _=>False) X [v] ⟨fun b hb=>hb.elim,Ab.NI hg⟩ rfl (fun i x u hx hu=> ?_)).mono ?_
 ·match i,hx,hu with
  |0,hx,hu=>
   simp only[ye,aA] at hx hu;subst hx hu;exact⟨rfl,h.uY (S:=fun _=> .dead 0) (G:=fun _=>Ab.gh 0) (H:=fun _=>undef)⟩
  |i+1,hx,hu=>simp at hx
 ·rintro e w' ⟨v,r,rfl,rfl,⟨_,arr,rfl,hlen,hc⟩,hF⟩
  match arr,hlen,hc with
  |[u0,u1],_,hc=>
   have h0:oP w' u0 (zj [fx,gy]):=Ab.Ft Ev.ints 8 (fun _=>rfl) (Ab.CR.ir (S:=fun _=> .dead 0) (G:=fun _=>Ab.gh 0) (H:=fun _=>undef) (hc 0 _ u0 rfl rfl) rfl);have h1:lh w' u1 (lx (xy [fx,gy])):=Ab.Ft aL.ints 6 (fun _=>rfl) (Ab.CR.ir (S:=fun _=> .dead 0) (G:=fun _=>Ab.gh 0) (H:=fun _=>undef) (hc 1 _ u1 rfl rfl) rfl);obtain⟨k,c,rfl,_⟩:=h0.open;obtain⟨k2,c2,rfl,_⟩:=h1.open;exact⟨k,c,k2,c2,rfl,⟨h0,h1⟩,Ab.Fr.below hF⟩
end
namespace Ab
open Go Go.RowKit
attribute [local irreducible] aP bB aW
theorem aBk (s p:aq):bj Tryz.prog 147 [.c (sA s),.c (sA p)] (fun y=>y=.bP [.c (sA (Lib.trimPrefix s p)),.c (bA (Lib.hasPrefix s p))]):=
 zm (us:=[sv s,sv p]) fun w _=>(ahf s p w).mono fun e w' ⟨he,hw⟩=>⟨_,_,he,rfl,fun _ _=>Py rfl rfl,by rw[hw];exact Below.refl _ _⟩
theorem aBl (s p:aq)(hs:s.length<=4000000000):bj Tryz.prog 100 [.c (sA s),.c (sA p)] (fun y=>y=.w (.c (iA (Lib.index s p)))):=
 zm (us:=[sv s,sv p]) fun w hg=>(ahh s p w hg hs).mono fun e w' ⟨he,hw⟩=>⟨_,_,he,rfl,fun _ _=>Jm rfl,by rw[hw];exact Below.refl _ _⟩
theorem aBm {s:aq}{u:Nat}(h:Lib.parseUintB 31 s=.ok u)(hs:s.length<=4000000000):bj Tryz.prog 148 [.c (sA s),.c (iA 10),.c (iA 31)] (fun y=>y=.bP [.c (.v (.int .u64 (u:Nat))),.c (.v .nilIface)]):=
 zm (us:=[sv s,I 10,I 31]) fun w hg=>(aik h w hg hs).mono fun e w' ⟨he,hb⟩=>⟨_,_,he,rfl,fun _ _=>Py rfl rfl,hb⟩
end Ab
section
def FL:aq:=[48,58,32,115,116,97,114,116,32,48,32,48,10,49,58,32,116,105,109,101,114,32,48,32,48,32,91,100,114,97,119,32,48,46,50,46,48,32,48,32,61,32,50,47,51,93,32,42,32,97,102,116,101,114,32,48,10]
end
namespace Ab
open Go Go.RowKit
theorem aBn (es:List Ev)(l:List aL)(cB:∀a∈l,a.ok)(hle:es.length<=1000000)(hl:l.length<=1000000):bj Tryz.prog 53 [.agg [.sl (es.map iP),.sl (l.map JG)]] (fun y=>y=.w (.agg [.sl (es.map iP),.sl ((lx l).map JG)])):=by
 intro M w vs hM hlen dV
 match vs,hlen,dV with
 |[v],_,dV=>
  obtain⟨_,arr,rfl,fb,hc⟩:=dV 0 _ v rfl rfl
  match arr,fb,hc with
  |[u0,u1],_,hc=>
   have h0:oP w u0 es:=Ft Ev.ints 8 (fun _=>rfl) (CR.ir (hc 0 _ u0 rfl rfl) rfl);have h1:lh w u1 l:=Ft aL.ints 6 (fun _=>rfl) (CR.ir (hc 1 _ u1 rfl rfl) rfl);refine(aiI es l u0 u1 w h0 h1 cB hle hl).mono ?_;rintro e w' ⟨ue,ua,rfl,o1,o2,hb⟩;have i1:IR w' M (.sl (es.map iP)) ue:=amc Ev.ints 8 (fun _=>rfl) o1 hM.1;have i2:IR w' M (.sl ((lx l).map JG)) ua:=amc aL.ints 6 (fun _=>rfl) o2 hM.1
   exact⟨_,_,rfl,rfl,⟨rfl,[ue,ua],rfl,rfl,fun j x u hx hu=>by
    match j,hx,hu with
    |0,hx,hu=>cases hx;cases hu;exact i1.uY
    |1,hx,hu=>cases hx;cases hu;exact i2.uY
    |j+2,hx,hu=>simp at hx⟩,⟨hb.os,hb.tape,hb.output,hb.size,hb.block⟩⟩
theorem aBo (s:aq)(x:UInt8):bj Tryz.prog 49 [.c (sA s),.c (sA [x])] (fun y=>y=.w (.c (iA (s.count x:Nat)))):=
 zm (us:=[sv s,sv [x]]) fun w _=>(Zb s x w).mono fun e w' ⟨he,hw⟩=>⟨_,_,he,rfl,fun _ _=>Jm rfl,by rw[hw];exact Below.refl _ _⟩
theorem aBp (s p:aq)(hs:s.length<=4000000000):bj Tryz.prog 50 [.c (sA s),.c (sA p)] (fun y=>y=.bP [.c (sA (Lib.trimSuffix s p)),.c (bA (Lib.hasSuffix s p))]):=
 zm (us:=[sv s,sv p]) fun w _=>(ahg s p w hs).mono fun e w' ⟨he,hw⟩=>⟨_,_,he,rfl,fun _ _=>Py rfl rfl,by rw[hw];exact Below.refl _ _⟩
noncomputable def ach (c:C1):C1:=fun f args=>match args with
 |[.c (.v (.string ⟨⟨a⟩⟩)),.c (.v (.string ⟨⟨b⟩⟩))]=>match Nat.ble a.length 4000 with
  |true=>match Nat.beq f 147 with
   |true=>some (.bP [.c (sA (Lib.trimPrefix a b)),.c (bA (Lib.hasPrefix a b))])
   |false=>match Nat.beq f 100 with
    |true=>some (.w (.c (iA (Lib.index a b))))
    |false=>match Nat.beq f 50 with
     |true=>some (.bP [.c (sA (Lib.trimSuffix a b)),.c (bA (Lib.hasSuffix a b))])
     |false=>match b with
      |[x]=>match Nat.beq f 51 with
       |true=>some (.w (.c (strs (cg x a))))
       |false=>match Nat.beq f 49 with
        |true=>some (.w (.c (iA (a.count x:Nat))))
        |false=>none
      |_=>none
  |false=>none
 |[.c (.v (.string ⟨⟨a⟩⟩))]=>match Nat.ble a.length 4000 with
  |true=>match Nat.beq f 76 with
   |true=>some (sU a)
   |false=>match Nat.beq f 78 with
    |true=>some (CX a)
    |false=>none
  |false=>none
 |[.c (.v (.int .i64 (.ofNat n)))]=>match Nat.beq f 29 with
  |true=>match Nat.blt n 10 with
   |true=>some (.w (.c (sA [UInt8.ofNat (48+n)])))
   |false=>none
  |false=>none
 |[.c (.v (.string ⟨⟨a⟩⟩)),.c (.v (.int .i64 (.ofNat n))),.c (.v (.int .i64 (.ofNat m)))]=>match Nat.ble a.length 4000 && (Nat.beq f 148 && (Nat.beq n 10 && Nat.beq m 31)) with
  |true=>match Lib.parseUintB 31 a with
   | .ok u=>some (.bP [.c (.v (.int .u64 (u:Nat))),.c (.v .nilIface)])
   |_=>none
  |false=>none
 |args=>c f args
theorem aBq {c:C1}(hc:iM Tryz.prog c):iM Tryz.prog (ach c):=by
 intro f args x h;unfold ach at h;split at h
 ·rename_i a b
  cases hn:Nat.ble a.length 4000 with
  |false=>rw[hn] at h;cases h
  |true=>
   rw[hn] at h;have hn:=tB hn;have hn:a.length<=4000000000:=ab;dsimp only at h;split at h
   ·rename_i e;cases h;rw[et e];exact aBk a b
   split at h
   ·rename_i e;cases h;rw[et e];exact aBl a b hn
   split at h
   ·rename_i e;cases h;rw[et e];exact aBp a b hn
   split at h
   ·split at h
    ·rename_i e;cases h;rw[et e];exact Ul a _ hn
    split at h
    ·rename_i e;cases h;rw[et e];exact aBo a _
    ·cases h
   ·cases h
 ·rename_i a
  cases hn:Nat.ble a.length 4000 with
  |false=>rw[hn] at h;cases h
  |true=>
   rw[hn] at h;have hn:=tB hn;have hn:a.length<=4000000000:=ab;dsimp only at h;split at h
   ·rename_i e;cases h;rw[et e];exact ajP a hn
   split at h
   ·rename_i e;cases h;rw[et e];exact ajQ a hn
   ·cases h
 ·rename_i n;split at h
  case h_2=>cases h
  rename_i e;split at h
  case h_2=>cases h
  rename_i hn;cases h;have hn:n<10:=tB hn;have:=aaW (n:Int) ⟨ab,ab⟩;rw[Lib.itoa_nonneg,Lib.decDigits_one hn] at this;rw[et e];exact this
 ·rename_i a n m;split at h
  case h_2=>cases h
  rename_i hb;simp only[bZ] at hb;obtain⟨h1,h2,h3,h4⟩:=hb;have h1:=tB h1;split at h
  ·rename_i u hu;cases h;rw[et h2,et h3,et h4];exact aBm hu ab
  ·cases h
 ·exact hc f _ x h
noncomputable def aBr:FD:=cw Tryz.f103 (aB 1000 []) [] [] [] []
noncomputable def aBs:FD:=cw Tryz.f104 (aB 1000 []) [] [.t 4] [4,5,6] []
noncomputable def aBt:FD:=cw Tryz.f105 (aB 1000 []) [] [.t 4] [4,5,7,8,9,15,16,17] []
noncomputable def aBu:FD:=cw Tryz.f107 (aB 1000 []) [] [.t 4] [4,5,6] []
def mR:List (Nat×List Nat):=[(105,[39]),(104,[39]),(103,[39]),(107,[39]),(106,[39]),(52,[39])]
noncomputable def aBv:FD:=cw Tryz.f106 ⟨1000,[],mR,[],cZ,[],[]⟩ [] [.cell 2 6] [2,3,4,5] [1002,1003]
noncomputable def aBw:FD:=cw Tryz.f52 ⟨1000,[8],mR,[],cZ,[],[]⟩ [] [.cell 4 8,.t 5] [4,5,6,7,8,9,11,12,53,54,55] [1004,1006,1008]
noncomputable def aBx:FD:=cw Tryz.f18 ⟨0,[],mR,[(19,[901,902])],cZ,[(4,[0,1])],[(9,[(4,0,901,41,8),(4,1,902,161,6)])]⟩ [] [.cell 2 2,.t 3] [2,3,4,5,6,7,8,9,10,11,30,31,32,39] [2,4,39,10,901,902]
noncomputable def amf:List (FuncId×FD):=[(103,aBr),(104,aBs),(105,aBt),(107,aBu),(106,aBv),(52,aBw),(18,aBx)]
theorem aBy:La amf:=tc (okF Tryz.func103)<|tc (okF Tryz.func104)<|tc (okF Tryz.func105)<|tc (okF Tryz.func107)<|tc (okF Tryz.func106)<|tc (okF Tryz.func52)<|tc (okF Tryz.func18)<|tn
noncomputable def amg:C1:=known 53 [.agg [.sl ((zj [fx,gy]).map iP),.sl ((xy [fx,gy]).map JG)]] (.w (.agg [.sl ((zj [fx,gy]).map iP),.sl ((lx (xy [fx,gy])).map JG)])) (ach c0)
theorem aBz:iM Tryz.prog amg:=xz (aBn _ _ (by
 intro a ha;simp[xy,fx,gy,Ask.CM] at ha;subst ha;refine⟨fun n hn=> ?_,?_⟩
 ·simp[Qn.ints] at hn;unfold cJ;omega
 ·show cJ 2
  unfold cJ
  omega) au au) (aBq amd)
theorem aBA:jh ((xP amf amg 1000 60).1 18 [.c (sA FL)]) (.bP [.agg [.sl ((zj [fx,gy]).map iP),.sl ((lx (xy [fx,gy])).map JG)],.c (iA 0)])=true:=ah
end Ab
section
open Go Go.RowKit
theorem aBB {X:World}(hg:Gl X):Calls Tryz.prog 18 #[sv FL] X fun e w'=>(∃k c k2 c2,e=.returned (.tuple #[tv k c k2 c2 (zj [fx,gy]) (lx (xy [fx,gy])),I 0])/\lz w' k c k2 c2 (zj [fx,gy]) (lx (xy [fx,gy])))/\aw X w':=by
 refine((Ab.kh Ab.aBy Ab.aBz 1000 60 (Ab.ki Ab.aBA)) (fun _=>False) X [sv FL] ⟨fun b hb=>hb.elim,Ab.NI hg⟩ rfl (fun i x u hx hu=> ?_)).mono ?_
 ·match i,hx,hu with
  |0,hx,hu=>
   simp only[ye,aA] at hx hu;subst hx hu;exact Ab.Jm rfl
  |i+1,hx,hu=>simp at hx
 ·rintro e w' ⟨v,r,rfl,rfl,⟨arr,rfl,hlen,hc⟩,hF⟩
  match arr,hlen,hc with
  |[t,n],_,hc=>
   have hn:=Ab.xA (Ab.CR.ir (S:=fun _=> .dead 0) (G:=fun _=>Ab.gh 0) (H:=fun _=>undef) (hc 1 _ n rfl rfl).2 rfl);obtain⟨_,tK,rfl,LQ,dW⟩:=hc 0 _ t rfl rfl;subst hn
   match tK,LQ,dW with
   |[u0,u1],_,dW=>
    have h0:oP w' u0 (zj [fx,gy]):=Ab.Ft Ev.ints 8 (fun _=>rfl) (Ab.CR.ir (S:=fun _=> .dead 0) (G:=fun _=>Ab.gh 0) (H:=fun _=>undef) (dW 0 _ u0 rfl rfl) rfl);have h1:lh w' u1 (lx (xy [fx,gy])):=Ab.Ft aL.ints 6 (fun _=>rfl) (Ab.CR.ir (S:=fun _=> .dead 0) (G:=fun _=>Ab.gh 0) (H:=fun _=>undef) (dW 1 _ u1 rfl rfl) rfl);obtain⟨k,c,rfl,_⟩:=h0.open;obtain⟨k2,c2,rfl,_⟩:=h1.open;exact⟨⟨k,c,k2,c2,rfl,⟨h0,h1⟩⟩,Ab.Fr.below hF⟩
end
section
open Go.RowKit
def Qp (X:World):Prop:=Calls Tryz.prog 11 #[] X fun e w'=>e=.returned (.bool true)/\aw X w'
def Vf:Array Value:=#[I 1,I 0,I 0,I 0,I 0,I 0,I 0,I 0,.slice none 0 0,.bool false,.slice none 0 0]
def JH:aq:=[48,58,32,115,116,97,114,116,32,48,32,48,10]
theorem aBC:zw (fZ [fx])=JH:=by decide+kernel
theorem aBD:zw (fZ [fx,gy])=FL:=by decide+kernel
theorem aBE:JF [fx,gy] 1=[0,1]:=by decide+kernel
theorem amh:∀s∈[fx,gy],Dk s:=by
 intro s hs;simp only[cA,jL,kV] at hs
 rcases hs with rfl|rfl
 ·refine⟨?_,?_,au⟩
  ·intro x hx;simp[fx,Ev.ints] at hx;unfold cJ;omega
  ·intro a ha;simp[fx] at ha
 ·refine⟨?_,?_,au⟩
  ·intro x hx;simp[gy,Ev.ints] at hx;unfold cJ;omega
  ·intro a ha;simp[gy] at ha;subst ha;intro x hx;simp[Ask.ints] at hx;unfold cJ;omega
theorem aBF:∀s∈[fx],Dk s:=fun s hs=>amh s (cA.2 (.inl (by simpa using hs)))
theorem aBG {W:World}{b:Nat}(h:ay W b Vf):fH W (.slice (some ⟨b,0,none⟩) 1 1) [fx]:=
 ⟨Vf.toList,⟨.slice none 0 0,.slice none 0 0,[],rfl,Flat.nil _ _ _ _,Flat.nil _ _ _ _,rfl⟩,Flat.qD rfl au (fun j u hu=>by rw[eP,h.cell j,<-hu];simp)⟩
theorem aci (w:World)(hg:Gl w):Qp w:=by
 unfold Qp;have Hg:=ae hg;clear hg;obtain⟨i0,hi,fk,cQ,fy⟩:=wN Rn;go_enter Tryz.func11,Tryz.ntmps11;go_upto_region 3 with fail
 obtain⟨w2,jA⟩:∃w2,w2=(w.alloc (.cells #[I 1,I 0,I 0,I 0,I 0,I 0,I 0,I 0,.slice none 0 0,.bool false,.slice none 0 0] 45)).alloc (.cells #[I 0,I 2,I 0,I 1,I 0] 76):=⟨_,rfl⟩
 have eF:ay w2 w.heap.size Vf:=by rw[jA];exact(ay.new _ _ _).alloc _
 have hq:ay w2 (w.heap.size+1) #[I 0,I 2,I 0,I 1,I 0]:=by
  rw[jA];have:=ay.new (w.alloc (.cells #[I 1,I 0,I 0,I 0,I 0,I 0,I 0,I 0,.slice none 0 0,.bool false,.slice none 0 0] 45)) #[I 0,I 2,I 0,I 1,I 0] 76;simpa using this
 have bh:Below (w.heap.size) w w2:=by rw[jA];exact((Below.refl _ _).alloc ax _).alloc ai _
 have fy:w2.heap.size=w.heap.size+2:=by rw[jA];simp
 rw[<-jA];clear jA
 obtain⟨A,hA⟩:∃A,A=w.heap.size:=⟨_,rfl⟩
 rw[<-hA] at eF hq bh fy⊢;have HA:=ae hA;clear hA;have q0:=hq.cell 0;have q1:=hq.cell 1;have q2:=hq.cell 2;have q3:=hq.cell 3;have q4:=hq.cell 4
 obtain⟨w4,Dn⟩:∃w4,w4=(w2.alloc (.cells #[I 0,I 2,I 0,I 1,I 0,I 3,I 2] 78)).alloc (.cells #[I 4,I 0,I 0,I 0,I 0,I 0,I 0,I 0,.slice (some ⟨w2.heap.size,0,none⟩) 1 1,.bool true,.slice none 0 0] 45):=⟨_,rfl⟩
 have lZ:aw w2 w4:=by rw[Dn];exact((Below.refl _ _).alloc ax _).alloc ai _
 have Bk:ay w4 w2.heap.size #[I 0,I 2,I 0,I 1,I 0,I 3,I 2]:=by rw[Dn];exact(ay.new _ _ _).alloc _
 have eD:ay w4 (w2.heap.size+1) #[I 4,I 0,I 0,I 0,I 0,I 0,I 0,I 0,.slice (some ⟨w2.heap.size,0,none⟩) 1 1,.bool true,.slice none 0 0]:=by
  rw[Dn];have:=ay.new (w2.alloc (.cells #[I 0,I 2,I 0,I 1,I 0,I 3,I 2] 78)) #[I 4,I 0,I 0,I 0,I 0,I 0,I 0,I 0,.slice (some ⟨w2.heap.size,0,none⟩) 1 1,.bool true,.slice none 0 0] 45;simpa using this
 have Jc:w4.heap.size=w2.heap.size+2:=by rw[Dn];simp
 have ami:=eF.kept lZ eF.lt;have Vg:=ae ami;have Hr2:=ae eD;have Hak:=ae Bk;have Qq:=ae lZ;have iT:=ae bh;have Hw4:=ae Dn;have Hz2:=ae fy;have Hz4:=ae Jc;clear eF ami eD Bk lZ bh hq Dn fy Jc
 go_wp2_with (at_builtin;go_must (rw[<-Hw4.out];refine wpList_append_arg _ rfl _ _ 23 rfl 45 i0 _ 11 _ Tryz.underlying23 hi fk cQ fy rfl au A 0 1 1 #[I 1,I 0,I 0,I 0,I 0,I 0,I 0,I 0,.slice none 0 0,.bool false,.slice none 0 0].toList rfl rfl ?olds ⟨w2.heap.size+1,0,none⟩ 1 1 [I 4,I 0,I 0,I 0,I 0,I 0,I 0,I 0,.slice (some ⟨w2.heap.size,0,none⟩) 1 1,.bool true,.slice none 0 0] rfl rfl ?c1 ?c2 ?spare ?b1 ?b2 ?room ?grow))
 case olds=>intro j u hu;rw[Vg.out.cell j,<-hu];simp[Vf]
 case c1=>intro j u hu;rw[Addr.add_lit,eP,Hr2.out.cell j,<-hu];simp
 case c2=>exact fE.1 rfl
 case spare=>intro h;omega
 case b1=>unfold maxLen;omega
 case b2=>omega
 case grow=>
  intro v5 w5 jI hg5;have Vh:aw w4 w5:=(Below.refl _ _).grown hg5 ax (fun k hk=>by cases hk);have Vi:=Flat.eB jI;obtain⟨ka,kc,rfl,_⟩:=Vi.open;have acj:=Hak.out.kept Vh Hak.out.lt
  have amj:fH w5 (.slice ka 2 kc) [fx,gy]:=
   ⟨_,⟨.slice none 0 0,.slice none 0 0,_,rfl,Flat.nil _ _ _ _,Flat.nil _ _ _ _,⟨.slice (some ⟨w2.heap.size,0,none⟩) 1 1,.slice none 0 0,[],rfl,Flat.qD rfl au (fun j u hu=>by rw[eP,acj.cell j,<-hu];simp[gy,Ask.cells,Ask.ints,iv]),Flat.nil _ _ _ _,rfl⟩⟩,Vi⟩
  have EL:2<=kc:=by
   rcases jI.2 with⟨_,h0⟩|⟨_,_,_,e5,_,_,h2,_⟩
   ·cases h0
   ·injection e5 with _ _ e6;rw[e6];exact h2
  have ia:Ab.IR w5 (fun _=>False) (Ab.asks gy.asks) (.slice (some ⟨w2.heap.size,0,none⟩) 1 1):=Ab.Ve (es:=[[Ab.iA 0,Ab.iA 2,Ab.iA 0,Ab.iA 1,Ab.iA 0,Ab.iA 3,Ab.iA 2]]) (k:=7) (xs:=[I 0,I 2,I 0,I 1,I 0,I 3,I 2]) (Flat.qD rfl au (fun j u hu=>by rw[eP,acj.cell j,<-hu];simp)) ax ai ⟨.v _ rfl,.v _ rfl,.v _ rfl,.v _ rfl,.v _ rfl,.v _ rfl,.v _ rfl,trivial⟩ (fun _ _ _ h=>h);have i0:Ab.IR w5 (fun _=>False) (.sl []) (.slice none 0 0):=Ab.Ve (k:=1) (xs:=[]) (Flat.nil _ _ _ _) ax ai trivial (fun _ _ _ h=>h);have HI5:=ae (Ab.Ve (A:=fun _=>False) (es:=[Ab.kQ fx,Ab.kQ gy]) (k:=11) (a:=ka) (c:=kc) Vi EL ai ⟨.v _ rfl,.v _ rfl,.v _ rfl,.v _ rfl,.v _ rfl,.v _ rfl,.v _ rfl,.v _ rfl,i0,.v _ rfl,i0,.v _ rfl,.v _ rfl,.v _ rfl,.v _ rfl,.v _ rfl,.v _ rfl,.v _ rfl,.v _ rfl,ia,.v _ rfl,i0,trivial⟩ (fun _ _ _ h=>h));have JI:fH w5 (.slice (some ⟨A,0,none⟩) 1 1) [fx]:=aBG (Vg.out.kept Vh Vg.out.lt);have amk:Below A w w5:=iT.out.trans ((Qq.out.trans (Vh.mono (by have:=Hz4.out;omega))).mono (by have:=Hz2.out;omega));have Qr:=ae (show Below (w.heap.size) w w5 by rw[<-HA.out];exact amk);have Vj:=ae (Hg.out.below Qr.out);have zf:=ae JI;have EZ:=ae amj;have Hp:=ae (aBB Vj.out)
  obtain⟨E,hE⟩:∃E,E=zj [fx,gy]:=⟨_,rfl⟩
  obtain⟨L,hL⟩:∃L,L=lx (xy [fx,gy]):=⟨_,rfl⟩
  rw[<-hE,<-hL] at Hp
  have Vk:E.length=2:=by rw[hE];decide
  have LA:L.length=1:=by rw[hL];decide+kernel
  have HOf:Hid (∀X,aw w5 X->Calls Tryz.prog 40 #[.slice ka 2 kc] X fun e w'=>∃k c k2 c2,e=.returned (.agg #[.slice k 2 c,.slice k2 1 c2])/\lz w' k c k2 c2 E L/\aw X w'):=ae (fun X hX=>by
   have h1:=ofL (v:=.slice ka 2 kc) (Vj.out.below hX) (HI5.out.mono hX.size (fun _ _ h=>h) (fun b hb _=>hX.block b hb));rw[<-hE,<-hL,Vk,LA] at h1
   exact h1)
  have HSm:Hid (∀X k c k2 c2 k3 c3 k4 c4,lz X k c k2 c2 E L->lz X k3 c3 k4 c4 E L->Calls Tryz.prog 39 #[.agg #[.slice k 2 c,.slice k2 1 c2],.agg #[.slice k3 2 c3,.slice k4 1 c4]] X fun e w'=>e=.returned (.bool true)/\aw X w'):=ae (fun X k c k2 c2 k3 c3 k4 c4 h1 h2=>by
   have h:=axH E E L L k c k2 c2 k3 c3 k4 c4 X h1 h2 true ai;unfold tv at h;rw[Vk,LA] at h
   exact h)
  have ZY:Hid (∀X,aw w5 X->Calls Tryz.prog 9 #[.slice (some ⟨A,0,none⟩) 1 1] X fun e w'=>e=.returned (.string ⟨List.toArray [48,58,32,115,116,97,114,116,32,48,32,48,10]⟩)/\aw X w'):=ae (fun X hX=>by
   have h:=Qg [fx] (.slice (some ⟨A,0,none⟩) 1 1) X (zf.out.kept hX ax) au aBF au (Vj.out.below hX);rw[aBC] at h
   exact h)
  have HP2:Hid (∀X,aw w5 X->Calls Tryz.prog 9 #[.slice ka 2 kc] X fun e w'=>e=.returned (.string ⟨List.toArray [48,58,32,115,116,97,114,116,32,48,32,48,10,49,58,32,116,105,109,101,114,32,48,32,48,32,91,100,114,97,119,32,48,46,50,46,48,32,48,32,61,32,50,47,51,93,32,42,32,97,102,116,101,114,32,48,10]⟩)/\aw X w'):=ae (fun X hX=>by
   have h:=Qg [fx,gy] (.slice ka 2 kc) X (EZ.out.kept hX ax) au amh au (Vj.out.below hX);rw[aBD] at h
   exact h)
  have HWy:Hid (∀X,aw w5 X->Calls Tryz.prog 13 #[.slice ka 2 kc,I 1] X fun e w'=>∃u,e=.returned u/\br w' u [0,1]/\aw X w'):=ae (fun X hX=>by
   have h:=alY [fx,gy] (.slice ka 2 kc) X (EZ.out.kept hX ax) au 1 au;rw[aBE] at h
   exact h)
  clear ia i0 EL HI5 hE hL jI hg5 Vh Vi acj JI amj amk Vg Hr2 Hak Qq iT Hw4 Hz2 Hz4 q0 q1 q2 q3 q4;unfold tv at Hp;rw[Vk,LA] at Hp
  go_wp2_with (go_at_call 18;refine Hp.out.mono ?_;rintro e w6 ⟨⟨k,c,k2,c2,rfl,hT⟩,rH⟩)
  have Vl:aw w5 (w6.alloc (.cells #[.slice k 2 c,.slice k2 1 c2] 49)):=rH.alloc rH.size _;have JJ:ay (w6.alloc (.cells #[.slice k 2 c,.slice k2 1 c2] 49)) w6.heap.size #[.slice k 2 c,.slice k2 1 c2]:=ay.new _ _ _;have hT7:lz (w6.alloc (.cells #[.slice k 2 c,.slice k2 1 c2] 49)) k c k2 c2 E L:=hT.kept ((Below.refl _ _).alloc ax _)
  obtain⟨V0,hV0⟩:∃V0,V0=w6.alloc (.cells #[.slice k 2 c,.slice k2 1 c2] 49):=⟨_,rfl⟩
  obtain⟨G,hG⟩:∃G,G=w6.heap.size:=⟨_,rfl⟩
  rw[<-hV0] at Vl JJ hT7⊢;rw[<-hG] at JJ⊢;clear hV0 hG
  obtain⟨V,hV⟩:∃V,V=V0.drew:=⟨_,rfl⟩
  have uz:=ae (show aw w5 V by rw[hV];exact Vl.drew);have Vm:=ae (show ay V G #[.slice k 2 c,.slice k2 1 c2] by rw[hV];exact JJ.drew);have HTV:=ae (show lz V k c k2 c2 E L by rw[hV];exact hT7.kept ((Below.refl _ _).drew));have Dp:Hid (∀X,aw V X->X.cell? ⟨G,0,none⟩=some (.slice k 2 c)/\X.cell? ⟨G,1,none⟩=some (.slice k2 1 c2)):=ae (fun X hX=>⟨(Vm.out.kept hX Vm.out.lt).cell 0,(Vm.out.kept hX Vm.out.lt).cell 1⟩);have HD:=ae (Below.refl V.heap.size V);have hSV:=Dp.out _ HD.out;clear Vl JJ hT7 hT rH Vk LA;refine Kw 22 (.take 0 (.move 1 (.take 2 (.take 3 (.take 4 (.move 5 (.take 6 (.take 7 (.take 8 (.take 9 (.take 10 (.take 11 (.take 12 (.take 13 (.take 14 (.move 15 (.move 16 (.take 17 (.take 18 (.take 19 (.fork 20 21 (.move 21 .nil) (.move 20 .nil)))))))))))))))))))))) (fun X=>X.cell? ⟨G,0,none⟩=some (.slice k 2 c)/\X.cell? ⟨G,1,none⟩=some (.slice k2 1 c2)) ah rfl ah (by rw[<-hV];exact hSV) ?_;rw[<-hV];clear hV hSV
  iterate 1 refine cU ?_
  refine dt rfl (fun K hK=> ?_);go_simp;go_at_call 9;refine(ZY.out _ (uz.out.trans (HD.out.mono uz.out.size))).mono ?_;rintro e V1 ⟨rfl,F⟩;replace HD:=ae (HD.out.trans (F.mono HD.out.size));refine hK.out _ _ (Dp.out _ HD.out) ?_;clear hK K F;refine bC ?_
  iterate 3 refine cU ?_
  refine dt rfl (fun K hK=> ?_);go_simp;go_at_call 9;refine(HP2.out _ (uz.out.trans (HD.out.mono uz.out.size))).mono ?_;rintro e V2 ⟨rfl,F⟩;replace HD:=ae (HD.out.trans (F.mono HD.out.size));refine hK.out _ _ (Dp.out _ HD.out) ?_;clear hK K F;refine bC ?_
  iterate 9 refine cU ?_
  refine dt rfl (fun K hK=> ?_);go_simp;go_at_call 40;refine(HOf.out _ (uz.out.trans (HD.out.mono uz.out.size))).mono ?_;rintro e V3 ⟨k3,c3,k4,c4,rfl,sR,F⟩;have LO:=ae sR;clear sR;replace HD:=ae (HD.out.trans (F.mono HD.out.size));refine hK.out _ _ (Dp.out _ HD.out) ?_;clear hK K F;refine bC ?_;refine dt rfl (fun K hK=> ?_);go_simp;go_at_call 39;refine(HSm.out _ k c k2 c2 k3 c3 k4 c4 (HTV.out.kept HD.out) LO.out).mono ?_;rintro e V4 ⟨rfl,F⟩;replace HD:=ae (HD.out.trans (F.mono HD.out.size));refine hK.out _ _ (Dp.out _ HD.out) ?_;clear hK K F;refine bC ?_
  iterate 3 refine cU ?_
  refine wS ?_ ?_
  ·refine dt rfl (fun K hK=> ?_);go_simp;go_at_call 13;refine(HWy.out _ (uz.out.trans (HD.out.mono uz.out.size))).mono ?_;rintro e V5 ⟨u,rfl,hI,F⟩;obtain⟨ku,cu,rfl,_⟩:=hI.open;have HI:=ae hI;clear hI;replace HD:=ae (HD.out.trans (F.mono HD.out.size));refine hK.out _ _ (Dp.out _ HD.out) ?_;clear hK K F;refine bC ?_;refine dt rfl (fun K hK=> ?_);go_simp;have F:aw V5 (V5.alloc (.cells #[I 0,I 1] 3)):=(Below.refl _ _).alloc ax _;have HJ:Hid (br (V5.alloc (.cells #[I 0,I 1] 3)) (.slice (some ⟨V5.heap.size,0,none⟩) 2 2) [0,1]):=ae (Flat.qD rfl au (fun j u hu=>by rw[eP,(ay.new V5 #[I 0,I 1] 3).cell j,<-hu];simp[iv]));replace HI:=ae (br.kept HI.out F ax);replace HD:=ae (HD.out.trans (F.mono HD.out.size));refine hK.out _ _ (Dp.out _ HD.out) ?_;clear hK K F;refine bC ?_;refine pA ?_;have Hf:=ae (Ro [0,1] [0,1] _ _ _ HI.out HJ.out);rw[show decide (([0,1]:List Int)=[0,1])=true from au] at Hf
   go_wp2_with (go_at_call 12;refine Hf.out.mono ?_;rintro e V9 ⟨rfl,q,rfl⟩)
   refine NoPanic.normal ?_;go_wp2_with fail;go_ret;exact⟨rfl,below_drewN (Qr.out.trans ((uz.out.trans (HD.out.mono uz.out.size)).mono Qr.out.size)) _⟩
  ·refine dt rfl (fun K hK=> ?_);go_simp;have F:aw V4 (V4.alloc (.cells #[I 0,I 1] 3)):=(Below.refl _ _).alloc ax _;have HJ:Hid (br (V4.alloc (.cells #[I 0,I 1] 3)) (.slice (some ⟨V4.heap.size,0,none⟩) 2 2) [0,1]):=ae (Flat.qD rfl au (fun j u hu=>by rw[eP,(ay.new V4 #[I 0,I 1] 3).cell j,<-hu];simp[iv]))
   obtain⟨V5,hV5⟩:∃V5,V5=V4.alloc (.cells #[I 0,I 1] 3):=⟨_,rfl⟩
   rw[<-hV5] at F HJ⊢;clear hV5;replace HD:=ae (HD.out.trans (F.mono HD.out.size));refine hK.out _ _ (Dp.out _ HD.out) ?_;clear hK K F;refine bC ?_;refine dt rfl (fun K hK=> ?_);go_simp;go_at_call 13;refine(HWy.out _ (uz.out.trans (HD.out.mono uz.out.size))).mono ?_;rintro e V6 ⟨u,rfl,hI,F⟩;obtain⟨ku,cu,rfl,_⟩:=hI.open;have HI:=ae hI;clear hI;replace HJ:=ae (br.kept HJ.out F ax);replace HD:=ae (HD.out.trans (F.mono HD.out.size));refine hK.out _ _ (Dp.out _ HD.out) ?_;clear hK K F;refine bC ?_;refine pA ?_;have Hf:=ae (Ro [0,1] [0,1] _ _ _ HI.out HJ.out);rw[show decide (([0,1]:List Int)=[0,1])=true from au] at Hf
   go_wp2_with (go_at_call 12;refine Hf.out.mono ?_;rintro e V9 ⟨rfl,q,rfl⟩)
   refine NoPanic.normal ?_;go_wp2_with fail;go_ret;exact⟨rfl,below_drewN (Qr.out.trans ((uz.out.trans (HD.out.mono uz.out.size)).mono Qr.out.size)) _⟩
end
end Go.Proofs.YtkanpepkdcmpmaaGreatDoor
