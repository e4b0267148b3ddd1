import Derived.Shelf.SlLaysH
import Derived.Shelf.SlicesE.DeleteFunc
import Derived.Ground.SlgfProg
import Derived.Lib.OwnBridge
import Derived.Test.YtngblilamkkikaaGreatDoorW45
import Derived.ArgAppend
set_option maxHeartbeats 40000000
set_option maxRecDepth 100000
set_option linter.all false
namespace Go.Proofs.YtngblilamkkikaaGreatDoor
section
open Go.Shelf
def Tryz.aBQ:Go.Shelf.Ren:=⟨fun|10=>81|6=>118|n=>n,fun|22=>22|23=>3|25=>150|3=>3|4=>4|0=>0|n=>n,fun|n=>n⟩
theorem Tryz.aBR:Go.Proofs.SlLaysH.n10 Tryz.prog Tryz.aBQ:={
 mixed:=ah
 f6:=⟨Tryz.f118.name,aq,Tryz.func118.trans (aG some ah)⟩
 f10:=⟨Tryz.f81.name,aq,Tryz.func81.trans (aG some ah)⟩
 t0:=Tryz.underlying0
 a0:=Tryz.isAgg0
 z0:=Tryz.sizeOf0
 v0:=Tryz.zeroValue0
 t3:=Tryz.underlying3
 a3:=Tryz.isAgg3
 z3:=Tryz.sizeOf3
 v3:=Tryz.zeroValue3
 t4:=Tryz.underlying4
 a4:=Tryz.isAgg4
 z4:=Tryz.sizeOf4
 v4:=Tryz.zeroValue4
 t22:=Tryz.underlying22
 a22:=Tryz.isAgg22
 z22:=Tryz.sizeOf22
 v22:=Tryz.zeroValue22
 a23:=Tryz.isAgg3
 z23:=Tryz.sizeOf3
 t25:=Tryz.underlying150
 a25:=Tryz.isAgg150
 z25:=Tryz.sizeOf150
 v25:=Tryz.zeroValue150 }
end
section
open Go.RowKit Go.Lib Go.Sort
def Ur (run:List az)(i:Nat):List Nat:=(List.range run.length).filter fun k=>decide (k=i)||ed run k i
theorem aBS (n:Nat):(List.finRange n).map (fun k=>I (k.val:Int))=nv (List.range n):=by
 apply List.ext_getElem
 ·simp[nv]
 ·intro j h1 h2;simp[nv]
theorem aBT (n:Nat):(List.finRange n).map Fin.val=List.range n:=by
 apply List.ext_getElem
 ·simp
 ·intro j h1 h2;simp
theorem amb (n:Nat)(f:Nat->Nat->Bool)(p:Value)(bi bo i k:Nat)(W:World)(hO:zx W p n f)(hi:i<n)(hk:k<n)(h0:W.cell? ⟨bi,0,none⟩=some (I i))(h1:W.cell? ⟨bo,0,none⟩=some p):
  FnGives Tryz.prog 82 #[.pointer (some ⟨bi,0,none⟩),.pointer (some ⟨bo,0,none⟩)] #[I k] (.bool (!(decide (k=i)||f k i))) W:=by
 show Calls Tryz.prog 82 #[I k,.pointer (some ⟨bi,0,none⟩),.pointer (some ⟨bo,0,none⟩)] W _
 have Hl:=ae (Kb p n f k i W hO hk hi);by_cases uU:k=i
 ·subst uU;clear hO;go_enter Tryz.func82,Tryz.ntmps82;go_wp2_with fail;go_ret;exact⟨ai,0,rfl⟩
 ·have aBU:¬(k:Int)=i:=ab
  have hd:decide (k=i)=false:=by simp[uU]
  have Jz:=ae (show((k:Int) !=(i:Int))=true by simpa using aBU);rw[hd];clear hO hd
  cases hf:f k i with
  |true=>
   rw[hf] at Hl;clear hf;go_enter Tryz.func82,Tryz.ntmps82
   go_wp2_with (go_at_call 29;refine Hl.out.mono ?_;rintro e w3 ⟨rfl,rfl⟩)
   go_ret;exact⟨rfl,0,rfl⟩
  |false=>
   rw[hf] at Hl;clear hf;go_enter Tryz.func82,Tryz.ntmps82
   go_wp2_with (go_at_call 29;refine Hl.out.mono ?_;rintro e w3 ⟨rfl,rfl⟩)
   go_ret;exact⟨by show Ending.returned (Value.bool _)=_;rw[Jz.out];rfl,0,rfl⟩
theorem aBV (run:List az)(v:Value)(w:World)(hrun:gH w v run)(hn:run.length<=64)(i:Nat)(hi:i<run.length):
  Calls Tryz.prog 33 #[v,I i] w fun e w'=>∃u,e=.returned u/\bW w' u ((Ur run i).map fun k:Nat=>(k:Int))/\ay w w':=by
 obtain⟨ka,ca,rfl,jf⟩:=hrun.open;have hiI:(i:Int)<run.length:=ab;have aEi:¬(i:Int)<0:=ab;have HD:=ae (fun W hW=>aab run (.slice ka run.length ca) W hW hn);have amc:=ae hrun;clear hrun;go_enter Tryz.func33,Tryz.ntmps33;go_wp2_with fail
 obtain⟨w1,ou⟩:∃w1,w1=w.alloc (.cells #[I i] 3):=⟨_,rfl⟩
 have dE:w1.heap.size=w.heap.size+1:=by rw[ou];simp
 have cC:ax w1 w.heap.size #[I i]:=by rw[ou];exact ax.new _ _ _
 have aM:ay w w1:=by rw[ou];exact(Below.refl _ _).alloc aA _
 rw[<-ou];clear ou;refine(HD.out w1 (amc.out.kept aM aA)).mono ?_;rintro e w2 ⟨p,rfl,hO,cn⟩;have hO':=hO;obtain⟨_,pg,_,_,rfl,_⟩:=hO';have eB:=cn.size;have cK:=cC.kept cn cC.lt;have kY:=ae (aM.trans (cn.mono ab));have HO:=ae hO;have xK:=ae cK;clear cC aM cn hO cK HD amc;go_wp2_with fail
 obtain⟨w3,ri⟩:∃w3,w3=w2.alloc (.cells #[.pointer (some ⟨pg,0,none⟩)] 73):=⟨_,rfl⟩
 have uf:w3.heap.size=w2.heap.size+1:=by rw[ri];simp
 have Hb3:=ae (show ax w3 w2.heap.size #[.pointer (some ⟨pg,0,none⟩)] by rw[ri];exact ax.new _ _ _);have aBW:Hid (ay w2 w3):=ae (by rw[ri];exact(Below.refl _ _).alloc aA _);rw[<-ri];clear ri;go_loopw [6,20] (fun vo vi wr=>∃(k:Nat) (av:Option Addr) (ac:Nat),k<=run.length/\vo=.slice av k ac/\vi=I k/\Hid (ay w3 wr)/\Hid (wr.ownsRow w3.heap.size 3 1 (.slice av k ac) k (nv (List.range k)))) (fun _ vi _=>run.length-(intOf vi).toNat)
 case atStart=>exact⟨0,none,0,ab,rfl,rfl,ae (Below.refl _ _),ae (jU _ _ _ _)⟩
 case round=>
  obtain⟨k,av,ac,hk,rfl,rfl,HB,iy⟩:=hrel;have nT:=HB.out.size;by_cases hlt:k<run.length
  ·go_wp2_with (at_builtin;go_must (refine uT rfl _ _ 22 rfl 3 _ 1 8 Tryz.underlying22 Co rfl ab ab w3.heap.size (.slice av k ac) k (nv (List.range k)) rfl (iy.out.alloc _) wr.heap.size 1 1 #[I k] 3 rfl (ej _ _) rfl rfl ab ab (by rw[World.size_alloc];omega) ?_);intro g5 BA w5 kj kS oR mQ rE iP)
   go_roundw
   case rel=>exact⟨k+1,_,BA,ab,rfl,by go_num,ae ((HB.out.alloc nT _).trans iP),ae (by rw[ng,Zf];exact mQ)⟩
   case measure=>simp[intOf];omega
  ·obtain rfl:k=run.length:=ab;have aV:=iy.out;rw[<-aBS] at aV
   letI:Inhabited (Fin run.length):=⟨⟨i,hi⟩⟩
   have hne:Value.slice av run.length ac≠ .slice none 0 0:=by
    intro e;injection e with _ e _;omega
   obtain⟨g,cap,hv,hbg,rA,np,Az,mG,hH⟩:=holds_of_ownsRow (enc:=fun k:Fin run.length=>I (k.val:Int)) aV hne;injection hv with ea _ ec;subst ea;subst ec;have eg:∀args w,(callFunc 82 args).run Tryz.prog w=.ok (.enter 82 args) w:=enters_of Tryz.func82 ah rfl;have hbi:=xK.out;have Us:=aBW.out
   have DA:∀W:World,ay w3 W->zx W (.pointer (some ⟨pg,0,none⟩)) run.length (ed run)/\W.cell? ⟨w.heap.size,0,none⟩=some (I i)/\W.cell? ⟨w2.heap.size,0,none⟩=some (.pointer (some ⟨pg,0,none⟩)):=fun W hW=>by
    refine⟨HO.out.kept (Us.trans (hW.mono Us.size)) aA,?_,?_⟩
    ·exact((hbi.kept Us hbi.lt).kept hW (by have:=hbi.lt;omega)).cell 0
    ·exact(Hb3.out.kept hW ab).cell 0
   have Ea:=AnyE.slices_DeleteFunc Tryz.aBR (fun k:Fin run.length=>I (k.val:Int)) (fun _=>rfl) (fun k:Fin run.length=> !(decide (k.val=i)||ed run k.val i)) 82 #[.pointer (some ⟨w.heap.size,0,none⟩),.pointer (some ⟨w2.heap.size,0,none⟩)] eg ⟨0,ab⟩ Tryz.zeroValue3 g 0 ac (List.finRange run.length).toArray wr
    (fun W x hb=>by
     obtain⟨h1,h2,h3⟩:=DA W (HB.out.trans (hb.mono nT))
     exact amb run.length (ed run) (.pointer (some ⟨pg,0,none⟩)) w.heap.size w2.heap.size i x.val W h1 hi x.isLt h2 h3)
    (fun m os dk x _=>by
     have hbw:ay w3 (sortWorld (fun k:Fin run.length=>I (k.val:Int)) wr g 0 m dk os):=by
      have h1:ay w3 (putRow (fun k:Fin run.length=>I (k.val:Int)) (Sort.ahead wr m) g 0 dk):=below_putRow HB.out hbg;exact h1.trans ((_root_.Go.Proofs.below_grown _ 0 os).mono h1.size)
     obtain⟨h1,h2,h3⟩:=DA _ hbw
     exact amb run.length (ed run) (.pointer (some ⟨pg,0,none⟩)) w.heap.size w2.heap.size i x.val _ h1 hi x.isLt h2 h3)
    hH bC (by simpa using np)
   change Calls Tryz.prog 81 _ _ _ at Ea;have hlen:(List.finRange run.length).toArray.size=run.length:=ai;rw[hlen] at Ea
   obtain⟨r,hr⟩:∃r,r=(List.finRange run.length).toArray.toList.filter (fun k:Fin run.length=> !(!(decide (k.val=i)||ed run k.val i))):=⟨_,rfl⟩
   rw[<-hr] at Ea
   have fO:r.length<=run.length:=by
    rw[hr];exact bh (nb _ _) ai
   have oB:r.map (fun k=>k.val)=Ur run i:=by
    rw[hr];unfold Ur;rw[<-aBT,List.filter_map];simp only[Bool.not_not];rfl
   have aBX:=ae Ea;have zC:=ae aV;have Hrv:=ae oB;clear Ea aV hr oB DA hH hne
   go_wp2_with (go_at_call 81;refine aBX.out.mono ?_;rintro e w5 ⟨rfl,q,rfl⟩)
   go_ret;have ho:=ownsRow_putRow (q:=q) zC.out (ys:=r++List.replicate (run.length-r.length) ⟨0,ab⟩) (k:=r.length) bC fO;rw[List.take_left' rfl] at ho;refine⟨_,rfl,?_,?_⟩
   ·have:=Flat.dU ho;unfold bW;rw[<-Hrv.out,dy,dy];rw[show iv ((r.map fun k=>k.val).map fun k:Nat=>(k:Int))=r.map (fun k=>I (k.val:Int)) by simp only[iv,List.map_map];rfl];exact this
   ·exact(below_putRow (kY.out.trans ((Us.mono ab).trans (HB.out.mono ab))) ab)
end
section
def iz:az:=⟨⟨1,0,0,⟨0,0,0,0,0⟩⟩,[],false,[]⟩
def jS:az:=⟨⟨4,0,0,⟨0,0,0,0,0⟩⟩,[⟨0,2,0,1,0,3,2⟩],true,[]⟩
end
namespace Ab
open Go Go.RowKit
variable {es:List (List AC)} {k:Nat} {w:World}
def Pn (w:World):List AC->List Value->Prop
 |[],_=>True
 |x::l,u::r=>IR w (fun _=>False) x u/\Pn w l r
 |_::_,[]=>False
theorem Pn.get:∀{l:List AC} {us:List Value},Pn w l us->∀{j:Nat} {x:AC},l[j]? =some x->∃u,us[j]? =some u/\IR w (fun _=>False) x u
 |[],_,_,j,x,h=>by simp at h
 |_::_,[],hc,_,_,_=>hc.elim
 |y::l,u::us,hc,0,x,h=>by simp at h;subst h;exact⟨u,rfl,hc.1⟩
 |y::l,u::us,hc,j+1,x,h=>by simpa using Pn.get hc.2 (j:=j) (by simpa using h)
theorem amd(hk:∀row∈es,row.length=k){i j:Nat}{row:List AC}{x:AC}(h1:es[i]? =some row)(h2:row[j]? =some x):es.flatten[i*k+j]? =some x:=by
 have hi:=(bG.1 h1).1;have hr:=Wz hk i hi;rw[h1,aC] at hr;have hj:=(bG.1 h2).1;rw[hk row (dD h1)] at hj;rw[<-hr,uI,aj hj,nD] at h2;exact h2
theorem abM{a:Option Addr}{c:Nat}{xs:List Value}(h:Flat w k (.slice a es.length c) es.length xs)(JZ:es.length<=c)(hk:∀row∈es,row.length=k)(hc:Pn w es.flatten xs):IR w (fun _=>False) (.sl es) (.slice a es.length c):=by
 obtain⟨_,hm,a',c',e,hr⟩:=h;cases e;refine IR.sl k es a c (fun i j=>xs.getD (i*k+j) undef) JZ ab (fun i row h1=>hk row (dD h1)) (fun i row j x h1 h2=> ?_) (fun i row j h1 h2=> ?_)
 ·obtain⟨u,hu,PZ⟩:=hc.get (amd hk h1 h2);rw[ff,hu];exact PZ
 ·obtain⟨u,hu,_⟩:=hc.get (amd hk h1 (cy h2));obtain⟨b,o,ha,hcell⟩:=hr _ u hu;exact⟨b,o,ha,fun h=>h,by rw[ff,hu,Nat.add_assoc];exact hcell⟩
abbrev anA (a:aI):List AC:=a.ints.map iA
def c0:C1:=fun _ _=>none
theorem aBY:iL Tryz.prog c0:=fun _ _ _ h=>by cases h
noncomputable def aBZ:FD:=cw Tryz.f160 aN [tz 4 8,tz 6 8] [.t 4] [4,5] []
noncomputable def aCa:FD:=cw Tryz.f219 aN [] [.t 2] [1,2] [1]
noncomputable def aCb:FD:=cw Tryz.f159 aN [(1,3,tk 0 1 (tk 2 1 (.move 1 .nil)),[])] [.t 4] [2,3,4] [2,3]
noncomputable def aCc:FD:=cw Tryz.f116 aN [tz 5 7] [.t 4] [2,3,4,5,6] [2,3]
noncomputable def aCd:FD:=cw Tryz.f117 (aO [6]) [tz 2 12,tz 5 7] [.t 4] [3,4,5,6] [3,6]
noncomputable def aCe:FD:=cw Tryz.f80 ⟨0,[],[],[(9,[901])],dc,[(3,[0])],[(2,[(3,0,901,67,8)])]⟩ [tz 6 7,tz 8 10] [(.cell 2 2)] [1,2,3,4,5] [1,2,3,901]
noncomputable def aCf:FD:=cw Tryz.f31 ⟨0,[],[],[(10,[901,902])],dc,[(3,[0,1])],[(2,[(3,0,901,67,8),(3,1,902,100,6)])]⟩ [tm 5 7,tm 9 21] [(.cell 2 2)] [2,3,4,5] [2,3,901,902]
noncomputable def ame:List (FuncId×FD):=[(160,aBZ),(219,aCa),(159,aCb),(116,aCc),(117,aCd),(80,aCe),(31,aCf)]
theorem aCg:Mq ame:=tc (okF Tryz.func160)<|tc (okF Tryz.func219)<|tc (okF Tryz.func159)<|tc (okF Tryz.func116)<|tc (okF Tryz.func117)<|tc (okF Tryz.func80)<|tc (okF Tryz.func31)<|tn
theorem aCh:iM ((xP ame c0 1000 60).1 31 [.c (FP [iz,jS])]) (.w (.agg [.sl ((eJ [iz,jS]).map kR),.sl ((ey (ez [iz,jS])).map anA)]))=true:=ah
end Ab
section
open Go Go.RowKit
theorem ofL {X:World}{v:Value}(hg:Gl X)(h:Ab.IR X (fun _=>False) (Ab.FP [iz,jS]) v):Calls Tryz.prog 31 #[v] X fun e w'=>∃k c k2 c2,e=.returned (.agg #[.slice k (eJ [iz,jS]).length c,.slice k2 (ey (ez [iz,jS])).length c2])/\gz w' k c k2 c2 (eJ [iz,jS]) (ey (ez [iz,jS]))/\ay X w':=by
 refine((Ab.jM Ab.aCg Ab.aBY 1000 60 (Ab.jN Ab.aCh)) (fun _=>False) X [v] ⟨fun b hb=>hb.elim,Ab.acE hg⟩ rfl (fun i x u hx hu=> ?_)).mono ?_
 ·match i,hx,hu with
  |0,hx,hu=>
   simp only[Ir,aC] at hx hu;subst hx hu;exact⟨rfl,h.Fe (S:=fun _=> .dead 0) (G:=fun _=>Ab.gh 0) (H:=fun _=>undef)⟩
  |i+1,hx,hu=>simp at hx
 ·rintro e w' ⟨v,r,rfl,rfl,⟨_,arr,rfl,hlen,hc⟩,hF⟩
  match arr,hlen,hc with
  |[u0,u1],_,hc=>
   have h0:pf w' u0 (eJ [iz,jS]):=Ab.Rn Ev.ints 8 (fun _=>rfl) (Ab.CR.ir (S:=fun _=> .dead 0) (G:=fun _=>Ab.gh 0) (H:=fun _=>undef) (hc 0 _ u0 rfl rfl) rfl);have h1:lp w' u1 (ey (ez [iz,jS])):=Ab.Rn aI.ints 6 (fun _=>rfl) (Ab.CR.ir (S:=fun _=> .dead 0) (G:=fun _=>Ab.gh 0) (H:=fun _=>undef) (hc 1 _ u1 rfl rfl) rfl);obtain⟨k,c,rfl,_⟩:=h0.open;obtain⟨k2,c2,rfl,_⟩:=h1.open;exact⟨k,c,k2,c2,rfl,⟨h0,h1⟩,Ab.Fr.below hF⟩
end
section
open Go.RowKit
def Ut:Array Value:=#[I 1,I 0,I 0,I 0,I 0,I 0,I 0,I 0,.slice none 0 0,.bool false,.slice none 0 0]
def lt1:aw:=[48,58,32,115,116,97,114,116,32,48,32,48,10]
def Po:aw:=[48,58,32,115,116,97,114,116,32,48,32,48,10,49,58,32,116,105,109,101,114,32,48,32,48,32,91,100,114,97,119,32,48,46,50,46,48,32,48,32,61,32,50,47,51,93,32,42,32,97,102,116,101,114,32,48,10]
theorem aCi:BU (mY [iz])=lt1:=by decide+kernel
theorem aCj:BU (mY [iz,jS])=Po:=by decide+kernel
theorem aCk:Ur [iz,jS] 1=[0,1]:=by decide+kernel
theorem aCl:(zu Po).evs=eJ [iz,jS]/\(zu Po).mi=ey (ez [iz,jS])/\(zu Po).code=0:=by decide+kernel
theorem amf:∀s∈[iz,jS],Eu s:=by
 intro s hs;simp only[bZ,kB,lO] at hs
 rcases hs with rfl|rfl
 ·refine⟨?_,?_,aq⟩
  ·intro x hx;simp[iz,Ev.ints] at hx;unfold dI;omega
  ·intro a ha;simp[iz] at ha
 ·refine⟨?_,?_,aq⟩
  ·intro x hx;simp[jS,Ev.ints] at hx;unfold dI;omega
  ·intro a ha;simp[jS] at ha;subst ha;intro x hx;simp[Ask.ints] at hx;unfold dI;omega
theorem aCm:∀s∈[iz],Eu s:=fun s hs=>amf s (bZ.2 (.inl (by simpa using hs)))
theorem aCn {W:World}{b:Nat}(h:ax W b Ut):gH W (.slice (some ⟨b,0,none⟩) 1 1) [iz]:=
 ⟨Ut.toList,⟨.slice none 0 0,.slice none 0 0,[],rfl,Flat.nil _ _ _ _,Flat.nil _ _ _ _,rfl⟩,Flat.rR rfl aq (fun j u hu=>by rw[eM,h.cell j,<-hu];simp)⟩
theorem aCo (w:World)(hg:Gl w):abr w:=by
 unfold abr;have Hg:=ae hg;clear hg;obtain⟨i0,hi,dY,dE,eB⟩:=uQ UO;go_enter Tryz.func10,Tryz.ntmps10;go_upto_region 3 with fail
 obtain⟨w2,iF⟩:∃w2,w2=(w.alloc (.cells #[I 1,I 0,I 0,I 0,I 0,I 0,I 0,I 0,.slice none 0 0,.bool false,.slice none 0 0] 84)).alloc (.cells #[I 0,I 2,I 0,I 1,I 0] 92):=⟨_,rfl⟩
 have jw:ax w2 w.heap.size Ut:=by rw[iF];exact(ax.new _ _ _).alloc _
 have hq:ax w2 (w.heap.size+1) #[I 0,I 2,I 0,I 1,I 0]:=by
  rw[iF];have:=ax.new (w.alloc (.cells #[I 1,I 0,I 0,I 0,I 0,I 0,I 0,I 0,.slice none 0 0,.bool false,.slice none 0 0] 84)) #[I 0,I 2,I 0,I 1,I 0] 92;simpa using this
 have cn:Below (w.heap.size) w w2:=by rw[iF];exact((Below.refl _ _).alloc aA _).alloc ai _
 have eB:w2.heap.size=w.heap.size+2:=by rw[iF];simp
 rw[<-iF];clear iF
 obtain⟨A,hA⟩:∃A,A=w.heap.size:=⟨_,rfl⟩
 rw[<-hA] at jw hq cn eB⊢;have HA:=ae hA;clear hA;have q0:=hq.cell 0;have q1:=hq.cell 1;have q2:=hq.cell 2;have q3:=hq.cell 3;have q4:=hq.cell 4
 obtain⟨w4,BL⟩:∃w4,w4=(w2.alloc (.cells #[I 0,I 2,I 0,I 1,I 0,I 3,I 2] 94)).alloc (.cells #[I 4,I 0,I 0,I 0,I 0,I 0,I 0,I 0,.slice (some ⟨w2.heap.size,0,none⟩) 1 1,.bool true,.slice none 0 0] 84):=⟨_,rfl⟩
 have ks:ay w2 w4:=by rw[BL];exact((Below.refl _ _).alloc aA _).alloc ai _
 have yZ:ax w4 w2.heap.size #[I 0,I 2,I 0,I 1,I 0,I 3,I 2]:=by rw[BL];exact(ax.new _ _ _).alloc _
 have fC:ax w4 (w2.heap.size+1) #[I 4,I 0,I 0,I 0,I 0,I 0,I 0,I 0,.slice (some ⟨w2.heap.size,0,none⟩) 1 1,.bool true,.slice none 0 0]:=by
  rw[BL];have:=ax.new (w2.alloc (.cells #[I 0,I 2,I 0,I 1,I 0,I 3,I 2] 94)) #[I 4,I 0,I 0,I 0,I 0,I 0,I 0,I 0,.slice (some ⟨w2.heap.size,0,none⟩) 1 1,.bool true,.slice none 0 0] 84;simpa using this
 have GM:w4.heap.size=w2.heap.size+2:=by rw[BL];simp
 have amg:=jw.kept ks jw.lt;have Uu:=ae amg;have Pp:=ae fC;have Hak:=ae yZ;have Lh:=ae ks;have kY:=ae cn;have Hw4:=ae BL;have Hz2:=ae eB;have Hz4:=ae GM;clear jw amg fC yZ ks cn hq BL eB GM
 go_wp2_with (at_builtin;go_must (rw[<-Hw4.out];refine wpList_append_arg _ rfl _ _ 23 rfl 84 i0 _ 11 _ Tryz.underlying23 hi dY dE eB rfl aq A 0 1 1 #[I 1,I 0,I 0,I 0,I 0,I 0,I 0,I 0,.slice none 0 0,.bool false,.slice none 0 0].toList rfl rfl ?olds ⟨w2.heap.size+1,0,none⟩ 1 1 [I 4,I 0,I 0,I 0,I 0,I 0,I 0,I 0,.slice (some ⟨w2.heap.size,0,none⟩) 1 1,.bool true,.slice none 0 0] rfl rfl ?c1 ?c2 ?spare ?b1 ?b2 ?room ?grow))
 case olds=>intro j u hu;rw[Uu.out.cell j,<-hu];simp[Ut]
 case c1=>intro j u hu;rw[Addr.add_lit,eM,Pp.out.cell j,<-hu];simp
 case c2=>exact fg.1 rfl
 case spare=>intro h;omega
 case b1=>unfold maxLen;omega
 case b2=>omega
 case grow=>
  intro v5 w5 mQ hg5;have Uv:ay w4 w5:=(Below.refl _ _).grown hg5 aA (fun k hk=>by cases hk);have Uw:=Flat.dU mQ;obtain⟨ka,kc,rfl,_⟩:=Uw.open;have abN:=Hak.out.kept Uv Hak.out.lt
  have amh:gH w5 (.slice ka 2 kc) [iz,jS]:=
   ⟨_,⟨.slice none 0 0,.slice none 0 0,_,rfl,Flat.nil _ _ _ _,Flat.nil _ _ _ _,⟨.slice (some ⟨w2.heap.size,0,none⟩) 1 1,.slice none 0 0,[],rfl,Flat.rR rfl aq (fun j u hu=>by rw[eM,abN.cell j,<-hu];simp[jS,Ask.cells,Ask.ints,iv]),Flat.nil _ _ _ _,rfl⟩⟩,Uw⟩
  have JZ:2<=kc:=by
   rcases mQ.2 with⟨_,h0⟩|⟨_,_,_,e5,_,_,h2,_⟩
   ·cases h0
   ·injection e5 with _ _ e6;rw[e6];exact h2
  have ia:Ab.IR w5 (fun _=>False) (Ab.asks jS.asks) (.slice (some ⟨w2.heap.size,0,none⟩) 1 1):=Ab.abM (es:=[[Ab.iA 0,Ab.iA 2,Ab.iA 0,Ab.iA 1,Ab.iA 0,Ab.iA 3,Ab.iA 2]]) (k:=7) (xs:=[I 0,I 2,I 0,I 1,I 0,I 3,I 2]) (Flat.rR rfl aq (fun j u hu=>by rw[eM,abN.cell j,<-hu];simp)) aA ai ⟨.v _ rfl,.v _ rfl,.v _ rfl,.v _ rfl,.v _ rfl,.v _ rfl,.v _ rfl,trivial⟩;have i0:Ab.IR w5 (fun _=>False) (.sl []) (.slice none 0 0):=Ab.abM (k:=1) (xs:=[]) (Flat.nil _ _ _ _) aA ai trivial;have HI5:=ae (Ab.abM (es:=[Ab.mK iz,Ab.mK jS]) (k:=11) (a:=ka) (c:=kc) Uw JZ ai ⟨.v _ rfl,.v _ rfl,.v _ rfl,.v _ rfl,.v _ rfl,.v _ rfl,.v _ rfl,.v _ rfl,i0,.v _ rfl,i0,.v _ rfl,.v _ rfl,.v _ rfl,.v _ rfl,.v _ rfl,.v _ rfl,.v _ rfl,.v _ rfl,ia,.v _ rfl,i0,trivial⟩);have Hu:gH w5 (.slice (some ⟨A,0,none⟩) 1 1) [iz]:=aCn (Uu.out.kept Uv Uu.out.lt);have ami:Below A w w5:=kY.out.trans ((Lh.out.trans (Uv.mono (by have:=Hz4.out;omega))).mono (by have:=Hz2.out;omega));have Pq:=ae (show Below (w.heap.size) w w5 by rw[<-HA.out];exact ami);have Ux:=ae (Hg.out.below Pq.out);have DY:=ae Hu;have NB:=ae amh;have Hp:=ae (ajO Po w5 Ux.out aq);unfold Oo at Hp;obtain⟨p1,p2,p3⟩:=aCl;rw[p1,p2,p3] at Hp;clear p1 p2 p3
  obtain⟨E,hE⟩:∃E,E=eJ [iz,jS]:=⟨_,rfl⟩
  obtain⟨L,hL⟩:∃L,L=ey (ez [iz,jS]):=⟨_,rfl⟩
  rw[<-hE,<-hL] at Hp
  have Uy:E.length=2:=by rw[hE];decide
  have Kh:L.length=1:=by rw[hL];decide+kernel
  have Ij:Hid (∀X,ay w5 X->Calls Tryz.prog 31 #[.slice ka 2 kc] X fun e w'=>∃k c k2 c2,e=.returned (.agg #[.slice k 2 c,.slice k2 1 c2])/\gz w' k c k2 c2 E L/\ay X w'):=ae (fun X hX=>by
   have h1:=ofL (v:=.slice ka 2 kc) (Ux.out.below hX) (HI5.out.mono hX.size (fun _ _ h=>h) (fun b hb _=>hX.block b hb));rw[<-hE,<-hL,Uy,Kh] at h1
   exact h1)
  have Ik:Hid (∀X k c k2 c2 k3 c3 k4 c4,gz X k c k2 c2 E L->gz X k3 c3 k4 c4 E L->Calls Tryz.prog 7 #[.agg #[.slice k 2 c,.slice k2 1 c2],.agg #[.slice k3 2 c3,.slice k4 1 c4]] X fun e w'=>e=.returned (.bool true)/\ay X w'):=ae (fun X k c k2 c2 k3 c3 k4 c4 h1 h2=>by
   have h:=aky E E L L k c k2 c2 k3 c3 k4 c4 X h1 h2 true ai;unfold tv at h;rw[Uy,Kh] at h
   exact h)
  have ZO:Hid (∀X,ay w5 X->Calls Tryz.prog 6 #[.slice (some ⟨A,0,none⟩) 1 1] X fun e w'=>e=.returned (.string ⟨List.toArray [48,58,32,115,116,97,114,116,32,48,32,48,10]⟩)/\ay X w'):=ae (fun X hX=>by
   have h:=abK [iz] (.slice (some ⟨A,0,none⟩) 1 1) X (DY.out.kept hX aA) aq aCm aq (Ux.out.below hX);rw[aCi] at h
   exact h)
  have HP2:Hid (∀X,ay w5 X->Calls Tryz.prog 6 #[.slice ka 2 kc] X fun e w'=>e=.returned (.string ⟨List.toArray [48,58,32,115,116,97,114,116,32,48,32,48,10,49,58,32,116,105,109,101,114,32,48,32,48,32,91,100,114,97,119,32,48,46,50,46,48,32,48,32,61,32,50,47,51,93,32,42,32,97,102,116,101,114,32,48,10]⟩)/\ay X w'):=ae (fun X hX=>by
   have h:=abK [iz,jS] (.slice ka 2 kc) X (NB.out.kept hX aA) aq amf aq (Ux.out.below hX);rw[aCj] at h
   exact h)
  have HWy:Hid (∀X,ay w5 X->Calls Tryz.prog 33 #[.slice ka 2 kc,I 1] X fun e w'=>∃u,e=.returned u/\bW w' u [0,1]/\ay X w'):=ae (fun X hX=>by
   have h:=aBV [iz,jS] (.slice ka 2 kc) X (NB.out.kept hX aA) aq 1 aq;rw[aCk] at h
   exact h)
  clear ia i0 JZ HI5 hE hL mQ hg5 Uv Uw abN Hu amh ami Uu Pp Hak Lh kY Hw4 Hz2 Hz4 q0 q1 q2 q3 q4;unfold tv at Hp;rw[Uy,Kh] at Hp
  go_wp2_with (go_at_call 5;refine Hp.out.mono ?_;rintro e w6 ⟨⟨k,c,k2,c2,rfl,hT⟩,rB⟩)
  have TT:ay w5 (w6.alloc (.cells #[.slice k 2 c,.slice k2 1 c2] 28)):=rB.alloc rB.size _;have BH:ax (w6.alloc (.cells #[.slice k 2 c,.slice k2 1 c2] 28)) w6.heap.size #[.slice k 2 c,.slice k2 1 c2]:=ax.new _ _ _;have hT7:gz (w6.alloc (.cells #[.slice k 2 c,.slice k2 1 c2] 28)) k c k2 c2 E L:=hT.kept ((Below.refl _ _).alloc aA _)
  obtain⟨V0,KI⟩:∃V0,V0=w6.alloc (.cells #[.slice k 2 c,.slice k2 1 c2] 28):=⟨_,rfl⟩
  obtain⟨G,hG⟩:∃G,G=w6.heap.size:=⟨_,rfl⟩
  rw[<-KI] at TT BH hT7⊢;rw[<-hG] at BH⊢;clear KI hG
  obtain⟨V,hV⟩:∃V,V=V0.drew:=⟨_,rfl⟩
  have sS:=ae (show ay w5 V by rw[hV];exact TT.drew);have Uz:=ae (show ax V G #[.slice k 2 c,.slice k2 1 c2] by rw[hV];exact BH.drew);have HTV:=ae (show gz V k c k2 c2 E L by rw[hV];exact hT7.kept ((Below.refl _ _).drew));have Cb:Hid (∀X,ay V X->X.cell? ⟨G,0,none⟩=some (.slice k 2 c)/\X.cell? ⟨G,1,none⟩=some (.slice k2 1 c2)):=ae (fun X hX=>⟨(Uz.out.kept hX Uz.out.lt).cell 0,(Uz.out.kept hX Uz.out.lt).cell 1⟩);have HD:=ae (Below.refl V.heap.size V);have hSV:=Cb.out _ HD.out;clear TT BH hT7 hT rB Uy Kh;refine PJ 22 (.take 0 (.move 1 (.take 2 (.take 3 (.take 4 (.move 5 (.take 6 (.take 7 (.take 8 (.take 9 (.take 10 (.take 11 (.take 12 (.take 13 (.take 14 (.move 15 (.move 16 (.take 17 (.take 18 (.take 19 (.fork 20 21 (.move 21 .nil) (.move 20 .nil)))))))))))))))))))))) (fun X=>X.cell? ⟨G,0,none⟩=some (.slice k 2 c)/\X.cell? ⟨G,1,none⟩=some (.slice k2 1 c2)) ah rfl ah (by rw[<-hV];exact hSV) ?_;rw[<-hV];clear hV hSV
  iterate 1 refine dN ?_
  refine eN rfl (fun K hK=> ?_);go_simp;go_at_call 6;refine(ZO.out _ (sS.out.trans (HD.out.mono sS.out.size))).mono ?_;rintro e V1 ⟨rfl,F⟩;replace HD:=ae (HD.out.trans (F.mono HD.out.size));refine hK.out _ _ (Cb.out _ HD.out) ?_;clear hK K F;refine bV ?_
  iterate 3 refine dN ?_
  refine eN rfl (fun K hK=> ?_);go_simp;go_at_call 6;refine(HP2.out _ (sS.out.trans (HD.out.mono sS.out.size))).mono ?_;rintro e V2 ⟨rfl,F⟩;replace HD:=ae (HD.out.trans (F.mono HD.out.size));refine hK.out _ _ (Cb.out _ HD.out) ?_;clear hK K F;refine bV ?_
  iterate 9 refine dN ?_
  refine eN rfl (fun K hK=> ?_);go_simp;go_at_call 31;refine(Ij.out _ (sS.out.trans (HD.out.mono sS.out.size))).mono ?_;rintro e V3 ⟨k3,c3,k4,c4,rfl,DT,F⟩;have ZT:=ae DT;clear DT;replace HD:=ae (HD.out.trans (F.mono HD.out.size));refine hK.out _ _ (Cb.out _ HD.out) ?_;clear hK K F;refine bV ?_;refine eN rfl (fun K hK=> ?_);go_simp;go_at_call 7;refine(Ik.out _ k c k2 c2 k3 c3 k4 c4 (HTV.out.kept HD.out) ZT.out).mono ?_;rintro e V4 ⟨rfl,F⟩;replace HD:=ae (HD.out.trans (F.mono HD.out.size));refine hK.out _ _ (Cb.out _ HD.out) ?_;clear hK K F;refine bV ?_
  iterate 3 refine dN ?_
  refine Ct ?_ ?_
  ·refine eN rfl (fun K hK=> ?_);go_simp;go_at_call 33;refine(HWy.out _ (sS.out.trans (HD.out.mono sS.out.size))).mono ?_;rintro e V5 ⟨u,rfl,hI,F⟩;obtain⟨ku,cu,rfl,_⟩:=hI.open;have HI:=ae hI;clear hI;replace HD:=ae (HD.out.trans (F.mono HD.out.size));refine hK.out _ _ (Cb.out _ HD.out) ?_;clear hK K F;refine bV ?_;refine eN rfl (fun K hK=> ?_);go_simp;have F:ay V5 (V5.alloc (.cells #[I 0,I 1] 3)):=(Below.refl _ _).alloc aA _;have HJ:Hid (bW (V5.alloc (.cells #[I 0,I 1] 3)) (.slice (some ⟨V5.heap.size,0,none⟩) 2 2) [0,1]):=ae (Flat.rR rfl aq (fun j u hu=>by rw[eM,(ax.new V5 #[I 0,I 1] 3).cell j,<-hu];simp[iv]));replace HI:=ae (bW.kept HI.out F aA);replace HD:=ae (HD.out.trans (F.mono HD.out.size));refine hK.out _ _ (Cb.out _ HD.out) ?_;clear hK K F;refine bV ?_;refine wB ?_;have Hf:=ae (acf [0,1] [0,1] _ _ _ HI.out HJ.out);rw[show decide (([0,1]:List Int)=[0,1])=true from aq] at Hf
   go_wp2_with (go_at_call 32;refine Hf.out.mono ?_;rintro e V9 ⟨rfl,q,rfl⟩)
   refine NoPanic.normal ?_;go_wp2_with fail;go_ret;exact⟨rfl,below_drewN (Pq.out.trans ((sS.out.trans (HD.out.mono sS.out.size)).mono Pq.out.size)) _⟩
  ·refine eN rfl (fun K hK=> ?_);go_simp;have F:ay V4 (V4.alloc (.cells #[I 0,I 1] 3)):=(Below.refl _ _).alloc aA _;have HJ:Hid (bW (V4.alloc (.cells #[I 0,I 1] 3)) (.slice (some ⟨V4.heap.size,0,none⟩) 2 2) [0,1]):=ae (Flat.rR rfl aq (fun j u hu=>by rw[eM,(ax.new V4 #[I 0,I 1] 3).cell j,<-hu];simp[iv]))
   obtain⟨V5,hV5⟩:∃V5,V5=V4.alloc (.cells #[I 0,I 1] 3):=⟨_,rfl⟩
   rw[<-hV5] at F HJ⊢;clear hV5;replace HD:=ae (HD.out.trans (F.mono HD.out.size));refine hK.out _ _ (Cb.out _ HD.out) ?_;clear hK K F;refine bV ?_;refine eN rfl (fun K hK=> ?_);go_simp;go_at_call 33;refine(HWy.out _ (sS.out.trans (HD.out.mono sS.out.size))).mono ?_;rintro e V6 ⟨u,rfl,hI,F⟩;obtain⟨ku,cu,rfl,_⟩:=hI.open;have HI:=ae hI;clear hI;replace HJ:=ae (bW.kept HJ.out F aA);replace HD:=ae (HD.out.trans (F.mono HD.out.size));refine hK.out _ _ (Cb.out _ HD.out) ?_;clear hK K F;refine bV ?_;refine wB ?_;have Hf:=ae (acf [0,1] [0,1] _ _ _ HI.out HJ.out);rw[show decide (([0,1]:List Int)=[0,1])=true from aq] at Hf
   go_wp2_with (go_at_call 32;refine Hf.out.mono ?_;rintro e V9 ⟨rfl,q,rfl⟩)
   refine NoPanic.normal ?_;go_wp2_with fail;go_ret;exact⟨rfl,below_drewN (Pq.out.trans ((sS.out.trans (HD.out.mono sS.out.size)).mono Pq.out.size)) _⟩
end
end Go.Proofs.YtngblilamkkikaaGreatDoor
