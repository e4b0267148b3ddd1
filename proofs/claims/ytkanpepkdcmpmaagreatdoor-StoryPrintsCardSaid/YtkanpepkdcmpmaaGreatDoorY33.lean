import Derived.Shelf.SlLaysH
import Derived.Shelf.SlicesE.DeleteFunc
import Derived.Ground.SlgfProg
import Derived.Lib.OwnBridge
import Derived.ArgAppend
import Derived.Test.YtkanpepkdcmpmaaGreatDoorY32
set_option maxHeartbeats 40000000
set_option maxRecDepth 100000
set_option linter.all false
namespace Go.Proofs.YtkanpepkdcmpmaaGreatDoor
section
open Go.Shelf
def Tryz.aAN:Go.Shelf.Ren:=⟨fun|10=>41|6=>85|n=>n,fun|22=>22|23=>3|25=>104|3=>3|4=>4|0=>0|n=>n,fun|n=>n⟩
theorem Tryz.aAO:Go.Proofs.SlLaysH.n10 Tryz.prog Tryz.aAN:={
 mixed:=ah
 f6:=⟨Tryz.f85.name,au,Tryz.func85.trans (aG some ah)⟩
 f10:=⟨Tryz.f41.name,au,Tryz.func41.trans (aG some ah)⟩
 t0:=Tryz.underlying0
 a0:=Tryz.isAgg0
 z0:=Tryz.sizeOf0
 v0:=Tryz.zeroValue0
 t3:=Tryz.underlying3
 a3:=Tryz.isAgg3
 z3:=Tryz.sizeOf3
 v3:=Tryz.zeroValue3
 t4:=Tryz.underlying4
 a4:=Tryz.isAgg4
 z4:=Tryz.sizeOf4
 v4:=Tryz.zeroValue4
 t22:=Tryz.underlying22
 a22:=Tryz.isAgg22
 z22:=Tryz.sizeOf22
 v22:=Tryz.zeroValue22
 a23:=Tryz.isAgg3
 z23:=Tryz.sizeOf3
 t25:=Tryz.underlying104
 a25:=Tryz.isAgg104
 z25:=Tryz.sizeOf104
 v25:=Tryz.zeroValue104 }
end
section
open Go.RowKit Go.Lib Go.Sort
def Ju (run:List ay)(i:Nat):List Nat:=(List.range run.length).filter fun k=>decide (k=i)||dc run k i
theorem aAP (n:Nat):(List.finRange n).map (fun k=>I (k.val:Int))=nv (List.range n):=by
 apply Nb
 ·simp[nv]
 ·intro j h1 h2;simp[nv]
theorem aAQ (n:Nat):(List.finRange n).map Fin.val=List.range n:=by
 apply Nb
 ·simp
 ·intro j h1 h2;simp
theorem alL (n:Nat)(f:Nat->Nat->Bool)(p:Value)(bi bo i k:Nat)(W:World)(hO:AG W p n f)(hi:i<n)(hk:k<n)(h0:W.cell? ⟨bi,0,none⟩=some (I i))(h1:W.cell? ⟨bo,0,none⟩=some p):
  FnGives Tryz.prog 42 #[.pointer (some ⟨bi,0,none⟩),.pointer (some ⟨bo,0,none⟩)] #[I k] (.bool (!(decide (k=i)||f k i))) W:=by
 show Calls Tryz.prog 42 #[I k,.pointer (some ⟨bi,0,none⟩),.pointer (some ⟨bo,0,none⟩)] W _
 have Hl:=ae (Ll p n f k i W hO hk hi);by_cases lC:k=i
 ·subst lC;clear hO;go_enter Tryz.func42,Tryz.ntmps42;go_wp2_with fail;go_ret;exact⟨ai,0,rfl⟩
 ·have aAR:¬(k:Int)=i:=ab
  have hd:decide (k=i)=false:=by simp[lC]
  have xr:=ae (show((k:Int) !=(i:Int))=true by simpa using aAR);rw[hd];clear hO hd
  cases hf:f k i with
  |true=>
   rw[hf] at Hl;clear hf;go_enter Tryz.func42,Tryz.ntmps42
   go_wp2_with (go_at_call 43;refine Hl.out.mono ?_;rintro e w3 ⟨rfl,rfl⟩)
   go_ret;exact⟨rfl,0,rfl⟩
  |false=>
   rw[hf] at Hl;clear hf;go_enter Tryz.func42,Tryz.ntmps42
   go_wp2_with (go_at_call 43;refine Hl.out.mono ?_;rintro e w3 ⟨rfl,rfl⟩)
   go_ret;exact⟨by show Ending.returned (Value.bool _)=_;rw[xr.out];rfl,0,rfl⟩
theorem alM (run:List ay)(v:Value)(w:World)(hrun:fw w v run)(hn:run.length<=64)(i:Nat)(hi:i<run.length):
  Calls Tryz.prog 13 #[v,I i] w fun e w'=>∃u,e=.returned u/\br w' u ((Ju run i).map fun k:Nat=>(k:Int))/\aw w w':=by
 obtain⟨ka,ca,rfl,gz⟩:=hrun.open;have hiI:(i:Int)<run.length:=ab;have aAS:¬(i:Int)<0:=ab;have HD:=ae (fun W hW=>aac run (.slice ka run.length ca) W hW hn);have alN:=ae hrun;clear hrun;go_enter Tryz.func13,Tryz.ntmps13;go_wp2_with fail
 obtain⟨w1,py⟩:∃w1,w1=w.alloc (.cells #[I i] 3):=⟨_,rfl⟩
 have cL:w1.heap.size=w.heap.size+1:=by rw[py];simp
 have cT:az w1 w.heap.size #[I i]:=by rw[py];exact az.new _ _ _
 have aC:aw w w1:=by rw[py];exact(Below.refl _ _).alloc ax _
 rw[<-py];clear py;refine(HD.out w1 (alN.out.kept aC ax)).mono ?_;rintro e w2 ⟨p,rfl,hO,bg⟩;have hO':=hO;obtain⟨_,pg,_,_,rfl,_⟩:=hO';have fj:=bg.size;have eU:=cT.kept bg cT.lt;have mD:=ae (aC.trans (bg.mono ab));have HO:=ae hO;have Qb:=ae eU;clear cT aC bg hO eU HD alN;go_wp2_with fail
 obtain⟨w3,nN⟩:∃w3,w3=w2.alloc (.cells #[.pointer (some ⟨pg,0,none⟩)] 81):=⟨_,rfl⟩
 have vJ:w3.heap.size=w2.heap.size+1:=by rw[nN];simp
 have Hb3:=ae (show az w3 w2.heap.size #[.pointer (some ⟨pg,0,none⟩)] by rw[nN];exact az.new _ _ _);have aAT:Hid (aw w2 w3):=ae (by rw[nN];exact(Below.refl _ _).alloc ax _);rw[<-nN];clear nN;go_loopw [6,20] (fun vo vi wr=>∃(k:Nat) (av:Option Addr) (ac:Nat),k<=run.length/\vo=.slice av k ac/\vi=I k/\Hid (aw w3 wr)/\Hid (wr.ownsRow w3.heap.size 3 1 (.slice av k ac) k (nv (List.range k)))) (fun _ vi _=>run.length-(intOf vi).toNat)
 case atStart=>exact⟨0,none,0,ab,rfl,rfl,ae (Below.refl _ _),ae (ko _ _ _ _)⟩
 case round=>
  obtain⟨k,av,ac,hk,rfl,rfl,HB,gF⟩:=hrel;have jZ:=HB.out.size;by_cases hlt:k<run.length
  ·go_wp2_with (at_builtin;go_must (refine tB rfl _ _ 22 rfl 3 _ 1 8 Tryz.underlying22 rT rfl ab ab w3.heap.size (.slice av k ac) k (nv (List.range k)) rfl (gF.out.alloc _) wr.heap.size 1 1 #[I k] 3 rfl (dV _ _) rfl rfl ab ab (by rw[World.size_alloc];omega) ?_);intro g5 ui w5 fQ gE je jy nJ eI)
   go_roundw
   case rel=>exact⟨k+1,_,ui,ab,rfl,by go_num,ae ((HB.out.alloc jZ _).trans eI),ae (by rw[lV,Lq];exact jy)⟩
   case measure=>simp[intOf];omega
  ·obtain rfl:k=run.length:=ab;have aS:=gF.out;rw[<-aAP] at aS
   letI:Inhabited (Fin run.length):=⟨⟨i,hi⟩⟩
   have hne:Value.slice av run.length ac≠ .slice none 0 0:=by
    intro e;injection e with _ e _;omega
   obtain⟨g,cap,hv,hbg,sL,nW,Cc,qI,hH⟩:=holds_of_ownsRow (enc:=fun k:Fin run.length=>I (k.val:Int)) aS hne;injection hv with ea _ ec;subst ea;subst ec;have eg:∀args w,(callFunc 42 args).run Tryz.prog w=.ok (.enter 42 args) w:=enters_of Tryz.func42 ah rfl;have rJ:=Qb.out;have UQ:=aAT.out
   have EE:∀W:World,aw w3 W->AG W (.pointer (some ⟨pg,0,none⟩)) run.length (dc run)/\W.cell? ⟨w.heap.size,0,none⟩=some (I i)/\W.cell? ⟨w2.heap.size,0,none⟩=some (.pointer (some ⟨pg,0,none⟩)):=fun W hW=>by
    refine⟨HO.out.kept (UQ.trans (hW.mono UQ.size)) ax,?_,?_⟩
    ·exact((rJ.kept UQ rJ.lt).kept hW (by have:=rJ.lt;omega)).cell 0
    ·exact(Hb3.out.kept hW ab).cell 0
   have ET:=AnyE.slices_DeleteFunc Tryz.aAO (fun k:Fin run.length=>I (k.val:Int)) (fun _=>rfl) (fun k:Fin run.length=> !(decide (k.val=i)||dc run k.val i)) 42 #[.pointer (some ⟨w.heap.size,0,none⟩),.pointer (some ⟨w2.heap.size,0,none⟩)] eg ⟨0,ab⟩ Tryz.zeroValue3 g 0 ac (List.finRange run.length).toArray wr
    (fun W x hb=>by
     obtain⟨h1,h2,h3⟩:=EE W (HB.out.trans (hb.mono jZ))
     exact alL run.length (dc run) (.pointer (some ⟨pg,0,none⟩)) w.heap.size w2.heap.size i x.val W h1 hi x.isLt h2 h3)
    (fun m os dk x _=>by
     have hbw:aw w3 (sortWorld (fun k:Fin run.length=>I (k.val:Int)) wr g 0 m dk os):=by
      have h1:aw w3 (putRow (fun k:Fin run.length=>I (k.val:Int)) (Sort.ahead wr m) g 0 dk):=below_putRow HB.out hbg;exact h1.trans ((_root_.Go.Proofs.below_grown _ 0 os).mono h1.size)
     obtain⟨h1,h2,h3⟩:=EE _ hbw
     exact alL run.length (dc run) (.pointer (some ⟨pg,0,none⟩)) w.heap.size w2.heap.size i x.val _ h1 hi x.isLt h2 h3)
    hH bq (by simpa using nW)
   change Calls Tryz.prog 41 _ _ _ at ET;have hlen:(List.finRange run.length).toArray.size=run.length:=ai;rw[hlen] at ET
   obtain⟨r,hr⟩:∃r,r=(List.finRange run.length).toArray.toList.filter (fun k:Fin run.length=> !(!(decide (k.val=i)||dc run k.val i))):=⟨_,rfl⟩
   rw[<-hr] at ET
   have eF:r.length<=run.length:=by
    rw[hr];exact bj (nQ _ _) ai
   have pE:r.map (fun k=>k.val)=Ju run i:=by
    rw[hr];unfold Ju;rw[<-aAQ,List.filter_map];simp only[Bool.not_not];rfl
   have aAU:=ae ET;have AR:=ae aS;have Hrv:=ae pE;clear ET aS hr pE EE hH hne
   go_wp2_with (go_at_call 41;refine aAU.out.mono ?_;rintro e w5 ⟨rfl,q,rfl⟩)
   go_ret;have ho:=ownsRow_putRow (q:=q) AR.out (ys:=r++List.replicate (run.length-r.length) ⟨0,ab⟩) (k:=r.length) bq eF;rw[List.take_left' rfl] at ho;refine⟨_,rfl,?_,?_⟩
   ·have:=Flat.eu ho;unfold br;rw[<-Hrv.out,dE,dE];rw[show iv ((r.map fun k=>k.val).map fun k:Nat=>(k:Int))=r.map (fun k=>I (k.val:Int)) by simp only[iv,List.map_map];rfl];exact this
   ·exact(below_putRow (mD.out.trans ((UQ.mono ab).trans (HB.out.mono ab))) ab)
end
namespace Ab
open Go Go.RowKit
variable {A:Nat->Prop} {es:List (List AC)} {k:Nat} {w:World}
def MD (w:World)(A:Nat->Prop):List AC->List Value->Prop
 |[],_=>True
 |x::l,u::r=>IR w A x u/\MD w A l r
 |_::_,[]=>False
theorem MD.get:∀{l:List AC} {us:List Value},MD w A l us->∀{j:Nat} {x:AC},l[j]? =some x->∃u,us[j]? =some u/\IR w A x u
 |[],_,_,j,x,h=>by simp at h
 |_::_,[],hc,_,_,_=>hc.elim
 |y::l,u::us,hc,0,x,h=>by simp at h;subst h;exact⟨u,rfl,hc.1⟩
 |y::l,u::us,hc,j+1,x,h=>by simpa using MD.get hc.2 (j:=j) (by simpa using h)
theorem alO {w:World}{A:Nat->Prop}:∀l:List Int,MD w A (l.map iA) (iv l)
 |[]=>trivial
 |_::l=>⟨.v _ rfl,alO l⟩
theorem alP(hk:∀row∈es,row.length=k){i j:Nat}{row:List AC}{x:AC}(h1:es[i]? =some row)(h2:row[j]? =some x):es.flatten[i*k+j]? =some x:=by
 have hi:=(bK.1 h1).1;have hr:=Ya hk i hi;rw[h1,aA] at hr;have hj:=(bK.1 h2).1;rw[hk row (eE h1)] at hj;rw[<-hr,wI,aq hj,oA] at h2;exact h2
theorem UR{a:Option Addr}{c:Nat}{xs:List Value}(h:Flat w k (.slice a es.length c) es.length xs)(EB:es.length<=c)(hk:∀row∈es,row.length=k)(hc:MD w A es.flatten xs)(hA:∀b o,a=some ⟨b,o,none⟩->¬A b):IR w A (.sl es) (.slice a es.length c):=by
 obtain⟨_,hm,a',c',e,hr⟩:=h;cases e;refine IR.sl k es a c (fun i j=>xs.getD (i*k+j) undef) EB ab (fun i row h1=>hk row (eE h1)) (fun i row j x h1 h2=> ?_) (fun i row j h1 h2=> ?_)
 ·obtain⟨u,hu,Rw⟩:=hc.get (alP hk h1 h2);rw[fo,hu];exact Rw
 ·obtain⟨u,hu,_⟩:=hc.get (alP hk h1 (cw h2));obtain⟨b,o,ha,hcell⟩:=hr _ u hu;exact⟨b,o,ha,hA b o ha,by rw[fo,hu,Nat.add_assoc];exact hcell⟩
theorem alQ{α:Type}(f:α->List Int)(k:Nat)(hf:∀x,(f x).length=k){B e:Nat}{v:Value}{l:List α}{M:Nat->Prop}(h:w.ownsRow B e k v l.length (l.flatMap fun x=>iv (f x)))(hM:∀b,M b->b<B):IR w M (.sl (l.map fun x=>(f x).map iA)) v:=by
 have IB:=Flat.eu h;obtain⟨a,c,rfl,_⟩:=IB.open
 have hx:(l.map fun x=>(f x).map iA).flatten=(l.flatMap f).map iA:=by rw[List.map_flatMap,List.flatMap_def]
 have hy:(l.flatMap fun x=>iv (f x))=iv (l.flatMap f):=by unfold iv;rw[List.map_flatMap]
 rw[hy] at IB h
 have EB:l.length<=c:=by
  rcases h.2 with⟨e1,e2⟩|⟨_,_,_,e1,_,_,h2,_⟩
  ·omega
  ·injection e1 with _ _ e2;rw[e2];exact h2
 have:=UR (A:=M) (k:=k) (a:=a) (c:=c) (es:=l.map fun x=>(f x).map iA) (xs:=iv (l.flatMap f)) (by simpa using IB) (by simpa using EB) (fun row hr=>by
  obtain⟨x,_,rfl⟩:=dm.1 hr
  simpa using hf x) (by rw[hx];exact alO _) (fun b o ha hb=>by
  rcases h.2 with⟨e1,_⟩|⟨g,_,_,e1,hg,_⟩
  ·injection e1 with e2 _ _;rw[e2] at ha;cases ha
  ·injection e1 with e2 _ _;rw[e2] at ha;cases ha
   exact absurd (hM _ hb) (Nat.not_lt.2 hg))
 simpa using this
abbrev Jv (a:aL):List AC:=a.ints.map iA
end Ab
section
def fg:ay:=⟨⟨1,0,0,⟨0,0,0,0,0⟩⟩,[],false,[]⟩
def fT:ay:=⟨⟨4,0,0,⟨0,0,0,0,0⟩⟩,[⟨0,2,0,1,0,3,2⟩],true,[]⟩
end
namespace Ab
open Go Go.RowKit
def c0:C1:=fun _ _=>none
theorem alR:iD Tryz.prog c0:=fun _ _ _ h=>by cases h
noncomputable def aAV:FD:=cr Tryz.f135 aN [tz 4 8,tz 6 8] [.t 4] [4,5] []
noncomputable def aAW:FD:=cr Tryz.f184 aN [] [.t 2] [1,2] [1]
noncomputable def aAX:FD:=cr Tryz.f185 aN [(1,3,tk 0 1 (tk 2 1 (.move 1 .nil)),[])] [.t 4] [2,3,4] [2,3]
noncomputable def aAY:FD:=cr Tryz.f138 aN [tz 5 7] [.t 4] [2,3,4,5,6] [2,3]
noncomputable def aAZ:FD:=cr Tryz.f139 (aO [6]) [tz 2 12,tz 5 7] [.t 4] [3,4,5,6] [3,6]
noncomputable def aBa:FD:=cr Tryz.f84 ⟨0,[],[],[(9,[901])],cU,[(3,[0])],[(2,[(3,0,901,41,8)])]⟩ [tz 6 7,tz 8 10] [(.cell 2 2)] [1,2,3,4,5] [1,2,3,901]
noncomputable def aBb:FD:=cr Tryz.f40 ⟨0,[],[],[(10,[901,902])],cU,[(3,[0,1])],[(2,[(3,0,901,41,8),(3,1,902,161,6)])]⟩ [tm 5 7,tm 9 21] [(.cell 2 2)] [2,3,4,5] [2,3,901,902]
noncomputable def alS:List (FuncId×FD):=[(135,aAV),(184,aAW),(185,aAX),(138,aAY),(139,aAZ),(84,aBa),(40,aBb)]
theorem aBc:KS alS:=tc (okF Tryz.func135)<|tc (okF Tryz.func184)<|tc (okF Tryz.func185)<|tc (okF Tryz.func138)<|tc (okF Tryz.func139)<|tc (okF Tryz.func84)<|tc (okF Tryz.func40)<|tn
theorem aBd:iY ((xP alS c0 1000 60).1 40 [.c (CK [fg,fT])]) (.w (.agg [.sl ((zj [fg,fT]).map gG),.sl ((lP (xH [fg,fT])).map Jv)]))=true:=ah
end Ab
section
open Go Go.RowKit
theorem ofL {X:World}{v:Value}(hg:Gl X)(h:Ab.IR X (fun _=>False) (Ab.CK [fg,fT]) v):Calls Tryz.prog 40 #[v] X fun e w'=>∃k c k2 c2,e=.returned (.agg #[.slice k (zj [fg,fT]).length c,.slice k2 (lP (xH [fg,fT])).length c2])/\mz w' k c k2 c2 (zj [fg,fT]) (lP (xH [fg,fT]))/\aw X w':=by
 refine((Ab.jS Ab.aBc Ab.alR 1000 60 (Ab.jT Ab.aBd)) (fun _=>False) X [v] ⟨fun b hb=>hb.elim,Ab.Kv hg⟩ rfl (fun i x u hx hu=> ?_)).mono ?_
 ·match i,hx,hu with
  |0,hx,hu=>
   simp only[wG,aA] at hx hu;subst hx hu;exact⟨rfl,h.tF (S:=fun _=> .dead 0) (G:=fun _=>Ab.gh 0) (H:=fun _=>undef)⟩
  |i+1,hx,hu=>simp at hx
 ·rintro e w' ⟨v,r,rfl,rfl,⟨_,arr,rfl,hlen,hc⟩,hF⟩
  match arr,hlen,hc with
  |[u0,u1],_,hc=>
   have h0:oG w' u0 (zj [fg,fT]):=Ab.CL Ev.ints 8 (fun _=>rfl) (Ab.CR.ir (S:=fun _=> .dead 0) (G:=fun _=>Ab.gh 0) (H:=fun _=>undef) (hc 0 _ u0 rfl rfl) rfl);have h1:kS w' u1 (lP (xH [fg,fT])):=Ab.CL aL.ints 6 (fun _=>rfl) (Ab.CR.ir (S:=fun _=> .dead 0) (G:=fun _=>Ab.gh 0) (H:=fun _=>undef) (hc 1 _ u1 rfl rfl) rfl);obtain⟨k,c,rfl,_⟩:=h0.open;obtain⟨k2,c2,rfl,_⟩:=h1.open;exact⟨k,c,k2,c2,rfl,⟨h0,h1⟩,Ab.Fr.below hF⟩
end
namespace Ab
open Go Go.RowKit
attribute [local irreducible] aM bt aX
theorem aBe (s p:aj):aU Tryz.prog 147 [.c (sA s),.c (sA p)] (fun y=>y=.bD [.c (sA (Lib.trimPrefix s p)),.c (bA (Lib.hasPrefix s p))]):=
 zm (us:=[sv s,sv p]) fun w _=>(agX s p w).mono fun e w' ⟨he,hw⟩=>⟨_,_,he,rfl,fun _ _=>Pj rfl rfl,by rw[hw];exact Below.refl _ _⟩
theorem aBf (s p:aj)(hs:s.length<=4000000000):aU Tryz.prog 100 [.c (sA s),.c (sA p)] (fun y=>y=.w (.c (iA (Lib.index s p)))):=
 zm (us:=[sv s,sv p]) fun w hg=>(agZ s p w hg hs).mono fun e w' ⟨he,hw⟩=>⟨_,_,he,rfl,fun _ _=>Fh rfl,by rw[hw];exact Below.refl _ _⟩
theorem aBg {s:aj}{u:Nat}(h:Lib.parseUintB 31 s=.ok u)(hs:s.length<=4000000000):aU Tryz.prog 148 [.c (sA s),.c (iA 10),.c (iA 31)] (fun y=>y=.bD [.c (.v (.int .u64 (u:Nat))),.c (.v .nilIface)]):=
 zm (us:=[sv s,I 10,I 31]) fun w hg=>(ahk h w hg hs).mono fun e w' ⟨he,hb⟩=>⟨_,_,he,rfl,fun _ _=>Pj rfl rfl,hb⟩
end Ab
section
def Fw:aj:=[48,58,32,115,116,97,114,116,32,48,32,48,10,49,58,32,116,105,109,101,114,32,48,32,48,32,91,100,114,97,119,32,48,46,50,46,48,32,48,32,61,32,50,47,51,93,32,42,32,97,102,116,101,114,32,48,10]
end
namespace Ab
open Go Go.RowKit
theorem aBh (es:List Ev)(l:List aL)(bU:∀a∈l,a.ok)(hle:es.length<=1000000)(hl:l.length<=1000000):aU Tryz.prog 53 [.agg [.sl (es.map gG),.sl (l.map Jv)]] (fun y=>y=.w (.agg [.sl (es.map gG),.sl ((lP l).map Jv)])):=by
 intro M w vs hM hlen dz
 match vs,hlen,dz with
 |[v],_,dz=>
  obtain⟨_,arr,rfl,fO,hc⟩:=dz 0 _ v rfl rfl
  match arr,fO,hc with
  |[u0,u1],_,hc=>
   have h0:oG w u0 es:=CL Ev.ints 8 (fun _=>rfl) (CR.ir (hc 0 _ u0 rfl rfl) rfl);have h1:kS w u1 l:=CL aL.ints 6 (fun _=>rfl) (CR.ir (hc 1 _ u1 rfl rfl) rfl);refine(aiB es l u0 u1 w h0 h1 bU hle hl).mono ?_;rintro e w' ⟨ue,ua,rfl,o1,o2,hb⟩;have i1:IR w' M (.sl (es.map gG)) ue:=alQ Ev.ints 8 (fun _=>rfl) o1 hM.1;have i2:IR w' M (.sl ((lP l).map Jv)) ua:=alQ aL.ints 6 (fun _=>rfl) o2 hM.1
   exact⟨_,_,rfl,rfl,⟨rfl,[ue,ua],rfl,rfl,fun j x u hx hu=>by
    match j,hx,hu with
    |0,hx,hu=>cases hx;cases hu;exact i1.tF
    |1,hx,hu=>cases hx;cases hu;exact i2.tF
    |j+2,hx,hu=>simp at hx⟩,⟨hb.os,hb.tape,hb.output,hb.size,hb.block⟩⟩
theorem aBi (s:aj)(x:UInt8):aU Tryz.prog 49 [.c (sA s),.c (sA [x])] (fun y=>y=.w (.c (iA (s.count x:Nat)))):=
 zm (us:=[sv s,sv [x]]) fun w _=>(YT s x w).mono fun e w' ⟨he,hw⟩=>⟨_,_,he,rfl,fun _ _=>Fh rfl,by rw[hw];exact Below.refl _ _⟩
theorem aBj (s p:aj)(hs:s.length<=4000000000):aU Tryz.prog 50 [.c (sA s),.c (sA p)] (fun y=>y=.bD [.c (sA (Lib.trimSuffix s p)),.c (bA (Lib.hasSuffix s p))]):=
 zm (us:=[sv s,sv p]) fun w _=>(agY s p w hs).mono fun e w' ⟨he,hw⟩=>⟨_,_,he,rfl,fun _ _=>Pj rfl rfl,by rw[hw];exact Below.refl _ _⟩
noncomputable def abZ (c:C1):C1:=fun f args=>match args with
 |[.c (.v (.string ⟨⟨a⟩⟩)),.c (.v (.string ⟨⟨b⟩⟩))]=>match Nat.ble a.length 4000 with
  |true=>match Nat.beq f 147 with
   |true=>some (.bD [.c (sA (Lib.trimPrefix a b)),.c (bA (Lib.hasPrefix a b))])
   |false=>match Nat.beq f 100 with
    |true=>some (.w (.c (iA (Lib.index a b))))
    |false=>match Nat.beq f 50 with
     |true=>some (.bD [.c (sA (Lib.trimSuffix a b)),.c (bA (Lib.hasSuffix a b))])
     |false=>match b with
      |[x]=>match Nat.beq f 51 with
       |true=>some (.w (.c (strs (bW x a))))
       |false=>match Nat.beq f 49 with
        |true=>some (.w (.c (iA (a.count x:Nat))))
        |false=>none
      |_=>none
  |false=>none
 |[.c (.v (.string ⟨⟨a⟩⟩))]=>match Nat.ble a.length 4000 with
  |true=>match Nat.beq f 76 with
   |true=>some (rD a)
   |false=>match Nat.beq f 78 with
    |true=>some (Bc a)
    |false=>none
  |false=>none
 |[.c (.v (.int .i64 (.ofNat n)))]=>match Nat.beq f 29 with
  |true=>match Nat.blt n 10 with
   |true=>some (.w (.c (sA [UInt8.ofNat (48+n)])))
   |false=>none
  |false=>none
 |[.c (.v (.string ⟨⟨a⟩⟩)),.c (.v (.int .i64 (.ofNat n))),.c (.v (.int .i64 (.ofNat m)))]=>match Nat.ble a.length 4000 && (Nat.beq f 148 && (Nat.beq n 10 && Nat.beq m 31)) with
  |true=>match Lib.parseUintB 31 a with
   | .ok u=>some (.bD [.c (.v (.int .u64 (u:Nat))),.c (.v .nilIface)])
   |_=>none
  |false=>none
 |args=>c f args
theorem aBk {c:C1}(hc:iD Tryz.prog c):iD Tryz.prog (abZ c):=by
 intro f args x h;unfold abZ at h;split at h
 ·rename_i a b
  cases hn:Nat.ble a.length 4000 with
  |false=>rw[hn] at h;cases h
  |true=>
   rw[hn] at h;have hn:=tr hn;have hn:a.length<=4000000000:=ab;dsimp only at h;split at h
   ·rename_i e;cases h;rw[ej e];exact aBe a b
   split at h
   ·rename_i e;cases h;rw[ej e];exact aBf a b hn
   split at h
   ·rename_i e;cases h;rw[ej e];exact aBj a b hn
   split at h
   ·split at h
    ·rename_i e;cases h;rw[ej e];exact Ub a _ hn
    split at h
    ·rename_i e;cases h;rw[ej e];exact aBi a _
    ·cases h
   ·cases h
 ·rename_i a
  cases hn:Nat.ble a.length 4000 with
  |false=>rw[hn] at h;cases h
  |true=>
   rw[hn] at h;have hn:=tr hn;have hn:a.length<=4000000000:=ab;dsimp only at h;split at h
   ·rename_i e;cases h;rw[ej e];exact aaT a hn
   split at h
   ·rename_i e;cases h;rw[ej e];exact aaU a hn
   ·cases h
 ·rename_i n;split at h
  case h_2=>cases h
  rename_i e;split at h
  case h_2=>cases h
  rename_i hn;cases h;have hn:n<10:=tr hn;have:=Mb (n:Int) ⟨ab,ab⟩;rw[Lib.itoa_nonneg,Lib.decDigits_one hn] at this;rw[ej e];exact this
 ·rename_i a n m;split at h
  case h_2=>cases h
  rename_i hb;simp only[bV] at hb;obtain⟨h1,h2,h3,h4⟩:=hb;have h1:=tr h1;split at h
  ·rename_i u hu;cases h;rw[ej h2,ej h3,ej h4];exact aBg hu ab
  ·cases h
 ·exact hc f _ x h
noncomputable def aBl:FD:=cr Tryz.f103 (aB 1000 []) [] [] [] []
noncomputable def aBm:FD:=cr Tryz.f104 (aB 1000 []) [] [.t 4] [4,5,6] []
noncomputable def aBn:FD:=cr Tryz.f105 (aB 1000 []) [] [.t 4] [4,5,7,8,9,15,16,17] []
noncomputable def aBo:FD:=cr Tryz.f107 (aB 1000 []) [] [.t 4] [4,5,6] []
def mR:List (Nat×List Nat):=[(105,[39]),(104,[39]),(103,[39]),(107,[39]),(106,[39]),(52,[39])]
noncomputable def aBp:FD:=cr Tryz.f106 ⟨1000,[],mR,[],cU,[],[]⟩ [] [.cell 2 6] [2,3,4,5] [1002,1003]
noncomputable def aBq:FD:=cr Tryz.f52 ⟨1000,[8],mR,[],cU,[],[]⟩ [] [.cell 4 8,.t 5] [4,5,6,7,8,9,11,12,53,54,55] [1004,1006,1008]
noncomputable def aBr:FD:=cr Tryz.f18 ⟨0,[],mR,[(19,[901,902])],cU,[(4,[0,1])],[(9,[(4,0,901,41,8),(4,1,902,161,6)])]⟩ [] [.cell 2 2,.t 3] [2,3,4,5,6,7,8,9,10,11,30,31,32,39] [2,4,39,10,901,902]
noncomputable def alT:List (FuncId×FD):=[(103,aBl),(104,aBm),(105,aBn),(107,aBo),(106,aBp),(52,aBq),(18,aBr)]
theorem aBs:KS alT:=tc (okF Tryz.func103)<|tc (okF Tryz.func104)<|tc (okF Tryz.func105)<|tc (okF Tryz.func107)<|tc (okF Tryz.func106)<|tc (okF Tryz.func52)<|tc (okF Tryz.func18)<|tn
noncomputable def alU:C1:=known 53 [.agg [.sl ((zj [fg,fT]).map gG),.sl ((xH [fg,fT]).map Jv)]] (.w (.agg [.sl ((zj [fg,fT]).map gG),.sl ((lP (xH [fg,fT])).map Jv)])) (abZ c0)
theorem aBt:iD Tryz.prog alU:=xI (aBh _ _ (by
 intro a ha;simp[xH,fg,fT,Ask.CC] at ha;subst ha;refine⟨fun n hn=> ?_,?_⟩
 ·simp[Qn.ints] at hn;unfold bY;omega
 ·show bY 2
  unfold bY
  omega) au au) (aBk alR)
theorem aBu:iY ((xP alT alU 1000 60).1 18 [.c (sA Fw)]) (.bD [.agg [.sl ((zj [fg,fT]).map gG),.sl ((lP (xH [fg,fT])).map Jv)],.c (iA 0)])=true:=ah
end Ab
section
open Go Go.RowKit
theorem aBv {X:World}(hg:Gl X):Calls Tryz.prog 18 #[sv Fw] X fun e w'=>(∃k c k2 c2,e=.returned (.tuple #[tv k c k2 c2 (zj [fg,fT]) (lP (xH [fg,fT])),I 0])/\mz w' k c k2 c2 (zj [fg,fT]) (lP (xH [fg,fT])))/\aw X w':=by
 refine((Ab.jS Ab.aBs Ab.aBt 1000 60 (Ab.jT Ab.aBu)) (fun _=>False) X [sv Fw] ⟨fun b hb=>hb.elim,Ab.Kv hg⟩ rfl (fun i x u hx hu=> ?_)).mono ?_
 ·match i,hx,hu with
  |0,hx,hu=>
   simp only[wG,aA] at hx hu;subst hx hu;exact Ab.Fh rfl
  |i+1,hx,hu=>simp at hx
 ·rintro e w' ⟨v,r,rfl,rfl,⟨arr,rfl,hlen,hc⟩,hF⟩
  match arr,hlen,hc with
  |[t,n],_,hc=>
   have hn:=Ab.xJ (Ab.CR.ir (S:=fun _=> .dead 0) (G:=fun _=>Ab.gh 0) (H:=fun _=>undef) (hc 1 _ n rfl rfl).2 rfl);obtain⟨_,tH,rfl,LJ,dS⟩:=hc 0 _ t rfl rfl;subst hn
   match tH,LJ,dS with
   |[u0,u1],_,dS=>
    have h0:oG w' u0 (zj [fg,fT]):=Ab.CL Ev.ints 8 (fun _=>rfl) (Ab.CR.ir (S:=fun _=> .dead 0) (G:=fun _=>Ab.gh 0) (H:=fun _=>undef) (dS 0 _ u0 rfl rfl) rfl);have h1:kS w' u1 (lP (xH [fg,fT])):=Ab.CL aL.ints 6 (fun _=>rfl) (Ab.CR.ir (S:=fun _=> .dead 0) (G:=fun _=>Ab.gh 0) (H:=fun _=>undef) (dS 1 _ u1 rfl rfl) rfl);obtain⟨k,c,rfl,_⟩:=h0.open;obtain⟨k2,c2,rfl,_⟩:=h1.open;exact⟨⟨k,c,k2,c2,rfl,⟨h0,h1⟩⟩,Ab.Fr.below hF⟩
end
section
open Go.RowKit
def Qc (X:World):Prop:=Calls Tryz.prog 11 #[] X fun e w'=>e=.returned (.bool true)/\aw X w'
def UT:Array Value:=#[I 1,I 0,I 0,I 0,I 0,I 0,I 0,I 0,.slice none 0 0,.bool false,.slice none 0 0]
def Jw:aj:=[48,58,32,115,116,97,114,116,32,48,32,48,10]
theorem aBw:zt (fS [fg])=Jw:=by decide+kernel
theorem aBx:zt (fS [fg,fT])=Fw:=by decide+kernel
theorem aBy:Ju [fg,fT] 1=[0,1]:=by decide+kernel
theorem alV:∀s∈[fg,fT],Dc s:=by
 intro s hs;simp only[cz,jD,kL] at hs
 rcases hs with rfl|rfl
 ·refine⟨?_,?_,au⟩
  ·intro x hx;simp[fg,Ev.ints] at hx;unfold bY;omega
  ·intro a ha;simp[fg] at ha
 ·refine⟨?_,?_,au⟩
  ·intro x hx;simp[fT,Ev.ints] at hx;unfold bY;omega
  ·intro a ha;simp[fT] at ha;subst ha;intro x hx;simp[Ask.ints] at hx;unfold bY;omega
theorem aBz:∀s∈[fg],Dc s:=fun s hs=>alV s (cz.2 (.inl (by simpa using hs)))
theorem aBA {W:World}{b:Nat}(h:az W b UT):fw W (.slice (some ⟨b,0,none⟩) 1 1) [fg]:=
 ⟨UT.toList,⟨.slice none 0 0,.slice none 0 0,[],rfl,Flat.nil _ _ _ _,Flat.nil _ _ _ _,rfl⟩,Flat.wN rfl au (fun j u hu=>by rw[fu,h.cell j,<-hu];simp)⟩
theorem aca (w:World)(hg:Gl w):Qc w:=by
 unfold Qc;have Hg:=ae hg;clear hg;obtain⟨i0,hi,eZ,cL,fj⟩:=wL Rc;go_enter Tryz.func11,Tryz.ntmps11;go_upto_region 3 with fail
 obtain⟨w2,jo⟩:∃w2,w2=(w.alloc (.cells #[I 1,I 0,I 0,I 0,I 0,I 0,I 0,I 0,.slice none 0 0,.bool false,.slice none 0 0] 45)).alloc (.cells #[I 0,I 2,I 0,I 1,I 0] 76):=⟨_,rfl⟩
 have eC:az w2 w.heap.size UT:=by rw[jo];exact(az.new _ _ _).alloc _
 have hq:az w2 (w.heap.size+1) #[I 0,I 2,I 0,I 1,I 0]:=by
  rw[jo];have:=az.new (w.alloc (.cells #[I 1,I 0,I 0,I 0,I 0,I 0,I 0,I 0,.slice none 0 0,.bool false,.slice none 0 0] 45)) #[I 0,I 2,I 0,I 1,I 0] 76;simpa using this
 have bg:Below (w.heap.size) w w2:=by rw[jo];exact((Below.refl _ _).alloc ax _).alloc ai _
 have fj:w2.heap.size=w.heap.size+2:=by rw[jo];simp
 rw[<-jo];clear jo
 obtain⟨A,hA⟩:∃A,A=w.heap.size:=⟨_,rfl⟩
 rw[<-hA] at eC hq bg fj⊢;have HA:=ae hA;clear hA;have q0:=hq.cell 0;have q1:=hq.cell 1;have q2:=hq.cell 2;have q3:=hq.cell 3;have q4:=hq.cell 4
 obtain⟨w4,Df⟩:∃w4,w4=(w2.alloc (.cells #[I 0,I 2,I 0,I 1,I 0,I 3,I 2] 78)).alloc (.cells #[I 4,I 0,I 0,I 0,I 0,I 0,I 0,I 0,.slice (some ⟨w2.heap.size,0,none⟩) 1 1,.bool true,.slice none 0 0] 45):=⟨_,rfl⟩
 have lN:aw w2 w4:=by rw[Df];exact((Below.refl _ _).alloc ax _).alloc ai _
 have AZ:az w4 w2.heap.size #[I 0,I 2,I 0,I 1,I 0,I 3,I 2]:=by rw[Df];exact(az.new _ _ _).alloc _
 have eA:az w4 (w2.heap.size+1) #[I 4,I 0,I 0,I 0,I 0,I 0,I 0,I 0,.slice (some ⟨w2.heap.size,0,none⟩) 1 1,.bool true,.slice none 0 0]:=by
  rw[Df];have:=az.new (w2.alloc (.cells #[I 0,I 2,I 0,I 1,I 0,I 3,I 2] 78)) #[I 4,I 0,I 0,I 0,I 0,I 0,I 0,I 0,.slice (some ⟨w2.heap.size,0,none⟩) 1 1,.bool true,.slice none 0 0] 45;simpa using this
 have IU:w4.heap.size=w2.heap.size+2:=by rw[Df];simp
 have alW:=eC.kept lN eC.lt;have UU:=ae alW;have Hr2:=ae eA;have Hak:=ae AZ;have Qd:=ae lN;have mD:=ae bg;have Hw4:=ae Df;have Hz2:=ae fj;have Hz4:=ae IU;clear eC alW eA AZ lN bg hq Df fj IU
 go_wp2_with (at_builtin;go_must (rw[<-Hw4.out];refine wpList_append_arg _ rfl _ _ 23 rfl 45 i0 _ 11 _ Tryz.underlying23 hi eZ cL fj rfl au A 0 1 1 #[I 1,I 0,I 0,I 0,I 0,I 0,I 0,I 0,.slice none 0 0,.bool false,.slice none 0 0].toList rfl rfl ?olds ⟨w2.heap.size+1,0,none⟩ 1 1 [I 4,I 0,I 0,I 0,I 0,I 0,I 0,I 0,.slice (some ⟨w2.heap.size,0,none⟩) 1 1,.bool true,.slice none 0 0] rfl rfl ?c1 ?c2 ?spare ?b1 ?b2 ?room ?grow))
 case olds=>intro j u hu;rw[UU.out.cell j,<-hu];simp[UT]
 case c1=>intro j u hu;rw[Addr.add_lit,fu,Hr2.out.cell j,<-hu];simp
 case c2=>exact fq.1 rfl
 case spare=>intro h;omega
 case b1=>unfold maxLen;omega
 case b2=>omega
 case grow=>
  intro v5 w5 jy hg5;have UW:aw w4 w5:=(Below.refl _ _).grown hg5 ax (fun k hk=>by cases hk);have UX:=Flat.eu jy;obtain⟨ka,kc,rfl,_⟩:=UX.open;have acb:=Hak.out.kept UW Hak.out.lt
  have alX:fw w5 (.slice ka 2 kc) [fg,fT]:=
   ⟨_,⟨.slice none 0 0,.slice none 0 0,_,rfl,Flat.nil _ _ _ _,Flat.nil _ _ _ _,⟨.slice (some ⟨w2.heap.size,0,none⟩) 1 1,.slice none 0 0,[],rfl,Flat.wN rfl au (fun j u hu=>by rw[fu,acb.cell j,<-hu];simp[fT,Ask.cells,Ask.ints,iv]),Flat.nil _ _ _ _,rfl⟩⟩,UX⟩
  have EB:2<=kc:=by
   rcases jy.2 with⟨_,h0⟩|⟨_,_,_,e5,_,_,h2,_⟩
   ·cases h0
   ·injection e5 with _ _ e6;rw[e6];exact h2
  have ia:Ab.IR w5 (fun _=>False) (Ab.asks fT.asks) (.slice (some ⟨w2.heap.size,0,none⟩) 1 1):=Ab.UR (es:=[[Ab.iA 0,Ab.iA 2,Ab.iA 0,Ab.iA 1,Ab.iA 0,Ab.iA 3,Ab.iA 2]]) (k:=7) (xs:=[I 0,I 2,I 0,I 1,I 0,I 3,I 2]) (Flat.wN rfl au (fun j u hu=>by rw[fu,acb.cell j,<-hu];simp)) ax ai ⟨.v _ rfl,.v _ rfl,.v _ rfl,.v _ rfl,.v _ rfl,.v _ rfl,.v _ rfl,trivial⟩ (fun _ _ _ h=>h);have i0:Ab.IR w5 (fun _=>False) (.sl []) (.slice none 0 0):=Ab.UR (k:=1) (xs:=[]) (Flat.nil _ _ _ _) ax ai trivial (fun _ _ _ h=>h);have HI5:=ae (Ab.UR (A:=fun _=>False) (es:=[Ab.kJ fg,Ab.kJ fT]) (k:=11) (a:=ka) (c:=kc) UX EB ai ⟨.v _ rfl,.v _ rfl,.v _ rfl,.v _ rfl,.v _ rfl,.v _ rfl,.v _ rfl,.v _ rfl,i0,.v _ rfl,i0,.v _ rfl,.v _ rfl,.v _ rfl,.v _ rfl,.v _ rfl,.v _ rfl,.v _ rfl,.v _ rfl,ia,.v _ rfl,i0,trivial⟩ (fun _ _ _ h=>h));have Jy:fw w5 (.slice (some ⟨A,0,none⟩) 1 1) [fg]:=aBA (UU.out.kept UW UU.out.lt);have alY:Below A w w5:=mD.out.trans ((Qd.out.trans (UW.mono (by have:=Hz4.out;omega))).mono (by have:=Hz2.out;omega));have Qe:=ae (show Below (w.heap.size) w w5 by rw[<-HA.out];exact alY);have UY:=ae (Hg.out.below Qe.out);have zf:=ae Jy;have EN:=ae alX;have Hp:=ae (aBv UY.out)
  obtain⟨E,hE⟩:∃E,E=zj [fg,fT]:=⟨_,rfl⟩
  obtain⟨L,hL⟩:∃L,L=lP (xH [fg,fT]):=⟨_,rfl⟩
  rw[<-hE,<-hL] at Hp
  have UZ:E.length=2:=by rw[hE];decide
  have Lt:L.length=1:=by rw[hL];decide+kernel
  have HOf:Hid (∀X,aw w5 X->Calls Tryz.prog 40 #[.slice ka 2 kc] X fun e w'=>∃k c k2 c2,e=.returned (.agg #[.slice k 2 c,.slice k2 1 c2])/\mz w' k c k2 c2 E L/\aw X w'):=ae (fun X hX=>by
   have h1:=ofL (v:=.slice ka 2 kc) (UY.out.below hX) (HI5.out.mono hX.size (fun _ _ h=>h) (fun b hb _=>hX.block b hb));rw[<-hE,<-hL,UZ,Lt] at h1
   exact h1)
  have HSm:Hid (∀X k c k2 c2 k3 c3 k4 c4,mz X k c k2 c2 E L->mz X k3 c3 k4 c4 E L->Calls Tryz.prog 39 #[.agg #[.slice k 2 c,.slice k2 1 c2],.agg #[.slice k3 2 c3,.slice k4 1 c4]] X fun e w'=>e=.returned (.bool true)/\aw X w'):=ae (fun X k c k2 c2 k3 c3 k4 c4 h1 h2=>by
   have h:=axA E E L L k c k2 c2 k3 c3 k4 c4 X h1 h2 true ai;unfold tv at h;rw[UZ,Lt] at h
   exact h)
  have ZV:Hid (∀X,aw w5 X->Calls Tryz.prog 9 #[.slice (some ⟨A,0,none⟩) 1 1] X fun e w'=>e=.returned (.string ⟨List.toArray [48,58,32,115,116,97,114,116,32,48,32,48,10]⟩)/\aw X w'):=ae (fun X hX=>by
   have h:=PU [fg] (.slice (some ⟨A,0,none⟩) 1 1) X (zf.out.kept hX ax) au aBz au (UY.out.below hX);rw[aBw] at h
   exact h)
  have HP2:Hid (∀X,aw w5 X->Calls Tryz.prog 9 #[.slice ka 2 kc] X fun e w'=>e=.returned (.string ⟨List.toArray [48,58,32,115,116,97,114,116,32,48,32,48,10,49,58,32,116,105,109,101,114,32,48,32,48,32,91,100,114,97,119,32,48,46,50,46,48,32,48,32,61,32,50,47,51,93,32,42,32,97,102,116,101,114,32,48,10]⟩)/\aw X w'):=ae (fun X hX=>by
   have h:=PU [fg,fT] (.slice ka 2 kc) X (EN.out.kept hX ax) au alV au (UY.out.below hX);rw[aBx] at h
   exact h)
  have HWy:Hid (∀X,aw w5 X->Calls Tryz.prog 13 #[.slice ka 2 kc,I 1] X fun e w'=>∃u,e=.returned u/\br w' u [0,1]/\aw X w'):=ae (fun X hX=>by
   have h:=alM [fg,fT] (.slice ka 2 kc) X (EN.out.kept hX ax) au 1 au;rw[aBy] at h
   exact h)
  clear ia i0 EB HI5 hE hL jy hg5 UW UX acb Jy alX alY UU Hr2 Hak Qd mD Hw4 Hz2 Hz4 q0 q1 q2 q3 q4;unfold tv at Hp;rw[UZ,Lt] at Hp
  go_wp2_with (go_at_call 18;refine Hp.out.mono ?_;rintro e w6 ⟨⟨k,c,k2,c2,rfl,hT⟩,rq⟩)
  have Va:aw w5 (w6.alloc (.cells #[.slice k 2 c,.slice k2 1 c2] 49)):=rq.alloc rq.size _;have Jz:az (w6.alloc (.cells #[.slice k 2 c,.slice k2 1 c2] 49)) w6.heap.size #[.slice k 2 c,.slice k2 1 c2]:=az.new _ _ _;have hT7:mz (w6.alloc (.cells #[.slice k 2 c,.slice k2 1 c2] 49)) k c k2 c2 E L:=hT.kept ((Below.refl _ _).alloc ax _)
  obtain⟨V0,hV0⟩:∃V0,V0=w6.alloc (.cells #[.slice k 2 c,.slice k2 1 c2] 49):=⟨_,rfl⟩
  obtain⟨G,hG⟩:∃G,G=w6.heap.size:=⟨_,rfl⟩
  rw[<-hV0] at Va Jz hT7⊢;rw[<-hG] at Jz⊢;clear hV0 hG
  obtain⟨V,hV⟩:∃V,V=V0.drew:=⟨_,rfl⟩
  have uy:=ae (show aw w5 V by rw[hV];exact Va.drew);have Vb:=ae (show az V G #[.slice k 2 c,.slice k2 1 c2] by rw[hV];exact Jz.drew);have HTV:=ae (show mz V k c k2 c2 E L by rw[hV];exact hT7.kept ((Below.refl _ _).drew));have Dg:Hid (∀X,aw V X->X.cell? ⟨G,0,none⟩=some (.slice k 2 c)/\X.cell? ⟨G,1,none⟩=some (.slice k2 1 c2)):=ae (fun X hX=>⟨(Vb.out.kept hX Vb.out.lt).cell 0,(Vb.out.kept hX Vb.out.lt).cell 1⟩);have HD:=ae (Below.refl V.heap.size V);have hSV:=Dg.out _ HD.out;clear Va Jz hT7 hT rq UZ Lt;refine Rk 22 (.take 0 (.move 1 (.take 2 (.take 3 (.take 4 (.move 5 (.take 6 (.take 7 (.take 8 (.take 9 (.take 10 (.take 11 (.take 12 (.take 13 (.take 14 (.move 15 (.move 16 (.take 17 (.take 18 (.take 19 (.fork 20 21 (.move 21 .nil) (.move 20 .nil)))))))))))))))))))))) (fun X=>X.cell? ⟨G,0,none⟩=some (.slice k 2 c)/\X.cell? ⟨G,1,none⟩=some (.slice k2 1 c2)) ah rfl ah (by rw[<-hV];exact hSV) ?_;rw[<-hV];clear hV hSV
  iterate 1 refine qu ?_
  refine kR rfl (fun K hK=> ?_);go_simp;go_at_call 9;refine(ZV.out _ (uy.out.trans (HD.out.mono uy.out.size))).mono ?_;rintro e V1 ⟨rfl,F⟩;replace HD:=ae (HD.out.trans (F.mono HD.out.size));refine hK.out _ _ (Dg.out _ HD.out) ?_;clear hK K F;refine cJ ?_
  iterate 3 refine qu ?_
  refine kR rfl (fun K hK=> ?_);go_simp;go_at_call 9;refine(HP2.out _ (uy.out.trans (HD.out.mono uy.out.size))).mono ?_;rintro e V2 ⟨rfl,F⟩;replace HD:=ae (HD.out.trans (F.mono HD.out.size));refine hK.out _ _ (Dg.out _ HD.out) ?_;clear hK K F;refine cJ ?_
  iterate 9 refine qu ?_
  refine kR rfl (fun K hK=> ?_);go_simp;go_at_call 40;refine(HOf.out _ (uy.out.trans (HD.out.mono uy.out.size))).mono ?_;rintro e V3 ⟨k3,c3,k4,c4,rfl,sM,F⟩;have LH:=ae sM;clear sM;replace HD:=ae (HD.out.trans (F.mono HD.out.size));refine hK.out _ _ (Dg.out _ HD.out) ?_;clear hK K F;refine cJ ?_;refine kR rfl (fun K hK=> ?_);go_simp;go_at_call 39;refine(HSm.out _ k c k2 c2 k3 c3 k4 c4 (HTV.out.kept HD.out) LH.out).mono ?_;rintro e V4 ⟨rfl,F⟩;replace HD:=ae (HD.out.trans (F.mono HD.out.size));refine hK.out _ _ (Dg.out _ HD.out) ?_;clear hK K F;refine cJ ?_
  iterate 3 refine qu ?_
  refine Np ?_ ?_
  ·refine kR rfl (fun K hK=> ?_);go_simp;go_at_call 13;refine(HWy.out _ (uy.out.trans (HD.out.mono uy.out.size))).mono ?_;rintro e V5 ⟨u,rfl,hI,F⟩;obtain⟨ku,cu,rfl,_⟩:=hI.open;have HI:=ae hI;clear hI;replace HD:=ae (HD.out.trans (F.mono HD.out.size));refine hK.out _ _ (Dg.out _ HD.out) ?_;clear hK K F;refine cJ ?_;refine kR rfl (fun K hK=> ?_);go_simp;have F:aw V5 (V5.alloc (.cells #[I 0,I 1] 3)):=(Below.refl _ _).alloc ax _;have HJ:Hid (br (V5.alloc (.cells #[I 0,I 1] 3)) (.slice (some ⟨V5.heap.size,0,none⟩) 2 2) [0,1]):=ae (Flat.wN rfl au (fun j u hu=>by rw[fu,(az.new V5 #[I 0,I 1] 3).cell j,<-hu];simp[iv]));replace HI:=ae (br.kept HI.out F ax);replace HD:=ae (HD.out.trans (F.mono HD.out.size));refine hK.out _ _ (Dg.out _ HD.out) ?_;clear hK K F;refine cJ ?_;refine DU ?_;have Hf:=ae (Re [0,1] [0,1] _ _ _ HI.out HJ.out);rw[show decide (([0,1]:List Int)=[0,1])=true from au] at Hf
   go_wp2_with (go_at_call 12;refine Hf.out.mono ?_;rintro e V9 ⟨rfl,q,rfl⟩)
   refine NoPanic.normal ?_;go_wp2_with fail;go_ret;exact⟨rfl,below_drewN (Qe.out.trans ((uy.out.trans (HD.out.mono uy.out.size)).mono Qe.out.size)) _⟩
  ·refine kR rfl (fun K hK=> ?_);go_simp;have F:aw V4 (V4.alloc (.cells #[I 0,I 1] 3)):=(Below.refl _ _).alloc ax _;have HJ:Hid (br (V4.alloc (.cells #[I 0,I 1] 3)) (.slice (some ⟨V4.heap.size,0,none⟩) 2 2) [0,1]):=ae (Flat.wN rfl au (fun j u hu=>by rw[fu,(az.new V4 #[I 0,I 1] 3).cell j,<-hu];simp[iv]))
   obtain⟨V5,hV5⟩:∃V5,V5=V4.alloc (.cells #[I 0,I 1] 3):=⟨_,rfl⟩
   rw[<-hV5] at F HJ⊢;clear hV5;replace HD:=ae (HD.out.trans (F.mono HD.out.size));refine hK.out _ _ (Dg.out _ HD.out) ?_;clear hK K F;refine cJ ?_;refine kR rfl (fun K hK=> ?_);go_simp;go_at_call 13;refine(HWy.out _ (uy.out.trans (HD.out.mono uy.out.size))).mono ?_;rintro e V6 ⟨u,rfl,hI,F⟩;obtain⟨ku,cu,rfl,_⟩:=hI.open;have HI:=ae hI;clear hI;replace HJ:=ae (br.kept HJ.out F ax);replace HD:=ae (HD.out.trans (F.mono HD.out.size));refine hK.out _ _ (Dg.out _ HD.out) ?_;clear hK K F;refine cJ ?_;refine DU ?_;have Hf:=ae (Re [0,1] [0,1] _ _ _ HI.out HJ.out);rw[show decide (([0,1]:List Int)=[0,1])=true from au] at Hf
   go_wp2_with (go_at_call 12;refine Hf.out.mono ?_;rintro e V9 ⟨rfl,q,rfl⟩)
   refine NoPanic.normal ?_;go_wp2_with fail;go_ret;exact⟨rfl,below_drewN (Qe.out.trans ((uy.out.trans (HD.out.mono uy.out.size)).mono Qe.out.size)) _⟩
end
end Go.Proofs.YtkanpepkdcmpmaaGreatDoor
