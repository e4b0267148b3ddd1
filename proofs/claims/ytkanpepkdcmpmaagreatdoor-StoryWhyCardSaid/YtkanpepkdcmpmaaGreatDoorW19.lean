import Derived.Test.YtkanpepkdcmpmaaGreatDoorW18
set_option maxHeartbeats 40000000
set_option maxRecDepth 100000
set_option linter.all false
namespace Go.Proofs.YtkanpepkdcmpmaaGreatDoor
section
open Go.RowKit
theorem axD (a0 a1 a2 a3 a4 a5 b0 b1 b2 b3 b4 b5:Int)(w:World):(binOp .neq 161 (.agg #[I a0,I a1,I a2,I a3,I a4,I a5]) (.agg #[I b0,I b1,I b2,I b3,I b4,I b5])).run Tryz.prog w=.ok (.bool (!cL [a0,a1,a2,a3,a4,a5] [b0,b1,b2,b3,b4,b5])) w:=by
 simp[go_sem,cL]
 repeat' split
 all_goals simp_all
attribute [local go_sem high] axD
theorem aL.zS {a b:aL}:a.ints=b.ints↔a=b:=by
 constructor
 ·intro h;obtain⟨⟨_,_,_,_,_⟩,_⟩:=a;obtain⟨⟨_,_,_,_,_⟩,_⟩:=b;simp[aL.ints] at h;simp[h]
 ·intro h;rw[h]
theorem aiT {α:Type}{l m:List α}(h:l.length=m.length)(hk:l.take l.length=m.take l.length):l=m:=by
 rw[nB ax,nB ab] at hk;exact hk
theorem aiU {α:Type}{l m:List α}{k:Nat}{p q:α}(h1:l[k]? =some p)(h2:m[k]? =some q)(h:p≠q):l≠m:=fun e=>h (by rw[e,h2] at h1;exact(eA h1).symm)
theorem TV {α:Type}{l:List α}{k:Nat}{p:α}(h:l[k]? =some p):l.take (k+1)=l.take k++[p]:=by rw[DL,h];rfl
theorem axE (e1 e2:List Ev)(l1 l2:List aL)(ve1 va1 ve2 va2:Value)(w:World)(TW:oP w ve1 e1)(zi:lh w va1 l1)(he2:oP w ve2 e2)(Bj:lh w va2 l2):
  Calls Tryz.prog 39 #[.agg #[ve1,va1],.agg #[ve2,va2]] w fun e w'=>e=.returned (.bool (decide (e1=e2) && decide (l1=l2)))/\aw w w':=by
 obtain⟨k1,c1,rfl,Iv⟩:=TW.open;obtain⟨k2,c2,rfl,AD⟩:=he2.open;obtain⟨k3,c3,rfl,TX⟩:=zi.open;obtain⟨k4,c4,rfl,hm4⟩:=Bj.open;have aX:=bO.start w #[.slice k1 e1.length c1,.slice k3 l1.length c3] #[.slice k2 e2.length c2,.slice k4 l2.length c4] 49;have He1:=ae TW;have He2:=ae he2;have Ha1:=ae zi;have Ha2:=ae Bj;have mS:=aX.1.cell;have Fj:=aX.2.1.cell;have oA:=aX.2.2.1;clear TW he2 zi Bj;by_cases hle:e1.length=e2.length
 ·by_cases uh:l1.length=l2.length
  ·obtain⟨n1,iY⟩:∃n,n=e1.length:=⟨_,rfl⟩
   obtain⟨n2,LZ⟩:∃n,n=l1.length:=⟨_,rfl⟩
   have CP:e2.length=n1:=ab;have LC:l2.length=n2:=ab;rw[<-iY,<-LZ,CP,LC] at aX mS Fj oA;rw[<-iY,<-LZ,CP,LC];have aao:=He1.out;have aap:=He2.out;have aaq:=Ha1.out;have aar:=Ha2.out;rw[<-iY] at aao Iv;rw[CP] at aap AD;rw[<-LZ] at aaq TX;rw[LC] at aar hm4;have HE1:=ae aao;have HE2:=ae aap;have vR:=ae aaq;have CQ:=ae aar;have Hn1:=ae iY;have Jf:=ae LZ;have Hn3:=ae CP;have Hn4:=ae LC;clear aao aap aaq aar He1 He2 Ha1 Ha2 hle uh iY LZ CP LC;go_enter Tryz.func39,Tryz.ntmps39;go_wp2_with fail;go_loopw [5] (fun i wr=>∃k:Nat,k<=n1/\i=.int .i64 k/\Hid (e1.take k=e2.take k)/\bO w #[.slice k1 n1 c1,.slice k3 n2 c3] #[.slice k2 n1 c2,.slice k4 n2 c4] wr) (fun i _=>n1-(intOf i).toNat)
   case atStart=>exact⟨0,ab,rfl,ae ai,aX⟩
   case round=>
    clear aX mS Fj oA;obtain⟨k,hk,rfl,HT,gE⟩:=hrel;have mS:=gE.1.cell;have Fj:=gE.2.1.cell;by_cases hlt:k<n1
    ·have h1:k<e1.length:=by rw[<-Hn1.out];exact hlt
     have h2:k<e2.length:=by rw[Hn3.out];exact hlt
     obtain⟨p,hp⟩:∃p,e1[k]? =some p:=⟨_,cz h1⟩
     obtain⟨q,hq⟩:∃q,e2[k]? =some q:=⟨_,cz h2⟩
     obtain⟨b,o,rfl,hr⟩:=oP.at (HE1.out.kept gE.2.2.1 ax) (i:=k) (x:=p) hp;obtain⟨b2,o2,rfl,eD⟩:=oP.at (HE2.out.kept gE.2.2.1 ax) (i:=k) (x:=q) hq;have x0:wr.cell? ⟨b,o+k*8,none⟩=_:=hr 0 _ rfl;have x1:=hr 1 _ rfl;have x2:=hr 2 _ rfl;have x3:=hr 3 _ rfl;have x4:=hr 4 _ rfl;have x5:=hr 5 _ rfl;have x6:=hr 6 _ rfl;have x7:=hr 7 _ rfl;have y0:wr.cell? ⟨b2,o2+k*8,none⟩=_:=eD 0 _ rfl;have y1:=eD 1 _ rfl;have y2:=eD 2 _ rfl;have y3:=eD 3 _ rfl;have y4:=eD 4 _ rfl;have y5:=eD 5 _ rfl;have y6:=eD 6 _ rfl;have y7:=eD 7 _ rfl;have Hp:=ae hp;have Hq:=ae hq;clear hr eD h1 h2 hp hq;by_cases he:p=q
     ·have heq:cL [p.kind,p.node,p.arg,p.msg.node,p.msg.handler,p.msg.count,p.msg.index,p.msg.copy] [q.kind,q.node,q.arg,q.msg.node,q.msg.handler,q.msg.count,q.msg.index,q.msg.copy]=true:=Kr (Ev.zS.2 he);have He:=ae he;clear he;go_wp2_with fail;refine kY 11 [(0,true),(1,true),(2,true),(3,true),(4,true),(5,true),(6,true),(7,true),(8,true),(9,true),(10,true)] (fun w'=>∀a,w'.cell? a=wr.cell? a) ah rfl rfl ah (fun _=>rfl) ?_
      iterate 11 refine gI ?_
      refine kZ ?_
      (try simp only[heq])
      go_wp2_with fail;refine NoPanic.normal ?_;go_wp2_with fail;go_roundw
      case rel=>exact⟨k+1,ab,by go_num,ae (by rw[TV Hp.out,TV Hq.out,HT.out,He.out]),gE.drew⟩
      case measure=>simp[intOf];omega
     ·have heq:cL [p.kind,p.node,p.arg,p.msg.node,p.msg.handler,p.msg.count,p.msg.index,p.msg.copy] [q.kind,q.node,q.arg,q.msg.node,q.msg.handler,q.msg.count,q.msg.index,q.msg.copy]=false:=Ks (fun h=>he (Ev.zS.1 h));have He:=ae he;clear he;go_wp2_with fail;refine kY 11 [(0,true),(1,true),(2,true),(3,true),(4,true),(5,true),(6,true),(7,true),(8,true),(9,true),(10,true)] (fun w'=>∀a,w'.cell? a=wr.cell? a) ah rfl rfl ah (fun _=>rfl) ?_
      iterate 11 refine gI ?_
      refine kZ ?_
      (try simp only[heq])
      go_wp2_with fail;refine NoPanic.normal ?_;go_wp2_with fail;go_ret;refine⟨fj ?_,gE.2.2.1.drew⟩;rw[jw (aiU Hp.out Hq.out He.out),Bool.false_and]
    ·obtain rfl:k=n1:=ab
     obtain⟨wo,rfl⟩:∃wo,wo=wr:=⟨_,rfl⟩
     have HEQ:=ae (show e1=e2 from aiT (by rw[<-Hn1.out,Hn3.out]) (by rw[<-Hn1.out];exact HT.out));have TA:=ae gE;clear gE HT;go_wp2_with fail;go_loopw [6] (fun i wr=>∃m:Nat,m<=n2/\i=.int .i64 m/\Hid (l1.take m=l2.take m)/\bO w #[.slice k1 k c1,.slice k3 n2 c3] #[.slice k2 k c2,.slice k4 n2 c4] wr) (fun i _=>n2-(intOf i).toNat)
     case atStart=>exact⟨0,ab,rfl,ae ai,TA.out⟩
     case round=>
      clear TA mS Fj;obtain⟨j,hj,rfl,HT,gE⟩:=hrel;have mS:=gE.1.cell;have Fj:=gE.2.1.cell;by_cases hlt:j<n2
      ·have h1:j<l1.length:=by rw[<-Jf.out];exact hlt
       have h2:j<l2.length:=by rw[Hn4.out];exact hlt
       obtain⟨p,hp⟩:∃p,l1[j]? =some p:=⟨_,cz h1⟩
       obtain⟨q,hq⟩:∃q,l2[j]? =some q:=⟨_,cz h2⟩
       obtain⟨b,o,rfl,hr⟩:=lh.at (vR.out.kept gE.2.2.1 ax) (i:=j) (x:=p) hp;obtain⟨b2,o2,rfl,eD⟩:=lh.at (CQ.out.kept gE.2.2.1 ax) (i:=j) (x:=q) hq;have x0:wr.cell? ⟨b,o+j*6,none⟩=_:=hr 0 _ rfl;have x1:=hr 1 _ rfl;have x2:=hr 2 _ rfl;have x3:=hr 3 _ rfl;have x4:=hr 4 _ rfl;have x5:=hr 5 _ rfl;have y0:wr.cell? ⟨b2,o2+j*6,none⟩=_:=eD 0 _ rfl;have y1:=eD 1 _ rfl;have y2:=eD 2 _ rfl;have y3:=eD 3 _ rfl;have y4:=eD 4 _ rfl;have y5:=eD 5 _ rfl;have Hp:=ae hp;have Hq:=ae hq;clear hr eD h1 h2 hp hq;by_cases he:p=q
       ·have heq:cL [p.q.node,p.q.handler,p.q.count,p.q.kind,p.q.index,p.n] [q.q.node,q.q.handler,q.q.count,q.q.kind,q.q.index,q.n]=true:=Kr (aL.zS.2 he);have He:=ae he;clear he;go_wp2_with fail;refine kY 11 [(0,true),(1,true),(2,true),(3,true),(4,true),(5,true),(6,true),(7,true),(8,true),(9,true),(10,true)] (fun w'=>∀a,w'.cell? a=wr.cell? a) ah rfl rfl ah (fun _=>rfl) ?_
        iterate 11 refine gI ?_
        refine kZ ?_
        (try simp only[heq])
        go_wp2_with fail;refine NoPanic.normal ?_;go_wp2_with fail;go_roundw
        case rel=>exact⟨j+1,ab,by go_num,ae (by rw[TV Hp.out,TV Hq.out,HT.out,He.out]),gE.drew⟩
        case measure=>simp[intOf];omega
       ·have heq:cL [p.q.node,p.q.handler,p.q.count,p.q.kind,p.q.index,p.n] [q.q.node,q.q.handler,q.q.count,q.q.kind,q.q.index,q.n]=false:=Ks (fun h=>he (aL.zS.1 h));have He:=ae he;clear he;go_wp2_with fail;refine kY 11 [(0,true),(1,true),(2,true),(3,true),(4,true),(5,true),(6,true),(7,true),(8,true),(9,true),(10,true)] (fun w'=>∀a,w'.cell? a=wr.cell? a) ah rfl rfl ah (fun _=>rfl) ?_
        iterate 11 refine gI ?_
        refine kZ ?_
        (try simp only[heq])
        go_wp2_with fail;refine NoPanic.normal ?_;go_wp2_with fail;go_ret;refine⟨fj ?_,gE.2.2.1.drew⟩;rw[jw (aiU Hp.out Hq.out He.out),Bool.and_false]
      ·obtain rfl:j=n2:=ab;go_wp2_with fail;go_ret;refine⟨fj ?_,gE.2.2.1⟩;rw[fF HEQ.out,fF (aiT (by rw[<-Jf.out,Hn4.out]) (by rw[<-Jf.out];exact HT.out))];rfl
  ·have q2:¬((l1.length:Int)=l2.length):=ab;rw[hle] at mS oA;rw[hle];go_enter Tryz.func39,Tryz.ntmps39;go_wp2_with fail;go_ret;refine⟨fj ?_,oA⟩;rw[jw (show¬l1=l2 from fun e=>uh (by rw[e])),Bool.and_false]
 ·have q1:¬((e1.length:Int)=e2.length):=ab;go_enter Tryz.func39,Tryz.ntmps39;go_wp2_with fail;go_ret;refine⟨fj ?_,oA⟩;rw[jw (show¬e1=e2 from fun e=>hle (by rw[e])),Bool.false_and]
end
section
open Go.RowKit Go.Maps
def q0:Qn:=⟨0,0,0,1,0⟩
end
section
open Go.RowKit Go.Maps
def lz (w:World)(k:Option Addr)(c:Nat)(k2:Option Addr)(c2:Nat)(evs:List Ev)(l:List aL):Prop:=oP w (.slice k evs.length c) evs/\lh w (.slice k2 l.length c2) l
abbrev tv (k:Option Addr)(c:Nat)(k2:Option Addr)(c2:Nat)(evs:List Ev)(l:List aL):Value:=.agg #[.slice k evs.length c,.slice k2 l.length c2]
abbrev qv (q:Qn):Value:=.agg #[I q.node,I q.handler,I q.count,I q.kind,I q.index]
theorem lz.kept {w w':World}{k:Option Addr}{c:Nat}{k2:Option Addr}{c2:Nat}{evs:List Ev}{l:List aL}(h:lz w k c k2 c2 evs l)(hb:aw w w'):lz w' k c k2 c2 evs l:=⟨h.1.kept hb ax,h.2.kept hb ax⟩
theorem lz.of {w:World}{B B':Nat}{ue ua:Value}{evs:List Ev}{l:List aL}(h1:w.ownsRow B 41 8 ue evs.length (evs.flatMap ec))(h2:w.ownsRow B' 161 6 ua l.length (l.flatMap ac)):∃k c k2 c2,ue=.slice k evs.length c/\ua=.slice k2 l.length c2/\lz w k c k2 c2 evs l:=by
 obtain⟨k,c,rfl,_⟩:=(Flat.eB h1).open;obtain⟨k2,c2,rfl,_⟩:=(Flat.eB h2).open;exact⟨k,c,k2,c2,rfl,rfl,Flat.eB h1,Flat.eB h2⟩
theorem axF (e1 e2:List Ev)(l1 l2:List aL)(k:Option Addr)(c:Nat)(k2:Option Addr)(c2:Nat)(k3:Option Addr)(c3:Nat)(k4:Option Addr)(c4:Nat)(w:World)(h1:lz w k c k2 c2 e1 l1)(h2:lz w k3 c3 k4 c4 e2 l2):
  Calls Tryz.prog 39 #[tv k c k2 c2 e1 l1,tv k3 c3 k4 c4 e2 l2] w fun e w'=>e=.returned (.bool (decide (e1=e2) && decide (l1=l2)))/\aw w w':=axE e1 e2 l1 l2 _ _ _ _ w h1.1 h1.2 h2.1 h2.2
end
section
open Go.RowKit
theorem axG {w:World}{a:Option Addr}{len cap:Nat}{zs:List Int}(h:(a=none/\len=0/\cap=0/\zs=[])\/
  ∃x,a=some x/\len<=cap/\cap<=maxLen/\zs.length=cap/\(∀i,i<zs.length->w.cell? (x.add i)=some (.int .i64 (zs.getD i 0)))/\∀n∈zs,(Lit.int .i64 n).wf=true):
  ∃l:List Int,br w (.slice a len cap) l/\∀x∈l,cJ x:=by
 rcases h with⟨rfl,rfl,rfl,rfl⟩|⟨x,rfl,h1,h2,h3,h4,h5⟩
 ·exact⟨[],Flat.nil _ _ _ _,fun x hx=>by simp at hx⟩
 ·refine⟨zs.take len,?_,fun y hy=>bounds_i64 (h5 y (tC hy))⟩
  have hlen:(zs.take len).length=len:=by rw[dN];omega
  unfold br;by_cases hz:0<zs.length
  ·obtain⟨b,off,rfl,hc⟩:=ints_at h4 hz;unfold maxLen at h2
   have:=Flat.qD (w:=w) (k:=1) (n:=len) (c:=cap) (b:=b) (o:=off) (xs:=iv (zs.take len)) (by rw[iv,dI,hlen,Nat.mul_one]) ab (fun j u hu=>by
    have hj:j<len:=by have:=(bN.1 hu).1;simp[iv] at this;omega
    rw[hc j ab,<-hu];have hjz:j<zs.length:=ab
    simp[iv,hj,hjz])
   rw[hlen];exact this
  ·have h0:zs=[]:=BK.1 ab;subst h0
   have:len=0:=by simp at h3;omega
   subst this;exact Flat.nil _ _ _ _
end
section
open Go.RowKit
theorem lz.owns {w:World}{B B':Nat}{k k2:Option Addr}{c c2:Nat}{evs:List Ev}{l:List aL}(h1:w.ownsRow B 41 8 (.slice k evs.length c) evs.length (evs.flatMap ec))(h2:w.ownsRow B' 161 6 (.slice k2 l.length c2) l.length (l.flatMap ac)):lz w k c k2 c2 evs l:=⟨Flat.eB h1,Flat.eB h2⟩
end
section
open Go.RowKit
def Ask.CM (a:Ask):aL:=⟨⟨a.node,a.handler,a.count,a.kind,a.index⟩,a.n⟩
def zj (l:List az):List Ev:=l.map az.ev
def xy (l:List az):List aL:=l.flatMap fun s=>s.asks.map Ask.CM
structure Two (W0 W:World)(gt:Nat)(ve va:Value)(evs:List Ev)(l:List aL):Prop where
 du:ay W gt #[ve,va]
 oe:W.ownsRow (gt+1) 41 8 ve evs.length (evs.flatMap ec)
 oa:W.ownsRow (gt+1) 161 6 va l.length (l.flatMap ac)
 ne:∀j,ve.ownBlock=some j->va.ownBlock≠some j
 below:Below gt W0 W
theorem Two.later {W0 W X:World}{gt:Nat}{ve va:Value}{evs:List Ev}{l:List aL}(h:Two W0 W gt ve va evs l)(hb:aw W X):Two W0 X gt ve va evs l:=
 ⟨h.du.kept hb h.du.lt,pB h.oe hb,pB h.oa hb,h.ne,h.below.trans (hb.mono (by have:=h.du.lt;omega))⟩
end
end Go.Proofs.YtkanpepkdcmpmaaGreatDoor
