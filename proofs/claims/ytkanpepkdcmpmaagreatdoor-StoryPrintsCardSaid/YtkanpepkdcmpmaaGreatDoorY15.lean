import Derived.Test.YtkanpepkdcmpmaaGreatDoorY14
set_option maxHeartbeats 40000000
set_option maxRecDepth 100000
set_option linter.all false
namespace Go.Proofs.YtkanpepkdcmpmaaGreatDoor
section
open Go.RowKit
theorem axw (a0 a1 a2 a3 a4 a5 b0 b1 b2 b3 b4 b5:Int)(w:World):(binOp .neq 161 (.agg #[I a0,I a1,I a2,I a3,I a4,I a5]) (.agg #[I b0,I b1,I b2,I b3,I b4,I b5])).run Tryz.prog w=.ok (.bool (!cS [a0,a1,a2,a3,a4,a5] [b0,b1,b2,b3,b4,b5])) w:=by
 simp[go_sem,cS]
 repeat' split
 all_goals simp_all
attribute [local go_sem high] axw
theorem aL.DL {a b:aL}:a.ints=b.ints↔a=b:=by
 constructor
 ·intro h;obtain⟨⟨_,_,_,_,_⟩,_⟩:=a;obtain⟨⟨_,_,_,_,_⟩,_⟩:=b;simp[aL.ints] at h;simp[h]
 ·intro h;rw[h]
theorem aiL {α:Type}{l m:List α}(h:l.length=m.length)(hk:l.take l.length=m.take l.length):l=m:=by
 rw[nh ax,nh ab] at hk;exact hk
theorem aiM {α:Type}{l m:List α}{k:Nat}{p q:α}(h1:l[k]? =some p)(h2:m[k]? =some q)(h:p≠q):l≠m:=fun e=>h (by rw[e,h2] at h1;exact(dX h1).symm)
theorem TK {α:Type}{l:List α}{k:Nat}{p:α}(h:l[k]? =some p):l.take (k+1)=l.take k++[p]:=by rw[DB,h];rfl
theorem axx (e1 e2:List Ev)(l1 l2:List aL)(ve1 va1 ve2 va2:Value)(w:World)(TL:oG w ve1 e1)(zi:kS w va1 l1)(he2:oG w ve2 e2)(AY:kS w va2 l2):
  Calls Tryz.prog 39 #[.agg #[ve1,va1],.agg #[ve2,va2]] w fun e w'=>e=.returned (.bool (decide (e1=e2) && decide (l1=l2)))/\aw w w':=by
 obtain⟨k1,c1,rfl,Ij⟩:=TL.open;obtain⟨k2,c2,rfl,Aq⟩:=he2.open;obtain⟨k3,c3,rfl,TM⟩:=zi.open;obtain⟨k4,c4,rfl,hm4⟩:=AY.open;have aY:=bL.start w #[.slice k1 e1.length c1,.slice k3 l1.length c3] #[.slice k2 e2.length c2,.slice k4 l2.length c4] 49;have He1:=ae TL;have He2:=ae he2;have Ha1:=ae zi;have Ha2:=ae AY;have mH:=aY.1.cell;have EY:=aY.2.1.cell;have oh:=aY.2.2.1;clear TL he2 zi AY;by_cases hle:e1.length=e2.length
 ·by_cases uh:l1.length=l2.length
  ·obtain⟨n1,iN⟩:∃n,n=e1.length:=⟨_,rfl⟩
   obtain⟨n2,LQ⟩:∃n,n=l1.length:=⟨_,rfl⟩
   have CF:e2.length=n1:=ab;have Lv:l2.length=n2:=ab;rw[<-iN,<-LQ,CF,Lv] at aY mH EY oh;rw[<-iN,<-LQ,CF,Lv];have aam:=He1.out;have aan:=He2.out;have aao:=Ha1.out;have aap:=Ha2.out;rw[<-iN] at aam Ij;rw[CF] at aan Aq;rw[<-LQ] at aao TM;rw[Lv] at aap hm4;have HE1:=ae aam;have HE2:=ae aan;have vQ:=ae aao;have CG:=ae aap;have Hn1:=ae iN;have IX:=ae LQ;have Hn3:=ae CF;have Hn4:=ae Lv;clear aam aan aao aap He1 He2 Ha1 Ha2 hle uh iN LQ CF Lv;go_enter Tryz.func39,Tryz.ntmps39;go_wp2_with fail;go_loopw [5] (fun i wr=>∃k:Nat,k<=n1/\i=.int .i64 k/\Hid (e1.take k=e2.take k)/\bL w #[.slice k1 n1 c1,.slice k3 n2 c3] #[.slice k2 n1 c2,.slice k4 n2 c4] wr) (fun i _=>n1-(intOf i).toNat)
   case atStart=>exact⟨0,ab,rfl,ae ai,aY⟩
   case round=>
    clear aY mH EY oh;obtain⟨k,hk,rfl,HT,gu⟩:=hrel;have mH:=gu.1.cell;have EY:=gu.2.1.cell;by_cases hlt:k<n1
    ·have h1:k<e1.length:=by rw[<-Hn1.out];exact hlt
     have h2:k<e2.length:=by rw[Hn3.out];exact hlt
     obtain⟨p,hp⟩:∃p,e1[k]? =some p:=⟨_,cw h1⟩
     obtain⟨q,hq⟩:∃q,e2[k]? =some q:=⟨_,cw h2⟩
     obtain⟨b,o,rfl,hr⟩:=oG.at (HE1.out.kept gu.2.2.1 ax) (i:=k) (x:=p) hp;obtain⟨b2,o2,rfl,eA⟩:=oG.at (HE2.out.kept gu.2.2.1 ax) (i:=k) (x:=q) hq;have x0:wr.cell? ⟨b,o+k*8,none⟩=_:=hr 0 _ rfl;have x1:=hr 1 _ rfl;have x2:=hr 2 _ rfl;have x3:=hr 3 _ rfl;have x4:=hr 4 _ rfl;have x5:=hr 5 _ rfl;have x6:=hr 6 _ rfl;have x7:=hr 7 _ rfl;have y0:wr.cell? ⟨b2,o2+k*8,none⟩=_:=eA 0 _ rfl;have y1:=eA 1 _ rfl;have y2:=eA 2 _ rfl;have y3:=eA 3 _ rfl;have y4:=eA 4 _ rfl;have y5:=eA 5 _ rfl;have y6:=eA 6 _ rfl;have y7:=eA 7 _ rfl;have Hp:=ae hp;have Hq:=ae hq;clear hr eA h1 h2 hp hq;by_cases he:p=q
     ·have heq:cS [p.kind,p.node,p.arg,p.msg.node,p.msg.handler,p.msg.count,p.msg.index,p.msg.copy] [q.kind,q.node,q.arg,q.msg.node,q.msg.handler,q.msg.count,q.msg.index,q.msg.copy]=true:=Ra (Ev.DL.2 he);have He:=ae he;clear he;go_wp2_with fail;refine kO 11 [(0,true),(1,true),(2,true),(3,true),(4,true),(5,true),(6,true),(7,true),(8,true),(9,true),(10,true)] (fun w'=>∀a,w'.cell? a=wr.cell? a) ah rfl rfl ah (fun _=>rfl) ?_
      iterate 11 refine gA ?_
      refine kP ?_
      (try simp only[heq])
      go_wp2_with fail;refine NoPanic.normal ?_;go_wp2_with fail;go_roundw
      case rel=>exact⟨k+1,ab,by go_num,ae (by rw[TK Hp.out,TK Hq.out,HT.out,He.out]),gu.drew⟩
      case measure=>simp[intOf];omega
     ·have heq:cS [p.kind,p.node,p.arg,p.msg.node,p.msg.handler,p.msg.count,p.msg.index,p.msg.copy] [q.kind,q.node,q.arg,q.msg.node,q.msg.handler,q.msg.count,q.msg.index,q.msg.copy]=false:=Rb (fun h=>he (Ev.DL.1 h));have He:=ae he;clear he;go_wp2_with fail;refine kO 11 [(0,true),(1,true),(2,true),(3,true),(4,true),(5,true),(6,true),(7,true),(8,true),(9,true),(10,true)] (fun w'=>∀a,w'.cell? a=wr.cell? a) ah rfl rfl ah (fun _=>rfl) ?_
      iterate 11 refine gA ?_
      refine kP ?_
      (try simp only[heq])
      go_wp2_with fail;refine NoPanic.normal ?_;go_wp2_with fail;go_ret;refine⟨eY ?_,gu.2.2.1.drew⟩;rw[jk (aiM Hp.out Hq.out He.out),Bool.false_and]
    ·obtain rfl:k=n1:=ab
     obtain⟨wo,rfl⟩:∃wo,wo=wr:=⟨_,rfl⟩
     have HEQ:=ae (show e1=e2 from aiL (by rw[<-Hn1.out,Hn3.out]) (by rw[<-Hn1.out];exact HT.out));have Tt:=ae gu;clear gu HT;go_wp2_with fail;go_loopw [6] (fun i wr=>∃m:Nat,m<=n2/\i=.int .i64 m/\Hid (l1.take m=l2.take m)/\bL w #[.slice k1 k c1,.slice k3 n2 c3] #[.slice k2 k c2,.slice k4 n2 c4] wr) (fun i _=>n2-(intOf i).toNat)
     case atStart=>exact⟨0,ab,rfl,ae ai,Tt.out⟩
     case round=>
      clear Tt mH EY;obtain⟨j,hj,rfl,HT,gu⟩:=hrel;have mH:=gu.1.cell;have EY:=gu.2.1.cell;by_cases hlt:j<n2
      ·have h1:j<l1.length:=by rw[<-IX.out];exact hlt
       have h2:j<l2.length:=by rw[Hn4.out];exact hlt
       obtain⟨p,hp⟩:∃p,l1[j]? =some p:=⟨_,cw h1⟩
       obtain⟨q,hq⟩:∃q,l2[j]? =some q:=⟨_,cw h2⟩
       obtain⟨b,o,rfl,hr⟩:=kS.at (vQ.out.kept gu.2.2.1 ax) (i:=j) (x:=p) hp;obtain⟨b2,o2,rfl,eA⟩:=kS.at (CG.out.kept gu.2.2.1 ax) (i:=j) (x:=q) hq;have x0:wr.cell? ⟨b,o+j*6,none⟩=_:=hr 0 _ rfl;have x1:=hr 1 _ rfl;have x2:=hr 2 _ rfl;have x3:=hr 3 _ rfl;have x4:=hr 4 _ rfl;have x5:=hr 5 _ rfl;have y0:wr.cell? ⟨b2,o2+j*6,none⟩=_:=eA 0 _ rfl;have y1:=eA 1 _ rfl;have y2:=eA 2 _ rfl;have y3:=eA 3 _ rfl;have y4:=eA 4 _ rfl;have y5:=eA 5 _ rfl;have Hp:=ae hp;have Hq:=ae hq;clear hr eA h1 h2 hp hq;by_cases he:p=q
       ·have heq:cS [p.q.node,p.q.handler,p.q.count,p.q.kind,p.q.index,p.n] [q.q.node,q.q.handler,q.q.count,q.q.kind,q.q.index,q.n]=true:=Ra (aL.DL.2 he);have He:=ae he;clear he;go_wp2_with fail;refine kO 11 [(0,true),(1,true),(2,true),(3,true),(4,true),(5,true),(6,true),(7,true),(8,true),(9,true),(10,true)] (fun w'=>∀a,w'.cell? a=wr.cell? a) ah rfl rfl ah (fun _=>rfl) ?_
        iterate 11 refine gA ?_
        refine kP ?_
        (try simp only[heq])
        go_wp2_with fail;refine NoPanic.normal ?_;go_wp2_with fail;go_roundw
        case rel=>exact⟨j+1,ab,by go_num,ae (by rw[TK Hp.out,TK Hq.out,HT.out,He.out]),gu.drew⟩
        case measure=>simp[intOf];omega
       ·have heq:cS [p.q.node,p.q.handler,p.q.count,p.q.kind,p.q.index,p.n] [q.q.node,q.q.handler,q.q.count,q.q.kind,q.q.index,q.n]=false:=Rb (fun h=>he (aL.DL.1 h));have He:=ae he;clear he;go_wp2_with fail;refine kO 11 [(0,true),(1,true),(2,true),(3,true),(4,true),(5,true),(6,true),(7,true),(8,true),(9,true),(10,true)] (fun w'=>∀a,w'.cell? a=wr.cell? a) ah rfl rfl ah (fun _=>rfl) ?_
        iterate 11 refine gA ?_
        refine kP ?_
        (try simp only[heq])
        go_wp2_with fail;refine NoPanic.normal ?_;go_wp2_with fail;go_ret;refine⟨eY ?_,gu.2.2.1.drew⟩;rw[jk (aiM Hp.out Hq.out He.out),Bool.and_false]
      ·obtain rfl:j=n2:=ab;go_wp2_with fail;go_ret;refine⟨eY ?_,gu.2.2.1⟩;rw[ft HEQ.out,ft (aiL (by rw[<-IX.out,Hn4.out]) (by rw[<-IX.out];exact HT.out))];rfl
  ·have q2:¬((l1.length:Int)=l2.length):=ab;rw[hle] at mH oh;rw[hle];go_enter Tryz.func39,Tryz.ntmps39;go_wp2_with fail;go_ret;refine⟨eY ?_,oh⟩;rw[jk (show¬l1=l2 from fun e=>uh (by rw[e])),Bool.and_false]
 ·have q1:¬((e1.length:Int)=e2.length):=ab;go_enter Tryz.func39,Tryz.ntmps39;go_wp2_with fail;go_ret;refine⟨eY ?_,oh⟩;rw[jk (show¬e1=e2 from fun e=>hle (by rw[e])),Bool.false_and]
end
section
open Go.RowKit Go.Maps
def q0:Qn:=⟨0,0,0,1,0⟩
end
section
open Go.RowKit Go.Maps
def mz (w:World)(k:Option Addr)(c:Nat)(k2:Option Addr)(c2:Nat)(evs:List Ev)(l:List aL):Prop:=oG w (.slice k evs.length c) evs/\kS w (.slice k2 l.length c2) l
abbrev tv (k:Option Addr)(c:Nat)(k2:Option Addr)(c2:Nat)(evs:List Ev)(l:List aL):Value:=.agg #[.slice k evs.length c,.slice k2 l.length c2]
abbrev qv (q:Qn):Value:=.agg #[I q.node,I q.handler,I q.count,I q.kind,I q.index]
theorem mz.kept {w w':World}{k:Option Addr}{c:Nat}{k2:Option Addr}{c2:Nat}{evs:List Ev}{l:List aL}(h:mz w k c k2 c2 evs l)(hb:aw w w'):mz w' k c k2 c2 evs l:=⟨h.1.kept hb ax,h.2.kept hb ax⟩
theorem mz.of {w:World}{B B':Nat}{ue ua:Value}{evs:List Ev}{l:List aL}(h1:w.ownsRow B 41 8 ue evs.length (evs.flatMap ec))(h2:w.ownsRow B' 161 6 ua l.length (l.flatMap ac)):∃k c k2 c2,ue=.slice k evs.length c/\ua=.slice k2 l.length c2/\mz w k c k2 c2 evs l:=by
 obtain⟨k,c,rfl,_⟩:=(Flat.eu h1).open;obtain⟨k2,c2,rfl,_⟩:=(Flat.eu h2).open;exact⟨k,c,k2,c2,rfl,rfl,Flat.eu h1,Flat.eu h2⟩
theorem axy (e1 e2:List Ev)(l1 l2:List aL)(k:Option Addr)(c:Nat)(k2:Option Addr)(c2:Nat)(k3:Option Addr)(c3:Nat)(k4:Option Addr)(c4:Nat)(w:World)(h1:mz w k c k2 c2 e1 l1)(h2:mz w k3 c3 k4 c4 e2 l2):
  Calls Tryz.prog 39 #[tv k c k2 c2 e1 l1,tv k3 c3 k4 c4 e2 l2] w fun e w'=>e=.returned (.bool (decide (e1=e2) && decide (l1=l2)))/\aw w w':=axx e1 e2 l1 l2 _ _ _ _ w h1.1 h1.2 h2.1 h2.2
end
section
open Go.RowKit
theorem axz {w:World}{a:Option Addr}{len cap:Nat}{zs:List Int}(h:(a=none/\len=0/\cap=0/\zs=[])\/
  ∃x,a=some x/\len<=cap/\cap<=maxLen/\zs.length=cap/\(∀i,i<zs.length->w.cell? (x.add i)=some (.int .i64 (zs.getD i 0)))/\∀n∈zs,(Lit.int .i64 n).wf=true):
  ∃l:List Int,br w (.slice a len cap) l/\∀x∈l,bY x:=by
 rcases h with⟨rfl,rfl,rfl,rfl⟩|⟨x,rfl,h1,h2,h3,h4,h5⟩
 ·exact⟨[],Flat.nil _ _ _ _,fun x hx=>by simp at hx⟩
 ·refine⟨zs.take len,?_,fun y hy=>bounds_i64 (h5 y (tu hy))⟩
  have hlen:(zs.take len).length=len:=by rw[dN];omega
  unfold br;by_cases hz:0<zs.length
  ·obtain⟨b,off,rfl,hc⟩:=ints_at h4 hz;unfold maxLen at h2
   have:=Flat.wN (w:=w) (k:=1) (n:=len) (c:=cap) (b:=b) (o:=off) (xs:=iv (zs.take len)) (by rw[iv,dE,hlen,Nat.mul_one]) ab (fun j u hu=>by
    have hj:j<len:=by have:=(bK.1 hu).1;simp[iv] at this;omega
    rw[hc j ab,<-hu];have hjz:j<zs.length:=ab
    simp[iv,hj,hjz])
   rw[hlen];exact this
  ·have h0:zs=[]:=BC.1 ab;subst h0
   have:len=0:=by simp at h3;omega
   subst this;exact Flat.nil _ _ _ _
end
section
open Go.RowKit
theorem mz.owns {w:World}{B B':Nat}{k k2:Option Addr}{c c2:Nat}{evs:List Ev}{l:List aL}(h1:w.ownsRow B 41 8 (.slice k evs.length c) evs.length (evs.flatMap ec))(h2:w.ownsRow B' 161 6 (.slice k2 l.length c2) l.length (l.flatMap ac)):mz w k c k2 c2 evs l:=⟨Flat.eu h1,Flat.eu h2⟩
end
section
open Go.RowKit
def Ask.CC (a:Ask):aL:=⟨⟨a.node,a.handler,a.count,a.kind,a.index⟩,a.n⟩
def zj (l:List ay):List Ev:=l.map ay.ev
def xH (l:List ay):List aL:=l.flatMap fun s=>s.asks.map Ask.CC
structure Two (W0 W:World)(gt:Nat)(ve va:Value)(evs:List Ev)(l:List aL):Prop where
 dM:az W gt #[ve,va]
 oe:W.ownsRow (gt+1) 41 8 ve evs.length (evs.flatMap ec)
 oa:W.ownsRow (gt+1) 161 6 va l.length (l.flatMap ac)
 ne:∀j,ve.ownBlock=some j->va.ownBlock≠some j
 below:Below gt W0 W
theorem Two.later {W0 W X:World}{gt:Nat}{ve va:Value}{evs:List Ev}{l:List aL}(h:Two W0 W gt ve va evs l)(hb:aw W X):Two W0 X gt ve va evs l:=
 ⟨h.dM.kept hb h.dM.lt,pj h.oe hb,pj h.oa hb,h.ne,h.below.trans (hb.mono (by have:=h.dM.lt;omega))⟩
end
section
open Go.RowKit
variable {B N:Nat} {v:Value} {w:World} {xs:List Int}
def Bytes (w:World)(B:Nat)(v:Value)(xs:List Int):Prop:=w.ownsRow B 5 1 v xs.length (bv xs)
theorem Bytes.join{M:Nat}{ys:List Int}{u:Value}(hN:N=xs.length)(hM:M=ys.length)(h:w.ownsRow B 5 1 u (N+M) (bv xs++bv ys)):Bytes w B u (xs++ys):=by
 subst hN hM;unfold Bytes;rw[List.length_append,awA];exact h
theorem Bytes.below{w':World}(h:Bytes w B v xs)(hb:aw w w'):Bytes w' B v xs:=pj h hb
theorem Bytes.open(h:Bytes w B v xs):∃k c,v=.slice k xs.length c:=by
 obtain⟨k,c,e,_⟩:=(Flat.eu h).open;exact⟨k,c,e⟩
theorem Bytes.own(h:Bytes w B v xs)(hN:Hid (N=xs.length)):w.ownsRow B 5 1 v N (bv xs):=by
 rw[hN.out];exact h
theorem Bytes.nil(w:World)(B:Nat):Bytes w B (.slice none 0 0) []:=ko _ _ _ _
end
section
open Go.RowKit
structure aaq (W:World)(ga i:Nat)(k:Option Addr)(c:Nat)(k2:Option Addr)(c2:Nat)(evs:List Ev)(l:List aL):Prop where
 cell:W.cell? ⟨ga,i*2,none⟩=some (.slice k evs.length c)/\W.cell? ⟨ga,i*2+1,none⟩=some (.slice k2 l.length c2)
 tape:mz W k c k2 c2 evs l
 ok:(∀e∈evs,e.ok)/\∀a∈l,a.ok
 len:evs.length<=10/\l.length<=10
theorem aaq.kept {W W':World}{ga i:Nat}{k:Option Addr}{c:Nat}{k2:Option Addr}{c2:Nat}{evs:List Ev}{l:List aL}(h:aaq W ga i k c k2 c2 evs l)(hb:aw W W'):aaq W' ga i k c k2 c2 evs l:=by
 have h0:=iT _ _ h.cell.1;exact⟨⟨by rw[hb.cell (by simpa using h0)];exact h.cell.1,by rw[hb.cell (by simpa using h0)];exact h.cell.2⟩,h.tape.kept hb,h.ok,h.len⟩
theorem axA (e1 e2:List Ev)(l1 l2:List aL)(k:Option Addr)(c:Nat)(k2:Option Addr)(c2:Nat)(k3:Option Addr)(c3:Nat)(k4:Option Addr)(c4:Nat)(w:World)(h1:mz w k c k2 c2 e1 l1)(h2:mz w k3 c3 k4 c4 e2 l2)(b:Bool)(hb:b=(decide (e1=e2) && decide (l1=l2))):
  Calls Tryz.prog 39 #[tv k c k2 c2 e1 l1,tv k3 c3 k4 c4 e2 l2] w fun e w'=>e=.returned (.bool b)/\aw w w':=by
 subst hb;exact axy e1 e2 l1 l2 k c k2 c2 k3 c3 k4 c4 w h1 h2
structure aar (W:World)(gk i:Nat)(q:Qn):Prop where
 c0:W.cell? ⟨gk,i*5,none⟩=some (I q.node)
 c1:W.cell? ⟨gk,i*5+1,none⟩=some (I q.handler)
 c2:W.cell? ⟨gk,i*5+2,none⟩=some (I q.count)
 c3:W.cell? ⟨gk,i*5+3,none⟩=some (I q.kind)
 c4:W.cell? ⟨gk,i*5+4,none⟩=some (I q.index)
theorem aar.kept {W W':World}{gk i:Nat}{q:Qn}(h:aar W gk i q)(hb:aw W W'):aar W' gk i q:=by
 have h0:=iT _ _ h.c0
 have key:∀o,W'.cell? ⟨gk,o,none⟩=W.cell? ⟨gk,o,none⟩:=fun o=>hb.cell (by simpa using h0)
 exact⟨(key _).trans h.c0,(key _).trans h.c1,(key _).trans h.c2,(key _).trans h.c3,(key _).trans h.c4⟩
end
end Go.Proofs.YtkanpepkdcmpmaaGreatDoor
