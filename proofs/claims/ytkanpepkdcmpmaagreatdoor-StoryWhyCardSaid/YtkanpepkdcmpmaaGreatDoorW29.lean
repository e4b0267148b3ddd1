import Derived.Test.YtkanpepkdcmpmaaGreatDoorW27
import Derived.Test.YtkanpepkdcmpmaaGreatDoorW19
import Derived.Test.YtkanpepkdcmpmaaGreatDoorW28
set_option maxHeartbeats 40000000
set_option maxRecDepth 100000
set_option linter.all false
namespace Go.Proofs.YtkanpepkdcmpmaaGreatDoor
section
open Go.RowKit
variable {g:Nat} {l:List aq} {w w':World}
theorem gX.below(h:gX w g l)(hb:aw w w'):gX w' g l:=by
 have hlt:g<w.heap.size:=(nA.1 h).1;exact(hb.block g hlt).trans h
theorem gX.lt(h:gX w g l):g<w.heap.size:=(nA.1 h).1
theorem gX.grown{p:Nat}(h:gX w g l)(hb:w.grownBy w' (some p))(hne:g≠p):gX w' g l:=
 (hb.block g h.lt (fun e=>hne (eA e))).trans h
def nk (q:Qn):Array Value:=#[I q.node,I q.handler,I q.count,I q.kind,I q.index]
def UB (o:Option Qn):Int:=if o.isSome then 0 else 8
def UC (s:aq):Value:=.tuple #[.agg (nk ((kp s).getD pS)),I (UB (kp s))]
end
namespace Ab
open Go Go.RowKit
variable {A:Nat->Prop} {l:List Int} {v:Value} {w:World}
theorem azE(h:WI w A (.agg (l.map iA)) v):v=.agg (l.map I).toArray:=by
 obtain⟨_,arr,rfl,hlen,hc⟩:=h
 have:arr=l.map I:=Nq (by simpa using hlen) fun i h1 h2=>by
  have hi:i<l.length:=by simpa using h2
  have:=hc i (iA l[i]) arr[i] (by simp[hi]) (cz h1);rw[xA (CR.ir (S:=fun _=> .dead 0) (G:=fun _=>gh 0) (H:=fun _=>undef) this rfl),List.getElem_map]
 rw[this]
theorem azF{n:Int}(h:VI w A (.bP [.agg (l.map iA),.c (iA n)]) v):v=.tuple #[.agg (l.map I).toArray,I n]:=by
 obtain⟨arr,rfl,hlen,hc⟩:=h
 match arr,hlen,hc with
 |[u0,u1],_,hc=>
  have h0:=azE (hc 0 _ u0 rfl rfl);have h1:=xA (CR.ir (S:=fun _=> .dead 0) (G:=fun _=>gh 0) (H:=fun _=>undef) (hc 1 _ u1 rfl rfl).2 rfl);subst h0 h1;rfl
theorem akw{f:FuncId}{s:aq}{n:Int}(h:bj Tryz.prog f [.c (sA s)] (fun y=>y=.bP [.agg (l.map iA),.c (iA n)]))(w:World)(hg:Gl w):Calls Tryz.prog f #[sv s] w fun e w'=>e=.returned (.tuple #[.agg (l.map I).toArray,I n])/\aw w w':=by
 refine(h (fun _=>False) w [sv s] ⟨fun b hb=>hb.elim,NI hg⟩ rfl (fun i x u hx hu=> ?_)).mono ?_
 ·match i,hx,hu with
  |0,hx,hu=>
   simp only[ye,aA] at hx hu;subst hx hu;exact Jm rfl
  |i+1,hx,hu=>simp at hx
 ·rintro e w' ⟨v,r,rfl,rfl,hv,hF⟩;exact⟨by rw[azF hv],hF.below⟩
end Ab
section
open Go.RowKit
theorem abo (s:aq)(w:World)(hg:Gl w)(hs:s.length<=4000000000):
  Calls Tryz.prog 78 #[sv s] w fun e w'=>e=.returned (UC s)/\aw w w':=
 Ab.akw (l:=((kp s).getD pS).ints) (n:=UB (kp s)) (Ab.ajQ s hs) w hg
end
section
open Go.RowKit
def gQ (e:Ev):Array Value:=#[I e.kind,I e.node,I e.arg,I e.msg.node,I e.msg.handler,I e.msg.count,I e.msg.index,I e.msg.copy]
def Mq (o:Option Ev):Int:=if o.isSome then 0 else 8
def EvR (s:aq):Value:=.tuple #[.agg (gQ ((il s).getD pR)),I (Mq (il s))]
theorem akx (s:aq)(w:World)(hg:Gl w)(hs:s.length<=4000000000):
  Calls Tryz.prog 76 #[sv s] w fun e w'=>e=.returned (EvR s)/\aw w w':=
 Ab.akw (l:=((il s).getD pR).ints) (n:=Mq (il s)) (Ab.ajP s hs) w hg
end
section
open Go.RowKit
variable {Q p:Nat} {X X' w:World} {q:Qn} {r:RS}
theorem gO.below(h:gO X p r)(hb:aw X X'):gO X' p r:=ay.kept h hb (ay.lt h)
def z6:Array Value:=#[I 0,I 0,I 0,I 0,I 0,I 0]
structure wb (w X:World)(p Q:Nat)(r:RS)(q:Qn):Prop where
 rd:gO X p r
 res:ay X w.heap.size z6
 qb:ay X Q (nk q)
 gr:w.grownBy X (some p)
 gl:Gl X
 hp:p<w.heap.size
 hQ:w.heap.size<Q
 h8:8<=p
theorem wb.step{r':RS}(h:wb w X p Q r q)(hr:gO X' p r')(hg:X.grownBy X' (some p)):wb w X' p Q r' q:=
 ⟨hr,h.res.grown hg (fun e=>by have h1:=eA e;have:=h.hp;omega),h.qb.grown hg (fun e=>by have h1:=eA e;have:=h.hp;have:=h.hQ;omega),h.gr.trans hg,h.gl.grown hg h.h8,h.hp,h.hQ,h.h8⟩
theorem wb.alloc(h:wb w X p Q r q)(o:Obj):wb w (X.alloc o) p Q r q:=
 h.step (h.rd.below ((Below.refl _ _).alloc ax o)) (zK X o (some p))
theorem abp{g:Nat}(h:w.grownBy X (some p))(hg:X.grownBy X' (some g))(hn:w.heap.size<=g):w.grownBy X' (some p):=
 ⟨hg.os.trans h.os,hg.tape.trans h.tape,hg.output.trans h.output,bm h.size hg.size,fun k hk hne=>(hg.block k (ju hk h.size) (fun e=>by have:=eA e;omega)).trans (h.block k hk hne)⟩
end
section
open Go.RowKit
variable {E p:Nat} {X X' w:World} {r:RS}
def z8:Array Value:=#[I 0,I 0,I 0,I 0,I 0,I 0,I 0,I 0]
structure mf (w X:World)(p E:Nat)(r:RS)(ev:Ev):Prop where
 rd:gO X p r
 res:ay X w.heap.size z8
 Mr:ay X E (gQ ev)
 gr:w.grownBy X (some p)
 gl:Gl X
 hp:p<w.heap.size
 hE:w.heap.size<E
 h8:8<=p
theorem mf.step{r':RS}{ev:Ev}(h:mf w X p E r ev)(hr:gO X' p r')(hg:X.grownBy X' (some p)):mf w X' p E r' ev:=
 ⟨hr,h.res.grown hg (fun e=>by have h1:=eA e;have:=h.hp;omega),h.Mr.grown hg (fun e=>by have h1:=eA e;have:=h.hp;have:=h.hE;omega),h.gr.trans hg,h.gl.grown hg h.h8,h.hp,h.hE,h.h8⟩
theorem mf.below{ev:Ev}(h:mf w X p E r ev)(hb:aw X X'):mf w X' p E r ev:=
 h.step (h.rd.below hb) (AU hb _)
theorem mf.alloc{ev:Ev}(h:mf w X p E r ev)(o:Obj):mf w (X.alloc o) p E r ev:=h.below ((Below.refl _ _).alloc ax o)
theorem mf.row{g:Nat}{ev:Ev}(h:mf w X p E r ev)(hg:X.grownBy X' (some g))(hE:E<g):mf w X' p E r ev:=by
 have h1:=h.hp;have h2:=h.hE;exact⟨ay.grown h.rd hg (fun e=>by have:=eA e;omega),h.res.grown hg (fun e=>by have:=eA e;omega),h.Mr.grown hg (fun e=>by have:=eA e;omega),abp h.gr hg ab,h.gl.grown hg (by have:=h.h8;omega),h1,h2,h.h8⟩
theorem bp(a b:aq):(⟨a.toArray⟩:ByteArray)++(⟨b.toArray⟩:ByteArray)=⟨(a++b).toArray⟩:=Tg ai
end
section
open Go.RowKit
def Cz.evs:Cz->List Ev
 | .ok e _=>e
 |_=>[]
def Cz.CM:Cz->List aL
 | .ok _ a=>lx a
 |_=>[]
def Cz.code:Cz->Int
 | .ok _ _=>0
 | .form=>8
 | .tH=>2
end
section
open Go.RowKit
def oE (n:Int):Bool:=decide (0<=n) && decide (n<=2147483647)
def uq (a b c h:Int):Bool:=decide (0<=a) && decide (a<12) && decide (0<=b) && decide (b<h) && oE c
def bR.zero (m:bR):Bool:=cL m.ints [0,0,0,0,0]
def pk (e:Ev):Bool:=
 if e.node<0 then false
 else if 11<e.node then false
 else if e.kind=1\/e.kind=2\/e.kind=4 then oE e.arg && e.msg.zero
 else if e.kind=3\/e.kind=5\/e.kind=6 then decide (e.arg=0) && uq e.msg.node e.msg.handler e.msg.count 40 && oE e.msg.index && oE e.msg.copy
 else if e.kind=7 then decide (e.arg=0) && e.msg.zero
 else false
def iQ:List Int->aq
 |[]=>[]
 |[n]=>Lib.decDigits n.toNat
 |n::m::l=>Lib.decDigits n.toNat++[46]++iQ (m::l)
def De (e:Ev):aq:=
 let h:=dR.getD e.kind.toNat []++[32]++Lib.decDigits e.node.toNat
 if e.kind=1\/e.kind=2\/e.kind=4 then h++[32]++Lib.decDigits e.arg.toNat
 else if e.kind=7 then h
 else h++[32]++iQ e.msg.ints
def eU (e:Ev):aq:=if pk e=true then De e else []
end
section
open Go.RowKit
theorem PE:∀(k n:Nat),n<10^(k+1)->(Lib.decDigits n).length<=k+1
 |0,n,h=>by rw[Lib.decDigits_one (by simpa using h)];simp
 |k+1,n,h=>by
  by_cases h1:n<10
  ·rw[Lib.decDigits_one h1];simp
  ·rw[Lq n h1];have:=PE k (n/10) (by rw[Nat.pow_succ] at h;omega);simp;omega
theorem decl (n:Nat)(h:n<=2147483647):(Lib.decDigits n).length<=10:=PE 9 n ab
end
section
open Go.RowKit
theorem UD {n:Int}:oE n=true↔0<=n/\n<=2147483647:=by simp[oE]
theorem aky {a b c h:Int}:uq a b c h=true↔(0<=a/\a<12)/\(0<=b/\b<h)/\0<=c/\c<=2147483647:=by simp[uq,oE,and_assoc]
theorem bR.akz (m:bR):m.zero=true↔m=⟨0,0,0,0,0⟩:=by
 obtain⟨a,b,c,d,e⟩:=m
 by_cases h:[a,b,c,d,e]=[0,0,0,0,0]
 ·have h1:(⟨a,b,c,d,e⟩:bR).zero=true:=Kr h;simp only[h1,true_iff];simpa using h
 ·have h1:(⟨a,b,c,d,e⟩:bR).zero=false:=Ks h;rw[h1];simpa using h
theorem Fx (e:Ev):pk e=true↔sV e:=by
 unfold pk sV;split
 ·simp;omega
 ·split
  ·simp;omega
  ·split
   ·rename_i h1 h2 h;rw[bZ,UD,bR.akz];constructor
    ·rintro⟨h3,h4⟩;exact⟨ab,ab,.inl ⟨h,h3,h4⟩⟩
    ·rintro⟨_,_,⟨_,h3,h4⟩|⟨h5,_⟩|⟨h5,_⟩⟩
     ·exact⟨h3,h4⟩
     ·omega
     ·omega
   ·split
    ·rename_i h1 h2 h3 h;rw[bZ,bZ,bZ,UD,UD,aky,dv];constructor
     ·rintro⟨⟨⟨h4,h5⟩,h6⟩,h7⟩;exact⟨ab,ab,.inr (.inl ⟨h,h4,h5,h6,h7⟩)⟩
     ·rintro⟨_,_,⟨h5,_⟩|⟨_,h4,h5,h6,h7⟩|⟨h5,_⟩⟩
      ·omega
      ·exact⟨⟨⟨h4,h5⟩,h6⟩,h7⟩
      ·omega
    ·split
     ·rename_i h1 h2 h3 h4 h;rw[bZ,bR.akz,dv];constructor
      ·rintro⟨h5,h6⟩;exact⟨ab,ab,.inr (.inr ⟨h,h5,h6⟩)⟩
      ·rintro⟨_,_,⟨h5,_⟩|⟨h5,_⟩|⟨_,h5,h6⟩⟩
       ·omega
       ·omega
       ·exact⟨h5,h6⟩
     ·rename_i h1 h2 h3 h4 h5;constructor
      ·intro h;cases h
      ·rintro⟨_,_,⟨h,_⟩|⟨h,_⟩|⟨h,_⟩⟩
       ·exact absurd h h3
       ·exact absurd h h4
       ·exact absurd h h5
theorem abq (k:Nat):(dR.getD k []).length<=7:=by
 by_cases h:k<8
 ·have:∀x:Fin 8,(dR.getD x.val []).length<=7:=au;exact this ⟨k,h⟩
 ·rw[fC,qx (by simp[dR];omega)];simp
end
section
open Go.RowKit
def Df (q:Qn):Bool:=decide (1<=q.kind) && decide (q.kind<=3) && uq q.node q.handler q.count 41 && oE q.index
theorem Fy (q:Qn):Df q=true↔CY q:=by
 unfold Df CY;rw[bZ,bZ,bZ,UD,aky,dv,dv,and_assoc]
def Ms (q:Qn):aq:=ew.getD q.kind.toNat []++[32]++iQ [q.node,q.handler,q.count]++[32]++Lib.decDigits q.index.toNat
def ja (q:Qn):aq:=if Df q=true then Ms q else []
theorem abr (k:Nat)(h:k<4):(ew.getD k []).length<=4:=by
 have:∀x:Fin 4,(ew.getD x.val []).length<=4:=au;exact this ⟨k,h⟩
end
section
open Go.RowKit
def z5:Array Value:=#[I 0,I 0,I 0,I 0,I 0]
end
end Go.Proofs.YtkanpepkdcmpmaaGreatDoor
