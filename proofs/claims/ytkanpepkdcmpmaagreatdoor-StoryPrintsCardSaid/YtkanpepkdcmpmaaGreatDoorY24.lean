import Derived.Test.YtkanpepkdcmpmaaGreatDoorY22
import Derived.Test.YtkanpepkdcmpmaaGreatDoorY15
import Derived.Test.YtkanpepkdcmpmaaGreatDoorY23
set_option maxHeartbeats 40000000
set_option maxRecDepth 100000
set_option linter.all false
namespace Go.Proofs.YtkanpepkdcmpmaaGreatDoor
section
open Go.RowKit
variable {g:Nat} {l:List aj} {w w':World}
theorem iE.below(h:iE w g l)(hb:aw w w'):iE w' g l:=by
 have hlt:g<w.heap.size:=(ng.1 h).1;exact(hb.block g hlt).trans h
theorem iE.lt(h:iE w g l):g<w.heap.size:=(ng.1 h).1
theorem iE.grown{p:Nat}(h:iE w g l)(hb:w.grownBy w' (some p))(hne:g≠p):iE w' g l:=
 (hb.block g h.lt (fun e=>hne (dX e))).trans h
def pQ (q:Qn):Array Value:=#[I q.node,I q.handler,I q.count,I q.kind,I q.index]
end
namespace Ab
open Go Go.RowKit
end Ab
section
open Go.RowKit
end
section
open Go.RowKit
def iH (e:Ev):Array Value:=#[I e.kind,I e.node,I e.arg,I e.msg.node,I e.msg.handler,I e.msg.count,I e.msg.index,I e.msg.copy]
end
section
open Go.RowKit
variable {Q p:Nat} {X X' w:World} {q:Qn} {r:RS}
theorem gD.below(h:gD X p r)(hb:aw X X'):gD X' p r:=az.kept h hb (az.lt h)
def z6:Array Value:=#[I 0,I 0,I 0,I 0,I 0,I 0]
structure vY (w X:World)(p Q:Nat)(r:RS)(q:Qn):Prop where
 rd:gD X p r
 res:az X w.heap.size z6
 qb:az X Q (pQ q)
 gr:w.grownBy X (some p)
 gl:Gl X
 hp:p<w.heap.size
 hQ:w.heap.size<Q
 h8:8<=p
theorem vY.step{r':RS}(h:vY w X p Q r q)(hr:gD X' p r')(hg:X.grownBy X' (some p)):vY w X' p Q r' q:=
 ⟨hr,h.res.grown hg (fun e=>by have h1:=dX e;have:=h.hp;omega),h.qb.grown hg (fun e=>by have h1:=dX e;have:=h.hp;have:=h.hQ;omega),h.gr.trans hg,h.gl.grown hg h.h8,h.hp,h.hQ,h.h8⟩
theorem vY.alloc(h:vY w X p Q r q)(o:Obj):vY w (X.alloc o) p Q r q:=
 h.step (h.rd.below ((Below.refl _ _).alloc ax o)) (zI X o (some p))
theorem abm{g:Nat}(h:w.grownBy X (some p))(hg:X.grownBy X' (some g))(hn:w.heap.size<=g):w.grownBy X' (some p):=
 ⟨hg.os.trans h.os,hg.tape.trans h.tape,hg.output.trans h.output,bj h.size hg.size,fun k hk hne=>(hg.block k (jj hk h.size) (fun e=>by have:=dX e;omega)).trans (h.block k hk hne)⟩
end
section
open Go.RowKit
variable {E p:Nat} {X X' w:World} {r:RS}
def z8:Array Value:=#[I 0,I 0,I 0,I 0,I 0,I 0,I 0,I 0]
structure lQ (w X:World)(p E:Nat)(r:RS)(ev:Ev):Prop where
 rd:gD X p r
 res:az X w.heap.size z8
 Mi:az X E (iH ev)
 gr:w.grownBy X (some p)
 gl:Gl X
 hp:p<w.heap.size
 hE:w.heap.size<E
 h8:8<=p
theorem lQ.step{r':RS}{ev:Ev}(h:lQ w X p E r ev)(hr:gD X' p r')(hg:X.grownBy X' (some p)):lQ w X' p E r' ev:=
 ⟨hr,h.res.grown hg (fun e=>by have h1:=dX e;have:=h.hp;omega),h.Mi.grown hg (fun e=>by have h1:=dX e;have:=h.hp;have:=h.hE;omega),h.gr.trans hg,h.gl.grown hg h.h8,h.hp,h.hE,h.h8⟩
theorem lQ.below{ev:Ev}(h:lQ w X p E r ev)(hb:aw X X'):lQ w X' p E r ev:=
 h.step (h.rd.below hb) (AE hb _)
theorem lQ.alloc{ev:Ev}(h:lQ w X p E r ev)(o:Obj):lQ w (X.alloc o) p E r ev:=h.below ((Below.refl _ _).alloc ax o)
theorem lQ.row{g:Nat}{ev:Ev}(h:lQ w X p E r ev)(hg:X.grownBy X' (some g))(hE:E<g):lQ w X' p E r ev:=by
 have h1:=h.hp;have h2:=h.hE;exact⟨az.grown h.rd hg (fun e=>by have:=dX e;omega),h.res.grown hg (fun e=>by have:=dX e;omega),h.Mi.grown hg (fun e=>by have:=dX e;omega),abm h.gr hg ab,h.gl.grown hg (by have:=h.h8;omega),h1,h2,h.h8⟩
theorem cH(a b:aj):(⟨a.toArray⟩:ByteArray)++(⟨b.toArray⟩:ByteArray)=⟨(a++b).toArray⟩:=SV ai
end
section
open Go.RowKit
def Cq.evs:Cq->List Ev
 | .ok e _=>e
 |_=>[]
def Cq.CC:Cq->List aL
 | .ok _ a=>lP a
 |_=>[]
def Cq.code:Cq->Int
 | .ok _ _=>0
 | .form=>8
 | .tD=>2
end
section
open Go.RowKit
def ou (n:Int):Bool:=decide (0<=n) && decide (n<=2147483647)
def uo (a b c h:Int):Bool:=decide (0<=a) && decide (a<12) && decide (0<=b) && decide (b<h) && ou c
def bQ.zero (m:bQ):Bool:=cS m.ints [0,0,0,0,0]
def oX (e:Ev):Bool:=
 if e.node<0 then false
 else if 11<e.node then false
 else if e.kind=1\/e.kind=2\/e.kind=4 then ou e.arg && e.msg.zero
 else if e.kind=3\/e.kind=5\/e.kind=6 then decide (e.arg=0) && uo e.msg.node e.msg.handler e.msg.count 40 && ou e.msg.index && ou e.msg.copy
 else if e.kind=7 then decide (e.arg=0) && e.msg.zero
 else false
def iI:List Int->aj
 |[]=>[]
 |[n]=>Lib.decDigits n.toNat
 |n::m::l=>Lib.decDigits n.toNat++[46]++iI (m::l)
def CV (e:Ev):aj:=
 let h:=dL.getD e.kind.toNat []++[32]++Lib.decDigits e.node.toNat
 if e.kind=1\/e.kind=2\/e.kind=4 then h++[32]++Lib.decDigits e.arg.toNat
 else if e.kind=7 then h
 else h++[32]++iI e.msg.ints
def ei (e:Ev):aj:=if oX e=true then CV e else []
end
section
open Go.RowKit
theorem Pp:∀(k n:Nat),n<10^(k+1)->(Lib.decDigits n).length<=k+1
 |0,n,h=>by rw[Lib.decDigits_one (by simpa using h)];simp
 |k+1,n,h=>by
  by_cases h1:n<10
  ·rw[Lib.decDigits_one h1];simp
  ·rw[Lh n h1];have:=Pp k (n/10) (by rw[Nat.pow_succ] at h;omega);simp;omega
theorem decl (n:Nat)(h:n<=2147483647):(Lib.decDigits n).length<=10:=Pp 9 n ab
end
section
open Go.RowKit
theorem Ut {n:Int}:ou n=true↔0<=n/\n<=2147483647:=by simp[ou]
theorem akj {a b c h:Int}:uo a b c h=true↔(0<=a/\a<12)/\(0<=b/\b<h)/\0<=c/\c<=2147483647:=by simp[uo,ou,and_assoc]
theorem bQ.akk (m:bQ):m.zero=true↔m=⟨0,0,0,0,0⟩:=by
 obtain⟨a,b,c,d,e⟩:=m
 by_cases h:[a,b,c,d,e]=[0,0,0,0,0]
 ·have h1:(⟨a,b,c,d,e⟩:bQ).zero=true:=Ra h;simp only[h1,true_iff];simpa using h
 ·have h1:(⟨a,b,c,d,e⟩:bQ).zero=false:=Rb h;rw[h1];simpa using h
theorem Fk (e:Ev):oX e=true↔sQ e:=by
 unfold oX sQ;split
 ·simp;omega
 ·split
  ·simp;omega
  ·split
   ·rename_i h1 h2 h;rw[bV,Ut,bQ.akk];constructor
    ·rintro⟨h3,h4⟩;exact⟨ab,ab,.inl ⟨h,h3,h4⟩⟩
    ·rintro⟨_,_,⟨_,h3,h4⟩|⟨h5,_⟩|⟨h5,_⟩⟩
     ·exact⟨h3,h4⟩
     ·omega
     ·omega
   ·split
    ·rename_i h1 h2 h3 h;rw[bV,bV,bV,Ut,Ut,akj,dh];constructor
     ·rintro⟨⟨⟨h4,h5⟩,h6⟩,h7⟩;exact⟨ab,ab,.inr (.inl ⟨h,h4,h5,h6,h7⟩)⟩
     ·rintro⟨_,_,⟨h5,_⟩|⟨_,h4,h5,h6,h7⟩|⟨h5,_⟩⟩
      ·omega
      ·exact⟨⟨⟨h4,h5⟩,h6⟩,h7⟩
      ·omega
    ·split
     ·rename_i h1 h2 h3 h4 h;rw[bV,bQ.akk,dh];constructor
      ·rintro⟨h5,h6⟩;exact⟨ab,ab,.inr (.inr ⟨h,h5,h6⟩)⟩
      ·rintro⟨_,_,⟨h5,_⟩|⟨h5,_⟩|⟨_,h5,h6⟩⟩
       ·omega
       ·omega
       ·exact⟨h5,h6⟩
     ·rename_i h1 h2 h3 h4 h5;constructor
      ·intro h;cases h
      ·rintro⟨_,_,⟨h,_⟩|⟨h,_⟩|⟨h,_⟩⟩
       ·exact absurd h h3
       ·exact absurd h h4
       ·exact absurd h h5
theorem akl (k:Nat):(dL.getD k []).length<=7:=by
 by_cases h:k<8
 ·have:∀x:Fin 8,(dL.getD x.val []).length<=7:=au;exact this ⟨k,h⟩
 ·rw[fo,qh (by simp[dL];omega)];simp
end
section
open Go.RowKit
def CW (q:Qn):Bool:=decide (1<=q.kind) && decide (q.kind<=3) && uo q.node q.handler q.count 41 && ou q.index
theorem Fl (q:Qn):CW q=true↔CO q:=by
 unfold CW CO;rw[bV,bV,bV,Ut,akj,dh,dh,and_assoc]
def Mj (q:Qn):aj:=eh.getD q.kind.toNat []++[32]++iI [q.node,q.handler,q.count]++[32]++Lib.decDigits q.index.toNat
def gQ (q:Qn):aj:=if CW q=true then Mj q else []
theorem akm (k:Nat)(h:k<4):(eh.getD k []).length<=4:=by
 have:∀x:Fin 4,(eh.getD x.val []).length<=4:=au;exact this ⟨k,h⟩
end
section
open Go.RowKit
def z5:Array Value:=#[I 0,I 0,I 0,I 0,I 0]
end
end Go.Proofs.YtkanpepkdcmpmaaGreatDoor
