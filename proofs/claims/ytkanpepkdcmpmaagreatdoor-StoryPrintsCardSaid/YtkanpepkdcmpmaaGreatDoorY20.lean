import Derived.Test.YtkanpepkdcmpmaaGreatDoorY16
set_option maxHeartbeats 40000000
set_option maxRecDepth 100000
set_option linter.all false
namespace Go.Proofs.YtkanpepkdcmpmaaGreatDoor
namespace Ab
open Go Go.RowKit
attribute [local irreducible] aM bt aX
open aD (fX zW uN sd aT)
abbrev TS (q:Qn):List AC:=[iA q.node,iA q.handler,iA q.count,iA q.kind,iA q.index]
abbrev IZ (a:aL):List AC:=[iA a.q.node,iA a.q.handler,iA a.q.count,iA a.q.kind,iA a.q.index,iA a.n]
abbrev nL (l:List aL):AC:=.sl (l.map IZ)
theorem axS {a m:Qn}(h:a≠m):¬(a.node=m.node/\a.handler=m.handler/\a.count=m.count/\a.kind=m.kind/\a.index=m.index):=fun⟨h1,h2,h3,h4,h5⟩=>h (by cases a;cases m;simp_all)
theorem aiV (l:List aL)(q:Qn)(hl:l.length<=1000000):aU Tryz.prog 257 [.c (nL l),.agg (TS q)] (fun x=>x=.w (.c (iA (eO l q)))):=by
 refine cC Tryz.func257 aN [tz 5 6] [.t 4] [3,4,5,6] [3] ?_;have FF:=trivial
 try refine aF ?_
 refine dv (fun n V S=>∃k:Nat,k<=l.length/\n=l.length-k/\
  V=[(0,.w (.c (nL l))),(1,.w (.agg (TS q))),(3,.pb 3 1 0),(4,.w (.c (iA 0))),(5,.w (.c (iA (eO (l.take k) q)))),(6,.w (.c (iA k)))]/\S=[(3,.box 1 (TS q))]) (n:=l.length) ⟨0,ab,ab,rfl,rfl⟩ ?_
 rintro n V L S ⟨k,hk,rfl,rfl,rfl⟩;by_cases hlt:k<l.length
 ·have cD:k<=1000000000:=ab
  obtain⟨x,hx⟩:∃x,l[k]=x:=⟨_,rfl⟩
  have hg:eO (l.take (k+1)) q=if x.q=q then max 0 x.n else eO (l.take k) q:=by rw[List.take_succ_eq_append_getElem hlt,WG,hx]
  generalize eO (l.take k) q=gv at hg⊢;by_cases he:x.q=q
  ·rw[aq he] at hg;have hmx:max x.n 0=max 0 x.n:=ab;have FF:=gZ @hlt @hx @he (bN cD) @hmx
   try refine aF ?_
   exact⟨l.length-(k+1),ab,k+1,ab,ab,by rw[hg];rfl,rfl⟩
  ·rw[af he] at hg;have hne:=axS he;have FF:=eW @hlt @hx @hne (bN cD)
   try refine aF ?_
   exact⟨l.length-(k+1),ab,k+1,ab,ab,by rw[hg];rfl,rfl⟩
 ·have kF:k=l.length:=ab;have FF:=@hlt
  try refine aF ?_
  refine zE ?_;exact(by rw[kF,fK];rfl)
theorem aaB (l:List aL)(q:Qn)(k:Int)(hk:k≠0)(hl:l.length<=1000000):aU Tryz.prog 204 [.c (nL l),.agg (TS q),.c (iA k)] (fun x=>x=.w (.c (iA (fX l q k)))):=by
 refine cC Tryz.func204 aN [] [.t 6] [4,6] [4] ?_
 have FF:=(fun a=>NR (a:=a) hk)
 refine bJ (aiV l q hl) ?_;refine zE ?_;exact(rfl)
theorem axT (l:List Int)(k:Int)(set:Bool)(n:Nat):(((List.range (n+1)).map Int.ofNat).filter fun i=>if i=k then set else decide (i∈l))=(((List.range n).map Int.ofNat).filter fun i=>if i=k then set else decide (i∈l))++if(if(n:Int)=k then set else decide ((n:Int)∈l)) then [(n:Int)] else []:=by
 rw[lV,de,qk];congr 1
 show List.filter _ [(n:Int)]=_
 rw[List.filter_cons];rfl
theorem aiW (l:List Int)(k:Int)(set:Bool)(hl:l.length<=1000000):aU Tryz.prog 285 [.c (ints l),.c (iA k),.c (bA set)] (fun x=>x=.w (.c (ints (zW l k set)))):=by
 refine cC Tryz.func285 (aO [7]) [] [.t 6] [6,7,8,9] [7] ?_;have FF:=trivial
 try refine aF ?_
 refine dv (fun n V S=>∃(j g:Nat) (x9:AV),j<=8/\n=8-j/\(((List.range j).map Int.ofNat).filter fun i=>if i=k then set else decide (i∈l)).length<=j/\
  V=[(0,.w (.c (ints l))),(1,.w (.c (iA k))),(2,.w (.c (bA set))),(6,.w (.c (.sl []))),(7,.w (.c (.own 7 g))),(8,.w (.c (iA j))),(9,x9)]/\S=[(7,.row 3 1 g (bH (((List.range j).map Int.ofNat).filter fun i=>if i=k then set else decide (i∈l))))]) (n:=8) ⟨0,1,.u,ab,rfl,ai,rfl,rfl⟩ ?_
 rintro n V L S ⟨j,g,x9,hj,rfl,hle,rfl,rfl⟩;by_cases hlt:j<8
 ·have iX:(j:Int)<8:=ab;have LS:j<=1000000000:=ab;have ht:=axT l k set j;generalize(((List.range j).map Int.ofNat).filter fun i=>if i=k then set else decide (i∈l))=cur at hle ht⊢;have dB:cur.length+1<=100000000:=ab
  have fin:∀(b:Bool),(if(j:Int)=k then set else decide ((j:Int)∈l))=b->(((List.range (j+1)).map Int.ofNat).filter fun i=>if i=k then set else decide (i∈l))=cur++if b then [(j:Int)] else []:=fun b hb=>by rw[ht,hb]
  by_cases ib:(j:Int)=k
  ·subst ib
   cases set with
   |true=>
    have hf:=fin true (by rw[aq rfl]);have FF:=jB @iX @dB (bN LS);refine bJ (KQ l j hl) ?_;exact⟨8-(j+1),ab,j+1,g+1,_,ab,rfl,by rw[hf];simp;omega,rfl,by rw[hf];simp[bH]⟩
   |false=>
    have hf:=fin false (by rw[aq rfl]);have FF:=jB @iX @dB (bN LS);refine bJ (KQ l j hl) ?_;exact⟨8-(j+1),ab,j+1,g,_,ab,rfl,by rw[hf];simp;omega,rfl,by rw[hf];simp[bH]⟩
  ·by_cases hm:(j:Int)∈l
   ·have hf:=fin true (by rw[af ib];exact ft hm);have FF:=gZ @iX @ib @hm @dB (bN LS);refine bJ (KQ l j hl) ?_;exact⟨8-(j+1),ab,j+1,g+1,_,ab,rfl,by rw[hf];simp;omega,rfl,by rw[hf];simp[bH]⟩
   ·have hf:=fin false (by rw[af ib];exact jk hm);have FF:=gZ @iX @ib @hm @dB (bN LS);refine bJ (KQ l j hl) ?_;exact⟨8-(j+1),ab,j+1,g,_,ab,rfl,by rw[hf];simp;omega,rfl,by rw[hf];simp[bH]⟩
 ·have CI:j=8:=ab;have iX:¬(j:Int)<8:=ab;have FF:=@iX
  try refine aF ?_
  refine zE ?_;exact(by rw[CI];rfl)
open aD (jL wR zV lD)
@[irreducible] def aR (s:aD.Node):List AC:=bA s.up::iA s.version::iA s.fb::iA s.clock::ints s.aZ.cells::tQ s.aZ.pending::ints s.fx::ints s.timers::(nth s.counts 41++[iA s.waiting,iA s.dropped,iA s.dY])
@[simp] theorem TT (s:aD.Node):(aR s).length=52:=by simp[aR]
@[simp] theorem aGL (s:aD.Node):(aR s).take 1=[bA s.up]:=by simp[aR]
@[simp] theorem aiX (s:aD.Node):(aR s).tail.take 1=[iA s.version]:=by simp[aR]
@[simp] theorem axU (s:aD.Node):((aR s).drop 2).take 1=[iA s.fb]:=by simp[aR]
@[simp] theorem axV (s:aD.Node):((aR s).drop 3).take 1=[iA s.clock]:=by simp[aR]
@[simp] theorem axW (s:aD.Node):((aR s).drop 4).take 2=oQ s.aZ:=by simp[aR]
@[simp] theorem aGM (s:aD.Node):((aR s).drop 6).take 1=[ints s.fx]:=by simp[aR]
@[simp] theorem axX (s:aD.Node):((aR s).drop 7).take 1=[ints s.timers]:=by simp[aR]
theorem aaC (s:aD.Node){i:Nat}(h:i<41):((aR s).drop (8+i)).take 1=[iA (s.counts.getD i 0)]:=by
 unfold aR;rw[DG];simp only[qj];rw[BA bq,uE bq];exact aas s.counts 41 i h
theorem aaD (s:aD.Node)(k:Nat):(aR s).drop (49+k)=[iA s.waiting,iA s.dropped,iA s.dY].drop k:=by
 unfold aR;rw[DG];simp only[qj];rw[show k+41=(nth s.counts 41).length+k by simp;omega,<-List.drop_drop,lW]
@[simp] theorem aiY (s:aD.Node):((aR s).drop 49).take 1=[iA s.waiting]:=by rw[aaD s 0];rfl
@[simp] theorem aGN (s:aD.Node):((aR s).drop 50).take 1=[iA s.dropped]:=by rw[aaD s 1];rfl
@[simp] theorem axY (s:aD.Node):((aR s).drop 51).take 1=[iA s.dY]:=by rw[aaD s 2];rfl
@[simp] theorem aiZ (s:aD.Node):(aR s).take 52=aR s:=nh ai
@[simp] theorem TU (s:aD.Node):(aR s).all inl=true:=by simp[aR]
theorem aja (s:aD.Node)(r:List Int)(h:zV s=some r)(hm:s.aZ.cells.length<=1000000)(hp:s.aZ.pending.length<=1000000)(hv:s.fx.length<=1000000):aU Tryz.prog 206 [.agg (aR s)] (fun x=>x=.w (.c (ints r))):=by
 unfold zV at h;rw[bO] at h;obtain⟨c,h1,rfl⟩:=h
 have dB:c.length<=1000000:=by
  have key:∀(l:List (Int×Int)) (c r:List Int),aD.ky c l=some r->r.length=c.length:=by
   intro l
   induction l with
   |nil=>intro c r h;simp only[aD.ky,aA] at h;rw[h]
   |cons x l ih=>
    intro c r h;obtain⟨_,_,h3⟩:=NZ (i:=x.1) (v:=x.2) h;have:=ih _ _ h3;simpa using this
  have:=key _ _ _ h1;omega
 have hlen:c.length+s.fx.length<=100000000:=ab;refine cC Tryz.func206 ⟨0,[],[(252,[107])],[],cU,[],[]⟩ [(1,5,tk 0 2 (tk 3 2 (.move 2 .nil)),[107])] [.t 2] [1,2] [1,107] ?_;have FF:=@hlen
 repeat first|refine vz (KP s.aZ c _ ai h1 hm hp) ?_|refine vA (KP s.aZ c _ ai h1 hm hp) ?_|refine vB rfl (KP s.aZ c _ ai h1 hm hp) ?_|refine aF ?_
 refine zE ?_;exact(by simp[ed])
theorem axZ:aU Tryz.prog 115 [] (fun x=>x=.w (.agg (aR lD))):=by
 refine cC Tryz.func115 aN [] [.cell 0 52] [0] [0] ?_;have FF:=trivial
 try refine aF ?_
 refine zE ?_;exact(by unfold aR;rfl)
open aD (fX uN sd aT)
abbrev Pe (c:aT):List AC:=[iA c.node,iA c.handler,iA c.count]
def TV (a:aL)(c:aT):Prop:=(a.q.node=c.node/\a.q.handler=c.handler/\a.q.count=c.count)/\a.q.kind=1
instance (a:aL)(c:aT):Decidable (TV a c):=inferInstanceAs (Decidable ((a.q.node=c.node/\a.q.handler=c.handler/\a.q.count=c.count)/\a.q.kind=1))
theorem aya (l:List aL)(a:aL)(c:aT):sd (l++[a]) c=if TV a c then max (sd l c) a.q.index else sd l c:=by
 unfold sd TV;rw[zL];rfl
theorem ayb (l:List aL)(c:aT): -1<=sd l c:=by
 unfold sd
 have key:∀(l:List aL) (m:Int),-1<=m→-1<=l.foldl (fun m a=>if(a.q.node=c.node/\a.q.handler=c.handler/\a.q.count=c.count)/\a.q.kind=1 then max m a.q.index else m) m:=by
  intro l
  induction l with
  |nil=>intro m h;exact h
  |cons a l ih=>
   intro m h;apply ih;dsimp only;split<;>omega
 exact key l (-1) ab
def Fe (l:List aL)(c:aT)(n:Nat):List Int:=(List.range n).map fun(i:Nat)=>eO l (c.qn 1 i)
theorem ayc (l:List aL)(c:aT)(n:Nat):Fe l c (n+1)=Fe l c n++[eO l (c.qn 1 n)]:=by simp[Fe,lV]
theorem ayd (l:List aL)(c:aT)(hl:l.length<=1000000):aU Tryz.prog 254 [.c (nL l),.agg (Pe c)] (fun x=>x=.w (.c (ints (uN l c)))):=by
 refine cC Tryz.func254 (aO [5]) [tz 6 11] [.t 4] [3,4,5,6,7,8] [3,5] ?_;have FF:=trivial
 try refine aF ?_
 refine dv (fun n V S=>∃k:Nat,k<=l.length/\n=l.length-k/\
  V=[(0,.w (.c (nL l))),(1,.w (.agg (Pe c))),(3,.pb 3 1 0),(4,.w (.c (.sl []))),(5,.w (.c (.own 5 1))),(6,.w (.c (iA (sd (l.take k) c)))),(7,.w (.c (iA k))),(8,.u)]/\S=[(3,.box 1 (Pe c)),(5,.row 3 1 1 [])]) (n:=l.length) ⟨0,ab,ab,rfl,rfl⟩ ?_
 rintro n V L S ⟨k,hk,rfl,rfl,rfl⟩;by_cases hlt:k<l.length
 ·have cD:k<=1000000000:=ab
  obtain⟨x,hx⟩:∃x,l[k]=x:=⟨_,rfl⟩
  have hg:sd (l.take (k+1)) c=if TV x c then max (sd (l.take k) c) x.q.index else sd (l.take k) c:=by rw[List.take_succ_eq_append_getElem hlt,aya,hx]
  generalize sd (l.take k) c=gv at hg⊢;by_cases h1:x.q.node=c.node/\x.q.handler=c.handler/\x.q.count=c.count
  ·obtain⟨a1,a2,a3⟩:=h1;by_cases h2:x.q.kind=1
   ·rw[aq ⟨⟨a1,a2,a3⟩,h2⟩] at hg;have FF:=kj @hlt @hx @a1 @a2 @a3 @h2 (bN cD)
    try refine aF ?_
    exact⟨l.length-(k+1),ab,k+1,ab,ab,by rw[hg];rfl,rfl⟩
   ·rw[af (fun hh=>h2 hh.2)] at hg;have FF:=kj @hlt @hx @a1 @a2 @a3 @h2 (bN cD)
    try refine aF ?_
    exact⟨l.length-(k+1),ab,k+1,ab,ab,by rw[hg];rfl,rfl⟩
  ·rw[af (fun hh=>h1 hh.1)] at hg;have FF:=eW @hlt @hx @h1 (bN cD)
   try refine aF ?_
   exact⟨l.length-(k+1),ab,k+1,ab,ab,by rw[hg];rfl,rfl⟩
 ·have kF:k=l.length:=ab;have hmg:=ayb l c;have FF:=@hlt
  try refine aF ?_
  rw[kF,fK]
  obtain⟨mm,kN⟩:∃m,sd l c=m:=⟨_,rfl⟩
  have mq:uN l c=Fe l c (min (mm+1).toNat 500):=by unfold uN Fe;rw[kN]
  rw[kN] at hmg⊢
  refine dv (fun n V S=>∃i:Nat,i<=min (mm+1).toNat 500/\n=min (mm+1).toNat 500-i/\
   V=[(0,.w (.c (nL l))),(1,.w (.agg (Pe c))),(3,.pb 3 1 0),(4,.w (.c (.sl []))),(5,.w (.c (.own 5 (i+1)))),(6,.w (.c (iA mm))),(7,.w (.c (iA l.length))),(8,.w (.c (iA i)))]/\S=[(3,.box 1 (Pe c)),(5,.row 3 1 (i+1) (bH (Fe l c i)))]) (n:=min (mm+1).toNat 500) ⟨0,ab,ab,rfl,rfl⟩ ?_
  rintro n V L S ⟨i,hi,rfl,rfl,rfl⟩
  have eF:(Fe l c i).length=i:=by simp[Fe]
  have Pc:i+1<=100000000:=ab;have eN:i<=1000000000:=ab;by_cases CJ:(i:Int)<=mm
  ·by_cases rA:(i:Int)<500
   ·have FF:=gI @CJ @rA @eF @Pc (bN eN) @aD.aT.qn.eq_1;refine bJ (aiV l (c.qn 1 i) hl) ?_;exact⟨min (mm+1).toNat 500-(i+1),ab,i+1,ab,rfl,rfl,by rw[ayc];simp[bH,aD.aT.qn]⟩
   ·have FF:=eV @CJ @rA
    try refine aF ?_
    refine zE ?_;exact(by rw[mq,show min (mm+1).toNat 500=i by omega];rfl)
  ·have FF:=@CJ
   try refine aF ?_
   refine zE ?_;exact(by rw[mq,show min (mm+1).toNat 500=i by omega];rfl)
end Ab
end Go.Proofs.YtkanpepkdcmpmaaGreatDoor
