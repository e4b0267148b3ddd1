import Derived.Test.YtngblilamkkikaaGreatDoorW5
set_option maxHeartbeats 40000000
set_option maxRecDepth 100000
set_option linter.all false
namespace Go.Proofs.YtngblilamkkikaaGreatDoor
namespace Ab
open Go Go.RowKit
attribute [local irreducible] aL bm aU
open aD (fo yt ta qF aT)
abbrev Ra (q:Qn):List AC:=[iA q.node,iA q.handler,iA q.count,iA q.kind,iA q.index]
abbrev FL (a:aI):List AC:=[iA a.q.node,iA a.q.handler,iA a.q.count,iA a.q.kind,iA a.q.index,iA a.n]
abbrev mJ (l:List aI):AC:=.sl (l.map FL)
theorem arw {a m:Qn}(h:a≠m):¬(a.node=m.node/\a.handler=m.handler/\a.count=m.count/\a.kind=m.kind/\a.index=m.index):=fun⟨h1,h2,h3,h4,h5⟩=>h (by cases a;cases m;simp_all)
theorem aeY (l:List aI)(q:Qn)(hl:l.length<=1000000):bu Tryz.prog 226 [.c (mJ l),.agg (Ra q)] (fun x=>x=.w (.c (iA (ek l q)))):=by
 refine cD Tryz.func226 aN [tz 5 6] [.t 4] [3,4,5,6] [3] ?_;have FF:=trivial
 try refine aJ ?_
 refine dB (fun n V S=>∃k:Nat,k<=l.length/\n=l.length-k/\
  V=[(0,.w (.c (mJ l))),(1,.w (.agg (Ra q))),(3,.pb 3 1 0),(4,.w (.c (iA 0))),(5,.w (.c (iA (ek (l.take k) q)))),(6,.w (.c (iA k)))]/\S=[(3,.box 1 (Ra q))]) (n:=l.length) ⟨0,ab,ab,rfl,rfl⟩ ?_
 rintro n V L S ⟨k,hk,rfl,rfl,rfl⟩;by_cases hlt:k<l.length
 ·have cL:k<=1000000000:=ab
  obtain⟨x,hx⟩:∃x,l[k]=x:=⟨_,rfl⟩
  have hg:ek (l.take (k+1)) q=if x.q=q then max 0 x.n else ek (l.take k) q:=by rw[List.take_succ_eq_append_getElem hlt,Vc,hx]
  generalize ek (l.take k) q=gv at hg⊢;by_cases he:x.q=q
  ·rw[aj he] at hg;have hmx:max x.n 0=max 0 x.n:=ab;have FF:=jT @hlt @hx @he (bT cL) @hmx
   try refine aJ ?_
   exact⟨l.length-(k+1),ab,k+1,ab,ab,by rw[hg];rfl,rfl⟩
  ·rw[af he] at hg;have hne:=arw he;have FF:=fT @hlt @hx @hne (bT cL)
   try refine aJ ?_
   exact⟨l.length-(k+1),ab,k+1,ab,ab,by rw[hg];rfl,rfl⟩
 ·have kQ:k=l.length:=ab;have FF:=@hlt
  try refine aJ ?_
  refine zE ?_;exact(by rw[kQ,fx];rfl)
theorem Xf (l:List aI)(q:Qn)(k:Int)(hk:k≠0)(hl:l.length<=1000000):bu Tryz.prog 168 [.c (mJ l),.agg (Ra q),.c (iA k)] (fun x=>x=.w (.c (iA (fo l q k)))):=by
 refine cD Tryz.func168 aN [] [.t 6] [4,6] [4] ?_
 have FF:=(fun a=>Mh (a:=a) hk)
 refine bU (aeY l q hl) ?_;refine zE ?_;exact(rfl)
theorem arx (l:List Int)(k:Int)(set:Bool)(n:Nat):(((List.range (n+1)).map Int.ofNat).filter fun i=>if i=k then set else decide (i∈l))=(((List.range n).map Int.ofNat).filter fun i=>if i=k then set else decide (i∈l))++if(if(n:Int)=k then set else decide ((n:Int)∈l)) then [(n:Int)] else []:=by
 rw[ng,cU,qq];congr 1
 show List.filter _ [(n:Int)]=_
 rw[List.filter_cons];rfl
theorem aeZ (l:List Int)(k:Int)(set:Bool)(hl:l.length<=1000000):bu Tryz.prog 255 [.c (ints l),.c (iA k),.c (bA set)] (fun x=>x=.w (.c (ints (yt l k set)))):=by
 refine cD Tryz.func255 (aO [7]) [] [.t 6] [6,7,8,9] [7] ?_;have FF:=trivial
 try refine aJ ?_
 refine dB (fun n V S=>∃(j g:Nat) (x9:AV),j<=8/\n=8-j/\(((List.range j).map Int.ofNat).filter fun i=>if i=k then set else decide (i∈l)).length<=j/\
  V=[(0,.w (.c (ints l))),(1,.w (.c (iA k))),(2,.w (.c (bA set))),(6,.w (.c (.sl []))),(7,.w (.c (.own 7 g))),(8,.w (.c (iA j))),(9,x9)]/\S=[(7,.row 3 1 g (bL (((List.range j).map Int.ofNat).filter fun i=>if i=k then set else decide (i∈l))))]) (n:=8) ⟨0,1,.u,ab,rfl,ai,rfl,rfl⟩ ?_
 rintro n V L S ⟨j,g,x9,hj,rfl,hle,rfl,rfl⟩;by_cases hlt:j<8
 ·have ik:(j:Int)<8:=ab;have Jy:j<=1000000000:=ab;have ht:=arx l k set j;generalize(((List.range j).map Int.ofNat).filter fun i=>if i=k then set else decide (i∈l))=cur at hle ht⊢;have dp:cur.length+1<=100000000:=ab
  have fin:∀(b:Bool),(if(j:Int)=k then set else decide ((j:Int)∈l))=b->(((List.range (j+1)).map Int.ofNat).filter fun i=>if i=k then set else decide (i∈l))=cur++if b then [(j:Int)] else []:=fun b hb=>by rw[ht,hb]
  by_cases iC:(j:Int)=k
  ·subst iC
   cases set with
   |true=>
    have hf:=fin true (by rw[aj rfl]);have FF:=na @ik @dp (bT Jy);refine bU (Jk l j hl) ?_;exact⟨8-(j+1),ab,j+1,g+1,_,ab,rfl,by rw[hf];simp;omega,rfl,by rw[hf];simp[bL]⟩
   |false=>
    have hf:=fin false (by rw[aj rfl]);have FF:=na @ik @dp (bT Jy);refine bU (Jk l j hl) ?_;exact⟨8-(j+1),ab,j+1,g,_,ab,rfl,by rw[hf];simp;omega,rfl,by rw[hf];simp[bL]⟩
  ·by_cases hm:(j:Int)∈l
   ·have hf:=fin true (by rw[af iC];exact fh hm);have FF:=jT @ik @iC @hm @dp (bT Jy);refine bU (Jk l j hl) ?_;exact⟨8-(j+1),ab,j+1,g+1,_,ab,rfl,by rw[hf];simp;omega,rfl,by rw[hf];simp[bL]⟩
   ·have hf:=fin false (by rw[af iC];exact ja hm);have FF:=jT @ik @iC @hm @dp (bT Jy);refine bU (Jk l j hl) ?_;exact⟨8-(j+1),ab,j+1,g,_,ab,rfl,by rw[hf];simp;omega,rfl,by rw[hf];simp[bL]⟩
 ·have MD:j=8:=ab;have ik:¬(j:Int)<8:=ab;have FF:=@ik
  try refine aJ ?_
  refine zE ?_;exact(by rw[MD];rfl)
open aD (jk uY yr kI)
@[irreducible] def aS (s:aD.Node):List AC:=bA s.up::iA s.version::iA s.eC::iA s.clock::ints s.aY.cells::sf s.aY.pending::ints s.eO::ints s.timers::(nth s.counts 41++[iA s.waiting,iA s.dropped,iA s.dJ])
@[simp] theorem Rb (s:aD.Node):(aS s).length=52:=by simp[aS]
@[simp] theorem aDk (s:aD.Node):(aS s).take 1=[bA s.up]:=by simp[aS]
@[simp] theorem afa (s:aD.Node):(aS s).tail.take 1=[iA s.version]:=by simp[aS]
@[simp] theorem ary (s:aD.Node):((aS s).drop 2).take 1=[iA s.eC]:=by simp[aS]
@[simp] theorem arz (s:aD.Node):((aS s).drop 3).take 1=[iA s.clock]:=by simp[aS]
@[simp] theorem arA (s:aD.Node):((aS s).drop 4).take 2=nP s.aY:=by simp[aS]
@[simp] theorem aDl (s:aD.Node):((aS s).drop 6).take 1=[ints s.eO]:=by simp[aS]
@[simp] theorem arB (s:aD.Node):((aS s).drop 7).take 1=[ints s.timers]:=by simp[aS]
theorem Xh (s:aD.Node){i:Nat}(h:i<41):((aS s).drop (8+i)).take 1=[iA (s.counts.getD i 0)]:=by
 unfold aS;rw[Ck];simp only[oX];rw[zU bC,sU bC];exact Xg s.counts 41 i h
theorem Xi (s:aD.Node)(k:Nat):(aS s).drop (49+k)=[iA s.waiting,iA s.dropped,iA s.dJ].drop k:=by
 unfold aS;rw[Ck];simp only[oX];rw[show k+41=(nth s.counts 41).length+k by simp;omega,<-List.drop_drop,lM]
@[simp] theorem afb (s:aD.Node):((aS s).drop 49).take 1=[iA s.waiting]:=by rw[Xi s 0];rfl
@[simp] theorem aDm (s:aD.Node):((aS s).drop 50).take 1=[iA s.dropped]:=by rw[Xi s 1];rfl
@[simp] theorem arC (s:aD.Node):((aS s).drop 51).take 1=[iA s.dJ]:=by rw[Xi s 2];rfl
@[simp] theorem afc (s:aD.Node):(aS s).take 52=aS s:=lK ai
@[simp] theorem Rc (s:aD.Node):(aS s).all inl=true:=by simp[aS]
theorem afd (s:aD.Node)(r:List Int)(h:yr s=some r)(hm:s.aY.cells.length<=1000000)(hp:s.aY.pending.length<=1000000)(hv:s.eO.length<=1000000):bu Tryz.prog 170 [.agg (aS s)] (fun x=>x=.w (.c (ints r))):=by
 unfold yr at h;rw[bK] at h;obtain⟨c,h1,rfl⟩:=h
 have dp:c.length<=1000000:=by
  have key:∀(l:List (Int×Int)) (c r:List Int),aD.jD c l=some r->r.length=c.length:=by
   intro l
   induction l with
   |nil=>intro c r h;simp only[aD.jD,aC] at h;rw[h]
   |cons x l ih=>
    intro c r h;obtain⟨_,_,h3⟩:=Mn (i:=x.1) (v:=x.2) h;have:=ih _ _ h3;simpa using this
  have:=key _ _ _ h1;omega
 have hlen:c.length+s.eO.length<=100000000:=ab;refine cD Tryz.func170 ⟨0,[],[(221,[107])],[],dc,[],[]⟩ [(1,5,tk 0 2 (tk 3 2 (.move 2 .nil)),[107])] [.t 2] [1,2] [1,107] ?_;have FF:=@hlen
 repeat first|refine tM (Jj s.aY c _ ai h1 hm hp) ?_|refine tN (Jj s.aY c _ ai h1 hm hp) ?_|refine tO rfl (Jj s.aY c _ ai h1 hm hp) ?_|refine aJ ?_
 refine zE ?_;exact(by simp[dL])
theorem arD:bu Tryz.prog 83 [] (fun x=>x=.w (.agg (aS kI))):=by
 refine cD Tryz.func83 aN [] [.cell 0 52] [0] [0] ?_;have FF:=trivial
 try refine aJ ?_
 refine zE ?_;exact(by unfold aS;rfl)
open aD (fo ta qF aT)
abbrev ME (c:aT):List AC:=[iA c.node,iA c.handler,iA c.count]
def Re (a:aI)(c:aT):Prop:=(a.q.node=c.node/\a.q.handler=c.handler/\a.q.count=c.count)/\a.q.kind=1
instance (a:aI)(c:aT):Decidable (Re a c):=inferInstanceAs (Decidable ((a.q.node=c.node/\a.q.handler=c.handler/\a.q.count=c.count)/\a.q.kind=1))
theorem arE (l:List aI)(a:aI)(c:aT):qF (l++[a]) c=if Re a c then max (qF l c) a.q.index else qF l c:=by
 unfold qF Re;rw[yg];rfl
theorem arF (l:List aI)(c:aT): -1<=qF l c:=by
 unfold qF
 have key:∀(l:List aI) (m:Int),-1<=m→-1<=l.foldl (fun m a=>if(a.q.node=c.node/\a.q.handler=c.handler/\a.q.count=c.count)/\a.q.kind=1 then max m a.q.index else m) m:=by
  intro l
  induction l with
  |nil=>intro m h;exact h
  |cons a l ih=>
   intro m h;apply ih;dsimp only;split<;>omega
 exact key l (-1) ab
def Dc (l:List aI)(c:aT)(n:Nat):List Int:=(List.range n).map fun(i:Nat)=>ek l (c.qn 1 i)
theorem arG (l:List aI)(c:aT)(n:Nat):Dc l c (n+1)=Dc l c n++[ek l (c.qn 1 n)]:=by simp[Dc,ng]
theorem arH (l:List aI)(c:aT)(hl:l.length<=1000000):bu Tryz.prog 223 [.c (mJ l),.agg (ME c)] (fun x=>x=.w (.c (ints (ta l c)))):=by
 refine cD Tryz.func223 (aO [5]) [tz 6 11] [.t 4] [3,4,5,6,7,8] [3,5] ?_;have FF:=trivial
 try refine aJ ?_
 refine dB (fun n V S=>∃k:Nat,k<=l.length/\n=l.length-k/\
  V=[(0,.w (.c (mJ l))),(1,.w (.agg (ME c))),(3,.pb 3 1 0),(4,.w (.c (.sl []))),(5,.w (.c (.own 5 1))),(6,.w (.c (iA (qF (l.take k) c)))),(7,.w (.c (iA k))),(8,.u)]/\S=[(3,.box 1 (ME c)),(5,.row 3 1 1 [])]) (n:=l.length) ⟨0,ab,ab,rfl,rfl⟩ ?_
 rintro n V L S ⟨k,hk,rfl,rfl,rfl⟩;by_cases hlt:k<l.length
 ·have cL:k<=1000000000:=ab
  obtain⟨x,hx⟩:∃x,l[k]=x:=⟨_,rfl⟩
  have hg:qF (l.take (k+1)) c=if Re x c then max (qF (l.take k) c) x.q.index else qF (l.take k) c:=by rw[List.take_succ_eq_append_getElem hlt,arE,hx]
  generalize qF (l.take k) c=gv at hg⊢;by_cases h1:x.q.node=c.node/\x.q.handler=c.handler/\x.q.count=c.count
  ·obtain⟨a1,a2,a3⟩:=h1;by_cases h2:x.q.kind=1
   ·rw[aj ⟨⟨a1,a2,a3⟩,h2⟩] at hg;have FF:=kz @hlt @hx @a1 @a2 @a3 @h2 (bT cL)
    try refine aJ ?_
    exact⟨l.length-(k+1),ab,k+1,ab,ab,by rw[hg];rfl,rfl⟩
   ·rw[af (fun hh=>h2 hh.2)] at hg;have FF:=kz @hlt @hx @a1 @a2 @a3 @h2 (bT cL)
    try refine aJ ?_
    exact⟨l.length-(k+1),ab,k+1,ab,ab,by rw[hg];rfl,rfl⟩
  ·rw[af (fun hh=>h1 hh.1)] at hg;have FF:=fT @hlt @hx @h1 (bT cL)
   try refine aJ ?_
   exact⟨l.length-(k+1),ab,k+1,ab,ab,by rw[hg];rfl,rfl⟩
 ·have kQ:k=l.length:=ab;have hmg:=arF l c;have FF:=@hlt
  try refine aJ ?_
  rw[kQ,fx]
  obtain⟨mm,mu⟩:∃m,qF l c=m:=⟨_,rfl⟩
  have lF:ta l c=Dc l c (min (mm+1).toNat 500):=by unfold ta Dc;rw[mu]
  rw[mu] at hmg⊢
  refine dB (fun n V S=>∃i:Nat,i<=min (mm+1).toNat 500/\n=min (mm+1).toNat 500-i/\
   V=[(0,.w (.c (mJ l))),(1,.w (.agg (ME c))),(3,.pb 3 1 0),(4,.w (.c (.sl []))),(5,.w (.c (.own 5 (i+1)))),(6,.w (.c (iA mm))),(7,.w (.c (iA l.length))),(8,.w (.c (iA i)))]/\S=[(3,.box 1 (ME c)),(5,.row 3 1 (i+1) (bL (Dc l c i)))]) (n:=min (mm+1).toNat 500) ⟨0,ab,ab,rfl,rfl⟩ ?_
  rintro n V L S ⟨i,hi,rfl,rfl,rfl⟩
  have fO:(Dc l c i).length=i:=by simp[Dc]
  have MF:i+1<=100000000:=ab;have eE:i<=1000000000:=ab;by_cases AL:(i:Int)<=mm
  ·by_cases yY:(i:Int)<500
   ·have FF:=gA @AL @yY @fO @MF (bT eE) @aD.aT.qn.eq_1;refine bU (aeY l (c.qn 1 i) hl) ?_;exact⟨min (mm+1).toNat 500-(i+1),ab,i+1,ab,rfl,rfl,by rw[arG];simp[bL,aD.aT.qn]⟩
   ·have FF:=lI @AL @yY
    try refine aJ ?_
    refine zE ?_;exact(by rw[lF,show min (mm+1).toNat 500=i by omega];rfl)
  ·have FF:=@AL
   try refine aJ ?_
   refine zE ?_;exact(by rw[lF,show min (mm+1).toNat 500=i by omega];rfl)
end Ab
end Go.Proofs.YtngblilamkkikaaGreatDoor
