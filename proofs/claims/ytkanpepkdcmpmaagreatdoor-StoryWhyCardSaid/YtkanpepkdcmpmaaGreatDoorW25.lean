import Derived.Test.YtkanpepkdcmpmaaGreatDoorW21
set_option maxHeartbeats 40000000
set_option maxRecDepth 100000
set_option linter.all false
namespace Go.Proofs.YtkanpepkdcmpmaaGreatDoor
namespace Ab
open Go Go.RowKit
attribute [local irreducible] aP bB aW
open aD (gB zZ uP sr aU)
abbrev Uc (q:Qn):List AC:=[iA q.node,iA q.handler,iA q.count,iA q.kind,iA q.index]
abbrev Jh (a:aL):List AC:=[iA a.q.node,iA a.q.handler,iA a.q.count,iA a.q.kind,iA a.q.index,iA a.n]
abbrev nV (l:List aL):AC:=.sl (l.map Jh)
theorem axZ {a m:Qn}(h:a≠m):¬(a.node=m.node/\a.handler=m.handler/\a.count=m.count/\a.kind=m.kind/\a.index=m.index):=fun⟨h1,h2,h3,h4,h5⟩=>h (by cases a;cases m;simp_all)
theorem ajf (l:List aL)(q:Qn)(hl:l.length<=1000000):bj Tryz.prog 257 [.c (nV l),.agg (Uc q)] (fun x=>x=.w (.c (iA (eV l q)))):=by
 refine cI Tryz.func257 aN [tz 5 6] [.t 4] [3,4,5,6] [3] ?_;have FF:=trivial
 try refine aG ?_
 refine dA (fun n V S=>∃k:Nat,k<=l.length/\n=l.length-k/\
  V=[(0,.w (.c (nV l))),(1,.w (.agg (Uc q))),(3,.pb 3 1 0),(4,.w (.c (iA 0))),(5,.w (.c (iA (eV (l.take k) q)))),(6,.w (.c (iA k)))]/\S=[(3,.box 1 (Uc q))]) (n:=l.length) ⟨0,ab,ab,rfl,rfl⟩ ?_
 rintro n V L S ⟨k,hk,rfl,rfl,rfl⟩;by_cases hlt:k<l.length
 ·have cF:k<=1000000000:=ab
  obtain⟨x,hx⟩:∃x,l[k]=x:=⟨_,rfl⟩
  have hg:eV (l.take (k+1)) q=if x.q=q then max 0 x.n else eV (l.take k) q:=by rw[List.take_succ_eq_append_getElem hlt,WQ,hx]
  generalize eV (l.take k) q=gv at hg⊢;by_cases he:x.q=q
  ·rw[aj he] at hg;have hmx:max x.n 0=max 0 x.n:=ab;have FF:=iF @hlt @hx @he (bT cF) @hmx
   try refine aG ?_
   exact⟨l.length-(k+1),ab,k+1,ab,ab,by rw[hg];rfl,rfl⟩
  ·rw[af he] at hg;have hne:=axZ he;have FF:=fg @hlt @hx @hne (bT cF)
   try refine aG ?_
   exact⟨l.length-(k+1),ab,k+1,ab,ab,by rw[hg];rfl,rfl⟩
 ·have kM:k=l.length:=ab;have FF:=@hlt
  try refine aG ?_
  refine zE ?_;exact(by rw[kM,fT];rfl)
theorem aaE (l:List aL)(q:Qn)(k:Int)(hk:k≠0)(hl:l.length<=1000000):bj Tryz.prog 204 [.c (nV l),.agg (Uc q),.c (iA k)] (fun x=>x=.w (.c (iA (gB l q k)))):=by
 refine cI Tryz.func204 aN [] [.t 6] [4,6] [4] ?_
 have FF:=(fun a=>Of (a:=a) hk)
 refine bY (ajf l q hl) ?_;refine zE ?_;exact(rfl)
theorem aya (l:List Int)(k:Int)(set:Bool)(n:Nat):(((List.range (n+1)).map Int.ofNat).filter fun i=>if i=k then set else decide (i∈l))=(((List.range n).map Int.ofNat).filter fun i=>if i=k then set else decide (i∈l))++if(if(n:Int)=k then set else decide ((n:Int)∈l)) then [(n:Int)] else []:=by
 rw[mn,dm,qz];congr 1
 show List.filter _ [(n:Int)]=_
 rw[List.filter_cons];rfl
theorem ajg (l:List Int)(k:Int)(set:Bool)(hl:l.length<=1000000):bj Tryz.prog 285 [.c (ints l),.c (iA k),.c (bA set)] (fun x=>x=.w (.c (ints (zZ l k set)))):=by
 refine cI Tryz.func285 (aO [7]) [] [.t 6] [6,7,8,9] [7] ?_;have FF:=trivial
 try refine aG ?_
 refine dA (fun n V S=>∃(j g:Nat) (x9:AV),j<=8/\n=8-j/\(((List.range j).map Int.ofNat).filter fun i=>if i=k then set else decide (i∈l)).length<=j/\
  V=[(0,.w (.c (ints l))),(1,.w (.c (iA k))),(2,.w (.c (bA set))),(6,.w (.c (.sl []))),(7,.w (.c (.own 7 g))),(8,.w (.c (iA j))),(9,x9)]/\S=[(7,.row 3 1 g (bM (((List.range j).map Int.ofNat).filter fun i=>if i=k then set else decide (i∈l))))]) (n:=8) ⟨0,1,.u,ab,rfl,ai,rfl,rfl⟩ ?_
 rintro n V L S ⟨j,g,x9,hj,rfl,hle,rfl,rfl⟩;by_cases hlt:j<8
 ·have jg:(j:Int)<8:=ab;have Mb:j<=1000000000:=ab;have ht:=aya l k set j;generalize(((List.range j).map Int.ofNat).filter fun i=>if i=k then set else decide (i∈l))=cur at hle ht⊢;have dE:cur.length+1<=100000000:=ab
  have fin:∀(b:Bool),(if(j:Int)=k then set else decide ((j:Int)∈l))=b->(((List.range (j+1)).map Int.ofNat).filter fun i=>if i=k then set else decide (i∈l))=cur++if b then [(j:Int)] else []:=fun b hb=>by rw[ht,hb]
  by_cases iq:(j:Int)=k
  ·subst iq
   cases set with
   |true=>
    have hf:=fin true (by rw[aj rfl]);have FF:=kT @jg @dE (bT Mb);refine bY (KY l j hl) ?_;exact⟨8-(j+1),ab,j+1,g+1,_,ab,rfl,by rw[hf];simp;omega,rfl,by rw[hf];simp[bM]⟩
   |false=>
    have hf:=fin false (by rw[aj rfl]);have FF:=kT @jg @dE (bT Mb);refine bY (KY l j hl) ?_;exact⟨8-(j+1),ab,j+1,g,_,ab,rfl,by rw[hf];simp;omega,rfl,by rw[hf];simp[bM]⟩
  ·by_cases hm:(j:Int)∈l
   ·have hf:=fin true (by rw[af iq];exact fF hm);have FF:=iF @jg @iq @hm @dE (bT Mb);refine bY (KY l j hl) ?_;exact⟨8-(j+1),ab,j+1,g+1,_,ab,rfl,by rw[hf];simp;omega,rfl,by rw[hf];simp[bM]⟩
   ·have hf:=fin false (by rw[af iq];exact jw hm);have FF:=iF @jg @iq @hm @dE (bT Mb);refine bY (KY l j hl) ?_;exact⟨8-(j+1),ab,j+1,g,_,ab,rfl,by rw[hf];simp;omega,rfl,by rw[hf];simp[bM]⟩
 ·have Ps:j=8:=ab;have jg:¬(j:Int)<8:=ab;have FF:=@jg
  try refine aG ?_
  refine zE ?_;exact(by rw[Ps];rfl)
open aD (jT wU zY lO)
@[irreducible] def aS (s:aD.Node):List AC:=bA s.up::iA s.version::iA s.fo::iA s.clock::ints s.aY.cells::tR s.aY.pending::ints s.fJ::ints s.timers::(nth s.counts 41++[iA s.waiting,iA s.dropped,iA s.ed])
@[simp] theorem Ud (s:aD.Node):(aS s).length=52:=by simp[aS]
@[simp] theorem aGO (s:aD.Node):(aS s).take 1=[bA s.up]:=by simp[aS]
@[simp] theorem ajh (s:aD.Node):(aS s).tail.take 1=[iA s.version]:=by simp[aS]
@[simp] theorem ayb (s:aD.Node):((aS s).drop 2).take 1=[iA s.fo]:=by simp[aS]
@[simp] theorem ayc (s:aD.Node):((aS s).drop 3).take 1=[iA s.clock]:=by simp[aS]
@[simp] theorem ayd (s:aD.Node):((aS s).drop 4).take 2=oZ s.aY:=by simp[aS]
@[simp] theorem aGP (s:aD.Node):((aS s).drop 6).take 1=[ints s.fJ]:=by simp[aS]
@[simp] theorem aye (s:aD.Node):((aS s).drop 7).take 1=[ints s.timers]:=by simp[aS]
theorem aaF (s:aD.Node){i:Nat}(h:i<41):((aS s).drop (8+i)).take 1=[iA (s.counts.getD i 0)]:=by
 unfold aS;rw[DO];simp only[qy];rw[BI bz,uF bz];exact aav s.counts 41 i h
theorem aaG (s:aD.Node)(k:Nat):(aS s).drop (49+k)=[iA s.waiting,iA s.dropped,iA s.ed].drop k:=by
 unfold aS;rw[DO];simp only[qy];rw[show k+41=(nth s.counts 41).length+k by simp;omega,<-List.drop_drop,mo]
@[simp] theorem aji (s:aD.Node):((aS s).drop 49).take 1=[iA s.waiting]:=by rw[aaG s 0];rfl
@[simp] theorem aGQ (s:aD.Node):((aS s).drop 50).take 1=[iA s.dropped]:=by rw[aaG s 1];rfl
@[simp] theorem ayf (s:aD.Node):((aS s).drop 51).take 1=[iA s.ed]:=by rw[aaG s 2];rfl
@[simp] theorem ajj (s:aD.Node):(aS s).take 52=aS s:=nB ai
@[simp] theorem Ue (s:aD.Node):(aS s).all inl=true:=by simp[aS]
theorem ajk (s:aD.Node)(r:List Int)(h:zY s=some r)(hm:s.aY.cells.length<=1000000)(hp:s.aY.pending.length<=1000000)(hv:s.fJ.length<=1000000):bj Tryz.prog 206 [.agg (aS s)] (fun x=>x=.w (.c (ints r))):=by
 unfold zY at h;rw[bU] at h;obtain⟨c,h1,rfl⟩:=h
 have dE:c.length<=1000000:=by
  have key:∀(l:List (Int×Int)) (c r:List Int),aD.kF c l=some r->r.length=c.length:=by
   intro l
   induction l with
   |nil=>intro c r h;simp only[aD.kF,aA] at h;rw[h]
   |cons x l ih=>
    intro c r h;obtain⟨_,_,h3⟩:=Om (i:=x.1) (v:=x.2) h;have:=ih _ _ h3;simpa using this
  have:=key _ _ _ h1;omega
 have hlen:c.length+s.fJ.length<=100000000:=ab;refine cI Tryz.func206 ⟨0,[],[(252,[107])],[],cZ,[],[]⟩ [(1,5,tk 0 2 (tk 3 2 (.move 2 .nil)),[107])] [.t 2] [1,2] [1,107] ?_;have FF:=@hlen
 repeat first|refine vB (KX s.aY c _ ai h1 hm hp) ?_|refine vC (KX s.aY c _ ai h1 hm hp) ?_|refine vD rfl (KX s.aY c _ ai h1 hm hp) ?_|refine aG ?_
 refine zE ?_;exact(by simp[ek])
theorem ayg:bj Tryz.prog 115 [] (fun x=>x=.w (.agg (aS lO))):=by
 refine cI Tryz.func115 aN [] [.cell 0 52] [0] [0] ?_;have FF:=trivial
 try refine aG ?_
 refine zE ?_;exact(by unfold aS;rfl)
open aD (gB uP sr aU)
abbrev Pt (c:aU):List AC:=[iA c.node,iA c.handler,iA c.count]
def Uf (a:aL)(c:aU):Prop:=(a.q.node=c.node/\a.q.handler=c.handler/\a.q.count=c.count)/\a.q.kind=1
instance (a:aL)(c:aU):Decidable (Uf a c):=inferInstanceAs (Decidable ((a.q.node=c.node/\a.q.handler=c.handler/\a.q.count=c.count)/\a.q.kind=1))
theorem ayh (l:List aL)(a:aL)(c:aU):sr (l++[a]) c=if Uf a c then max (sr l c) a.q.index else sr l c:=by
 unfold sr Uf;rw[zN];rfl
theorem ayi (l:List aL)(c:aU): -1<=sr l c:=by
 unfold sr
 have key:∀(l:List aL) (m:Int),-1<=m→-1<=l.foldl (fun m a=>if(a.q.node=c.node/\a.q.handler=c.handler/\a.q.count=c.count)/\a.q.kind=1 then max m a.q.index else m) m:=by
  intro l
  induction l with
  |nil=>intro m h;exact h
  |cons a l ih=>
   intro m h;apply ih;dsimp only;split<;>omega
 exact key l (-1) ab
def Fp (l:List aL)(c:aU)(n:Nat):List Int:=(List.range n).map fun(i:Nat)=>eV l (c.qn 1 i)
theorem ayj (l:List aL)(c:aU)(n:Nat):Fp l c (n+1)=Fp l c n++[eV l (c.qn 1 n)]:=by simp[Fp,mn]
theorem ayk (l:List aL)(c:aU)(hl:l.length<=1000000):bj Tryz.prog 254 [.c (nV l),.agg (Pt c)] (fun x=>x=.w (.c (ints (uP l c)))):=by
 refine cI Tryz.func254 (aO [5]) [tz 6 11] [.t 4] [3,4,5,6,7,8] [3,5] ?_;have FF:=trivial
 try refine aG ?_
 refine dA (fun n V S=>∃k:Nat,k<=l.length/\n=l.length-k/\
  V=[(0,.w (.c (nV l))),(1,.w (.agg (Pt c))),(3,.pb 3 1 0),(4,.w (.c (.sl []))),(5,.w (.c (.own 5 1))),(6,.w (.c (iA (sr (l.take k) c)))),(7,.w (.c (iA k))),(8,.u)]/\S=[(3,.box 1 (Pt c)),(5,.row 3 1 1 [])]) (n:=l.length) ⟨0,ab,ab,rfl,rfl⟩ ?_
 rintro n V L S ⟨k,hk,rfl,rfl,rfl⟩;by_cases hlt:k<l.length
 ·have cF:k<=1000000000:=ab
  obtain⟨x,hx⟩:∃x,l[k]=x:=⟨_,rfl⟩
  have hg:sr (l.take (k+1)) c=if Uf x c then max (sr (l.take k) c) x.q.index else sr (l.take k) c:=by rw[List.take_succ_eq_append_getElem hlt,ayh,hx]
  generalize sr (l.take k) c=gv at hg⊢;by_cases h1:x.q.node=c.node/\x.q.handler=c.handler/\x.q.count=c.count
  ·obtain⟨a1,a2,a3⟩:=h1;by_cases h2:x.q.kind=1
   ·rw[aj ⟨⟨a1,a2,a3⟩,h2⟩] at hg;have FF:=kU @hlt @hx @a1 @a2 @a3 @h2 (bT cF)
    try refine aG ?_
    exact⟨l.length-(k+1),ab,k+1,ab,ab,by rw[hg];rfl,rfl⟩
   ·rw[af (fun hh=>h2 hh.2)] at hg;have FF:=kU @hlt @hx @a1 @a2 @a3 @h2 (bT cF)
    try refine aG ?_
    exact⟨l.length-(k+1),ab,k+1,ab,ab,by rw[hg];rfl,rfl⟩
  ·rw[af (fun hh=>h1 hh.1)] at hg;have FF:=fg @hlt @hx @h1 (bT cF)
   try refine aG ?_
   exact⟨l.length-(k+1),ab,k+1,ab,ab,by rw[hg];rfl,rfl⟩
 ·have kM:k=l.length:=ab;have hmg:=ayi l c;have FF:=@hlt
  try refine aG ?_
  rw[kM,fT]
  obtain⟨mm,kX⟩:∃m,sr l c=m:=⟨_,rfl⟩
  have mH:uP l c=Fp l c (min (mm+1).toNat 500):=by unfold uP Fp;rw[kX]
  rw[kX] at hmg⊢
  refine dA (fun n V S=>∃i:Nat,i<=min (mm+1).toNat 500/\n=min (mm+1).toNat 500-i/\
   V=[(0,.w (.c (nV l))),(1,.w (.agg (Pt c))),(3,.pb 3 1 0),(4,.w (.c (.sl []))),(5,.w (.c (.own 5 (i+1)))),(6,.w (.c (iA mm))),(7,.w (.c (iA l.length))),(8,.w (.c (iA i)))]/\S=[(3,.box 1 (Pt c)),(5,.row 3 1 (i+1) (bM (Fp l c i)))]) (n:=min (mm+1).toNat 500) ⟨0,ab,ab,rfl,rfl⟩ ?_
  rintro n V L S ⟨i,hi,rfl,rfl,rfl⟩
  have eJ:(Fp l c i).length=i:=by simp[Fp]
  have Pq:i+1<=100000000:=ab;have eS:i<=1000000000:=ab;by_cases CT:(i:Int)<=mm
  ·by_cases rL:(i:Int)<500
   ·have FF:=gR @CT @rL @eJ @Pq (bT eS) @aD.aU.qn.eq_1;refine bY (ajf l (c.qn 1 i) hl) ?_;exact⟨min (mm+1).toNat 500-(i+1),ab,i+1,ab,rfl,rfl,by rw[ayj];simp[bM,aD.aU.qn]⟩
   ·have FF:=im @CT @rL
    try refine aG ?_
    refine zE ?_;exact(by rw[mH,show min (mm+1).toNat 500=i by omega];rfl)
  ·have FF:=@CT
   try refine aG ?_
   refine zE ?_;exact(by rw[mH,show min (mm+1).toNat 500=i by omega];rfl)
end Ab
end Go.Proofs.YtkanpepkdcmpmaaGreatDoor
