import Derived.Test.YtkanpepkdcmpmaaGreatDoorW25
import Derived.Test.YtkanpepkdcmpmaaGreatDoorW7
set_option maxHeartbeats 40000000
set_option maxRecDepth 100000
set_option linter.all false
namespace Go.Proofs.YtkanpepkdcmpmaaGreatDoor
namespace Ab
open Go Go.RowKit
attribute [local irreducible] aP bB aW
open aD (jT kF wU zX yk Cb wV jy)
theorem ajl:∀(l:List (Int×Int)) (m:List Bool) (k:Nat) (hl:k<l.length) (hm:k<m.length),jy (l.take (k+1)) (m.take (k+1))=jy (l.take k) (m.take k)++if m[k] then [l[k]] else []
 |x::l,b::m,0,_,_=>by cases b<;>simp[jy]
 |x::l,b::m,k+1,hl,hm=>by
  have ih:=ajl l m k (by simpa using hl) (by simpa using hm);simp only[List.take_succ_cons,jy,List.getElem_cons_succ];rw[ih];cases b<;>simp
theorem ajm:∀(l:List (Int×Int)) (m:List Bool) (k:Nat),(l.length<=k\/m.length<=k)->jy (l.take k) (m.take k)=jy l m
 |[],m,k,_=>by simp[jy]
 |x::l,[],k,_=>by cases k<;>simp[jy]
 |x::l,b::m,0,h=>by simp at h
 |x::l,b::m,k+1,h=>by
  simp only[List.take_succ_cons,jy];rw[ajm l m k (by simpa using h)]
theorem ajn:∀(l:List (Int×Int)) (m:List Bool),(jy l m).length<=l.length
 |[],m=>by simp[jy]
 |x::l,[]=>by simp[jy]
 |x::l,b::m=>by
  have:=ajn l m;unfold jy;split<;>simp<;>omega
theorem ayl (d r:jT)(keep:List Bool)(h:Cb d keep=some r)(hm:d.cells.length<=1000000)(hp:d.pending.length<=1000000):bj Tryz.prog 205 [.agg (oZ d),.c (Ye keep)] (fun x=>x=.w (.agg (oZ r))):=by
 unfold Cb at h;rw[bU] at h;obtain⟨c,h1,rfl⟩:=h;have ei:=ajn d.pending keep;refine cI Tryz.func205 ⟨0,[5],[],[(7,[5])],cZ,[],[]⟩ [] [.cell 4 2] [2,4,5,6] [2,4,5] ?_;have FF:=trivial
 try refine aG ?_
 refine dA (fun n V S=>∃(k g:Nat) (o:List (Int×Int)),k<=d.pending.length/\n=d.pending.length-k/\o=jy (d.pending.take k) (keep.take k)/\o.length<=k/\
  V=[(0,.w (.agg (oZ d))),(1,.w (.c (Ye keep))),(2,.pb 2 1 0),(4,.pb 4 1 0),(5,.w (.c (.own 5 g))),(6,.w (.c (iA k)))]/\S=[(2,.box 1 (oZ d)),(4,.box 1 [.sl [],.sl []]),(5,.row 351 2 g (o.map fun p=>[iA p.1,iA p.2]))]) (n:=d.pending.length) ⟨0,1,[],ab,ab,by simp[jy],ai,rfl,rfl⟩ ?_
 rintro n V L S ⟨k,g,o,hk,rfl,ho,xm,rfl,rfl⟩
 have mH:(d.pending.length<=k\/keep.length<=k)->o=jy d.pending keep:=fun hh=>by rw[ho,ajm _ _ _ hh]
 by_cases hlt:k<d.pending.length
 ·by_cases pU:k<keep.length
  ·have cF:k<=1000000000:=ab
   obtain⟨x,hx⟩:∃x,d.pending[k]=x:=⟨_,rfl⟩
   obtain⟨b,hb⟩:∃b,keep[k]=b:=⟨_,rfl⟩
   have de:=ajl d.pending keep k hlt pU;rw[<-ho,hx,hb] at de
   cases b with
   |true=>
    have FF:=iF @hlt @pU @hx @hb (bT cF)
    try refine aG ?_
    exact⟨d.pending.length-(k+1),ab,k+1,g+1,o++[x],ab,ab,de.symm,by simp;omega,rfl,ai⟩
   |false=>
    have FF:=iF @hlt @pU @hx @hb (bT cF)
    try refine aG ?_
    exact⟨d.pending.length-(k+1),ab,k+1,g,o,ab,ab,by simpa using de.symm,ab,rfl,rfl⟩
  ·have hf:=mH (.inr ab);have FF:=im @hlt @pU;refine bY (Sx d.cells o c (by rw[hf];exact h1) hm (by rw[hf];omega)) ?_;refine zE ?_;exact(rfl)
 ·have hf:=mH (.inl ab);have FF:=@hlt;refine bY (Sx d.cells o c (by rw[hf];exact h1) hm (by rw[hf];omega)) ?_;refine zE ?_;exact(rfl)
end Ab
namespace Ab
open Go Go.RowKit
open aD (gA eW Rr aU uQ)
abbrev eL (a:Ask):List AC:=[iA a.node,iA a.handler,iA a.count,iA a.kind,iA a.index,iA a.arity,iA a.n]
abbrev asks (l:List Ask):AC:=.sl (l.map eL)
@[irreducible] def rC (s:aD.Node)(ak sn:AC)(rep:Bool)(val:Int)(fl:AC)(c:aU)(o:List AC)(aE:AC):List AC:=
 [bA s.up,iA s.version,iA s.fo,iA s.clock,ints s.aY.cells,tR s.aY.pending,ints s.fJ,ints s.timers]++(nth s.counts 41++[iA s.waiting,iA s.dropped,iA s.ed,ak,sn,bA rep,iA val,fl,iA c.node,iA c.handler,iA c.count]++o++[aE])
section
variable (s:aD.Node) (ak sn:AC) (rep:Bool) (val:Int) (fl:AC) (c:aU) (o:List AC) (aE:AC)
theorem eN:rC s ak sn rep val fl c o aE=aS s++([ak,sn,bA rep,iA val,fl,iA c.node,iA c.handler,iA c.count]++o++[aE]):=by
 unfold rC aS;simp
theorem Ug (ho:o.length=6):(rC s ak sn rep val fl c o aE).length=67:=by rw[eN];simp[ho]
theorem ajo:(rC s ak sn rep val fl c o aE).take 52=aS s:=by rw[eN,uF ai,ajj]
theorem Ji (k:Nat):(rC s ak sn rep val fl c o aE).drop (52+k)=([ak,sn,bA rep,iA val,fl,iA c.node,iA c.handler,iA c.count]++o++[aE]).drop k:=by
 rw[eN,show 52=(aS s).length by simp,<-List.drop_drop,mo]
theorem Jj {k n:Nat}(h:k+n<=52):((rC s ak sn rep val fl c o aE).drop k).take n=((aS s).drop k).take n:=by
 rw[eN,BI bz,uF bz]
theorem ajp:((rC s ak sn rep val fl c o aE).drop 4).take 2=oZ s.aY:=by rw[Jj _ _ _ _ _ _ _ _ _ au,ayd]
theorem ajq:((rC s ak sn rep val fl c o aE).drop 7).take 1=[ints s.timers]:=by rw[Jj _ _ _ _ _ _ _ _ _ au,aye]
theorem aaH:((rC s ak sn rep val fl c o aE).drop 49).take 1=[iA s.waiting]:=by rw[Jj _ _ _ _ _ _ _ _ _ au,aji]
theorem Mc:((rC s ak sn rep val fl c o aE).drop 53).take 1=[sn]:=by rw[Ji _ _ _ _ _ _ _ _ _ 1];simp
theorem Uh:((rC s ak sn rep val fl c o aE).drop 56).take 1=[fl]:=by rw[Ji _ _ _ _ _ _ _ _ _ 4];simp
theorem Jk:((rC s ak sn rep val fl c o aE).drop 57).take 3=[iA c.node,iA c.handler,iA c.count]:=by rw[Ji _ _ _ _ _ _ _ _ _ 5];simp
theorem aaI (d:aD.jT):(rC s ak sn rep val fl c o aE).take 4++ints d.cells::tR d.pending::(rC s ak sn rep val fl c o aE).drop 6=rC { s with aY:=d } ak sn rep val fl c o aE:=by
 unfold rC;simp
theorem aaJ (t:List Int):(rC s ak sn rep val fl c o aE).take 7++ints t::(rC s ak sn rep val fl c o aE).drop 8=rC { s with timers:=t } ak sn rep val fl c o aE:=by
 unfold rC;simp
theorem Fq {A B:List AC}{k:Nat}(x y:AC)(h:A.length=k):(A++x::B).take k++y::(A++x::B).drop (k+1)=A++y::B:=by
 subst h;rw[oL,<-List.drop_drop,mo];rfl
theorem ajr (w:Int):(rC s ak sn rep val fl c o aE).take 49++iA w::(rC s ak sn rep val fl c o aE).drop 50=rC { s with waiting:=w } ak sn rep val fl c o aE:=by
 unfold rC;simp only[<-List.append_assoc,List.cons_append,List.nil_append];have:=Fq (A:=bA s.up::iA s.version::iA s.fo::iA s.clock::ints s.aY.cells::tR s.aY.pending::ints s.fJ::ints s.timers::nth s.counts 41) (B:=iA s.dropped::iA s.ed::ak::sn::bA rep::iA val::fl::iA c.node::iA c.handler::iA c.count::(o++[aE])) (k:=49) (iA s.waiting) (iA w) ai;simpa using this
theorem aym (x:AC):(rC s ak sn rep val fl c o aE).take 53++x::(rC s ak sn rep val fl c o aE).drop 54=rC s ak x rep val fl c o aE:=by
 rw[eN,eN];have:=Fq (A:=aS s++[ak]) (B:=bA rep::iA val::fl::iA c.node::iA c.handler::iA c.count::(o++[aE])) (k:=53) sn x ai;simpa using this
theorem ayn (x:Bool):(rC s ak sn rep val fl c o aE).take 54++bA x::(rC s ak sn rep val fl c o aE).drop 55=rC s ak sn x val fl c o aE:=by
 rw[eN,eN];have:=Fq (A:=aS s++[ak,sn]) (B:=iA val::fl::iA c.node::iA c.handler::iA c.count::(o++[aE])) (k:=54) (bA rep) (bA x) ai;simpa using this
theorem ayo (x:Int):(rC s ak sn rep val fl c o aE).take 55++iA x::(rC s ak sn rep val fl c o aE).drop 56=rC s ak sn rep x fl c o aE:=by
 rw[eN,eN];have:=Fq (A:=aS s++[ak,sn,bA rep]) (B:=fl::iA c.node::iA c.handler::iA c.count::(o++[aE])) (k:=55) (iA val) (iA x) ai;simpa using this
theorem ayp (x:AC):(rC s ak sn rep val fl c o aE).take 56++x::(rC s ak sn rep val fl c o aE).drop 57=rC s ak sn rep val x c o aE:=by
 rw[eN,eN];have:=Fq (A:=aS s++[ak,sn,bA rep,iA val]) (B:=iA c.node::iA c.handler::iA c.count::(o++[aE])) (k:=56) fl x ai;simpa using this
end
theorem aaK (s:aD.Node)(k:Nat)(l:List AC):(aS s++l).take (52+k)=aS s++l.take k:=by
 rw[List.take_append,nB ai,Ud,show 52+k-52=k by omega]
theorem Fs (s:aD.Node)(k:Nat)(l:List AC):(aS s++l).drop (52+k)=l.drop k:=by
 rw[List.drop_append,uG ai,Ud,show 52+k-52=k by omega];rfl
theorem ayq (s:aD.Node)(l:List AC):(aS s++l).take 57=aS s++l.take 5:=aaK s 5 l
theorem ayr (s:aD.Node)(l:List AC):(aS s++l).drop 60=l.drop 8:=Fs s 8 l
theorem ajs (s:aD.Node)(ak sn:AC)(rep:Bool)(val:Int)(fl:AC)(a b c:Int)(o0 o1 o2 o3 o4 o5 aE:AC):aS s++[ak,sn,bA rep,iA val,fl,iA a,iA b,iA c,o0,o1,o2,o3,o4,o5,aE]=rC s ak sn rep val fl ⟨a,b,c⟩ [o0,o1,o2,o3,o4,o5] aE:=by
 rw[eN];simp
section
variable (s:aD.Node) (ak sn:AC) (rep:Bool) (val:Int) (fl:AC) (c:aU) (o:List AC) (aE:AC)
theorem aaL (k:Nat):(rC s ak sn rep val fl c o aE)[52+k]? =([ak,sn,bA rep,iA val,fl,iA c.node,iA c.handler,iA c.count]++o++[aE])[k]? :=by
 rw[eN,jc ai,Ud,show 52+k-52=k by omega]
theorem ays:(rC s ak sn rep val fl c o aE)[52]? =some ak:=aaL s ak sn rep val fl c o aE 0
theorem ayt:(rC s ak sn rep val fl c o aE)[53]? =some sn:=aaL s ak sn rep val fl c o aE 1
theorem ayu:(rC s ak sn rep val fl c o aE)[56]? =some fl:=aaL s ak sn rep val fl c o aE 4
theorem ajt (h:52<(rC s ak sn rep val fl c o aE).length):(rC s ak sn rep val fl c o aE)[52]'h=ak:=eA ((cz h).symm.trans (ays s ak sn rep val fl c o aE))
theorem ayv (h:53<(rC s ak sn rep val fl c o aE).length):(rC s ak sn rep val fl c o aE)[53]'h=sn:=eA ((cz h).symm.trans (ayt s ak sn rep val fl c o aE))
theorem ayw (h:56<(rC s ak sn rep val fl c o aE).length):(rC s ak sn rep val fl c o aE)[56]'h=fl:=eA ((cz h).symm.trans (ayu s ak sn rep val fl c o aE))
theorem aaM (k:Nat)(x:AC):(rC s ak sn rep val fl c o aE).set (52+k) x=aS s++([ak,sn,bA rep,iA val,fl,iA c.node,iA c.handler,iA c.count]++o++[aE]).set k x:=by
 rw[eN,Ni _ _ ai,Ud,show 52+k-52=k by omega]
theorem aju (x:AC):(rC s ak sn rep val fl c o aE).set 52 x=rC s x sn rep val fl c o aE:=by rw[aaM s ak sn rep val fl c o aE 0,eN];rfl
theorem ayx (x:AC):(rC s ak sn rep val fl c o aE).set 53 x=rC s ak x rep val fl c o aE:=by rw[aaM s ak sn rep val fl c o aE 1,eN];rfl
theorem ayy (x:AC):(rC s ak sn rep val fl c o aE).set 56 x=rC s ak sn rep val x c o aE:=by rw[aaM s ak sn rep val fl c o aE 4,eN];rfl
theorem aaN:((rC s ak sn rep val fl c o aE).drop 3).take 1=[iA s.clock]:=by rw[Jj _ _ _ _ _ _ _ _ _ au,ayc]
theorem ajv (k:Int):(rC s ak sn rep val fl c o aE).take 3++iA k::(rC s ak sn rep val fl c o aE).drop 4=rC { s with clock:=k } ak sn rep val fl c o aE:=by
 unfold rC;simp
theorem ayz (v:List Int):(rC s ak sn rep val fl c o aE).take 6++ints v::(rC s ak sn rep val fl c o aE).drop 7=rC { s with fJ:=v } ak sn rep val fl c o aE:=by
 unfold rC;simp
theorem Ui:((rC s ak sn rep val fl c o aE).drop 52).take 1=[ak]:=by rw[Ji _ _ _ _ _ _ _ _ _ 0];rfl
theorem aaO (x:AC):(rC s ak sn rep val fl c o aE).take 52++x::(rC s ak sn rep val fl c o aE).drop 53=rC s x sn rep val fl c o aE:=by
 rw[eN,eN];have:=Fq (A:=aS s) (B:=sn::bA rep::iA val::fl::iA c.node::iA c.handler::iA c.count::(o++[aE])) (k:=52) ak x ai;simpa using this
theorem ajw {i:Nat}(h:i<41):((rC s ak sn rep val fl c o aE).drop (8+i)).take 1=[iA (s.counts.getD i 0)]:=by rw[Jj _ _ _ _ _ _ _ _ _ ab,aaF s h]
theorem iO (o0 o1 o2 o3 o4 o5:AC):(rC s ak sn rep val fl c [o0,o1,o2,o3,o4,o5] aE).length=67:=Ug _ _ _ _ _ _ _ _ _ rfl
theorem vV (o0 o1 o2 o3 o4 o5:AC):(rC s ak sn rep val fl c [o0,o1,o2,o3,o4,o5] aE).take 67=rC s ak sn rep val fl c [o0,o1,o2,o3,o4,o5] aE:=nB (by rw[iO];exact cP _)
theorem ajx (x y z:Int):(rC s ak sn rep val fl c o aE).take 57++iA x::iA y::iA z::(rC s ak sn rep val fl c o aE).drop 60=rC s ak sn rep val fl ⟨x,y,z⟩ o aE:=by
 rw[eN,eN,ayq,ayr];simp
theorem ayA (o0 o1 o2 o3 o4 o5 x0 x1 x2 x3 x4 x5:AC):(rC s ak sn rep val fl c [o0,o1,o2,o3,o4,o5] aE).take 60++x0::x1::x2::x3::x4::x5::(rC s ak sn rep val fl c [o0,o1,o2,o3,o4,o5] aE).drop 66=rC s ak sn rep val fl c [x0,x1,x2,x3,x4,x5] aE:=by
 rw[eN,eN,show(60:Nat)=52+8 by rfl,aaK,show(66:Nat)=52+14 by rfl,Fs];simp
theorem ayB (o0 o1 o2 o3 o4 o5 x:AC):(rC s ak sn rep val fl c [o0,o1,o2,o3,o4,o5] aE).take 66++[x]=rC s ak sn rep val fl c [o0,o1,o2,o3,o4,o5] x:=by
 rw[eN,eN,show(66:Nat)=52+14 by rfl,aaK];simp
theorem ajy (o0 o1 o2 o3 o4 o5:AC):((rC s ak sn rep val fl c [o0,o1,o2,o3,o4,o5] aE).drop 60).take 1=[o0]:=by rw[eN,show(60:Nat)=52+8 by rfl,Fs];simp
theorem aaP (o0 o1 o2 o3 o4 o5:AC):((rC s ak sn rep val fl c [o0,o1,o2,o3,o4,o5] aE).drop 61).take 1=[o1]:=by rw[eN,show(61:Nat)=52+9 by rfl,Fs];simp
theorem ayC (o0 o1 o2 o3 o4 o5:AC):((rC s ak sn rep val fl c [o0,o1,o2,o3,o4,o5] aE).drop 62).take 1=[o2]:=by rw[eN,show(62:Nat)=52+10 by rfl,Fs];simp
theorem ayD (o0 o1 o2 o3 o4 o5:AC):((rC s ak sn rep val fl c [o0,o1,o2,o3,o4,o5] aE).drop 63).take 1=[o3]:=by rw[eN,show(63:Nat)=52+11 by rfl,Fs];simp
theorem ayE (o0 o1 o2 o3 o4 o5:AC):((rC s ak sn rep val fl c [o0,o1,o2,o3,o4,o5] aE).drop 64).take 1=[o4]:=by rw[eN,show(64:Nat)=52+12 by rfl,Fs];simp
theorem aaQ (o0 o1 o2 o3 o4 o5:AC):((rC s ak sn rep val fl c [o0,o1,o2,o3,o4,o5] aE).drop 65).take 1=[o5]:=by rw[eN,show(65:Nat)=52+13 by rfl,Fs];simp
theorem ayF (l:List Int)(n i:Nat)(x:Int)(hl:i<l.length):nth (l.set i x) n=(nth l n).set i (iA x):=by
 apply yf;intro k;by_cases hk:k<n
 ·rw[TY _ _ _ hk,List.getElem?_set];split
  ·rename_i e;subst e;simp[hk,hl]
  ·rename_i e;rw[TY _ _ _ hk];simp[fC,e]
 ·rw[qx bz,qx bz]
theorem ajz {i:Nat}(k:Int)(h:i<41)(hl:i<s.counts.length):(rC s ak sn rep val fl c o aE).take (8+i)++iA k::(rC s ak sn rep val fl c o aE).drop (8+i+1)=rC { s with counts:=s.counts.set i k } ak sn rep val fl c o aE:=by
 have e:∀L:List AC,8+i<L.length->L.take (8+i)++iA k::L.drop (8+i+1)=L.set (8+i) (iA k):=fun L hL=>by rw[List.set_eq_take_append_cons_drop,aj hL]
 unfold rC;rw[ayF _ _ _ _ hl,e _ bz,DO 8 i,Ni _ _ ai];simp only[List.length_cons,List.length_nil,List.append_assoc];rw[show i+8-(0+1+1+1+1+1+1+1+1)=i by omega,List.set_append_left _ _ bz]
end
theorem vW {s g:Nat}{es:List (List AC)}:∀{cs:List AC},cs.all inl=true->cs.map (mA s g es)=cs
 |[],_=>rfl
 |c::cs,h=>by
  simp only[BR,bZ] at h;rw[dJ,vW h.2]
  cases c with
  |own s g=>cases h.1
  |cK s g=>cases h.1
  |part s g i=>cases h.1
  |cls f cn=>cases h.1
  |fV f cn=>rfl
  |v x=>rfl
  |sl es=>rfl
@[simp] theorem Md (n:aD.Node)(s g:Nat)(es:List (List AC)):(aS n).map (mA s g es)=aS n:=vW (Ue n)
theorem ajA {n:aD.Node}{ga gb gd:Nat}{rep:Bool}{val:Int}{c:aU}{o:List AC}{aE:AC}{es:List (List AC)}(ho:o.all inl=true)(vX:inl aE=true):(rC n (.own 400 ga) (.own 401 gb) rep val (.own 402 gd) c o aE).map (mA 400 ga es)=rC n (.sl es) (.own 401 gb) rep val (.own 402 gd) c o aE:=by
 rw[eN,eN,dm,Md,dm,dm,vW ho,vW (cs:=[aE]) (by simp[vX])];simp[mA]
theorem Me {st:St}:∀{a b x y:List AC},st.jY a=some x->st.jY b=some y->st.jY (a++b)=some (x++y)
 |[],b,x,y,ha,hb=>by cases ha;exact hb
 |c::a,b,x,y,ha,hb=>by
  unfold St.jY at ha;split at ha
  ·rename_i u v h1 h2;cases ha;rw[List.cons_append];unfold St.jY;rw[h1,Me h2 hb];rfl
  ·cases ha
theorem Mf {st:St}:∀{a:List AC},a.all inl=true->st.jY a=some a
 |[],_=>rfl
 |c::a,h=>by
  simp only[BR,bZ] at h;unfold St.jY;rw[Mf h.2]
  cases c with
  |own s g=>cases h.1
  |cK s g=>cases h.1
  |part s g i=>cases h.1
  |cls f cn=>cases h.1
  |fV f cn=>rfl
  |v x=>rfl
  |sl es=>rfl
theorem ajB {st:St}{n:aD.Node}{ak sn fl sn' fl':AC}{rep:Bool}{val:Int}{c:aU}{o:List AC}{aE:AC}(Bk:inl ak=true)(ho:o.all inl=true)(vX:inl aE=true)(h1:st.fz sn=some sn')(h2:st.fz fl=some fl'):st.jY (rC n ak sn rep val fl c o aE)=some (rC n ak sn' rep val fl' c o aE):=by
 rw[eN,eN];refine Me (Mf (Ue n)) ?_
 have e:∀(a b:AC),([ak,a,bA rep,iA val,b,iA c.node,iA c.handler,iA c.count]++o++[aE])=[ak]++([a]++([bA rep,iA val]++([b]++([iA c.node,iA c.handler,iA c.count]++(o++[aE]))))):=fun a b=>ai
 rw[e,e]
 have one:∀(a b:AC),st.fz a=some b->st.jY [a]=some [b]:=fun a b h=>by simp[St.jY,h]
 exact Me (Mf (by simp[Bk])) (Me (one _ _ h1) (Me (Mf ai) (Me (one _ _ h2) (Mf (by simp[ho,vX])))))
end Ab
namespace Ab
open Go Go.RowKit mQ
open aD (eX qF)
abbrev Uj (l:List Prog):AC:=.sl (l.map cM)
abbrev ajC (r:qF):List AC:=[iA r.node,iA r.op,iA r.key,iA r.arg]
abbrev reqs (l:List qF):AC:=.sl (l.map ajC)
abbrev Bl (c:eX):List AC:=[Uj c.dU,ints c.first,ints c.qG,reqs c.eu,iA c.ym,iA c.qH,iA c.tI,iA c.drift]
end Ab
namespace Ab
open Go Go.RowKit
variable {A:Nat->Prop} {v:Value} {w:World}
abbrev iP (e:Ev):List AC:=[iA e.kind,iA e.node,iA e.arg,iA e.msg.node,iA e.msg.handler,iA e.msg.count,iA e.msg.index,iA e.msg.copy]
abbrev kQ (s:az):List AC:=iP s.ev++[asks s.asks,bA s.aK,msgs s.sent]
abbrev CU (l:List az):AC:=.sl (l.map kQ)
theorem Fr.below{w':World}(h:Fr (fun b=>b<w.heap.size) w w'):aw w w':=⟨h.os,h.tape,h.out,h.size,h.block⟩
theorem ayG{l:List Int}{k:Option Addr}{c:Nat}(h:br w (.slice k l.length c) l)(hc:l.length<=c):IR w (fun _=>False) (ints l) (.slice k l.length c):=by
 obtain⟨_,hm,a,c',e,hr⟩:=h;simp only[Value.slice.injEq,true_and] at e;obtain⟨rfl,rfl⟩:=e
 have key:∀i (hi:i<l.length),∃b o,k=some ⟨b,o,none⟩/\w.cell? ⟨b,o+i,none⟩=some (I l[i]):=fun i hi=>hr i _ (by simp[iv,hi])
 have row:∀(i:Nat) (row:List AC),(l.map fun n=>[iA n])[i]? =some row->∃hi:i<l.length,row=[iA l[i]]:=fun i row h1=>by
  rw[fD,bU] at h1;obtain⟨n,hn,rfl⟩:=h1;obtain⟨hi,rfl⟩:=bN.1 hn;exact⟨hi,rfl⟩
 have:=IR.sl (w:=w) (A:=fun _=>False) 1 (l.map fun n=>[iA n]) k c (fun i _=>I (l.getD i 0)) (by simpa using hc) (by simpa using hm) (fun i r h1=>by
   obtain⟨_,rfl⟩:=row i r h1
   rfl) (fun i r j x h1 h2=>by
   obtain⟨hi,rfl⟩:=row i r h1
   match j,h2 with
   |0,h2=>
    simp only[ye,aA] at h2;subst h2;rw[fC,cz hi];exact IR.v _ rfl
   |j+1,h2=>simp at h2) (fun i r j h1 h2=>by
   obtain⟨hi,rfl⟩:=row i r h1
   have hj:j=0:=by simpa using h2
   subst hj;obtain⟨b,o,e1,e2⟩:=key i hi
   exact⟨b,o,e1,fun hh=>hh,by rw[fC,cz hi,Nat.mul_one,qA];exact e2⟩)
 simpa using this
theorem xA{n:Int}(h:IR w A (iA n) v):v=I n:=by
 cases h;rfl
theorem ayH{b:Bool}(h:IR w A (bA b) v):v=.bool b:=by
 cases h;rfl
theorem Ft{α:Type}(f:α->List Int)(k:Nat)(hf:∀x,(f x).length=k){l:List α}(h:IR w A (.sl (l.map fun x=>(f x).map iA)) v):Flat w k v l.length (l.flatMap fun x=>iv (f x)):=by
 generalize hes:(l.map fun x=>(f x).map iA)=es at h
 cases h with
 |sl k' es a c u hn hm hk hc hl=>
  have hlen:es.length=l.length:=by rw[<-hes,dI]
  refine⟨Kn (fun x=>iv (f x)) k (fun x=>by simp[iv,hf]) l,ab,a,c,by rw[hlen],fun j y hj=> ?_⟩
  have aX:0<k:=by
   rcases Nat.eq_zero_or_pos k with h0|h0
   ·subst h0;have:=(bN.1 hj).1;rw[Kn (fun x=>iv (f x)) 0 (fun x=>by simp[iv,hf]) l] at this;omega
   ·exact h0
  have eb:=(bN.1 hj).1;rw[Kn (fun x=>iv (f x)) k (fun x=>by simp[iv,hf]) l] at eb;have hi:j/k<l.length:=Nat.div_lt_of_lt_mul (by rw[Gz];exact eb);have hr:j%k<k:=oM _ aX
  have Pv:j=j/k*k+j%k:=by rw[Gz];exact(Nat.div_add_mod j k).symm
  have hx:l[j/k]? =some l[j/k]:=cz hi;have h1:=Ns (fun x=>iv (f x)) k (fun x=>by simp[iv,hf]) l (j/k) (j%k) _ hx hr;rw[<-Pv,hj] at h1
  have bg:es[j/k]? =some ((f l[j/k]).map iA):=by rw[<-hes,fD,hx];rfl
  have eJ:j%k<(f l[j/k]).length:=by rw[hf];exact hr
  have hcell:((f l[j/k]).map iA)[j%k]? =some (iA (f l[j/k])[j%k]):=by rw[fD,cz eJ];rfl
  have gK:k'=k:=by
   have:=hk _ _ bg;rw[dI,hf] at this;exact this.symm
  subst gK;have e1:=xA (hc _ _ _ _ bg hcell);obtain⟨b,o,e2,_,e3⟩:=hl _ _ (j%k') bg (by rw[dI];exact eJ);refine⟨b,o,e2,?_⟩
  have hy:y=I (f l[j/k'])[j%k']:=by
   simp only[iv,fD,cz eJ,yh,aA] at h1;exact h1
  rw[hy,<-e1,<-e3];congr 2;omega
theorem ayI{l:List Ask}(h:IR w A (asks l) v):jO w v l:=Ft Ask.ints 7 (fun _=>rfl) (l:=l) h
theorem ayJ{l:List bR}(h:IR w A (msgs l) v):lI w v l:=Ft bR.ints 5 (fun _=>rfl) (l:=l) h
theorem ajD {w:World}{A:Nat->Prop}:∀(l:List az) (u:Nat->Nat->Value) (s0:Nat),(∀(i:Nat) (s:az) (j:Nat) (x:AC),l[i]? =some s->(kQ s)[j]? =some x->IR w A x (u (s0+i) j))->
  kB w l ((List.range l.length).flatMap fun i=>(List.range 11).map fun j=>u (s0+i) j)
 |[],u,s0,h=>rfl
 |s::l,u,s0,h=>by
  have c:=fun j x hx=>h 0 s j x rfl hx
  have t:=ajD l u (s0+1) fun i s j x h1 h2=>by
   have:=h (i+1) s j x (by simpa using h1) h2;rwa[show s0+(i+1)=s0+1+i by omega] at this
  refine⟨u s0 8,u s0 10,_,?_,ayI (c 8 _ rfl),ayJ (c 10 _ rfl),t⟩;rw[List.length_cons,List.range_succ_eq_map (n:=l.length),uK,List.flatMap_map]
  have e0:(List.range 11).map (fun j=>u (s0+0) j)=s.row (u s0 8) (u s0 10):=by
   have b9:u (s0+0) 9=.bool s.aK:=ayH (c 9 _ rfl)
   show [u s0 0,u s0 1,u s0 2,u s0 3,u s0 4,u s0 5,u s0 6,u s0 7,u s0 8,u s0 9,u s0 10]=_
   rw[show u s0 0=I s.ev.kind from xA (c 0 _ rfl),show u s0 1=I s.ev.node from xA (c 1 _ rfl),show u s0 2=I s.ev.arg from xA (c 2 _ rfl),show u s0 3=I s.ev.msg.node from xA (c 3 _ rfl),show u s0 4=I s.ev.msg.handler from xA (c 4 _ rfl),
    show u s0 5=I s.ev.msg.count from xA (c 5 _ rfl),show u s0 6=I s.ev.msg.index from xA (c 6 _ rfl),show u s0 7=I s.ev.msg.copy from xA (c 7 _ rfl),show u s0 9=.bool s.aK from b9]
   rfl
  rw[e0];congr 1;refine aF (fun f=>List.flatMap f (List.range l.length)) (funext fun i=> ?_)
  show _=(List.range 11).map fun j=>u (s0+1+i) j
  rw[show s0+1+i=s0+(i+1) by omega]
theorem ajE{l:List az}(h:IR w A (CU l) v):fH w v l:=by
 have h:IR w A (.sl (l.map kQ)) v:=h;generalize hes:l.map kQ=es at h
 cases h with
 |sl k es a c u hn hm hk hc hl=>
  have hlen:es.length=l.length:=by rw[<-hes,dI]
  have bg:∀i s,l[i]? =some s->es[i]? =some (kQ s):=fun i s hs=>by rw[<-hes,fD,hs];rfl
  refine⟨_,ajD (A:=A) l u 0 (fun i s j x h1 h2=>by rw[eP];exact hc i _ j x (bg i s h1) h2),?_⟩
  have cS:((List.range l.length).flatMap fun i=>(List.range 11).map fun j=>u (0+i) j).length=l.length*11:=by
   have:=Kn (fun i:Nat=>(List.range 11).map fun j=>u (0+i) j) 11 (fun _=>ai) (List.range l.length);rwa[BN] at this
  refine⟨cS,ab,a,c,by rw[hlen],fun j y hj=> ?_⟩;have eb:=(bN.1 hj).1;rw[cS] at eb;have hi:j/11<l.length:=ab;have h1:=Ns (fun i:Nat=>(List.range 11).map fun j=>u (0+i) j) 11 (fun _=>ai) (List.range l.length) (j/11) (j%11) (j/11) (by simp[hi]) ab;rw[show j/11*11+j%11=j by omega,hj] at h1
  have h2:y=u (j/11) (j%11):=by
   rw[fD,Gt ab,eP] at h1;simpa using h1
  have hs:l[j/11]? =some l[j/11]:=cz hi
  have ayK:k=11:=by
   have:=hk _ _ (bg _ _ hs);exact this.symm
  subst ayK;obtain⟨b,o,e2,_,e3⟩:=hl _ _ (j%11) (bg _ _ hs) (by show j%11<11;omega);refine⟨b,o,e2,?_⟩;rw[h2,<-e3];congr 2;omega
end Ab
namespace Ab
open Go Go.RowKit
open aD (eX qF Ob pE bL Env aU)
theorem Fu {P:Program}{U:List Nat}{l tl:List BO}{K:St->Prop}{t:OT}{bu:Bool}{st:St}{V1:List (Nat×AV)}{S1:List (Nat×Slot)}(h:aW U (l.map (BO.ao P)) (tl.map (BO.ao P)) (fun st=>st.V=V1/\st.S=S1) t bu st)(h2:∀L,K ⟨V1,L,S1⟩):aW U (l.map (BO.ao P)) (tl.map (BO.ao P)) K t bu st:=
 yD (fun st hs=>by
  obtain⟨V,L,S⟩:=st;obtain⟨rfl,rfl⟩:=hs
  exact h2 L) h
section
variable (s:aD.Node)
@[simp] theorem aaR:(aS s).drop 52=[]:=uG ai
theorem ajF (t:List Int):(aS s).take 7++ints t::(aS s).drop 8=aS { s with timers:=t }:=by
 unfold aS;simp
theorem Mg:aS s=(bA s.up::iA s.version::iA s.fo::iA s.clock::ints s.aY.cells::tR s.aY.pending::ints s.fJ::ints s.timers::nth s.counts 41)++[iA s.waiting,iA s.dropped,iA s.ed]:=by
 unfold aS;simp
theorem aaS (w:Int):(aS s).take 49++iA w::(aS s).drop 50=aS { s with waiting:=w }:=by
 rw[Mg,Mg];have:=Fq (A:=bA s.up::iA s.version::iA s.fo::iA s.clock::ints s.aY.cells::tR s.aY.pending::ints s.fJ::ints s.timers::nth s.counts 41) (B:=[iA s.dropped,iA s.ed]) (k:=49) (iA s.waiting) (iA w) ai;simpa using this
theorem ayL (w:Int):(aS s).take 50++iA w::(aS s).drop 51=aS { s with dropped:=w }:=by
 rw[Mg,Mg];have:=Fq (A:=bA s.up::iA s.version::iA s.fo::iA s.clock::ints s.aY.cells::tR s.aY.pending::ints s.fJ::ints s.timers::(nth s.counts 41++[iA s.waiting])) (B:=[iA s.ed]) (k:=50) (iA s.dropped) (iA w) ai;simpa using this
theorem ayM (w:Int):(aS s).take 51++[iA w]=aS { s with ed:=w }:=by
 rw[Mg,Mg,List.take_append,nB ai];simp
theorem ajG (b:Bool):bA b::(aS s).tail=aS { s with up:=b }:=by
 unfold aS;rfl
theorem ayN (d:aD.jT):(aS s).take 4++ints d.cells::tR d.pending::(aS s).drop 6=aS { s with aY:=d }:=by
 unfold aS;rfl
theorem ajH:((aS s).drop 4).take 1=[ints s.aY.cells]:=by
 unfold aS;rfl
theorem ajI:((aS s).drop 5).take 1=[tR s.aY.pending]:=by
 unfold aS;rfl
theorem ajJ:((aS s).drop 48).take 1=[iA (s.counts.getD 40 0)]:=aaF s (i:=40) ab
end
section
variable (s:aD.Node) (ak sn:AC) (rep:Bool) (val:Int) (fl:AC) (c:aU) (o:List AC) (aE:AC)
theorem ayO (b:Bool):bA b::(rC s ak sn rep val fl c o aE).tail=rC { s with up:=b } ak sn rep val fl c o aE:=by
 unfold rC;rfl
theorem ajK:((rC s ak sn rep val fl c o aE).drop 2).take 1=[iA s.fo]:=by rw[Jj _ _ _ _ _ _ _ _ _ au,ayb]
theorem ayP:((rC s ak sn rep val fl c o aE).drop 1).take 1=[iA s.version]:=by rw[Jj _ _ _ _ _ _ _ _ _ au,List.drop_one,ajh]
theorem ayQ:(rC s ak sn rep val fl c o aE).tail.take 1=[iA s.version]:=by rw[<-List.drop_one,ayP]
theorem ayR (x:Int):(rC s ak sn rep val fl c o aE).take 2++iA x::(rC s ak sn rep val fl c o aE).drop 3=rC { s with fo:=x } ak sn rep val fl c o aE:=by
 unfold rC;rfl
theorem ayS:((rC s ak sn rep val fl c o aE).drop 48).take 1=[iA (s.counts.getD 40 0)]:=ajw s ak sn rep val fl c o aE (i:=40) ab
theorem ayT (k:Int)(hl:40<s.counts.length):(rC s ak sn rep val fl c o aE).take 48++iA k::(rC s ak sn rep val fl c o aE).drop 49=rC { s with counts:=s.counts.set 40 k } ak sn rep val fl c o aE:=ajz s ak sn rep val fl c o aE k (i:=40) ab hl
theorem ajL:((rC s ak sn rep val fl c o aE).drop 54).take 1=[bA rep]:=by rw[Ji _ _ _ _ _ _ _ _ _ 2];simp
theorem ayU:((rC s ak sn rep val fl c o aE).drop 55).take 1=[iA val]:=by rw[Ji _ _ _ _ _ _ _ _ _ 3];simp
theorem ajM (o0 o1 o2 o3 o4 o5:AC):((rC s ak sn rep val fl c [o0,o1,o2,o3,o4,o5] aE).drop 66)=[aE]:=by
 rw[Ji _ _ _ _ _ _ _ _ _ 14];rfl
end
theorem aaT (n:Nat):rowsOf 1 n (dx 1 n [iA 0])=bM (List.replicate n 0):=by
 apply yf;intro i;unfold rowsOf;rw[fD];by_cases hi:i<n
 ·rw[Gt hi,fD,List.getElem?_replicate,aj hi];simp only[yh,aA,dx,Nat.mul_one,Nat.mod_one];apply yf;intro j;rw[wK,oJ,fD]
  cases j with
  |zero=>simp[hi]
  |succ j=>simp
 ·rw[qx (by simpa using hi),qx (by simpa using hi)];rfl
theorem aaU (n:Nat):(dx 1 n [iA 0]).all inl=true:=by
 rw[fE];intro x hx;unfold dx at hx;obtain⟨j,_,rfl⟩:=dp.1 hx;simp[Nat.mod_one]
abbrev evs (l:List Ev):AC:=.sl (l.map iP)
abbrev Px (o:Ob):List AC:=[bA o.apq,iA o.request,iA o.node,iA o.fo,iA o.value]
abbrev aK (l:List Ob):AC:=.sl (l.map Px)
abbrev ajN (f:pE):List AC:=[iA f.gJ.node,iA f.gJ.handler,iA f.gJ.count,iA f.code]
abbrev oD (f:List pE):List AC:=[.sl (f.map ajN)]
abbrev xC (t:List (List Int)):List AC:=[.sl (t.map fun v=>[ints v])]
abbrev Uk (x:Int×Int):List AC:=[iA x.1,iA x.2]
abbrev fR (l:List (Int×Int)):AC:=.sl (l.map Uk)
abbrev iD (w:bL):List AC:=[Uj w.c.dU,ints w.c.first,ints w.c.qG,reqs w.c.eu,iA w.c.ym,iA w.c.qH,iA w.c.tI,iA w.c.drift,
 .sl (w.nodes.map aS),kj w.bI,ints w.next,aK w.aK,.sl (w.bH.map oD),.sl (w.traces.map xC),fR w.covered,iA w.steps]
abbrev wO (c:eX)(fl ob cv:AC)(st:Int)(g1 g2 g3 g4:Nat):List AC:=[Uj c.dU,ints c.first,ints c.qG,reqs c.eu,iA c.ym,iA c.qH,iA c.tI,iA c.drift,
 .own 601 g1,fl,.own 602 g2,ob,.own 603 g3,.own 604 g4,cv,iA st]
abbrev ayV (nodes:List aD.Node)(next:List Int)(fails:List (List pE))(traces:List (List (List Int)))(g1 g2 g3 g4:Nat):List (Nat×Slot):=
 [(601,.row 193 52 g1 (nodes.map aS)),(602,.row 3 1 g2 (bM next)),(603,.row 300 1 g3 (fails.map oD)),(604,.row 79 1 g4 (traces.map xC))]
end Ab
namespace Ab
open Go Go.RowKit
attribute [local irreducible] aP bB aW
open aD (gA eW Rr aU uQ yk zX zZ)
theorem Mh {D:List Nat}{st:St}:∀{a b x y:List AC},st.kK D a=some x->st.kK D b=some y->st.kK D (a++b)=some (x++y)
 |[],b,x,y,ha,hb=>by cases ha;exact hb
 |c::a,b,x,y,ha,hb=>by
  unfold St.kK at ha;split at ha
  ·rename_i u v h1 h2;cases ha;rw[List.cons_append];unfold St.kK;rw[h1,Mh h2 hb];rfl
  ·cases ha
theorem Mi {D:List Nat}{st:St}:∀{a:List AC},a.all inl=true->st.kK D a=some a
 |[],_=>rfl
 |c::a,h=>by
  simp only[BR,bZ] at h;unfold St.kK;rw[Mi h.2]
  cases c with
  |own s g=>cases h.1
  |cK s g=>cases h.1
  |part s g i=>cases h.1
  |cls f cn=>cases h.1
  |fV f cn=>rfl
  |v x=>rfl
  |sl es=>rfl
section
variable {s:aD.Node} {ak:AC} {rep:Bool} {val:Int} {c:aU} {o:List AC} {aE:AC}
theorem ayW {D:List Nat}{st:St}{s1 s2 g1 g2:Nat}(Bk:inl ak=true)(ho:o.all inl=true)(vX:inl aE=true)(h1:s1∈D)(h2:s2∈D):st.kK D (rC s ak (.own s1 g1) rep val (.own s2 g2) c o aE)=some (rC s ak (.own s1 g1) rep val (.own s2 g2) c o aE):=by
 rw[eN];refine Mh (Mi (Ue s)) ?_;have e:([ak,AC.own s1 g1,bA rep,iA val,AC.own s2 g2,iA c.node,iA c.handler,iA c.count]++o++[aE])=[ak]++([AC.own s1 g1]++([bA rep,iA val]++([AC.own s2 g2]++([iA c.node,iA c.handler,iA c.count]++(o++[aE]))))):=ai;rw[e]
 have own:∀(s g:Nat),s∈D->st.kK D [AC.own s g]=some [AC.own s g]:=fun s g hs=>by simp[St.kK,St.pO,hs]
 refine Mh (Mi (by simp[Bk])) (Mh (own _ _ h1) (Mh (Mi ai) (Mh (own _ _ h2) (Mi (by simp[ho,vX])))))
end
theorem ayX (r r':Rr)(a:gA)(ak aE:AC)(o:List AC)(g1 g2:Nat)(h:uQ r a=some r')(Bk:inl ak=true)(hoi:o.all inl=true)(vX:inl aE=true)(ho:o.length=6)(hc:r.s.aY.cells.length<=1000000)(hp:r.s.aY.pending.length<=1000000)(ht:r.s.timers.length<=1000000)(hs:r.sent.length<=1000000)(hf:r.bH.length<=1000000):
  iK Tryz.prog 255 [.w (.agg (rC r.s ak (.own 401 g1) r.sq r.value (.own 402 g2) r.gJ o aE)),.w (.agg (Ih a))] [(401,.row 208 9 g1 (r.sent.map xl)),(402,.row 3 1 g2 (bM r.bH))]
  (fun x S'=>x=.w (.agg (rC r'.s ak (.own 401 (g1+(r'.sent.length-r.sent.length))) r'.sq r'.value (.own 402 (g2+(r'.bH.length-r.bH.length))) r.gJ o aE))/\∀p∈[(401,Slot.row 208 9 (g1+(r'.sent.length-r.sent.length)) (r'.sent.map xl)),(402,Slot.row 3 1 (g2+(r'.bH.length-r.bH.length)) (bM r'.bH))],S' p.1=p.2):=by
 have fz:∀(st:St) (s:aD.Node) (rep:Bool) (val:Int) (g1 g2:Nat),st.kK [401,402] (rC s ak (.own 401 g1) rep val (.own 402 g2) r.gJ o aE)=some (rC s ak (.own 401 g1) rep val (.own 402 g2) r.gJ o aE):=fun st s rep val g1 g2=>ayW Bk hoi vX ai ai
 have hw:∀(s:aD.Node) (rep:Bool) (val:Int) (g1 g2:Nat),(rC s ak (.own 401 g1) rep val (.own 402 g2) r.gJ o aE).take 67=rC s ak (.own 401 g1) rep val (.own 402 g2) r.gJ o aE:=fun s rep val g1 g2=>nB (by rw[Ug _ _ _ _ _ _ _ _ _ ho];exact cP _)
 have hl:∀(s:aD.Node) (sn fl:AC) (rep:Bool) (val:Int),(rC s ak sn rep val fl r.gJ o aE).length=67:=fun s sn fl rep val=>Ug _ _ _ _ _ _ _ _ _ ho
 unfold uQ at h;refine rh Tryz.func255 (aB 500 []) [] [.cell 4 67] [2,3,4,5,7] [502,503,504,505] ?_;by_cases k1:a.kind=1
 ·rw[aj k1,bU] at h;obtain⟨d,hd,rfl⟩:=h;have FF:=gR @k1 @hl @hw @fz @ajp @aaI;refine bY (arI r.s.aY d a.a a.b hd hc hp) ?_;refine kL ?_;exact(by simp[ek])
 rw[af k1] at h;by_cases k2:a.kind=2
 ·rw[aj k2,bU] at h;obtain⟨d,hd,rfl⟩:=h;have FF:=gR @k2 @hl @hw @fz @ajp @aaI;refine bY (arH r.s.aY d hd hc hp) ?_;refine kL ?_;exact(by simp[ek])
 rw[af k2] at h;by_cases k4:a.kind=4
 ·rw[aj k4] at h;cases h;have FF:=gR @k4 @hl @hw @fz @ajq @aaJ;refine bY (ajg r.s.timers a.a true ht) ?_;refine kL ?_;exact(by simp[ek])
 rw[af k4] at h;by_cases k5:a.kind=5
 ·rw[aj k5] at h;cases h;have FF:=gR @k5 @hl @hw @fz @ajq @aaJ;refine bY (ajg r.s.timers a.a false ht) ?_;refine kL ?_;exact(by simp[ek])
 rw[af k5] at h;by_cases k3:a.kind=3
 ·rw[aj k3] at h;cases h;have Jl:r.sent.length+1<=100000000:=ab;have FF:=wI @k3 @hl @hw @fz @Mc @Jk @aym @Jl
  try refine aG ?_
  refine kL ?_;exact(by simp[ek])
 rw[af k3] at h;by_cases k6:a.kind=6
 ·rw[aj k6] at h;by_cases w1:0<=r.s.waiting
  ·by_cases w2:a.a=r.s.waiting
   ·rw[aj ⟨w1,w2⟩] at h;cases h;have FF:=Gg @k6 @hl @hw @fz @w1 @w2 @aaH @ajr @ayn @ayo
    try refine aG ?_
    refine kL ?_;exact(by simp[ek])
   ·rw[af (fun hh=>w2 hh.2)] at h;cases h;have FF:=kU @k6 @hl @hw @fz @w1 @w2 @aaH
    try refine aG ?_
    refine kL ?_;exact(by simp[ek])
  ·rw[af (fun hh=>w1 hh.1)] at h;cases h;have FF:=gR @k6 @hl @hw @fz @w1 @aaH
   try refine aG ?_
   refine kL ?_;exact(by simp[ek])
 rw[af k6] at h;by_cases k7:a.kind=7
 ·rw[aj k7] at h;cases h;have hf8:r.bH.length+1<=100000000:=ab;have FF:=kU @k7 @hl @hw @fz @Uh @ayp @hf8
  try refine aG ?_
  refine kL ?_;exact(by simp[ek])
 rw[af k7] at h;cases h;have FF:=Gg @k1 @k2 @k3 @k4 @k5 @k6 @k7 @hl @hw @fz
 try refine aG ?_
 refine kL ?_;exact(by simp[ek])
end Ab
end Go.Proofs.YtkanpepkdcmpmaaGreatDoor
