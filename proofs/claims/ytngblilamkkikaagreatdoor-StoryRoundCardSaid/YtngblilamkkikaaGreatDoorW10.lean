import Derived.Test.YtngblilamkkikaaGreatDoorW6
import Derived.Test.YtngblilamkkikaaGreatDoorW9
set_option maxHeartbeats 40000000
set_option maxRecDepth 100000
set_option linter.all false
namespace Go.Proofs.YtngblilamkkikaaGreatDoor
namespace Ab
open Go Go.RowKit
attribute [local irreducible] aL bm aU
open aD (jk jD uY yq wD Ao uZ iD)
theorem afi:∀(l:List (Int×Int)) (m:List Bool) (k:Nat) (hl:k<l.length) (hm:k<m.length),iD (l.take (k+1)) (m.take (k+1))=iD (l.take k) (m.take k)++if m[k] then [l[k]] else []
 |x::l,b::m,0,_,_=>by cases b<;>simp[iD]
 |x::l,b::m,k+1,hl,hm=>by
  have ih:=afi l m k (by simpa using hl) (by simpa using hm);simp only[List.take_succ_cons,iD,List.getElem_cons_succ];rw[ih];cases b<;>simp
theorem afj:∀(l:List (Int×Int)) (m:List Bool) (k:Nat),(l.length<=k\/m.length<=k)->iD (l.take k) (m.take k)=iD l m
 |[],m,k,_=>by simp[iD]
 |x::l,[],k,_=>by cases k<;>simp[iD]
 |x::l,b::m,0,h=>by simp at h
 |x::l,b::m,k+1,h=>by
  simp only[List.take_succ_cons,iD];rw[afj l m k (by simpa using h)]
theorem afk:∀(l:List (Int×Int)) (m:List Bool),(iD l m).length<=l.length
 |[],m=>by simp[iD]
 |x::l,[]=>by simp[iD]
 |x::l,b::m=>by
  have:=afk l m;unfold iD;split<;>simp<;>omega
theorem arQ (d r:jk)(keep:List Bool)(h:Ao d keep=some r)(hm:d.cells.length<=1000000)(hp:d.pending.length<=1000000):bu Tryz.prog 169 [.agg (nP d),.c (Wv keep)] (fun x=>x=.w (.agg (nP r))):=by
 unfold Ao at h;rw[bK] at h;obtain⟨c,h1,rfl⟩:=h;have lW:=afk d.pending keep;refine cD Tryz.func169 ⟨0,[5],[],[(7,[5])],dc,[],[]⟩ [] [.cell 4 2] [2,4,5,6] [2,4,5] ?_;have FF:=trivial
 try refine aJ ?_
 refine dB (fun n V S=>∃(k g:Nat) (o:List (Int×Int)),k<=d.pending.length/\n=d.pending.length-k/\o=iD (d.pending.take k) (keep.take k)/\o.length<=k/\
  V=[(0,.w (.agg (nP d))),(1,.w (.c (Wv keep))),(2,.pb 2 1 0),(4,.pb 4 1 0),(5,.w (.c (.own 5 g))),(6,.w (.c (iA k)))]/\S=[(2,.box 1 (nP d)),(4,.box 1 [.sl [],.sl []]),(5,.row 330 2 g (o.map fun p=>[iA p.1,iA p.2]))]) (n:=d.pending.length) ⟨0,1,[],ab,ab,by simp[iD],ai,rfl,rfl⟩ ?_
 rintro n V L S ⟨k,g,o,hk,rfl,ho,vB,rfl,rfl⟩
 have lF:(d.pending.length<=k\/keep.length<=k)->o=iD d.pending keep:=fun hh=>by rw[ho,afj _ _ _ hh]
 by_cases hlt:k<d.pending.length
 ·by_cases oH:k<keep.length
  ·have cL:k<=1000000000:=ab
   obtain⟨x,hx⟩:∃x,d.pending[k]=x:=⟨_,rfl⟩
   obtain⟨b,hb⟩:∃b,keep[k]=b:=⟨_,rfl⟩
   have cM:=afi d.pending keep k hlt oH;rw[<-ho,hx,hb] at cM
   cases b with
   |true=>
    have FF:=jT @hlt @oH @hx @hb (bT cL)
    try refine aJ ?_
    exact⟨d.pending.length-(k+1),ab,k+1,g+1,o++[x],ab,ab,cM.symm,by simp;omega,rfl,ai⟩
   |false=>
    have FF:=jT @hlt @oH @hx @hb (bT cL)
    try refine aJ ?_
    exact⟨d.pending.length-(k+1),ab,k+1,g,o,ab,ab,by simpa using cM.symm,ab,rfl,rfl⟩
  ·have hf:=lF (.inr ab);have FF:=lI @hlt @oH;refine bU (QD d.cells o c (by rw[hf];exact h1) hm (by rw[hf];omega)) ?_;refine zE ?_;exact(rfl)
 ·have hf:=lF (.inl ab);have FF:=@hlt;refine bU (QD d.cells o c (by rw[hf];exact h1) hm (by rw[hf];omega)) ?_;refine zE ?_;exact(rfl)
end Ab
namespace Ab
open Go Go.RowKit
open aD (fm eo Rr aT td)
abbrev eb (a:Ask):List AC:=[iA a.node,iA a.handler,iA a.count,iA a.kind,iA a.index,iA a.arity,iA a.n]
abbrev asks (l:List Ask):AC:=.sl (l.map eb)
@[irreducible] def rC (s:aD.Node)(ak sn:AC)(rep:Bool)(val:Int)(fl:AC)(c:aT)(o:List AC)(aE:AC):List AC:=
 [bA s.up,iA s.version,iA s.eC,iA s.clock,ints s.aY.cells,sf s.aY.pending,ints s.eO,ints s.timers]++(nth s.counts 41++[iA s.waiting,iA s.dropped,iA s.dJ,ak,sn,bA rep,iA val,fl,iA c.node,iA c.handler,iA c.count]++o++[aE])
section
variable (s:aD.Node) (ak sn:AC) (rep:Bool) (val:Int) (fl:AC) (c:aT) (o:List AC) (aE:AC)
theorem dW:rC s ak sn rep val fl c o aE=aS s++([ak,sn,bA rep,iA val,fl,iA c.node,iA c.handler,iA c.count]++o++[aE]):=by
 unfold rC aS;simp
theorem Rj (ho:o.length=6):(rC s ak sn rep val fl c o aE).length=67:=by rw[dW];simp[ho]
theorem afl:(rC s ak sn rep val fl c o aE).take 52=aS s:=by rw[dW,sU ai,afc]
theorem FM (k:Nat):(rC s ak sn rep val fl c o aE).drop (52+k)=([ak,sn,bA rep,iA val,fl,iA c.node,iA c.handler,iA c.count]++o++[aE]).drop k:=by
 rw[dW,show 52=(aS s).length by simp,<-List.drop_drop,lM]
theorem FN {k n:Nat}(h:k+n<=52):((rC s ak sn rep val fl c o aE).drop k).take n=((aS s).drop k).take n:=by
 rw[dW,zU bC,sU bC]
theorem afm:((rC s ak sn rep val fl c o aE).drop 4).take 2=nP s.aY:=by rw[FN _ _ _ _ _ _ _ _ _ aq,arA]
theorem afn:((rC s ak sn rep val fl c o aE).drop 7).take 1=[ints s.timers]:=by rw[FN _ _ _ _ _ _ _ _ _ aq,arB]
theorem Xl:((rC s ak sn rep val fl c o aE).drop 49).take 1=[iA s.waiting]:=by rw[FN _ _ _ _ _ _ _ _ _ aq,afb]
theorem JB:((rC s ak sn rep val fl c o aE).drop 53).take 1=[sn]:=by rw[FM _ _ _ _ _ _ _ _ _ 1];simp
theorem Rk:((rC s ak sn rep val fl c o aE).drop 56).take 1=[fl]:=by rw[FM _ _ _ _ _ _ _ _ _ 4];simp
theorem FO:((rC s ak sn rep val fl c o aE).drop 57).take 3=[iA c.node,iA c.handler,iA c.count]:=by rw[FM _ _ _ _ _ _ _ _ _ 5];simp
theorem Xm (d:aD.jk):(rC s ak sn rep val fl c o aE).take 4++ints d.cells::sf d.pending::(rC s ak sn rep val fl c o aE).drop 6=rC { s with aY:=d } ak sn rep val fl c o aE:=by
 unfold rC;simp
theorem Xn (t:List Int):(rC s ak sn rep val fl c o aE).take 7++ints t::(rC s ak sn rep val fl c o aE).drop 8=rC { s with timers:=t } ak sn rep val fl c o aE:=by
 unfold rC;simp
theorem De {A B:List AC}{k:Nat}(x y:AC)(h:A.length=k):(A++x::B).take k++y::(A++x::B).drop (k+1)=A++y::B:=by
 subst h;rw[nW,<-List.drop_drop,lM];rfl
theorem afo (w:Int):(rC s ak sn rep val fl c o aE).take 49++iA w::(rC s ak sn rep val fl c o aE).drop 50=rC { s with waiting:=w } ak sn rep val fl c o aE:=by
 unfold rC;simp only[<-List.append_assoc,List.cons_append,List.nil_append];have:=De (A:=bA s.up::iA s.version::iA s.eC::iA s.clock::ints s.aY.cells::sf s.aY.pending::ints s.eO::ints s.timers::nth s.counts 41) (B:=iA s.dropped::iA s.dJ::ak::sn::bA rep::iA val::fl::iA c.node::iA c.handler::iA c.count::(o++[aE])) (k:=49) (iA s.waiting) (iA w) ai;simpa using this
theorem arR (x:AC):(rC s ak sn rep val fl c o aE).take 53++x::(rC s ak sn rep val fl c o aE).drop 54=rC s ak x rep val fl c o aE:=by
 rw[dW,dW];have:=De (A:=aS s++[ak]) (B:=bA rep::iA val::fl::iA c.node::iA c.handler::iA c.count::(o++[aE])) (k:=53) sn x ai;simpa using this
theorem arS (x:Bool):(rC s ak sn rep val fl c o aE).take 54++bA x::(rC s ak sn rep val fl c o aE).drop 55=rC s ak sn x val fl c o aE:=by
 rw[dW,dW];have:=De (A:=aS s++[ak,sn]) (B:=iA val::fl::iA c.node::iA c.handler::iA c.count::(o++[aE])) (k:=54) (bA rep) (bA x) ai;simpa using this
theorem arT (x:Int):(rC s ak sn rep val fl c o aE).take 55++iA x::(rC s ak sn rep val fl c o aE).drop 56=rC s ak sn rep x fl c o aE:=by
 rw[dW,dW];have:=De (A:=aS s++[ak,sn,bA rep]) (B:=fl::iA c.node::iA c.handler::iA c.count::(o++[aE])) (k:=55) (iA val) (iA x) ai;simpa using this
theorem arU (x:AC):(rC s ak sn rep val fl c o aE).take 56++x::(rC s ak sn rep val fl c o aE).drop 57=rC s ak sn rep val x c o aE:=by
 rw[dW,dW];have:=De (A:=aS s++[ak,sn,bA rep,iA val]) (B:=iA c.node::iA c.handler::iA c.count::(o++[aE])) (k:=56) fl x ai;simpa using this
end
theorem Xo (s:aD.Node)(k:Nat)(l:List AC):(aS s++l).take (52+k)=aS s++l.take k:=by
 rw[List.take_append,lK ai,Rb,show 52+k-52=k by omega]
theorem Df (s:aD.Node)(k:Nat)(l:List AC):(aS s++l).drop (52+k)=l.drop k:=by
 rw[List.drop_append,sV ai,Rb,show 52+k-52=k by omega];rfl
theorem arV (s:aD.Node)(l:List AC):(aS s++l).take 57=aS s++l.take 5:=Xo s 5 l
theorem arW (s:aD.Node)(l:List AC):(aS s++l).drop 60=l.drop 8:=Df s 8 l
theorem afp (s:aD.Node)(ak sn:AC)(rep:Bool)(val:Int)(fl:AC)(a b c:Int)(o0 o1 o2 o3 o4 o5 aE:AC):aS s++[ak,sn,bA rep,iA val,fl,iA a,iA b,iA c,o0,o1,o2,o3,o4,o5,aE]=rC s ak sn rep val fl ⟨a,b,c⟩ [o0,o1,o2,o3,o4,o5] aE:=by
 rw[dW];simp
section
variable (s:aD.Node) (ak sn:AC) (rep:Bool) (val:Int) (fl:AC) (c:aT) (o:List AC) (aE:AC)
theorem Xp (k:Nat):(rC s ak sn rep val fl c o aE)[52+k]? =([ak,sn,bA rep,iA val,fl,iA c.node,iA c.handler,iA c.count]++o++[aE])[k]? :=by
 rw[dW,jz ai,Rb,show 52+k-52=k by omega]
theorem arX:(rC s ak sn rep val fl c o aE)[52]? =some ak:=Xp s ak sn rep val fl c o aE 0
theorem arY:(rC s ak sn rep val fl c o aE)[53]? =some sn:=Xp s ak sn rep val fl c o aE 1
theorem arZ:(rC s ak sn rep val fl c o aE)[56]? =some fl:=Xp s ak sn rep val fl c o aE 4
theorem afq (h:52<(rC s ak sn rep val fl c o aE).length):(rC s ak sn rep val fl c o aE)[52]'h=ak:=ei ((cy h).symm.trans (arX s ak sn rep val fl c o aE))
theorem asa (h:53<(rC s ak sn rep val fl c o aE).length):(rC s ak sn rep val fl c o aE)[53]'h=sn:=ei ((cy h).symm.trans (arY s ak sn rep val fl c o aE))
theorem asb (h:56<(rC s ak sn rep val fl c o aE).length):(rC s ak sn rep val fl c o aE)[56]'h=fl:=ei ((cy h).symm.trans (arZ s ak sn rep val fl c o aE))
theorem Xq (k:Nat)(x:AC):(rC s ak sn rep val fl c o aE).set (52+k) x=aS s++([ak,sn,bA rep,iA val,fl,iA c.node,iA c.handler,iA c.count]++o++[aE]).set k x:=by
 rw[dW,Lm _ _ ai,Rb,show 52+k-52=k by omega]
theorem afr (x:AC):(rC s ak sn rep val fl c o aE).set 52 x=rC s x sn rep val fl c o aE:=by rw[Xq s ak sn rep val fl c o aE 0,dW];rfl
theorem ase (x:AC):(rC s ak sn rep val fl c o aE).set 53 x=rC s ak x rep val fl c o aE:=by rw[Xq s ak sn rep val fl c o aE 1,dW];rfl
theorem asf (x:AC):(rC s ak sn rep val fl c o aE).set 56 x=rC s ak sn rep val x c o aE:=by rw[Xq s ak sn rep val fl c o aE 4,dW];rfl
theorem Xr:((rC s ak sn rep val fl c o aE).drop 3).take 1=[iA s.clock]:=by rw[FN _ _ _ _ _ _ _ _ _ aq,arz]
theorem afs (k:Int):(rC s ak sn rep val fl c o aE).take 3++iA k::(rC s ak sn rep val fl c o aE).drop 4=rC { s with clock:=k } ak sn rep val fl c o aE:=by
 unfold rC;simp
theorem asg (v:List Int):(rC s ak sn rep val fl c o aE).take 6++ints v::(rC s ak sn rep val fl c o aE).drop 7=rC { s with eO:=v } ak sn rep val fl c o aE:=by
 unfold rC;simp
theorem Rl:((rC s ak sn rep val fl c o aE).drop 52).take 1=[ak]:=by rw[FM _ _ _ _ _ _ _ _ _ 0];rfl
theorem Xs (x:AC):(rC s ak sn rep val fl c o aE).take 52++x::(rC s ak sn rep val fl c o aE).drop 53=rC s x sn rep val fl c o aE:=by
 rw[dW,dW];have:=De (A:=aS s) (B:=sn::bA rep::iA val::fl::iA c.node::iA c.handler::iA c.count::(o++[aE])) (k:=52) ak x ai;simpa using this
theorem aft {i:Nat}(h:i<41):((rC s ak sn rep val fl c o aE).drop (8+i)).take 1=[iA (s.counts.getD i 0)]:=by rw[FN _ _ _ _ _ _ _ _ _ ab,Xh s h]
theorem gP (o0 o1 o2 o3 o4 o5:AC):(rC s ak sn rep val fl c [o0,o1,o2,o3,o4,o5] aE).length=67:=Rj _ _ _ _ _ _ _ _ _ rfl
theorem tP (o0 o1 o2 o3 o4 o5:AC):(rC s ak sn rep val fl c [o0,o1,o2,o3,o4,o5] aE).take 67=rC s ak sn rep val fl c [o0,o1,o2,o3,o4,o5] aE:=lK (by rw[gP];exact cI _)
theorem afu (x y z:Int):(rC s ak sn rep val fl c o aE).take 57++iA x::iA y::iA z::(rC s ak sn rep val fl c o aE).drop 60=rC s ak sn rep val fl ⟨x,y,z⟩ o aE:=by
 rw[dW,dW,arV,arW];simp
theorem ash (o0 o1 o2 o3 o4 o5 x0 x1 x2 x3 x4 x5:AC):(rC s ak sn rep val fl c [o0,o1,o2,o3,o4,o5] aE).take 60++x0::x1::x2::x3::x4::x5::(rC s ak sn rep val fl c [o0,o1,o2,o3,o4,o5] aE).drop 66=rC s ak sn rep val fl c [x0,x1,x2,x3,x4,x5] aE:=by
 rw[dW,dW,show(60:Nat)=52+8 by rfl,Xo,show(66:Nat)=52+14 by rfl,Df];simp
theorem asi (o0 o1 o2 o3 o4 o5 x:AC):(rC s ak sn rep val fl c [o0,o1,o2,o3,o4,o5] aE).take 66++[x]=rC s ak sn rep val fl c [o0,o1,o2,o3,o4,o5] x:=by
 rw[dW,dW,show(66:Nat)=52+14 by rfl,Xo];simp
theorem afv (o0 o1 o2 o3 o4 o5:AC):((rC s ak sn rep val fl c [o0,o1,o2,o3,o4,o5] aE).drop 60).take 1=[o0]:=by rw[dW,show(60:Nat)=52+8 by rfl,Df];simp
theorem Xt (o0 o1 o2 o3 o4 o5:AC):((rC s ak sn rep val fl c [o0,o1,o2,o3,o4,o5] aE).drop 61).take 1=[o1]:=by rw[dW,show(61:Nat)=52+9 by rfl,Df];simp
theorem asj (o0 o1 o2 o3 o4 o5:AC):((rC s ak sn rep val fl c [o0,o1,o2,o3,o4,o5] aE).drop 62).take 1=[o2]:=by rw[dW,show(62:Nat)=52+10 by rfl,Df];simp
theorem asl (o0 o1 o2 o3 o4 o5:AC):((rC s ak sn rep val fl c [o0,o1,o2,o3,o4,o5] aE).drop 63).take 1=[o3]:=by rw[dW,show(63:Nat)=52+11 by rfl,Df];simp
theorem asm (o0 o1 o2 o3 o4 o5:AC):((rC s ak sn rep val fl c [o0,o1,o2,o3,o4,o5] aE).drop 64).take 1=[o4]:=by rw[dW,show(64:Nat)=52+12 by rfl,Df];simp
theorem Xu (o0 o1 o2 o3 o4 o5:AC):((rC s ak sn rep val fl c [o0,o1,o2,o3,o4,o5] aE).drop 65).take 1=[o5]:=by rw[dW,show(65:Nat)=52+13 by rfl,Df];simp
theorem asn (l:List Int)(n i:Nat)(x:Int)(hl:i<l.length):nth (l.set i x) n=(nth l n).set i (iA x):=by
 apply wm;intro k;by_cases hk:k<n
 ·rw[QZ _ _ _ hk,List.getElem?_set];split
  ·rename_i e;subst e;simp[hk,hl]
  ·rename_i e;rw[QZ _ _ _ hk];simp[ff,e]
 ·rw[oW bC,oW bC]
theorem afw {i:Nat}(k:Int)(h:i<41)(hl:i<s.counts.length):(rC s ak sn rep val fl c o aE).take (8+i)++iA k::(rC s ak sn rep val fl c o aE).drop (8+i+1)=rC { s with counts:=s.counts.set i k } ak sn rep val fl c o aE:=by
 have e:∀L:List AC,8+i<L.length->L.take (8+i)++iA k::L.drop (8+i+1)=L.set (8+i) (iA k):=fun L hL=>by rw[List.set_eq_take_append_cons_drop,aj hL]
 unfold rC;rw[asn _ _ _ _ hl,e _ bC,Ck 8 i,Lm _ _ ai];simp only[List.length_cons,List.length_nil,List.append_assoc];rw[show i+8-(0+1+1+1+1+1+1+1+1)=i by omega,List.set_append_left _ _ bC]
end
theorem tQ {s g:Nat}{es:List (List AC)}:∀{cs:List AC},cs.all inl=true->cs.map (lx s g es)=cs
 |[],_=>rfl
 |c::cs,h=>by
  simp only[Af,bO] at h;rw[cY,tQ h.2]
  cases c with
  |own s g=>cases h.1
  |cB s g=>cases h.1
  |part s g i=>cases h.1
  |cls f bP=>cases h.1
  |fc f bP=>rfl
  |v x=>rfl
  |sl es=>rfl
@[simp] theorem JC (n:aD.Node)(s g:Nat)(es:List (List AC)):(aS n).map (lx s g es)=aS n:=tQ (Rc n)
theorem afx {n:aD.Node}{ga gb gd:Nat}{rep:Bool}{val:Int}{c:aT}{o:List AC}{aE:AC}{es:List (List AC)}(ho:o.all inl=true)(tR:inl aE=true):(rC n (.own 400 ga) (.own 401 gb) rep val (.own 402 gd) c o aE).map (lx 400 ga es)=rC n (.sl es) (.own 401 gb) rep val (.own 402 gd) c o aE:=by
 rw[dW,dW,cU,JC,cU,cU,tQ ho,tQ (cs:=[aE]) (by simp[tR])];simp[lx]
theorem JD {st:St}:∀{a b x y:List AC},st.jo a=some x->st.jo b=some y->st.jo (a++b)=some (x++y)
 |[],b,x,y,ha,hb=>by cases ha;exact hb
 |c::a,b,x,y,ha,hb=>by
  unfold St.jo at ha;split at ha
  ·rename_i u v h1 h2;cases ha;rw[List.cons_append];unfold St.jo;rw[h1,JD h2 hb];rfl
  ·cases ha
theorem JE {st:St}:∀{a:List AC},a.all inl=true->st.jo a=some a
 |[],_=>rfl
 |c::a,h=>by
  simp only[Af,bO] at h;unfold St.jo;rw[JE h.2]
  cases c with
  |own s g=>cases h.1
  |cB s g=>cases h.1
  |part s g i=>cases h.1
  |cls f bP=>cases h.1
  |fc f bP=>rfl
  |v x=>rfl
  |sl es=>rfl
theorem afy {st:St}{n:aD.Node}{ak sn fl sn' fl':AC}{rep:Bool}{val:Int}{c:aT}{o:List AC}{aE:AC}(yZ:inl ak=true)(ho:o.all inl=true)(tR:inl aE=true)(h1:st.fz sn=some sn')(h2:st.fz fl=some fl'):st.jo (rC n ak sn rep val fl c o aE)=some (rC n ak sn' rep val fl' c o aE):=by
 rw[dW,dW];refine JD (JE (Rc n)) ?_
 have e:∀(a b:AC),([ak,a,bA rep,iA val,b,iA c.node,iA c.handler,iA c.count]++o++[aE])=[ak]++([a]++([bA rep,iA val]++([b]++([iA c.node,iA c.handler,iA c.count]++(o++[aE]))))):=fun a b=>ai
 rw[e,e]
 have one:∀(a b:AC),st.fz a=some b->st.jo [a]=some [b]:=fun a b h=>by simp[St.jo,h]
 exact JD (JE (by simp[yZ])) (JD (one _ _ h1) (JD (JE ai) (JD (one _ _ h2) (JE (by simp[ho,tR])))))
end Ab
namespace Ab
open Go Go.RowKit jc
open aD (et pk)
abbrev Rm (l:List Prog):AC:=.sl (l.map cz)
abbrev afz (r:pk):List AC:=[iA r.node,iA r.op,iA r.key,iA r.arg]
abbrev reqs (l:List pk):AC:=.sl (l.map afz)
abbrev zb (c:et):List AC:=[Rm c.dA,ints c.first,ints c.po,reqs c.dO,iA c.wF,iA c.pq,iA c.rW,iA c.drift]
end Ab
namespace Ab
open Go Go.RowKit
variable {A:Nat->Prop} {v:Value} {w:World}
abbrev kR (e:Ev):List AC:=[iA e.kind,iA e.node,iA e.arg,iA e.msg.node,iA e.msg.handler,iA e.msg.count,iA e.msg.index,iA e.msg.copy]
abbrev mK (s:az):List AC:=kR s.ev++[asks s.asks,bA s.aX,msgs s.sent]
abbrev FP (l:List az):AC:=.sl (l.map mK)
theorem Fr.below{w':World}(h:Fr (fun b=>b<w.heap.size) w w'):ay w w':=⟨h.os,h.tape,h.out,h.size,h.block⟩
theorem aso{l:List Int}{k:Option Addr}{c:Nat}(h:bW w (.slice k l.length c) l)(hc:l.length<=c):IR w (fun _=>False) (ints l) (.slice k l.length c):=by
 obtain⟨_,hm,a,c',e,hr⟩:=h;simp only[Value.slice.injEq,true_and] at e;obtain⟨rfl,rfl⟩:=e
 have key:∀i (hi:i<l.length),∃b o,k=some ⟨b,o,none⟩/\w.cell? ⟨b,o+i,none⟩=some (I l[i]):=fun i hi=>hr i _ (by simp[iv,hi])
 have row:∀(i:Nat) (row:List AC),(l.map fun n=>[iA n])[i]? =some row->∃hi:i<l.length,row=[iA l[i]]:=fun i row h1=>by
  rw[eZ,bK] at h1;obtain⟨n,hn,rfl⟩:=h1;obtain⟨hi,rfl⟩:=bG.1 hn;exact⟨hi,rfl⟩
 have:=IR.sl (w:=w) (A:=fun _=>False) 1 (l.map fun n=>[iA n]) k c (fun i _=>I (l.getD i 0)) (by simpa using hc) (by simpa using hm) (fun i r h1=>by
   obtain⟨_,rfl⟩:=row i r h1
   rfl) (fun i r j x h1 h2=>by
   obtain⟨hi,rfl⟩:=row i r h1
   match j,h2 with
   |0,h2=>
    simp only[Ir,aC] at h2;subst h2;rw[ff,cy hi];exact IR.v _ rfl
   |j+1,h2=>simp at h2) (fun i r j h1 h2=>by
   obtain⟨hi,rfl⟩:=row i r h1
   have hj:j=0:=by simpa using h2
   subst hj;obtain⟨b,o,e1,e2⟩:=key i hi
   exact⟨b,o,e1,fun hh=>hh,by rw[ff,cy hi,Nat.mul_one,uP];exact e2⟩)
 simpa using this
theorem AM{n:Int}(h:IR w A (iA n) v):v=I n:=by
 cases h;rfl
theorem asp{b:Bool}(h:IR w A (bA b) v):v=.bool b:=by
 cases h;rfl
theorem Rn{α:Type}(f:α->List Int)(k:Nat)(hf:∀x,(f x).length=k){l:List α}(h:IR w A (.sl (l.map fun x=>(f x).map iA)) v):Flat w k v l.length (l.flatMap fun x=>iv (f x)):=by
 generalize hes:(l.map fun x=>(f x).map iA)=es at h
 cases h with
 |sl k' es a c u hn hm hk hc hl=>
  have hlen:es.length=l.length:=by rw[<-hes,dy]
  refine⟨IC (fun x=>iv (f x)) k (fun x=>by simp[iv,hf]) l,ab,a,c,by rw[hlen],fun j y hj=> ?_⟩
  have bj:0<k:=by
   rcases Nat.eq_zero_or_pos k with h0|h0
   ·subst h0;have:=(bG.1 hj).1;rw[IC (fun x=>iv (f x)) 0 (fun x=>by simp[iv,hf]) l] at this;omega
   ·exact h0
  have dV:=(bG.1 hj).1;rw[IC (fun x=>iv (f x)) k (fun x=>by simp[iv,hf]) l] at dV;have hi:j/k<l.length:=Nat.div_lt_of_lt_mul (by rw[EP];exact dV);have hr:j%k<k:=oZ _ bj
  have MG:j=j/k*k+j%k:=by rw[EP];exact(Nat.div_add_mod j k).symm
  have hx:l[j/k]? =some l[j/k]:=cy hi;have h1:=Lx (fun x=>iv (f x)) k (fun x=>by simp[iv,hf]) l (j/k) (j%k) _ hx hr;rw[<-MG,hj] at h1
  have aW:es[j/k]? =some ((f l[j/k]).map iA):=by rw[<-hes,eZ,hx];rfl
  have fO:j%k<(f l[j/k]).length:=by rw[hf];exact hr
  have hcell:((f l[j/k]).map iA)[j%k]? =some (iA (f l[j/k])[j%k]):=by rw[eZ,cy fO];rfl
  have fA:k'=k:=by
   have:=hk _ _ aW;rw[dy,hf] at this;exact this.symm
  subst fA;have e1:=AM (hc _ _ _ _ aW hcell);obtain⟨b,o,e2,_,e3⟩:=hl _ _ (j%k') aW (by rw[dy];exact fO);refine⟨b,o,e2,?_⟩
  have hy:y=I (f l[j/k'])[j%k']:=by
   simp only[iv,eZ,cy fO,wu,aC] at h1;exact h1
  rw[hy,<-e1,<-e3];congr 2;omega
theorem asq{l:List Ask}(h:IR w A (asks l) v):je w v l:=Rn Ask.ints 7 (fun _=>rfl) (l:=l) h
theorem asr{l:List bQ}(h:IR w A (msgs l) v):kD w v l:=Rn bQ.ints 5 (fun _=>rfl) (l:=l) h
theorem afA {w:World}{A:Nat->Prop}:∀(l:List az) (u:Nat->Nat->Value) (s0:Nat),(∀(i:Nat) (s:az) (j:Nat) (x:AC),l[i]? =some s->(mK s)[j]? =some x->IR w A x (u (s0+i) j))->
  kE w l ((List.range l.length).flatMap fun i=>(List.range 11).map fun j=>u (s0+i) j)
 |[],u,s0,h=>rfl
 |s::l,u,s0,h=>by
  have c:=fun j x hx=>h 0 s j x rfl hx
  have t:=afA l u (s0+1) fun i s j x h1 h2=>by
   have:=h (i+1) s j x (by simpa using h1) h2;rwa[show s0+(i+1)=s0+1+i by omega] at this
  refine⟨u s0 8,u s0 10,_,?_,asq (c 8 _ rfl),asr (c 10 _ rfl),t⟩;rw[List.length_cons,List.range_succ_eq_map (n:=l.length),qu,List.flatMap_map]
  have e0:(List.range 11).map (fun j=>u (s0+0) j)=s.row (u s0 8) (u s0 10):=by
   have b9:u (s0+0) 9=.bool s.aX:=asp (c 9 _ rfl)
   show [u s0 0,u s0 1,u s0 2,u s0 3,u s0 4,u s0 5,u s0 6,u s0 7,u s0 8,u s0 9,u s0 10]=_
   rw[show u s0 0=I s.ev.kind from AM (c 0 _ rfl),show u s0 1=I s.ev.node from AM (c 1 _ rfl),show u s0 2=I s.ev.arg from AM (c 2 _ rfl),show u s0 3=I s.ev.msg.node from AM (c 3 _ rfl),show u s0 4=I s.ev.msg.handler from AM (c 4 _ rfl),
    show u s0 5=I s.ev.msg.count from AM (c 5 _ rfl),show u s0 6=I s.ev.msg.index from AM (c 6 _ rfl),show u s0 7=I s.ev.msg.copy from AM (c 7 _ rfl),show u s0 9=.bool s.aX from b9]
   rfl
  rw[e0];congr 1;refine aG (fun f=>List.flatMap f (List.range l.length)) (funext fun i=> ?_)
  show _=(List.range 11).map fun j=>u (s0+1+i) j
  rw[show s0+1+i=s0+(i+1) by omega]
theorem ass{l:List az}(h:IR w A (FP l) v):gH w v l:=by
 have h:IR w A (.sl (l.map mK)) v:=h;generalize hes:l.map mK=es at h
 cases h with
 |sl k es a c u hn hm hk hc hl=>
  have hlen:es.length=l.length:=by rw[<-hes,dy]
  have aW:∀i s,l[i]? =some s->es[i]? =some (mK s):=fun i s hs=>by rw[<-hes,eZ,hs];rfl
  refine⟨_,afA (A:=A) l u 0 (fun i s j x h1 h2=>by rw[eM];exact hc i _ j x (aW i s h1) h2),?_⟩
  have cH:((List.range l.length).flatMap fun i=>(List.range 11).map fun j=>u (0+i) j).length=l.length*11:=by
   have:=IC (fun i:Nat=>(List.range 11).map fun j=>u (0+i) j) 11 (fun _=>ai) (List.range l.length);rwa[Aa] at this
  refine⟨cH,ab,a,c,by rw[hlen],fun j y hj=> ?_⟩;have dV:=(bG.1 hj).1;rw[cH] at dV;have hi:j/11<l.length:=ab;have h1:=Lx (fun i:Nat=>(List.range 11).map fun j=>u (0+i) j) 11 (fun _=>ai) (List.range l.length) (j/11) (j%11) (j/11) (by simp[hi]) ab;rw[show j/11*11+j%11=j by omega,hj] at h1
  have h2:y=u (j/11) (j%11):=by
   rw[eZ,EL ab,eM] at h1;simpa using h1
  have hs:l[j/11]? =some l[j/11]:=cy hi
  have ast:k=11:=by
   have:=hk _ _ (aW _ _ hs);exact this.symm
  subst ast;obtain⟨b,o,e2,_,e3⟩:=hl _ _ (j%11) (aW _ _ hs) (by show j%11<11;omega);refine⟨b,o,e2,?_⟩;rw[h2,<-e3];congr 2;omega
end Ab
namespace Ab
open Go Go.RowKit
open aD (et pk Ob om bE Env aT)
theorem Dg {P:Program}{U:List Nat}{l tl:List BO}{K:St->Prop}{t:OT}{bp:Bool}{st:St}{V1:List (Nat×AV)}{S1:List (Nat×Slot)}(h:aU U (l.map (BO.ao P)) (tl.map (BO.ao P)) (fun st=>st.V=V1/\st.S=S1) t bp st)(h2:∀L,K ⟨V1,L,S1⟩):aU U (l.map (BO.ao P)) (tl.map (BO.ao P)) K t bp st:=
 wU (fun st hs=>by
  obtain⟨V,L,S⟩:=st;obtain⟨rfl,rfl⟩:=hs
  exact h2 L) h
section
variable (s:aD.Node)
@[simp] theorem Xv:(aS s).drop 52=[]:=sV ai
theorem afB (t:List Int):(aS s).take 7++ints t::(aS s).drop 8=aS { s with timers:=t }:=by
 unfold aS;simp
theorem JF:aS s=(bA s.up::iA s.version::iA s.eC::iA s.clock::ints s.aY.cells::sf s.aY.pending::ints s.eO::ints s.timers::nth s.counts 41)++[iA s.waiting,iA s.dropped,iA s.dJ]:=by
 unfold aS;simp
theorem Xw (w:Int):(aS s).take 49++iA w::(aS s).drop 50=aS { s with waiting:=w }:=by
 rw[JF,JF];have:=De (A:=bA s.up::iA s.version::iA s.eC::iA s.clock::ints s.aY.cells::sf s.aY.pending::ints s.eO::ints s.timers::nth s.counts 41) (B:=[iA s.dropped,iA s.dJ]) (k:=49) (iA s.waiting) (iA w) ai;simpa using this
theorem asu (w:Int):(aS s).take 50++iA w::(aS s).drop 51=aS { s with dropped:=w }:=by
 rw[JF,JF];have:=De (A:=bA s.up::iA s.version::iA s.eC::iA s.clock::ints s.aY.cells::sf s.aY.pending::ints s.eO::ints s.timers::(nth s.counts 41++[iA s.waiting])) (B:=[iA s.dJ]) (k:=50) (iA s.dropped) (iA w) ai;simpa using this
theorem asv (w:Int):(aS s).take 51++[iA w]=aS { s with dJ:=w }:=by
 rw[JF,JF,List.take_append,lK ai];simp
theorem afC (b:Bool):bA b::(aS s).tail=aS { s with up:=b }:=by
 unfold aS;rfl
theorem asw (d:aD.jk):(aS s).take 4++ints d.cells::sf d.pending::(aS s).drop 6=aS { s with aY:=d }:=by
 unfold aS;rfl
theorem afD:((aS s).drop 4).take 1=[ints s.aY.cells]:=by
 unfold aS;rfl
theorem afE:((aS s).drop 5).take 1=[sf s.aY.pending]:=by
 unfold aS;rfl
theorem afF:((aS s).drop 48).take 1=[iA (s.counts.getD 40 0)]:=Xh s (i:=40) ab
end
section
variable (s:aD.Node) (ak sn:AC) (rep:Bool) (val:Int) (fl:AC) (c:aT) (o:List AC) (aE:AC)
theorem asx (b:Bool):bA b::(rC s ak sn rep val fl c o aE).tail=rC { s with up:=b } ak sn rep val fl c o aE:=by
 unfold rC;rfl
theorem afG:((rC s ak sn rep val fl c o aE).drop 2).take 1=[iA s.eC]:=by rw[FN _ _ _ _ _ _ _ _ _ aq,ary]
theorem asy:((rC s ak sn rep val fl c o aE).drop 1).take 1=[iA s.version]:=by rw[FN _ _ _ _ _ _ _ _ _ aq,List.drop_one,afa]
theorem asz:(rC s ak sn rep val fl c o aE).tail.take 1=[iA s.version]:=by rw[<-List.drop_one,asy]
theorem asA (x:Int):(rC s ak sn rep val fl c o aE).take 2++iA x::(rC s ak sn rep val fl c o aE).drop 3=rC { s with eC:=x } ak sn rep val fl c o aE:=by
 unfold rC;rfl
theorem asB:((rC s ak sn rep val fl c o aE).drop 48).take 1=[iA (s.counts.getD 40 0)]:=aft s ak sn rep val fl c o aE (i:=40) ab
theorem asC (k:Int)(hl:40<s.counts.length):(rC s ak sn rep val fl c o aE).take 48++iA k::(rC s ak sn rep val fl c o aE).drop 49=rC { s with counts:=s.counts.set 40 k } ak sn rep val fl c o aE:=afw s ak sn rep val fl c o aE k (i:=40) ab hl
theorem afH:((rC s ak sn rep val fl c o aE).drop 54).take 1=[bA rep]:=by rw[FM _ _ _ _ _ _ _ _ _ 2];simp
theorem asD:((rC s ak sn rep val fl c o aE).drop 55).take 1=[iA val]:=by rw[FM _ _ _ _ _ _ _ _ _ 3];simp
theorem afI (o0 o1 o2 o3 o4 o5:AC):((rC s ak sn rep val fl c [o0,o1,o2,o3,o4,o5] aE).drop 66)=[aE]:=by
 rw[FM _ _ _ _ _ _ _ _ _ 14];rfl
end
theorem Xx (n:Nat):rowsOf 1 n (cQ 1 n [iA 0])=bL (List.replicate n 0):=by
 apply wm;intro i;unfold rowsOf;rw[eZ];by_cases hi:i<n
 ·rw[EL hi,eZ,List.getElem?_replicate,aj hi];simp only[wu,aC,cQ,Nat.mul_one,Nat.mod_one];apply wm;intro j;rw[uI,nD,eZ]
  cases j with
  |zero=>simp[hi]
  |succ j=>simp
 ·rw[oW (by simpa using hi),oW (by simpa using hi)];rfl
theorem Xy (n:Nat):(cQ 1 n [iA 0]).all inl=true:=by
 rw[fg];intro x hx;unfold cQ at hx;obtain⟨j,_,rfl⟩:=dh.1 hx;simp[Nat.mod_one]
abbrev evs (l:List Ev):AC:=.sl (l.map kR)
abbrev MH (o:Ob):List AC:=[bA o.ank,iA o.request,iA o.node,iA o.eC,iA o.value]
abbrev aX (l:List Ob):AC:=.sl (l.map MH)
abbrev afJ (f:om):List AC:=[iA f.fy.node,iA f.fy.handler,iA f.fy.count,iA f.code]
abbrev nu (f:List om):List AC:=[.sl (f.map afJ)]
abbrev vC (t:List (List Int)):List AC:=[.sl (t.map fun v=>[ints v])]
abbrev Ro (x:Int×Int):List AC:=[iA x.1,iA x.2]
abbrev eU (l:List (Int×Int)):AC:=.sl (l.map Ro)
abbrev gF (w:bE):List AC:=[Rm w.c.dA,ints w.c.first,ints w.c.po,reqs w.c.dO,iA w.c.wF,iA w.c.pq,iA w.c.rW,iA w.c.drift,
 .sl (w.nodes.map aS),jr w.bD,ints w.next,aX w.aX,.sl (w.bB.map nu),.sl (w.traces.map vC),eU w.covered,iA w.steps]
abbrev wO (c:et)(fl ob cv:AC)(st:Int)(g1 g2 g3 g4:Nat):List AC:=[Rm c.dA,ints c.first,ints c.po,reqs c.dO,iA c.wF,iA c.pq,iA c.rW,iA c.drift,
 .own 601 g1,fl,.own 602 g2,ob,.own 603 g3,.own 604 g4,cv,iA st]
abbrev asE (nodes:List aD.Node)(next:List Int)(fails:List (List om))(traces:List (List (List Int)))(g1 g2 g3 g4:Nat):List (Nat×Slot):=
 [(601,.row 169 52 g1 (nodes.map aS)),(602,.row 3 1 g2 (bL next)),(603,.row 273 1 g3 (fails.map nu)),(604,.row 71 1 g4 (traces.map vC))]
end Ab
namespace Ab
open Go Go.RowKit
attribute [local irreducible] aL bm aU
open aD (fm eo Rr aT td wD yq yt)
theorem JR {D:List Nat}{st:St}:∀{a b x y:List AC},st.jK D a=some x->st.jK D b=some y->st.jK D (a++b)=some (x++y)
 |[],b,x,y,ha,hb=>by cases ha;exact hb
 |c::a,b,x,y,ha,hb=>by
  unfold St.jK at ha;split at ha
  ·rename_i u v h1 h2;cases ha;rw[List.cons_append];unfold St.jK;rw[h1,JR h2 hb];rfl
  ·cases ha
theorem JS {D:List Nat}{st:St}:∀{a:List AC},a.all inl=true->st.jK D a=some a
 |[],_=>rfl
 |c::a,h=>by
  simp only[Af,bO] at h;unfold St.jK;rw[JS h.2]
  cases c with
  |own s g=>cases h.1
  |cB s g=>cases h.1
  |part s g i=>cases h.1
  |cls f bP=>cases h.1
  |fc f bP=>rfl
  |v x=>rfl
  |sl es=>rfl
section
variable {s:aD.Node} {ak:AC} {rep:Bool} {val:Int} {c:aT} {o:List AC} {aE:AC}
theorem atC {D:List Nat}{st:St}{s1 s2 g1 g2:Nat}(yZ:inl ak=true)(ho:o.all inl=true)(tR:inl aE=true)(h1:s1∈D)(h2:s2∈D):st.jK D (rC s ak (.own s1 g1) rep val (.own s2 g2) c o aE)=some (rC s ak (.own s1 g1) rep val (.own s2 g2) c o aE):=by
 rw[dW];refine JR (JS (Rc s)) ?_;have e:([ak,AC.own s1 g1,bA rep,iA val,AC.own s2 g2,iA c.node,iA c.handler,iA c.count]++o++[aE])=[ak]++([AC.own s1 g1]++([bA rep,iA val]++([AC.own s2 g2]++([iA c.node,iA c.handler,iA c.count]++(o++[aE]))))):=ai;rw[e]
 have own:∀(s g:Nat),s∈D->st.jK D [AC.own s g]=some [AC.own s g]:=fun s g hs=>by simp[St.jK,St.oD,hs]
 refine JR (JS (by simp[yZ])) (JR (own _ _ h1) (JR (JS ai) (JR (own _ _ h2) (JS (by simp[ho,tR])))))
end
theorem atD (r r':Rr)(a:fm)(ak aE:AC)(o:List AC)(g1 g2:Nat)(h:td r a=some r')(yZ:inl ak=true)(hoi:o.all inl=true)(tR:inl aE=true)(ho:o.length=6)(hc:r.s.aY.cells.length<=1000000)(hp:r.s.aY.pending.length<=1000000)(ht:r.s.timers.length<=1000000)(hs:r.sent.length<=1000000)(hf:r.bB.length<=1000000):
  gM Tryz.prog 224 [.w (.agg (rC r.s ak (.own 401 g1) r.qE r.value (.own 402 g2) r.fy o aE)),.w (.agg (FC a))] [(401,.row 184 9 g1 (r.sent.map vA)),(402,.row 3 1 g2 (bL r.bB))]
  (fun x S'=>x=.w (.agg (rC r'.s ak (.own 401 (g1+(r'.sent.length-r.sent.length))) r'.qE r'.value (.own 402 (g2+(r'.bB.length-r.bB.length))) r.fy o aE))/\∀p∈[(401,Slot.row 184 9 (g1+(r'.sent.length-r.sent.length)) (r'.sent.map vA)),(402,Slot.row 3 1 (g2+(r'.bB.length-r.bB.length)) (bL r'.bB))],S' p.1=p.2):=by
 have fz:∀(st:St) (s:aD.Node) (rep:Bool) (val:Int) (g1 g2:Nat),st.jK [401,402] (rC s ak (.own 401 g1) rep val (.own 402 g2) r.fy o aE)=some (rC s ak (.own 401 g1) rep val (.own 402 g2) r.fy o aE):=fun st s rep val g1 g2=>atC yZ hoi tR ai ai
 have hw:∀(s:aD.Node) (rep:Bool) (val:Int) (g1 g2:Nat),(rC s ak (.own 401 g1) rep val (.own 402 g2) r.fy o aE).take 67=rC s ak (.own 401 g1) rep val (.own 402 g2) r.fy o aE:=fun s rep val g1 g2=>lK (by rw[Rj _ _ _ _ _ _ _ _ _ ho];exact cI _)
 have hl:∀(s:aD.Node) (sn fl:AC) (rep:Bool) (val:Int),(rC s ak sn rep val fl r.fy o aE).length=67:=fun s sn fl rep val=>Rj _ _ _ _ _ _ _ _ _ ho
 unfold td at h;refine pK Tryz.func224 (aB 500 []) [] [.cell 4 67] [2,3,4,5,7] [502,503,504,505] ?_;by_cases k1:a.kind=1
 ·rw[aj k1,bK] at h;obtain⟨d,hd,rfl⟩:=h;have FF:=gA @k1 @hl @hw @fz @afm @Xm;refine bU (apF r.s.aY d a.a a.b hd hc hp) ?_;refine jL ?_;exact(by simp[dL])
 rw[af k1] at h;by_cases k2:a.kind=2
 ·rw[aj k2,bK] at h;obtain⟨d,hd,rfl⟩:=h;have FF:=gA @k2 @hl @hw @fz @afm @Xm;refine bU (apE r.s.aY d hd hc hp) ?_;refine jL ?_;exact(by simp[dL])
 rw[af k2] at h;by_cases k4:a.kind=4
 ·rw[aj k4] at h;cases h;have FF:=gA @k4 @hl @hw @fz @afn @Xn;refine bU (aeZ r.s.timers a.a true ht) ?_;refine jL ?_;exact(by simp[dL])
 rw[af k4] at h;by_cases k5:a.kind=5
 ·rw[aj k5] at h;cases h;have FF:=gA @k5 @hl @hw @fz @afn @Xn;refine bU (aeZ r.s.timers a.a false ht) ?_;refine jL ?_;exact(by simp[dL])
 rw[af k5] at h;by_cases k3:a.kind=3
 ·rw[aj k3] at h;cases h;have FZ:r.sent.length+1<=100000000:=ab;have FF:=xZ @k3 @hl @hw @fz @JB @FO @arR @FZ
  try refine aJ ?_
  refine jL ?_;exact(by simp[dL])
 rw[af k3] at h;by_cases k6:a.kind=6
 ·rw[aj k6] at h;by_cases w1:0<=r.s.waiting
  ·by_cases w2:a.a=r.s.waiting
   ·rw[aj ⟨w1,w2⟩] at h;cases h;have FF:=EC @k6 @hl @hw @fz @w1 @w2 @Xl @afo @arS @arT
    try refine aJ ?_
    refine jL ?_;exact(by simp[dL])
   ·rw[af (fun hh=>w2 hh.2)] at h;cases h;have FF:=kz @k6 @hl @hw @fz @w1 @w2 @Xl
    try refine aJ ?_
    refine jL ?_;exact(by simp[dL])
  ·rw[af (fun hh=>w1 hh.1)] at h;cases h;have FF:=gA @k6 @hl @hw @fz @w1 @Xl
   try refine aJ ?_
   refine jL ?_;exact(by simp[dL])
 rw[af k6] at h;by_cases k7:a.kind=7
 ·rw[aj k7] at h;cases h;have hf8:r.bB.length+1<=100000000:=ab;have FF:=kz @k7 @hl @hw @fz @Rk @arU @hf8
  try refine aJ ?_
  refine jL ?_;exact(by simp[dL])
 rw[af k7] at h;cases h;have FF:=EC @k1 @k2 @k3 @k4 @k5 @k6 @k7 @hl @hw @fz
 try refine aJ ?_
 refine jL ?_;exact(by simp[dL])
end Ab
end Go.Proofs.YtngblilamkkikaaGreatDoor
