import Derived.Test.YtlnghiefahcnpaaGreatQ11
set_option maxHeartbeats 40000000
set_option maxRecDepth 100000
set_option linter.all false
namespace Go.Proofs.YtlnghiefahcnpaaGreat
namespace Ab
open Go Go.RowKit
attribute [local irreducible] aC bo aU
open aq (fg gV qR tN sr wG qU fO)
theorem acB:∀(l:List (Int×Int)) (m:List Bool) (k:Nat) (hl:k<l.length) (hm:k<m.length),fO (l.take (k+1)) (m.take (k+1))=fO (l.take k) (m.take k)++if m[k] then [l[k]] else []
 |x::l,b::m,0,_,_=>by cases b<;>simp[fO]
 |x::l,b::m,k+1,hl,hm=>by
  have ih:=acB l m k (by simpa using hl) (by simpa using hm);simp only[HH,fO,List.getElem_cons_succ];rw[ih];cases b<;>simp
theorem acC:∀(l:List (Int×Int)) (m:List Bool) (k:Nat),(l.length<=k\/m.length<=k)->fO (l.take k) (m.take k)=fO l m
 |[],m,k,_=>by simp[fO]
 |x::l,[],k,_=>by cases k<;>simp[fO]
 |x::l,b::m,0,h=>by simp at h
 |x::l,b::m,k+1,h=>by
  simp only[HH,fO];rw[acC l m k (by simpa using h)]
theorem acD:∀(l:List (Int×Int)) (m:List Bool),(fO l m).length<=l.length
 |[],m=>by simp[fO]
 |x::l,[]=>by simp[fO]
 |x::l,b::m=>by
  have:=acD l m;unfold fO;split<;>simp<;>omega
theorem aoX (d r:fg)(keep:List Bool)(h:wG d keep=some r)(hm:d.cells.length<=1000000)(hp:d.pending.length<=1000000):bt Tryz.prog 112 [.agg (kT d),.c (NQ keep)] (fun x=>x=.w (.agg (kT r))):=by
 unfold wG at h;rw[bz] at h;obtain⟨c,h1,rfl⟩:=h;have kr:=acD d.pending keep;refine bZ aG Tryz.func112 rfl abn [.cell 4 2] ah _ rfl [2,4,5,6] [2,4,5] ?_;refine bG abn ?_;dsimp only[V0,uV,S0];have FF:=trivial
 try refine aj ?_
 refine cF (fun n V S=>∃(k g:Nat) (o:List (Int×Int)),k<=d.pending.length/\n=d.pending.length-k/\o=fO (d.pending.take k) (keep.take k)/\o.length<=k/\
  V=[(0,.w (.agg (kT d))),(1,.w (.c (NQ keep))),(2,.pb 2 1 0),(4,.pb 4 1 0),(5,.w (.c (.own 5 g))),(6,.w (.c (iA k)))]/\S=[(2,.box 1 (kT d)),(4,.box 1 [.sl [],.sl []]),(5,.row 238 2 g (o.map fun p=>[iA p.1,iA p.2]))]) (n:=d.pending.length) ⟨0,1,[],aa,aa,by simp[fO],ae,rfl,rfl⟩ ?_
 rintro n V L S ⟨k,g,o,hk,rfl,ho,rr,rfl,rfl⟩
 have nN:(d.pending.length<=k\/keep.length<=k)->o=fO d.pending keep:=fun hh=>by rw[ho,acC _ _ _ hh]
 by_cases hlt:k<d.pending.length
 ·by_cases js:k<keep.length
  ·have cg:k<=1000000000:=aa
   obtain⟨x,hx⟩:∃x,d.pending[k]=x:=⟨_,rfl⟩
   obtain⟨b,hb⟩:∃b,keep[k]=b:=⟨_,rfl⟩
   have cm:=acB d.pending keep k hlt js;rw[<-ho,hx,hb] at cm
   cases b with
   |true=>
    have FF:=fX @hlt @js @hx @hb (bL cg)
    try refine aj ?_
    exact⟨d.pending.length-(k+1),aa,k+1,g+1,o++[x],aa,aa,cm.symm,by simp;omega,rfl,ae⟩
   |false=>
    have FF:=fX @hlt @js @hx @hb (bL cg)
    try refine aj ?_
    exact⟨d.pending.length-(k+1),aa,k+1,g,o,aa,aa,by simpa using cm.symm,aa,rfl,rfl⟩
  ·have hf:=nN (.inr aa);have FF:=jk @hlt @js
   repeat first|refine aN (yL d.cells o c (by rw[hf];exact h1) hm (by rw[hf];omega)) ?_|refine aO (yL d.cells o c (by rw[hf];exact h1) hm (by rw[hf];omega)) ?_|refine aP (yL d.cells o c (by rw[hf];exact h1) hm (by rw[hf];omega)) ?_|refine aj ?_
   (try dsimp only[aM,aJ])
   exact bd (by simp;try rfl) (rfl)
 ·have hf:=nN (.inl aa);have FF:=@hlt
  repeat first|refine aN (yL d.cells o c (by rw[hf];exact h1) hm (by rw[hf];omega)) ?_|refine aO (yL d.cells o c (by rw[hf];exact h1) hm (by rw[hf];omega)) ?_|refine aP (yL d.cells o c (by rw[hf];exact h1) hm (by rw[hf];omega)) ?_|refine aj ?_
  (try dsimp only[aM,aJ])
  exact bd (by simp;try rfl) (rfl)
end Ab
namespace Ab
open Go Go.RowKit
open aq (dF de Rr aL mn)
abbrev Aq (a:Ask):List AC:=[iA a.node,iA a.handler,iA a.count,iA a.kind,iA a.index,iA a.arity,iA a.n]
abbrev asks (l:List Ask):AC:=.sl (l.map Aq)
@[irreducible] def rC (s:aq.Node)(ak sn:AC)(rep:Bool)(val:Int)(fl:AC)(c:aL)(o:List AC)(au:AC):List AC:=
 [bA s.up,iA s.version,iA s.dH,iA s.clock,ints s.aS.cells,oO s.aS.pending,ints s.dO,ints s.timers]++(nth s.counts 41++[iA s.waiting,iA s.dropped,iA s.cI,ak,sn,bA rep,iA val,fl,iA c.node,iA c.handler,iA c.count]++o++[au])
section
variable (s:aq.Node) (ak sn:AC) (rep:Bool) (val:Int) (fl:AC) (c:aL) (o:List AC) (au:AC)
theorem dt:rC s ak sn rep val fl c o au=aK s++([ak,sn,bA rep,iA val,fl,iA c.node,iA c.handler,iA c.count]++o++[au]):=by
 unfold rC aK;simp
theorem JO (ho:o.length=6):(rC s ak sn rep val fl c o au).length=67:=by rw[dt];simp[ho]
theorem acE:(rC s ak sn rep val fl c o au).take 52=aK s:=by rw[dt,iH ae,abC]
theorem Ar (k:Nat):(rC s ak sn rep val fl c o au).drop (52+k)=([ak,sn,bA rep,iA val,fl,iA c.node,iA c.handler,iA c.count]++o++[au]).drop k:=by
 rw[dt,show 52=(aK s).length by simp,<-List.drop_drop,Bp]
theorem At {k n:Nat}(h:k+n<=52):((rC s ak sn rep val fl c o au).drop k).take n=((aK s).drop k).take n:=by
 rw[dt,Hg (by simp;omega),iH (by simp;omega)]
theorem acF:((rC s ak sn rep val fl c o au).drop 4).take 2=kT s.aS:=by rw[At _ _ _ _ _ _ _ _ _ ai,aou]
theorem acG:((rC s ak sn rep val fl c o au).drop 7).take 1=[ints s.timers]:=by rw[At _ _ _ _ _ _ _ _ _ ai,aov]
theorem Oz:((rC s ak sn rep val fl c o au).drop 49).take 1=[iA s.waiting]:=by rw[At _ _ _ _ _ _ _ _ _ ai,abB]
theorem CQ:((rC s ak sn rep val fl c o au).drop 53).take 1=[sn]:=by rw[Ar _ _ _ _ _ _ _ _ _ 1];simp
theorem JP:((rC s ak sn rep val fl c o au).drop 56).take 1=[fl]:=by rw[Ar _ _ _ _ _ _ _ _ _ 4];simp
theorem Au:((rC s ak sn rep val fl c o au).drop 57).take 3=[iA c.node,iA c.handler,iA c.count]:=by rw[Ar _ _ _ _ _ _ _ _ _ 5];simp
theorem OA (d:aq.fg):(rC s ak sn rep val fl c o au).take 4++ints d.cells::oO d.pending::(rC s ak sn rep val fl c o au).drop 6=rC { s with aS:=d } ak sn rep val fl c o au:=by
 unfold rC;simp
theorem OB (t:List Int):(rC s ak sn rep val fl c o au).take 7++ints t::(rC s ak sn rep val fl c o au).drop 8=rC { s with timers:=t } ak sn rep val fl c o au:=by
 unfold rC;simp
theorem yQ {A B:List AC}{k:Nat}(x y:AC)(h:A.length=k):(A++x::B).take k++y::(A++x::B).drop (k+1)=A++y::B:=by
 subst h;rw[List.take_left,<-List.drop_drop,Bp];rfl
theorem acH (w:Int):(rC s ak sn rep val fl c o au).take 49++iA w::(rC s ak sn rep val fl c o au).drop 50=rC { s with waiting:=w } ak sn rep val fl c o au:=by
 unfold rC;simp only[<-List.append_assoc,List.cons_append,List.nil_append];have:=yQ (A:=bA s.up::iA s.version::iA s.dH::iA s.clock::ints s.aS.cells::oO s.aS.pending::ints s.dO::ints s.timers::nth s.counts 41) (B:=iA s.dropped::iA s.cI::ak::sn::bA rep::iA val::fl::iA c.node::iA c.handler::iA c.count::(o++[au])) (k:=49) (iA s.waiting) (iA w) ae;simpa using this
theorem aoY (x:AC):(rC s ak sn rep val fl c o au).take 53++x::(rC s ak sn rep val fl c o au).drop 54=rC s ak x rep val fl c o au:=by
 rw[dt,dt];have:=yQ (A:=aK s++[ak]) (B:=bA rep::iA val::fl::iA c.node::iA c.handler::iA c.count::(o++[au])) (k:=53) sn x ae;simpa using this
theorem aoZ (x:Bool):(rC s ak sn rep val fl c o au).take 54++bA x::(rC s ak sn rep val fl c o au).drop 55=rC s ak sn x val fl c o au:=by
 rw[dt,dt];have:=yQ (A:=aK s++[ak,sn]) (B:=iA val::fl::iA c.node::iA c.handler::iA c.count::(o++[au])) (k:=54) (bA rep) (bA x) ae;simpa using this
theorem apa (x:Int):(rC s ak sn rep val fl c o au).take 55++iA x::(rC s ak sn rep val fl c o au).drop 56=rC s ak sn rep x fl c o au:=by
 rw[dt,dt];have:=yQ (A:=aK s++[ak,sn,bA rep]) (B:=fl::iA c.node::iA c.handler::iA c.count::(o++[au])) (k:=55) (iA val) (iA x) ae;simpa using this
theorem apb (x:AC):(rC s ak sn rep val fl c o au).take 56++x::(rC s ak sn rep val fl c o au).drop 57=rC s ak sn rep val x c o au:=by
 rw[dt,dt];have:=yQ (A:=aK s++[ak,sn,bA rep,iA val]) (B:=iA c.node::iA c.handler::iA c.count::(o++[au])) (k:=56) fl x ae;simpa using this
end
end Ab
namespace Ab
open Go Go.RowKit
open aq (dF de Rr aL mn)
theorem OC (s:aq.Node)(k:Nat)(l:List AC):(aK s++l).take (52+k)=aK s++l.take k:=by
 rw[tp,List.take_of_length_le ae,JJ,show 52+k-52=k by omega]
theorem yR (s:aq.Node)(k:Nat)(l:List AC):(aK s++l).drop (52+k)=l.drop k:=by
 rw[List.drop_append,oZ ae,JJ,show 52+k-52=k by omega];rfl
theorem apc (s:aq.Node)(l:List AC):(aK s++l).take 57=aK s++l.take 5:=OC s 5 l
theorem apd (s:aq.Node)(l:List AC):(aK s++l).drop 60=l.drop 8:=yR s 8 l
theorem acI (s:aq.Node)(ak sn:AC)(rep:Bool)(val:Int)(fl:AC)(a b c:Int)(o0 o1 o2 o3 o4 o5 au:AC):aK s++[ak,sn,bA rep,iA val,fl,iA a,iA b,iA c,o0,o1,o2,o3,o4,o5,au]=rC s ak sn rep val fl ⟨a,b,c⟩ [o0,o1,o2,o3,o4,o5] au:=by
 rw[dt];simp
section
variable (s:aq.Node) (ak sn:AC) (rep:Bool) (val:Int) (fl:AC) (c:aL) (o:List AC) (au:AC)
theorem OD (k:Nat):(rC s ak sn rep val fl c o au)[52+k]? =([ak,sn,bA rep,iA val,fl,iA c.node,iA c.handler,iA c.count]++o++[au])[k]? :=by
 rw[dt,cD ae,JJ,show 52+k-52=k by omega]
theorem ape:(rC s ak sn rep val fl c o au)[52]? =some ak:=OD s ak sn rep val fl c o au 0
theorem apf:(rC s ak sn rep val fl c o au)[53]? =some sn:=OD s ak sn rep val fl c o au 1
theorem apg:(rC s ak sn rep val fl c o au)[56]? =some fl:=OD s ak sn rep val fl c o au 4
theorem acJ (h:52<(rC s ak sn rep val fl c o au).length):(rC s ak sn rep val fl c o au)[52]'h=ak:=tq ((List.getElem?_eq_getElem h).symm.trans (ape s ak sn rep val fl c o au))
theorem aph (h:53<(rC s ak sn rep val fl c o au).length):(rC s ak sn rep val fl c o au)[53]'h=sn:=tq ((List.getElem?_eq_getElem h).symm.trans (apf s ak sn rep val fl c o au))
theorem api (h:56<(rC s ak sn rep val fl c o au).length):(rC s ak sn rep val fl c o au)[56]'h=fl:=tq ((List.getElem?_eq_getElem h).symm.trans (apg s ak sn rep val fl c o au))
theorem OE (k:Nat)(x:AC):(rC s ak sn rep val fl c o au).set (52+k) x=aK s++([ak,sn,bA rep,iA val,fl,iA c.node,iA c.handler,iA c.count]++o++[au]).set k x:=by
 rw[dt,ld _ _ ae,JJ,show 52+k-52=k by omega]
theorem acK (x:AC):(rC s ak sn rep val fl c o au).set 52 x=rC s x sn rep val fl c o au:=by rw[OE s ak sn rep val fl c o au 0,dt];rfl
theorem apj (x:AC):(rC s ak sn rep val fl c o au).set 53 x=rC s ak x rep val fl c o au:=by rw[OE s ak sn rep val fl c o au 1,dt];rfl
theorem apk (x:AC):(rC s ak sn rep val fl c o au).set 56 x=rC s ak sn rep val x c o au:=by rw[OE s ak sn rep val fl c o au 4,dt];rfl
theorem OG:((rC s ak sn rep val fl c o au).drop 3).take 1=[iA s.clock]:=by rw[At _ _ _ _ _ _ _ _ _ ai,aot]
theorem acL (k:Int):(rC s ak sn rep val fl c o au).take 3++iA k::(rC s ak sn rep val fl c o au).drop 4=rC { s with clock:=k } ak sn rep val fl c o au:=by
 unfold rC;simp
theorem apl (v:List Int):(rC s ak sn rep val fl c o au).take 6++ints v::(rC s ak sn rep val fl c o au).drop 7=rC { s with dO:=v } ak sn rep val fl c o au:=by
 unfold rC;simp
theorem JQ:((rC s ak sn rep val fl c o au).drop 52).take 1=[ak]:=by rw[Ar _ _ _ _ _ _ _ _ _ 0];rfl
theorem OH (x:AC):(rC s ak sn rep val fl c o au).take 52++x::(rC s ak sn rep val fl c o au).drop 53=rC s x sn rep val fl c o au:=by
 rw[dt,dt];have:=yQ (A:=aK s) (B:=sn::bA rep::iA val::fl::iA c.node::iA c.handler::iA c.count::(o++[au])) (k:=52) ak x ae;simpa using this
theorem acM {i:Nat}(h:i<41):((rC s ak sn rep val fl c o au).drop (8+i)).take 1=[iA (s.counts.getD i 0)]:=by rw[At _ _ _ _ _ _ _ _ _ aa,Ot s h]
theorem fh (o0 o1 o2 o3 o4 o5:AC):(rC s ak sn rep val fl c [o0,o1,o2,o3,o4,o5] au).length=67:=JO _ _ _ _ _ _ _ _ _ rfl
theorem pY (o0 o1 o2 o3 o4 o5:AC):(rC s ak sn rep val fl c [o0,o1,o2,o3,o4,o5] au).take 67=rC s ak sn rep val fl c [o0,o1,o2,o3,o4,o5] au:=List.take_of_length_le (by rw[fh];exact di _)
theorem acN (x y z:Int):(rC s ak sn rep val fl c o au).take 57++iA x::iA y::iA z::(rC s ak sn rep val fl c o au).drop 60=rC s ak sn rep val fl ⟨x,y,z⟩ o au:=by
 rw[dt,dt,apc,apd];simp
theorem apm (o0 o1 o2 o3 o4 o5 x0 x1 x2 x3 x4 x5:AC):(rC s ak sn rep val fl c [o0,o1,o2,o3,o4,o5] au).take 60++x0::x1::x2::x3::x4::x5::(rC s ak sn rep val fl c [o0,o1,o2,o3,o4,o5] au).drop 66=rC s ak sn rep val fl c [x0,x1,x2,x3,x4,x5] au:=by
 rw[dt,dt,show(60:Nat)=52+8 by rfl,OC,show(66:Nat)=52+14 by rfl,yR];simp
theorem apn (o0 o1 o2 o3 o4 o5 x:AC):(rC s ak sn rep val fl c [o0,o1,o2,o3,o4,o5] au).take 66++[x]=rC s ak sn rep val fl c [o0,o1,o2,o3,o4,o5] x:=by
 rw[dt,dt,show(66:Nat)=52+14 by rfl,OC];simp
theorem acO (o0 o1 o2 o3 o4 o5:AC):((rC s ak sn rep val fl c [o0,o1,o2,o3,o4,o5] au).drop 60).take 1=[o0]:=by rw[dt,show(60:Nat)=52+8 by rfl,yR];simp
theorem OI (o0 o1 o2 o3 o4 o5:AC):((rC s ak sn rep val fl c [o0,o1,o2,o3,o4,o5] au).drop 61).take 1=[o1]:=by rw[dt,show(61:Nat)=52+9 by rfl,yR];simp
theorem apo (o0 o1 o2 o3 o4 o5:AC):((rC s ak sn rep val fl c [o0,o1,o2,o3,o4,o5] au).drop 62).take 1=[o2]:=by rw[dt,show(62:Nat)=52+10 by rfl,yR];simp
theorem apq (o0 o1 o2 o3 o4 o5:AC):((rC s ak sn rep val fl c [o0,o1,o2,o3,o4,o5] au).drop 63).take 1=[o3]:=by rw[dt,show(63:Nat)=52+11 by rfl,yR];simp
theorem apr (o0 o1 o2 o3 o4 o5:AC):((rC s ak sn rep val fl c [o0,o1,o2,o3,o4,o5] au).drop 64).take 1=[o4]:=by rw[dt,show(64:Nat)=52+12 by rfl,yR];simp
theorem OJ (o0 o1 o2 o3 o4 o5:AC):((rC s ak sn rep val fl c [o0,o1,o2,o3,o4,o5] au).drop 65).take 1=[o5]:=by rw[dt,show(65:Nat)=52+13 by rfl,yR];simp
theorem aps (l:List Int)(n i:Nat)(x:Int)(hl:i<l.length):nth (l.set i x) n=(nth l n).set i (iA x):=by
 apply rH;intro k;by_cases hk:k<n
 ·rw[Jz _ _ _ hk,vR];split
  ·rename_i e;subst e;simp[hk,hl]
  ·rename_i e;rw[Jz _ _ _ hk];simp[eu,e]
 ·rw[List.getElem?_eq_none (by simp;omega),List.getElem?_eq_none (by simp;omega)]
theorem acP {i:Nat}(k:Int)(h:i<41)(hl:i<s.counts.length):(rC s ak sn rep val fl c o au).take (8+i)++iA k::(rC s ak sn rep val fl c o au).drop (8+i+1)=rC { s with counts:=s.counts.set i k } ak sn rep val fl c o au:=by
 have e:∀L:List AC,8+i<L.length->L.take (8+i)++iA k::L.drop (8+i+1)=L.set (8+i) (iA k):=fun L hL=>by rw[List.set_eq_take_append_cons_drop,if_pos hL]
 unfold rC;rw[aps _ _ _ _ hl,e _ (by simp;omega),zx 8 i,ld _ _ ae];simp only[List.length_cons,List.length_nil,List.append_assoc];rw[show i+8-(0+1+1+1+1+1+1+1+1)=i by omega,List.set_append_left _ _ (by simp;omega)]
end
theorem pZ {s g:Nat}{es:List (List AC)}:∀{cs:List AC},cs.all inl=true->cs.map (je s g es)=cs
 |[],_=>rfl
 |c::cs,h=>by
  simp only[vT,bN] at h;rw[ey,pZ h.2]
  cases c with
  |own s g=>cases h.1
  |ct s g=>cases h.1
  |part s g i=>cases h.1
  |cls f bK=>cases h.1
  |dX f bK=>rfl
  |v x=>rfl
  |sl es=>rfl
@[simp] theorem CS (n:aq.Node)(s g:Nat)(es:List (List AC)):(aK n).map (je s g es)=aK n:=pZ (JK n)
theorem acQ {n:aq.Node}{ga gb gd:Nat}{rep:Bool}{val:Int}{c:aL}{o:List AC}{au:AC}{es:List (List AC)}(ho:o.all inl=true)(qc:inl au=true):(rC n (.own 400 ga) (.own 401 gb) rep val (.own 402 gd) c o au).map (je 400 ga es)=rC n (.sl es) (.own 401 gb) rep val (.own 402 gd) c o au:=by
 rw[dt,dt,dw,CS,dw,dw,pZ ho,pZ (cs:=[au]) (by simp[qc])];simp[je]
theorem CT {st:St}:∀{a b x y:List AC},st.gK a=some x->st.gK b=some y->st.gK (a++b)=some (x++y)
 |[],b,x,y,ha,hb=>by cases ha;exact hb
 |c::a,b,x,y,ha,hb=>by
  unfold St.gK at ha;split at ha
  ·rename_i u v h1 h2;cases ha;rw[List.cons_append];unfold St.gK;rw[h1,CT h2 hb];rfl
  ·cases ha
theorem CU {st:St}:∀{a:List AC},a.all inl=true->st.gK a=some a
 |[],_=>rfl
 |c::a,h=>by
  simp only[vT,bN] at h;unfold St.gK;rw[CU h.2]
  cases c with
  |own s g=>cases h.1
  |ct s g=>cases h.1
  |part s g i=>cases h.1
  |cls f bK=>cases h.1
  |dX f bK=>rfl
  |v x=>rfl
  |sl es=>rfl
theorem acR {st:St}{n:aq.Node}{ak sn fl jI qP:AC}{rep:Bool}{val:Int}{c:aL}{o:List AC}{au:AC}(Av:inl ak=true)(ho:o.all inl=true)(qc:inl au=true)(h1:st.fz sn=some jI)(h2:st.fz fl=some qP):st.gK (rC n ak sn rep val fl c o au)=some (rC n ak jI rep val qP c o au):=by
 rw[dt,dt];refine CT (CU (JK n)) ?_
 have e:∀(a b:AC),([ak,a,bA rep,iA val,b,iA c.node,iA c.handler,iA c.count]++o++[au])=[ak]++([a]++([bA rep,iA val]++([b]++([iA c.node,iA c.handler,iA c.count]++(o++[au]))))):=fun a b=>ae
 rw[e,e]
 have one:∀(a b:AC),st.fz a=some b->st.gK [a]=some [b]:=fun a b h=>by simp[St.gK,h]
 exact CT (CU (by simp[Av])) (CT (one _ _ h1) (CT (CU ae) (CT (one _ _ h2) (CU (by simp[ho,qc])))))
end Ab
namespace Ab
open Go Go.RowKit dL
open aq (bR mo)
abbrev JR (l:List Prog):AC:=.sl (l.map bW)
abbrev acS (r:mo):List AC:=[iA r.node,iA r.op,iA r.key,iA r.arg]
abbrev reqs (l:List mo):AC:=.sl (l.map acS)
abbrev mH (c:bR):List AC:=[JR c.cQ,ints c.first,ints c.mq,reqs c.dg,iA c.mr,iA c.jA,iA c.kz,iA c.drift]
end Ab
namespace Ab
open Go Go.RowKit
abbrev dp (e:Ev):List AC:=[iA e.kind,iA e.node,iA e.arg,iA e.msg.node,iA e.msg.handler,iA e.msg.count,iA e.msg.index,iA e.msg.copy]
abbrev kW (s:af):List AC:=dp s.ev++[asks s.asks,bA s.ax,msgs s.sent]
abbrev JS (l:List af):AC:=.sl (l.map kW)
theorem Fr.below {w w':World}(h:Fr (fun b=>b<w.heap.size) w w'):Below w.heap.size w w':=⟨h.os,h.tape,h.out,h.size,h.block⟩
theorem apt {w:World}{l:List Int}{k:Option Addr}{c:Nat}(h:dZ w (.slice k l.length c) l)(hc:l.length<=c):IR w (fun _=>False) (ints l) (.slice k l.length c):=by
 obtain⟨_,hm,a,c',e,hr⟩:=h;simp only[Value.slice.injEq,true_and] at e;obtain⟨rfl,rfl⟩:=e
 have key:∀i (hi:i<l.length),∃b o,k=some ⟨b,o,none⟩/\w.cell? ⟨b,o+i,none⟩=some (I l[i]):=fun i hi=>hr i _ (by simp[iv,hi])
 have row:∀(i:Nat) (row:List AC),(l.map fun n=>[iA n])[i]? =some row->∃hi:i<l.length,row=[iA l[i]]:=fun i row h1=>by
  rw[ek,bz] at h1;obtain⟨n,hn,rfl⟩:=h1;obtain⟨hi,rfl⟩:=bk.1 hn;exact⟨hi,rfl⟩
 have:=IR.sl (w:=w) (A:=fun _=>False) 1 (l.map fun n=>[iA n]) k c (fun i _=>I (l.getD i 0)) (by simpa using hc) (by simpa using hm) (fun i r h1=>by
   obtain⟨_,rfl⟩:=row i r h1
   rfl) (fun i r j x h1 h2=>by
   obtain⟨hi,rfl⟩:=row i r h1
   match j,h2 with
   |0,h2=>
    simp only[Bg,ar] at h2;subst h2;rw[eu,List.getElem?_eq_getElem hi];exact IR.v _ rfl
   |j+1,h2=>simp at h2) (fun i r j h1 h2=>by
   obtain⟨hi,rfl⟩:=row i r h1
   have hj:j=0:=by simpa using h2
   subst hj;obtain⟨b,o,e1,e2⟩:=key i hi
   exact⟨b,o,e1,fun hh=>hh,by rw[eu,List.getElem?_eq_getElem hi,Nat.mul_one,qB];exact e2⟩)
 simpa using this
theorem kX {w:World}{A:Nat->Prop}{n:Int}{v:Value}(h:IR w A (iA n) v):v=I n:=by
 cases h;rfl
theorem apu {w:World}{A:Nat->Prop}{b:Bool}{v:Value}(h:IR w A (bA b) v):v=.bool b:=by
 cases h;rfl
theorem acT {α:Type}(f:α->List Int)(k:Nat)(hf:∀x,(f x).length=k){w:World}{A:Nat->Prop}{l:List α}{v:Value}(h:IR w A (.sl (l.map fun x=>(f x).map iA)) v):Flat w k v l.length (l.flatMap fun x=>iv (f x)):=by
 generalize hes:(l.map fun x=>(f x).map iA)=es at h
 cases h with
 |sl k' es a c u hn hm hk hc hl=>
  have hlen:es.length=l.length:=by rw[<-hes,List.length_map]
  refine⟨Bq (fun x=>iv (f x)) k (fun x=>by simp[iv,hf]) l,aa,a,c,by rw[hlen],fun j y hj=> ?_⟩
  have bF:0<k:=by
   rcases Nat.eq_zero_or_pos k with h0|h0
   ·subst h0;have:=(bk.1 hj).1;rw[Bq (fun x=>iv (f x)) 0 (fun x=>by simp[iv,hf]) l] at this;omega
   ·exact h0
  have dD:=(bk.1 hj).1;rw[Bq (fun x=>iv (f x)) k (fun x=>by simp[iv,hf]) l] at dD;have hi:j/k<l.length:=Nat.div_lt_of_lt_mul (by rw[Nat.mul_comm];exact dD);have hr:j%k<k:=mN _ bF
  have Fu:j=j/k*k+j%k:=by rw[Nat.mul_comm];exact(Nat.div_add_mod j k).symm
  have hx:l[j/k]? =some l[j/k]:=List.getElem?_eq_getElem hi;have h1:=HI (fun x=>iv (f x)) k (fun x=>by simp[iv,hf]) l (j/k) (j%k) _ hx hr;rw[<-Fu,hj] at h1
  have bD:es[j/k]? =some ((f l[j/k]).map iA):=by rw[<-hes,ek,hx];rfl
  have iq:j%k<(f l[j/k]).length:=by rw[hf];exact hr
  have hcell:((f l[j/k]).map iA)[j%k]? =some (iA (f l[j/k])[j%k]):=by rw[ek,List.getElem?_eq_getElem iq];rfl
  have eQ:k'=k:=by
   have:=hk _ _ bD;rw[List.length_map,hf] at this;exact this.symm
  subst eQ;have e1:=kX (hc _ _ _ _ bD hcell);obtain⟨b,o,e2,_,e3⟩:=hl _ _ (j%k') bD (by rw[List.length_map];exact iq);refine⟨b,o,e2,?_⟩
  have hy:y=I (f l[j/k'])[j%k']:=by
   simp only[iv,ek,List.getElem?_eq_getElem iq,DV,ar] at h1;exact h1
  rw[hy,<-e1,<-e3];congr 2;omega
theorem apv {w:World}{A:Nat->Prop}{l:List Ask}{v:Value}(h:IR w A (asks l) v):fk w v l:=acT Ask.ints 7 (fun _=>rfl) (l:=l) h
theorem apw {w:World}{A:Nat->Prop}{l:List bm}{v:Value}(h:IR w A (msgs l) v):fm w v l:=acT bm.ints 5 (fun _=>rfl) (l:=l) h
theorem acU {w:World}{A:Nat->Prop}:∀(l:List af) (u:Nat->Nat->Value) (s0:Nat),(∀(i:Nat) (s:af) (j:Nat) (x:AC),l[i]? =some s->(kW s)[j]? =some x->IR w A x (u (s0+i) j))->
  eb w l ((List.range l.length).flatMap fun i=>(List.range 11).map fun j=>u (s0+i) j)
 |[],u,s0,h=>rfl
 |s::l,u,s0,h=>by
  have c:=fun j x hx=>h 0 s j x rfl hx
  have t:=acU l u (s0+1) fun i s j x h1 h2=>by
   have:=h (i+1) s j x (by simpa using h1) h2;rwa[show s0+(i+1)=s0+1+i by omega] at this
  refine⟨u s0 8,u s0 10,_,?_,apv (c 8 _ rfl),apw (c 10 _ rfl),t⟩;rw[List.length_cons,List.range_succ_eq_map (n:=l.length),zp,List.flatMap_map]
  have e0:(List.range 11).map (fun j=>u (s0+0) j)=s.row (u s0 8) (u s0 10):=by
   have b9:u (s0+0) 9=.bool s.ax:=apu (c 9 _ rfl)
   show [u s0 0,u s0 1,u s0 2,u s0 3,u s0 4,u s0 5,u s0 6,u s0 7,u s0 8,u s0 9,u s0 10]=_
   rw[show u s0 0=I s.ev.kind from kX (c 0 _ rfl),show u s0 1=I s.ev.node from kX (c 1 _ rfl),show u s0 2=I s.ev.arg from kX (c 2 _ rfl),show u s0 3=I s.ev.msg.node from kX (c 3 _ rfl),show u s0 4=I s.ev.msg.handler from kX (c 4 _ rfl),
    show u s0 5=I s.ev.msg.count from kX (c 5 _ rfl),show u s0 6=I s.ev.msg.index from kX (c 6 _ rfl),show u s0 7=I s.ev.msg.copy from kX (c 7 _ rfl),show u s0 9=.bool s.ax from b9]
   rfl
  rw[e0];congr 1;refine kp (fun f=>List.flatMap f (List.range l.length)) (funext fun i=> ?_)
  show _=(List.range 11).map fun j=>u (s0+1+i) j
  rw[show s0+1+i=s0+(i+1) by omega]
theorem apx {w:World}{A:Nat->Prop}{l:List af}{v:Value}(h:IR w A (JS l) v):bU w v l:=by
 have h:IR w A (.sl (l.map kW)) v:=h;generalize hes:l.map kW=es at h
 cases h with
 |sl k es a c u hn hm hk hc hl=>
  have hlen:es.length=l.length:=by rw[<-hes,List.length_map]
  have bD:∀i s,l[i]? =some s->es[i]? =some (kW s):=fun i s hs=>by rw[<-hes,ek,hs];rfl
  refine⟨_,acU (A:=A) l u 0 (fun i s j x h1 h2=>by rw[fK];exact hc i _ j x (bD i s h1) h2),?_⟩
  have dM:((List.range l.length).flatMap fun i=>(List.range 11).map fun j=>u (0+i) j).length=l.length*11:=by
   have:=Bq (fun i:Nat=>(List.range 11).map fun j=>u (0+i) j) 11 (fun _=>ae) (List.range l.length);rwa[xA] at this
  refine⟨dM,aa,a,c,by rw[hlen],fun j y hj=> ?_⟩;have dD:=(bk.1 hj).1;rw[dM] at dD;have hi:j/11<l.length:=aa;have h1:=HI (fun i:Nat=>(List.range 11).map fun j=>u (0+i) j) 11 (fun _=>ae) (List.range l.length) (j/11) (j%11) (j/11) (by simp[hi]) aa;rw[show j/11*11+j%11=j by omega,hj] at h1
  have h2:y=u (j/11) (j%11):=by
   rw[ek,zo aa,fK] at h1;simpa using h1
  have hs:l[j/11]? =some l[j/11]:=List.getElem?_eq_getElem hi
  have apy:k=11:=by
   have:=hk _ _ (bD _ _ hs);exact this.symm
  subst apy;obtain⟨b,o,e2,_,e3⟩:=hl _ _ (j%11) (bD _ _ hs) (by show j%11<11;omega);refine⟨b,o,e2,?_⟩;rw[h2,<-e3];congr 2;omega
end Ab
namespace Ab
open Go Go.RowKit
open aq (bR mo Ob lE aE Env aL)
theorem yS {P:Program}{U:List Nat}{l tl:List BO}{K:St->Prop}{t:OT}{bh:Bool}{st:St}{V1:List (Nat×AV)}{S1:List (Nat×Slot)}(h:aU U (l.map (BO.ao P)) (tl.map (BO.ao P)) (fun st=>st.V=V1/\st.S=S1) t bh st)(h2:∀L,K ⟨V1,L,S1⟩):aU U (l.map (BO.ao P)) (tl.map (BO.ao P)) K t bh st:=
 sI (fun st hs=>by
  obtain⟨V,L,S⟩:=st;obtain⟨rfl,rfl⟩:=hs
  exact h2 L) h
section
variable (s:aq.Node)
@[simp] theorem OK:(aK s).drop 52=[]:=oZ ae
theorem acV (t:List Int):(aK s).take 7++ints t::(aK s).drop 8=aK { s with timers:=t }:=by
 unfold aK;simp
theorem CV:aK s=(bA s.up::iA s.version::iA s.dH::iA s.clock::ints s.aS.cells::oO s.aS.pending::ints s.dO::ints s.timers::nth s.counts 41)++[iA s.waiting,iA s.dropped,iA s.cI]:=by
 unfold aK;simp
theorem OL (w:Int):(aK s).take 49++iA w::(aK s).drop 50=aK { s with waiting:=w }:=by
 rw[CV,CV];have:=yQ (A:=bA s.up::iA s.version::iA s.dH::iA s.clock::ints s.aS.cells::oO s.aS.pending::ints s.dO::ints s.timers::nth s.counts 41) (B:=[iA s.dropped,iA s.cI]) (k:=49) (iA s.waiting) (iA w) ae;simpa using this
theorem apz (w:Int):(aK s).take 50++iA w::(aK s).drop 51=aK { s with dropped:=w }:=by
 rw[CV,CV];have:=yQ (A:=bA s.up::iA s.version::iA s.dH::iA s.clock::ints s.aS.cells::oO s.aS.pending::ints s.dO::ints s.timers::(nth s.counts 41++[iA s.waiting])) (B:=[iA s.cI]) (k:=50) (iA s.dropped) (iA w) ae;simpa using this
theorem apA (w:Int):(aK s).take 51++[iA w]=aK { s with cI:=w }:=by
 rw[CV,CV,tp,List.take_of_length_le ae];simp
theorem acW (b:Bool):bA b::(aK s).tail=aK { s with up:=b }:=by
 unfold aK;rfl
theorem apB (d:aq.fg):(aK s).take 4++ints d.cells::oO d.pending::(aK s).drop 6=aK { s with aS:=d }:=by
 unfold aK;rfl
theorem acX:((aK s).drop 4).take 1=[ints s.aS.cells]:=by
 unfold aK;rfl
theorem acY:((aK s).drop 5).take 1=[oO s.aS.pending]:=by
 unfold aK;rfl
theorem acZ:((aK s).drop 48).take 1=[iA (s.counts.getD 40 0)]:=Ot s (i:=40) aa
end
section
variable (s:aq.Node) (ak sn:AC) (rep:Bool) (val:Int) (fl:AC) (c:aL) (o:List AC) (au:AC)
theorem apC (b:Bool):bA b::(rC s ak sn rep val fl c o au).tail=rC { s with up:=b } ak sn rep val fl c o au:=by
 unfold rC;rfl
theorem ada:((rC s ak sn rep val fl c o au).drop 2).take 1=[iA s.dH]:=by rw[At _ _ _ _ _ _ _ _ _ ai,aor]
theorem apD:((rC s ak sn rep val fl c o au).drop 1).take 1=[iA s.version]:=by rw[At _ _ _ _ _ _ _ _ _ ai,List.drop_one,abA]
theorem apE:(rC s ak sn rep val fl c o au).tail.take 1=[iA s.version]:=by rw[<-List.drop_one,apD]
theorem apF (x:Int):(rC s ak sn rep val fl c o au).take 2++iA x::(rC s ak sn rep val fl c o au).drop 3=rC { s with dH:=x } ak sn rep val fl c o au:=by
 unfold rC;rfl
theorem apG:((rC s ak sn rep val fl c o au).drop 48).take 1=[iA (s.counts.getD 40 0)]:=acM s ak sn rep val fl c o au (i:=40) aa
theorem apH (k:Int)(hl:40<s.counts.length):(rC s ak sn rep val fl c o au).take 48++iA k::(rC s ak sn rep val fl c o au).drop 49=rC { s with counts:=s.counts.set 40 k } ak sn rep val fl c o au:=acP s ak sn rep val fl c o au k (i:=40) aa hl
theorem adb:((rC s ak sn rep val fl c o au).drop 54).take 1=[bA rep]:=by rw[Ar _ _ _ _ _ _ _ _ _ 2];simp
theorem apI:((rC s ak sn rep val fl c o au).drop 55).take 1=[iA val]:=by rw[Ar _ _ _ _ _ _ _ _ _ 3];simp
theorem ade (o0 o1 o2 o3 o4 o5:AC):((rC s ak sn rep val fl c [o0,o1,o2,o3,o4,o5] au).drop 66)=[au]:=by
 rw[Ar _ _ _ _ _ _ _ _ _ 14];rfl
end
theorem OM (n:Nat):rowsOf 1 n (cp 1 n [iA 0])=bB (List.replicate n 0):=by
 apply rH;intro i;unfold rowsOf;rw[ek];by_cases hi:i<n
 ·rw[zo hi,ek,List.getElem?_replicate,if_pos hi];simp only[DV,ar,cp,Nat.mul_one,Nat.mod_one];apply rH;intro j;rw[th,lW,ek]
  cases j with
  |zero=>simp[hi]
  |succ j=>simp
 ·rw[List.getElem?_eq_none (by simpa using hi),List.getElem?_eq_none (by simpa using hi)];rfl
theorem OO (n:Nat):(cp 1 n [iA 0]).all inl=true:=by
 rw[dY];intro x hx;unfold cp at hx;obtain⟨j,_,rfl⟩:=fZ.1 hx;simp[Nat.mod_one]
abbrev evs (l:List Ev):AC:=.sl (l.map dp)
abbrev Fv (o:Ob):List AC:=[bA o.alB,iA o.request,iA o.node,iA o.dH,iA o.value]
abbrev ax (l:List Ob):AC:=.sl (l.map Fv)
abbrev adf (f:lE):List AC:=[iA f.dA.node,iA f.dA.handler,iA f.dA.count,iA f.code]
abbrev kC (f:List lE):List AC:=[.sl (f.map adf)]
abbrev ry (t:List (List Int)):List AC:=[.sl (t.map fun v=>[ints v])]
abbrev JT (x:Int×Int):List AC:=[iA x.1,iA x.2]
abbrev sP (l:List (Int×Int)):AC:=.sl (l.map JT)
abbrev er (w:aE):List AC:=[JR w.c.cQ,ints w.c.first,ints w.c.mq,reqs w.c.dg,iA w.c.mr,iA w.c.jA,iA w.c.kz,iA w.c.drift,
 .sl (w.nodes.map aK),gM w.aX,ints w.next,ax w.ax,.sl (w.br.map kC),.sl (w.traces.map ry),sP w.covered,iA w.steps]
abbrev wO (c:bR)(fl ob cv:AC)(st:Int)(g1 g2 g3 g4:Nat):List AC:=[JR c.cQ,ints c.first,ints c.mq,reqs c.dg,iA c.mr,iA c.jA,iA c.kz,iA c.drift,
 .own 601 g1,fl,.own 602 g2,ob,.own 603 g3,.own 604 g4,cv,iA st]
abbrev apJ (nodes:List aq.Node)(next:List Int)(fails:List (List lE))(traces:List (List (List Int)))(g1 g2 g3 g4:Nat):List (Nat×Slot):=
 [(601,.row 92 52 g1 (nodes.map aK)),(602,.row 3 1 g2 (bB next)),(603,.row 202 1 g3 (fails.map kC)),(604,.row 210 1 g4 (traces.map ry))]
end Ab
end Go.Proofs.YtlnghiefahcnpaaGreat
