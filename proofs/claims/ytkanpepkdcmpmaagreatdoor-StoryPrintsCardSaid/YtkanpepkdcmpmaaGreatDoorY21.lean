import Derived.Test.YtkanpepkdcmpmaaGreatDoorY20
import Derived.Test.YtkanpepkdcmpmaaGreatDoorY5
set_option maxHeartbeats 40000000
set_option maxRecDepth 100000
set_option linter.all false
namespace Go.Proofs.YtkanpepkdcmpmaaGreatDoor
namespace Ab
open Go Go.RowKit
attribute [local irreducible] aM bt aX
open aD (jL ky wR zU yo BS wS jm)
theorem ajb:∀(l:List (Int×Int)) (m:List Bool) (k:Nat) (hl:k<l.length) (hm:k<m.length),jm (l.take (k+1)) (m.take (k+1))=jm (l.take k) (m.take k)++if m[k] then [l[k]] else []
 |x::l,b::m,0,_,_=>by cases b<;>simp[jm]
 |x::l,b::m,k+1,hl,hm=>by
  have ih:=ajb l m k (by simpa using hl) (by simpa using hm);simp only[List.take_succ_cons,jm,List.getElem_cons_succ];rw[ih];cases b<;>simp
theorem ajc:∀(l:List (Int×Int)) (m:List Bool) (k:Nat),(l.length<=k\/m.length<=k)->jm (l.take k) (m.take k)=jm l m
 |[],m,k,_=>by simp[jm]
 |x::l,[],k,_=>by cases k<;>simp[jm]
 |x::l,b::m,0,h=>by simp at h
 |x::l,b::m,k+1,h=>by
  simp only[List.take_succ_cons,jm];rw[ajc l m k (by simpa using h)]
theorem ajd:∀(l:List (Int×Int)) (m:List Bool),(jm l m).length<=l.length
 |[],m=>by simp[jm]
 |x::l,[]=>by simp[jm]
 |x::l,b::m=>by
  have:=ajd l m;unfold jm;split<;>simp<;>omega
theorem aye (d r:jL)(keep:List Bool)(h:BS d keep=some r)(hm:d.cells.length<=1000000)(hp:d.pending.length<=1000000):aU Tryz.prog 205 [.agg (oQ d),.c (XW keep)] (fun x=>x=.w (.agg (oQ r))):=by
 unfold BS at h;rw[bO] at h;obtain⟨c,h1,rfl⟩:=h;have eb:=ajd d.pending keep;refine cC Tryz.func205 ⟨0,[5],[],[(7,[5])],cU,[],[]⟩ [] [.cell 4 2] [2,4,5,6] [2,4,5] ?_;have FF:=trivial
 try refine aF ?_
 refine dv (fun n V S=>∃(k g:Nat) (o:List (Int×Int)),k<=d.pending.length/\n=d.pending.length-k/\o=jm (d.pending.take k) (keep.take k)/\o.length<=k/\
  V=[(0,.w (.agg (oQ d))),(1,.w (.c (XW keep))),(2,.pb 2 1 0),(4,.pb 4 1 0),(5,.w (.c (.own 5 g))),(6,.w (.c (iA k)))]/\S=[(2,.box 1 (oQ d)),(4,.box 1 [.sl [],.sl []]),(5,.row 351 2 g (o.map fun p=>[iA p.1,iA p.2]))]) (n:=d.pending.length) ⟨0,1,[],ab,ab,by simp[jm],ai,rfl,rfl⟩ ?_
 rintro n V L S ⟨k,g,o,hk,rfl,ho,xu,rfl,rfl⟩
 have mq:(d.pending.length<=k\/keep.length<=k)->o=jm d.pending keep:=fun hh=>by rw[ho,ajc _ _ _ hh]
 by_cases hlt:k<d.pending.length
 ·by_cases pK:k<keep.length
  ·have cD:k<=1000000000:=ab
   obtain⟨x,hx⟩:∃x,d.pending[k]=x:=⟨_,rfl⟩
   obtain⟨b,hb⟩:∃b,keep[k]=b:=⟨_,rfl⟩
   have db:=ajb d.pending keep k hlt pK;rw[<-ho,hx,hb] at db
   cases b with
   |true=>
    have FF:=gZ @hlt @pK @hx @hb (bN cD)
    try refine aF ?_
    exact⟨d.pending.length-(k+1),ab,k+1,g+1,o++[x],ab,ab,db.symm,by simp;omega,rfl,ai⟩
   |false=>
    have FF:=gZ @hlt @pK @hx @hb (bN cD)
    try refine aF ?_
    exact⟨d.pending.length-(k+1),ab,k+1,g,o,ab,ab,by simpa using db.symm,ab,rfl,rfl⟩
  ·have hf:=mq (.inr ab);have FF:=eV @hlt @pK;refine bJ (Sj d.cells o c (by rw[hf];exact h1) hm (by rw[hf];omega)) ?_;refine zE ?_;exact(rfl)
 ·have hf:=mq (.inl ab);have FF:=@hlt;refine bJ (Sj d.cells o c (by rw[hf];exact h1) hm (by rw[hf];omega)) ?_;refine zE ?_;exact(rfl)
end Ab
namespace Ab
open Go Go.RowKit
open aD (fW eP Rr aT uO)
abbrev eH (a:Ask):List AC:=[iA a.node,iA a.handler,iA a.count,iA a.kind,iA a.index,iA a.arity,iA a.n]
abbrev asks (l:List Ask):AC:=.sl (l.map eH)
@[irreducible] def rC (s:aD.Node)(ak sn:AC)(rep:Bool)(val:Int)(fl:AC)(c:aT)(o:List AC)(aE:AC):List AC:=
 [bA s.up,iA s.version,iA s.fb,iA s.clock,ints s.aZ.cells,tQ s.aZ.pending,ints s.fx,ints s.timers]++(nth s.counts 41++[iA s.waiting,iA s.dropped,iA s.dY,ak,sn,bA rep,iA val,fl,iA c.node,iA c.handler,iA c.count]++o++[aE])
section
variable (s:aD.Node) (ak sn:AC) (rep:Bool) (val:Int) (fl:AC) (c:aT) (o:List AC) (aE:AC)
theorem eJ:rC s ak sn rep val fl c o aE=aR s++([ak,sn,bA rep,iA val,fl,iA c.node,iA c.handler,iA c.count]++o++[aE]):=by
 unfold rC aR;simp
theorem TW (ho:o.length=6):(rC s ak sn rep val fl c o aE).length=67:=by rw[eJ];simp[ho]
theorem aje:(rC s ak sn rep val fl c o aE).take 52=aR s:=by rw[eJ,uE ai,aiZ]
theorem Ja (k:Nat):(rC s ak sn rep val fl c o aE).drop (52+k)=([ak,sn,bA rep,iA val,fl,iA c.node,iA c.handler,iA c.count]++o++[aE]).drop k:=by
 rw[eJ,show 52=(aR s).length by simp,<-List.drop_drop,lW]
theorem Jb {k n:Nat}(h:k+n<=52):((rC s ak sn rep val fl c o aE).drop k).take n=((aR s).drop k).take n:=by
 rw[eJ,BA bq,uE bq]
theorem ajf:((rC s ak sn rep val fl c o aE).drop 4).take 2=oQ s.aZ:=by rw[Jb _ _ _ _ _ _ _ _ _ au,axW]
theorem ajg:((rC s ak sn rep val fl c o aE).drop 7).take 1=[ints s.timers]:=by rw[Jb _ _ _ _ _ _ _ _ _ au,axX]
theorem aaE:((rC s ak sn rep val fl c o aE).drop 49).take 1=[iA s.waiting]:=by rw[Jb _ _ _ _ _ _ _ _ _ au,aiY]
theorem LU:((rC s ak sn rep val fl c o aE).drop 53).take 1=[sn]:=by rw[Ja _ _ _ _ _ _ _ _ _ 1];simp
theorem TX:((rC s ak sn rep val fl c o aE).drop 56).take 1=[fl]:=by rw[Ja _ _ _ _ _ _ _ _ _ 4];simp
theorem Jc:((rC s ak sn rep val fl c o aE).drop 57).take 3=[iA c.node,iA c.handler,iA c.count]:=by rw[Ja _ _ _ _ _ _ _ _ _ 5];simp
theorem aaF (d:aD.jL):(rC s ak sn rep val fl c o aE).take 4++ints d.cells::tQ d.pending::(rC s ak sn rep val fl c o aE).drop 6=rC { s with aZ:=d } ak sn rep val fl c o aE:=by
 unfold rC;simp
theorem aaG (t:List Int):(rC s ak sn rep val fl c o aE).take 7++ints t::(rC s ak sn rep val fl c o aE).drop 8=rC { s with timers:=t } ak sn rep val fl c o aE:=by
 unfold rC;simp
theorem Ff {A B:List AC}{k:Nat}(x y:AC)(h:A.length=k):(A++x::B).take k++y::(A++x::B).drop (k+1)=A++y::B:=by
 subst h;rw[oC,<-List.drop_drop,lW];rfl
theorem ajh (w:Int):(rC s ak sn rep val fl c o aE).take 49++iA w::(rC s ak sn rep val fl c o aE).drop 50=rC { s with waiting:=w } ak sn rep val fl c o aE:=by
 unfold rC;simp only[<-List.append_assoc,List.cons_append,List.nil_append];have:=Ff (A:=bA s.up::iA s.version::iA s.fb::iA s.clock::ints s.aZ.cells::tQ s.aZ.pending::ints s.fx::ints s.timers::nth s.counts 41) (B:=iA s.dropped::iA s.dY::ak::sn::bA rep::iA val::fl::iA c.node::iA c.handler::iA c.count::(o++[aE])) (k:=49) (iA s.waiting) (iA w) ai;simpa using this
theorem ayf (x:AC):(rC s ak sn rep val fl c o aE).take 53++x::(rC s ak sn rep val fl c o aE).drop 54=rC s ak x rep val fl c o aE:=by
 rw[eJ,eJ];have:=Ff (A:=aR s++[ak]) (B:=bA rep::iA val::fl::iA c.node::iA c.handler::iA c.count::(o++[aE])) (k:=53) sn x ai;simpa using this
theorem ayg (x:Bool):(rC s ak sn rep val fl c o aE).take 54++bA x::(rC s ak sn rep val fl c o aE).drop 55=rC s ak sn x val fl c o aE:=by
 rw[eJ,eJ];have:=Ff (A:=aR s++[ak,sn]) (B:=iA val::fl::iA c.node::iA c.handler::iA c.count::(o++[aE])) (k:=54) (bA rep) (bA x) ai;simpa using this
theorem ayh (x:Int):(rC s ak sn rep val fl c o aE).take 55++iA x::(rC s ak sn rep val fl c o aE).drop 56=rC s ak sn rep x fl c o aE:=by
 rw[eJ,eJ];have:=Ff (A:=aR s++[ak,sn,bA rep]) (B:=fl::iA c.node::iA c.handler::iA c.count::(o++[aE])) (k:=55) (iA val) (iA x) ai;simpa using this
theorem ayi (x:AC):(rC s ak sn rep val fl c o aE).take 56++x::(rC s ak sn rep val fl c o aE).drop 57=rC s ak sn rep val x c o aE:=by
 rw[eJ,eJ];have:=Ff (A:=aR s++[ak,sn,bA rep,iA val]) (B:=iA c.node::iA c.handler::iA c.count::(o++[aE])) (k:=56) fl x ai;simpa using this
end
theorem aaH (s:aD.Node)(k:Nat)(l:List AC):(aR s++l).take (52+k)=aR s++l.take k:=by
 rw[List.take_append,nh ai,TT,show 52+k-52=k by omega]
theorem Fg (s:aD.Node)(k:Nat)(l:List AC):(aR s++l).drop (52+k)=l.drop k:=by
 rw[List.drop_append,uF ai,TT,show 52+k-52=k by omega];rfl
theorem ayj (s:aD.Node)(l:List AC):(aR s++l).take 57=aR s++l.take 5:=aaH s 5 l
theorem ayk (s:aD.Node)(l:List AC):(aR s++l).drop 60=l.drop 8:=Fg s 8 l
theorem aji (s:aD.Node)(ak sn:AC)(rep:Bool)(val:Int)(fl:AC)(a b c:Int)(o0 o1 o2 o3 o4 o5 aE:AC):aR s++[ak,sn,bA rep,iA val,fl,iA a,iA b,iA c,o0,o1,o2,o3,o4,o5,aE]=rC s ak sn rep val fl ⟨a,b,c⟩ [o0,o1,o2,o3,o4,o5] aE:=by
 rw[eJ];simp
section
variable (s:aD.Node) (ak sn:AC) (rep:Bool) (val:Int) (fl:AC) (c:aT) (o:List AC) (aE:AC)
theorem aaI (k:Nat):(rC s ak sn rep val fl c o aE)[52+k]? =([ak,sn,bA rep,iA val,fl,iA c.node,iA c.handler,iA c.count]++o++[aE])[k]? :=by
 rw[eJ,iR ai,TT,show 52+k-52=k by omega]
theorem ayl:(rC s ak sn rep val fl c o aE)[52]? =some ak:=aaI s ak sn rep val fl c o aE 0
theorem aym:(rC s ak sn rep val fl c o aE)[53]? =some sn:=aaI s ak sn rep val fl c o aE 1
theorem ayn:(rC s ak sn rep val fl c o aE)[56]? =some fl:=aaI s ak sn rep val fl c o aE 4
theorem ajj (h:52<(rC s ak sn rep val fl c o aE).length):(rC s ak sn rep val fl c o aE)[52]'h=ak:=dX ((cw h).symm.trans (ayl s ak sn rep val fl c o aE))
theorem ayo (h:53<(rC s ak sn rep val fl c o aE).length):(rC s ak sn rep val fl c o aE)[53]'h=sn:=dX ((cw h).symm.trans (aym s ak sn rep val fl c o aE))
theorem ayp (h:56<(rC s ak sn rep val fl c o aE).length):(rC s ak sn rep val fl c o aE)[56]'h=fl:=dX ((cw h).symm.trans (ayn s ak sn rep val fl c o aE))
theorem aaJ (k:Nat)(x:AC):(rC s ak sn rep val fl c o aE).set (52+k) x=aR s++([ak,sn,bA rep,iA val,fl,iA c.node,iA c.handler,iA c.count]++o++[aE]).set k x:=by
 rw[eJ,MV _ _ ai,TT,show 52+k-52=k by omega]
theorem ajk (x:AC):(rC s ak sn rep val fl c o aE).set 52 x=rC s x sn rep val fl c o aE:=by rw[aaJ s ak sn rep val fl c o aE 0,eJ];rfl
theorem ayq (x:AC):(rC s ak sn rep val fl c o aE).set 53 x=rC s ak x rep val fl c o aE:=by rw[aaJ s ak sn rep val fl c o aE 1,eJ];rfl
theorem ayr (x:AC):(rC s ak sn rep val fl c o aE).set 56 x=rC s ak sn rep val x c o aE:=by rw[aaJ s ak sn rep val fl c o aE 4,eJ];rfl
theorem aaK:((rC s ak sn rep val fl c o aE).drop 3).take 1=[iA s.clock]:=by rw[Jb _ _ _ _ _ _ _ _ _ au,axV]
theorem ajl (k:Int):(rC s ak sn rep val fl c o aE).take 3++iA k::(rC s ak sn rep val fl c o aE).drop 4=rC { s with clock:=k } ak sn rep val fl c o aE:=by
 unfold rC;simp
theorem ays (v:List Int):(rC s ak sn rep val fl c o aE).take 6++ints v::(rC s ak sn rep val fl c o aE).drop 7=rC { s with fx:=v } ak sn rep val fl c o aE:=by
 unfold rC;simp
theorem TY:((rC s ak sn rep val fl c o aE).drop 52).take 1=[ak]:=by rw[Ja _ _ _ _ _ _ _ _ _ 0];rfl
theorem aaL (x:AC):(rC s ak sn rep val fl c o aE).take 52++x::(rC s ak sn rep val fl c o aE).drop 53=rC s x sn rep val fl c o aE:=by
 rw[eJ,eJ];have:=Ff (A:=aR s) (B:=sn::bA rep::iA val::fl::iA c.node::iA c.handler::iA c.count::(o++[aE])) (k:=52) ak x ai;simpa using this
theorem ajm {i:Nat}(h:i<41):((rC s ak sn rep val fl c o aE).drop (8+i)).take 1=[iA (s.counts.getD i 0)]:=by rw[Jb _ _ _ _ _ _ _ _ _ ab,aaC s h]
theorem iG (o0 o1 o2 o3 o4 o5:AC):(rC s ak sn rep val fl c [o0,o1,o2,o3,o4,o5] aE).length=67:=TW _ _ _ _ _ _ _ _ _ rfl
theorem vT (o0 o1 o2 o3 o4 o5:AC):(rC s ak sn rep val fl c [o0,o1,o2,o3,o4,o5] aE).take 67=rC s ak sn rep val fl c [o0,o1,o2,o3,o4,o5] aE:=nh (by rw[iG];exact cK _)
theorem ajn (x y z:Int):(rC s ak sn rep val fl c o aE).take 57++iA x::iA y::iA z::(rC s ak sn rep val fl c o aE).drop 60=rC s ak sn rep val fl ⟨x,y,z⟩ o aE:=by
 rw[eJ,eJ,ayj,ayk];simp
theorem ayt (o0 o1 o2 o3 o4 o5 x0 x1 x2 x3 x4 x5:AC):(rC s ak sn rep val fl c [o0,o1,o2,o3,o4,o5] aE).take 60++x0::x1::x2::x3::x4::x5::(rC s ak sn rep val fl c [o0,o1,o2,o3,o4,o5] aE).drop 66=rC s ak sn rep val fl c [x0,x1,x2,x3,x4,x5] aE:=by
 rw[eJ,eJ,show(60:Nat)=52+8 by rfl,aaH,show(66:Nat)=52+14 by rfl,Fg];simp
theorem ayu (o0 o1 o2 o3 o4 o5 x:AC):(rC s ak sn rep val fl c [o0,o1,o2,o3,o4,o5] aE).take 66++[x]=rC s ak sn rep val fl c [o0,o1,o2,o3,o4,o5] x:=by
 rw[eJ,eJ,show(66:Nat)=52+14 by rfl,aaH];simp
theorem ajo (o0 o1 o2 o3 o4 o5:AC):((rC s ak sn rep val fl c [o0,o1,o2,o3,o4,o5] aE).drop 60).take 1=[o0]:=by rw[eJ,show(60:Nat)=52+8 by rfl,Fg];simp
theorem aaM (o0 o1 o2 o3 o4 o5:AC):((rC s ak sn rep val fl c [o0,o1,o2,o3,o4,o5] aE).drop 61).take 1=[o1]:=by rw[eJ,show(61:Nat)=52+9 by rfl,Fg];simp
theorem ayv (o0 o1 o2 o3 o4 o5:AC):((rC s ak sn rep val fl c [o0,o1,o2,o3,o4,o5] aE).drop 62).take 1=[o2]:=by rw[eJ,show(62:Nat)=52+10 by rfl,Fg];simp
theorem ayw (o0 o1 o2 o3 o4 o5:AC):((rC s ak sn rep val fl c [o0,o1,o2,o3,o4,o5] aE).drop 63).take 1=[o3]:=by rw[eJ,show(63:Nat)=52+11 by rfl,Fg];simp
theorem ayx (o0 o1 o2 o3 o4 o5:AC):((rC s ak sn rep val fl c [o0,o1,o2,o3,o4,o5] aE).drop 64).take 1=[o4]:=by rw[eJ,show(64:Nat)=52+12 by rfl,Fg];simp
theorem aaN (o0 o1 o2 o3 o4 o5:AC):((rC s ak sn rep val fl c [o0,o1,o2,o3,o4,o5] aE).drop 65).take 1=[o5]:=by rw[eJ,show(65:Nat)=52+13 by rfl,Fg];simp
theorem ayy (l:List Int)(n i:Nat)(x:Int)(hl:i<l.length):nth (l.set i x) n=(nth l n).set i (iA x):=by
 apply yj;intro k;by_cases hk:k<n
 ·rw[TN _ _ _ hk,List.getElem?_set];split
  ·rename_i e;subst e;simp[hk,hl]
  ·rename_i e;rw[TN _ _ _ hk];simp[fo,e]
 ·rw[qh bq,qh bq]
theorem ajp {i:Nat}(k:Int)(h:i<41)(hl:i<s.counts.length):(rC s ak sn rep val fl c o aE).take (8+i)++iA k::(rC s ak sn rep val fl c o aE).drop (8+i+1)=rC { s with counts:=s.counts.set i k } ak sn rep val fl c o aE:=by
 have e:∀L:List AC,8+i<L.length->L.take (8+i)++iA k::L.drop (8+i+1)=L.set (8+i) (iA k):=fun L hL=>by rw[List.set_eq_take_append_cons_drop,aq hL]
 unfold rC;rw[ayy _ _ _ _ hl,e _ bq,DG 8 i,MV _ _ ai];simp only[List.length_cons,List.length_nil,List.append_assoc];rw[show i+8-(0+1+1+1+1+1+1+1+1)=i by omega,List.set_append_left _ _ bq]
end
theorem vU {s g:Nat}{es:List (List AC)}:∀{cs:List AC},cs.all inl=true->cs.map (mf s g es)=cs
 |[],_=>rfl
 |c::cs,h=>by
  simp only[BJ,bV] at h;rw[dF,vU h.2]
  cases c with
  |own s g=>cases h.1
  |cP s g=>cases h.1
  |part s g i=>cases h.1
  |cls f bZ=>cases h.1
  |fM f bZ=>rfl
  |v x=>rfl
  |sl es=>rfl
@[simp] theorem LV (n:aD.Node)(s g:Nat)(es:List (List AC)):(aR n).map (mf s g es)=aR n:=vU (TU n)
theorem ajq {n:aD.Node}{ga gb gd:Nat}{rep:Bool}{val:Int}{c:aT}{o:List AC}{aE:AC}{es:List (List AC)}(ho:o.all inl=true)(vV:inl aE=true):(rC n (.own 400 ga) (.own 401 gb) rep val (.own 402 gd) c o aE).map (mf 400 ga es)=rC n (.sl es) (.own 401 gb) rep val (.own 402 gd) c o aE:=by
 rw[eJ,eJ,de,LV,de,de,vU ho,vU (cs:=[aE]) (by simp[vV])];simp[mf]
theorem LW {st:St}:∀{a b x y:List AC},st.jQ a=some x->st.jQ b=some y->st.jQ (a++b)=some (x++y)
 |[],b,x,y,ha,hb=>by cases ha;exact hb
 |c::a,b,x,y,ha,hb=>by
  unfold St.jQ at ha;split at ha
  ·rename_i u v h1 h2;cases ha;rw[List.cons_append];unfold St.jQ;rw[h1,LW h2 hb];rfl
  ·cases ha
theorem LX {st:St}:∀{a:List AC},a.all inl=true->st.jQ a=some a
 |[],_=>rfl
 |c::a,h=>by
  simp only[BJ,bV] at h;unfold St.jQ;rw[LX h.2]
  cases c with
  |own s g=>cases h.1
  |cP s g=>cases h.1
  |part s g i=>cases h.1
  |cls f bZ=>cases h.1
  |fM f bZ=>rfl
  |v x=>rfl
  |sl es=>rfl
theorem ajr {st:St}{n:aD.Node}{ak sn fl sn' fl':AC}{rep:Bool}{val:Int}{c:aT}{o:List AC}{aE:AC}(AZ:inl ak=true)(ho:o.all inl=true)(vV:inl aE=true)(h1:st.fz sn=some sn')(h2:st.fz fl=some fl'):st.jQ (rC n ak sn rep val fl c o aE)=some (rC n ak sn' rep val fl' c o aE):=by
 rw[eJ,eJ];refine LW (LX (TU n)) ?_
 have e:∀(a b:AC),([ak,a,bA rep,iA val,b,iA c.node,iA c.handler,iA c.count]++o++[aE])=[ak]++([a]++([bA rep,iA val]++([b]++([iA c.node,iA c.handler,iA c.count]++(o++[aE]))))):=fun a b=>ai
 rw[e,e]
 have one:∀(a b:AC),st.fz a=some b->st.jQ [a]=some [b]:=fun a b h=>by simp[St.jQ,h]
 exact LW (LX (by simp[AZ])) (LW (one _ _ h1) (LW (LX ai) (LW (one _ _ h2) (LX (by simp[ho,vV])))))
end Ab
namespace Ab
open Go Go.RowKit mG
open aD (eQ qx)
abbrev TZ (l:List Prog):AC:=.sl (l.map cI)
abbrev ajs (r:qx):List AC:=[iA r.node,iA r.op,iA r.key,iA r.arg]
abbrev reqs (l:List qx):AC:=.sl (l.map ajs)
abbrev Ba (c:eQ):List AC:=[TZ c.dR,ints c.first,ints c.qy,reqs c.ek,iA c.yr,iA c.qz,iA c.tE,iA c.drift]
end Ab
namespace Ab
open Go Go.RowKit
variable {A:Nat->Prop} {l:List Int} {v:Value} {w:World}
abbrev gG (e:Ev):List AC:=[iA e.kind,iA e.node,iA e.arg,iA e.msg.node,iA e.msg.handler,iA e.msg.count,iA e.msg.index,iA e.msg.copy]
abbrev kJ (s:ay):List AC:=gG s.ev++[asks s.asks,bA s.aJ,msgs s.sent]
abbrev CK (l:List ay):AC:=.sl (l.map kJ)
theorem Fr.below{w':World}(h:Fr (fun b=>b<w.heap.size) w w'):aw w w':=⟨h.os,h.tape,h.out,h.size,h.block⟩
theorem ayz{k:Option Addr}{c:Nat}(h:br w (.slice k l.length c) l)(hc:l.length<=c):IR w (fun _=>False) (ints l) (.slice k l.length c):=by
 obtain⟨_,hm,a,c',e,hr⟩:=h;simp only[Value.slice.injEq,true_and] at e;obtain⟨rfl,rfl⟩:=e
 have key:∀i (hi:i<l.length),∃b o,k=some ⟨b,o,none⟩/\w.cell? ⟨b,o+i,none⟩=some (I l[i]):=fun i hi=>hr i _ (by simp[iv,hi])
 have row:∀(i:Nat) (row:List AC),(l.map fun n=>[iA n])[i]? =some row->∃hi:i<l.length,row=[iA l[i]]:=fun i row h1=>by
  rw[fh,bO] at h1;obtain⟨n,hn,rfl⟩:=h1;obtain⟨hi,rfl⟩:=bK.1 hn;exact⟨hi,rfl⟩
 have:=IR.sl (w:=w) (A:=fun _=>False) 1 (l.map fun n=>[iA n]) k c (fun i _=>I (l.getD i 0)) (by simpa using hc) (by simpa using hm) (fun i r h1=>by
   obtain⟨_,rfl⟩:=row i r h1
   rfl) (fun i r j x h1 h2=>by
   obtain⟨hi,rfl⟩:=row i r h1
   match j,h2 with
   |0,h2=>
    simp only[wG,aA] at h2;subst h2;rw[fo,cw hi];exact IR.v _ rfl
   |j+1,h2=>simp at h2) (fun i r j h1 h2=>by
   obtain⟨hi,rfl⟩:=row i r h1
   have hj:j=0:=by simpa using h2
   subst hj;obtain⟨b,o,e1,e2⟩:=key i hi
   exact⟨b,o,e1,fun hh=>hh,by rw[fo,cw hi,Nat.mul_one,qm];exact e2⟩)
 simpa using this
theorem xJ{n:Int}(h:IR w A (iA n) v):v=I n:=by
 cases h;rfl
theorem ayA{b:Bool}(h:IR w A (bA b) v):v=.bool b:=by
 cases h;rfl
theorem CL{α:Type}(f:α->List Int)(k:Nat)(hf:∀x,(f x).length=k){l:List α}(h:IR w A (.sl (l.map fun x=>(f x).map iA)) v):Flat w k v l.length (l.flatMap fun x=>iv (f x)):=by
 generalize hes:(l.map fun x=>(f x).map iA)=es at h
 cases h with
 |sl k' es a c u hn hm hk hc hl=>
  have hlen:es.length=l.length:=by rw[<-hes,dE]
  refine⟨Kh (fun x=>iv (f x)) k (fun x=>by simp[iv,hf]) l,ab,a,c,by rw[hlen],fun j y hj=> ?_⟩
  have aY:0<k:=by
   rcases Nat.eq_zero_or_pos k with h0|h0
   ·subst h0;have:=(bK.1 hj).1;rw[Kh (fun x=>iv (f x)) 0 (fun x=>by simp[iv,hf]) l] at this;omega
   ·exact h0
  have dJ:=(bK.1 hj).1;rw[Kh (fun x=>iv (f x)) k (fun x=>by simp[iv,hf]) l] at dJ;have hi:j/k<l.length:=Nat.div_lt_of_lt_mul (by rw[Gj];exact dJ);have hr:j%k<k:=oD _ aY
  have Pg:j=j/k*k+j%k:=by rw[Gj];exact(Nat.div_add_mod j k).symm
  have hx:l[j/k]? =some l[j/k]:=cw hi;have h1:=Nf (fun x=>iv (f x)) k (fun x=>by simp[iv,hf]) l (j/k) (j%k) _ hx hr;rw[<-Pg,hj] at h1
  have bl:es[j/k]? =some ((f l[j/k]).map iA):=by rw[<-hes,fh,hx];rfl
  have eF:j%k<(f l[j/k]).length:=by rw[hf];exact hr
  have hcell:((f l[j/k]).map iA)[j%k]? =some (iA (f l[j/k])[j%k]):=by rw[fh,cw eF];rfl
  have gC:k'=k:=by
   have:=hk _ _ bl;rw[dE,hf] at this;exact this.symm
  subst gC;have e1:=xJ (hc _ _ _ _ bl hcell);obtain⟨b,o,e2,_,e3⟩:=hl _ _ (j%k') bl (by rw[dE];exact eF);refine⟨b,o,e2,?_⟩
  have hy:y=I (f l[j/k'])[j%k']:=by
   simp only[iv,fh,cw eF,yl,aA] at h1;exact h1
  rw[hy,<-e1,<-e3];congr 2;omega
theorem ayB(h:IR w A (ints l) v):br w v l:=by
 have:=CL (fun n:Int=>[n]) 1 (fun _=>rfl) (w:=w) (A:=A) (l:=l) (v:=v) h
 have e:(l.flatMap fun x=>iv [x])=iv l:=by
  induction l with
  |nil=>rfl
  |cons x l ih=>
   rw[rO,show(l.flatMap fun x=>iv [x])=iv l from by
    clear this ih h
    induction l with
    |nil=>rfl
    |cons y l ih=>rw[rO,ih];rfl]
   rfl
 rw[e] at this;exact this
theorem ayC{l:List Ask}(h:IR w A (asks l) v):jG w v l:=CL Ask.ints 7 (fun _=>rfl) (l:=l) h
theorem ayD{l:List bQ}(h:IR w A (msgs l) v):lx w v l:=CL bQ.ints 5 (fun _=>rfl) (l:=l) h
theorem ajt {w:World}{A:Nat->Prop}:∀(l:List ay) (u:Nat->Nat->Value) (s0:Nat),(∀(i:Nat) (s:ay) (j:Nat) (x:AC),l[i]? =some s->(kJ s)[j]? =some x->IR w A x (u (s0+i) j))->
  kr w l ((List.range l.length).flatMap fun i=>(List.range 11).map fun j=>u (s0+i) j)
 |[],u,s0,h=>rfl
 |s::l,u,s0,h=>by
  have c:=fun j x hx=>h 0 s j x rfl hx
  have t:=ajt l u (s0+1) fun i s j x h1 h2=>by
   have:=h (i+1) s j x (by simpa using h1) h2;rwa[show s0+(i+1)=s0+1+i by omega] at this
  refine⟨u s0 8,u s0 10,_,?_,ayC (c 8 _ rfl),ayD (c 10 _ rfl),t⟩;rw[List.length_cons,List.range_succ_eq_map (n:=l.length),rO,List.flatMap_map]
  have e0:(List.range 11).map (fun j=>u (s0+0) j)=s.row (u s0 8) (u s0 10):=by
   have b9:u (s0+0) 9=.bool s.aJ:=ayA (c 9 _ rfl)
   show [u s0 0,u s0 1,u s0 2,u s0 3,u s0 4,u s0 5,u s0 6,u s0 7,u s0 8,u s0 9,u s0 10]=_
   rw[show u s0 0=I s.ev.kind from xJ (c 0 _ rfl),show u s0 1=I s.ev.node from xJ (c 1 _ rfl),show u s0 2=I s.ev.arg from xJ (c 2 _ rfl),show u s0 3=I s.ev.msg.node from xJ (c 3 _ rfl),show u s0 4=I s.ev.msg.handler from xJ (c 4 _ rfl),
    show u s0 5=I s.ev.msg.count from xJ (c 5 _ rfl),show u s0 6=I s.ev.msg.index from xJ (c 6 _ rfl),show u s0 7=I s.ev.msg.copy from xJ (c 7 _ rfl),show u s0 9=.bool s.aJ from b9]
   rfl
  rw[e0];congr 1;refine aG (fun f=>List.flatMap f (List.range l.length)) (funext fun i=> ?_)
  show _=(List.range 11).map fun j=>u (s0+1+i) j
  rw[show s0+1+i=s0+(i+1) by omega]
theorem aju{l:List ay}(h:IR w A (CK l) v):fw w v l:=by
 have h:IR w A (.sl (l.map kJ)) v:=h;generalize hes:l.map kJ=es at h
 cases h with
 |sl k es a c u hn hm hk hc hl=>
  have hlen:es.length=l.length:=by rw[<-hes,dE]
  have bl:∀i s,l[i]? =some s->es[i]? =some (kJ s):=fun i s hs=>by rw[<-hes,fh,hs];rfl
  refine⟨_,ajt (A:=A) l u 0 (fun i s j x h1 h2=>by rw[fu];exact hc i _ j x (bl i s h1) h2),?_⟩
  have cM:((List.range l.length).flatMap fun i=>(List.range 11).map fun j=>u (0+i) j).length=l.length*11:=by
   have:=Kh (fun i:Nat=>(List.range 11).map fun j=>u (0+i) j) 11 (fun _=>ai) (List.range l.length);rwa[BG] at this
  refine⟨cM,ab,a,c,by rw[hlen],fun j y hj=> ?_⟩;have dJ:=(bK.1 hj).1;rw[cM] at dJ;have hi:j/11<l.length:=ab;have h1:=Nf (fun i:Nat=>(List.range 11).map fun j=>u (0+i) j) 11 (fun _=>ai) (List.range l.length) (j/11) (j%11) (j/11) (by simp[hi]) ab;rw[show j/11*11+j%11=j by omega,hj] at h1
  have h2:y=u (j/11) (j%11):=by
   rw[fh,Gc ab,fu] at h1;simpa using h1
  have hs:l[j/11]? =some l[j/11]:=cw hi
  have ayE:k=11:=by
   have:=hk _ _ (bl _ _ hs);exact this.symm
  subst ayE;obtain⟨b,o,e2,_,e3⟩:=hl _ _ (j%11) (bl _ _ hs) (by show j%11<11;omega);refine⟨b,o,e2,?_⟩;rw[h2,<-e3];congr 2;omega
end Ab
namespace Ab
open Go Go.RowKit
open aD (eQ qx Ob pq bG Env aT)
theorem Bb {P:Program}{U:List Nat}{l tl:List BO}{K:St->Prop}{t:OT}{bp:Bool}{st:St}{V1:List (Nat×AV)}{S1:List (Nat×Slot)}(h:aX U (l.map (BO.ao P)) (tl.map (BO.ao P)) (fun st=>st.V=V1/\st.S=S1) t bp st)(h2:∀L,K ⟨V1,L,S1⟩):aX U (l.map (BO.ao P)) (tl.map (BO.ao P)) K t bp st:=
 yH (fun st hs=>by
  obtain⟨V,L,S⟩:=st;obtain⟨rfl,rfl⟩:=hs
  exact h2 L) h
section
variable (s:aD.Node)
@[simp] theorem aaO:(aR s).drop 52=[]:=uF ai
theorem ajv (t:List Int):(aR s).take 7++ints t::(aR s).drop 8=aR { s with timers:=t }:=by
 unfold aR;simp
theorem LY:aR s=(bA s.up::iA s.version::iA s.fb::iA s.clock::ints s.aZ.cells::tQ s.aZ.pending::ints s.fx::ints s.timers::nth s.counts 41)++[iA s.waiting,iA s.dropped,iA s.dY]:=by
 unfold aR;simp
theorem aaP (w:Int):(aR s).take 49++iA w::(aR s).drop 50=aR { s with waiting:=w }:=by
 rw[LY,LY];have:=Ff (A:=bA s.up::iA s.version::iA s.fb::iA s.clock::ints s.aZ.cells::tQ s.aZ.pending::ints s.fx::ints s.timers::nth s.counts 41) (B:=[iA s.dropped,iA s.dY]) (k:=49) (iA s.waiting) (iA w) ai;simpa using this
theorem ayF (w:Int):(aR s).take 50++iA w::(aR s).drop 51=aR { s with dropped:=w }:=by
 rw[LY,LY];have:=Ff (A:=bA s.up::iA s.version::iA s.fb::iA s.clock::ints s.aZ.cells::tQ s.aZ.pending::ints s.fx::ints s.timers::(nth s.counts 41++[iA s.waiting])) (B:=[iA s.dY]) (k:=50) (iA s.dropped) (iA w) ai;simpa using this
theorem ayG (w:Int):(aR s).take 51++[iA w]=aR { s with dY:=w }:=by
 rw[LY,LY,List.take_append,nh ai];simp
theorem ajw (b:Bool):bA b::(aR s).tail=aR { s with up:=b }:=by
 unfold aR;rfl
theorem ayH (d:aD.jL):(aR s).take 4++ints d.cells::tQ d.pending::(aR s).drop 6=aR { s with aZ:=d }:=by
 unfold aR;rfl
theorem ajx:((aR s).drop 4).take 1=[ints s.aZ.cells]:=by
 unfold aR;rfl
theorem ajy:((aR s).drop 5).take 1=[tQ s.aZ.pending]:=by
 unfold aR;rfl
theorem ajz:((aR s).drop 48).take 1=[iA (s.counts.getD 40 0)]:=aaC s (i:=40) ab
end
section
variable (s:aD.Node) (ak sn:AC) (rep:Bool) (val:Int) (fl:AC) (c:aT) (o:List AC) (aE:AC)
theorem ayI (b:Bool):bA b::(rC s ak sn rep val fl c o aE).tail=rC { s with up:=b } ak sn rep val fl c o aE:=by
 unfold rC;rfl
theorem ajA:((rC s ak sn rep val fl c o aE).drop 2).take 1=[iA s.fb]:=by rw[Jb _ _ _ _ _ _ _ _ _ au,axU]
theorem ayJ:((rC s ak sn rep val fl c o aE).drop 1).take 1=[iA s.version]:=by rw[Jb _ _ _ _ _ _ _ _ _ au,List.drop_one,aiX]
theorem ayK:(rC s ak sn rep val fl c o aE).tail.take 1=[iA s.version]:=by rw[<-List.drop_one,ayJ]
theorem ayL (x:Int):(rC s ak sn rep val fl c o aE).take 2++iA x::(rC s ak sn rep val fl c o aE).drop 3=rC { s with fb:=x } ak sn rep val fl c o aE:=by
 unfold rC;rfl
theorem ayM:((rC s ak sn rep val fl c o aE).drop 48).take 1=[iA (s.counts.getD 40 0)]:=ajm s ak sn rep val fl c o aE (i:=40) ab
theorem ayN (k:Int)(hl:40<s.counts.length):(rC s ak sn rep val fl c o aE).take 48++iA k::(rC s ak sn rep val fl c o aE).drop 49=rC { s with counts:=s.counts.set 40 k } ak sn rep val fl c o aE:=ajp s ak sn rep val fl c o aE k (i:=40) ab hl
theorem ajB:((rC s ak sn rep val fl c o aE).drop 54).take 1=[bA rep]:=by rw[Ja _ _ _ _ _ _ _ _ _ 2];simp
theorem ayO:((rC s ak sn rep val fl c o aE).drop 55).take 1=[iA val]:=by rw[Ja _ _ _ _ _ _ _ _ _ 3];simp
theorem ajC (o0 o1 o2 o3 o4 o5:AC):((rC s ak sn rep val fl c [o0,o1,o2,o3,o4,o5] aE).drop 66)=[aE]:=by
 rw[Ja _ _ _ _ _ _ _ _ _ 14];rfl
end
theorem aaQ (n:Nat):rowsOf 1 n (dt 1 n [iA 0])=bH (List.replicate n 0):=by
 apply yj;intro i;unfold rowsOf;rw[fh];by_cases hi:i<n
 ·rw[Gc hi,fh,List.getElem?_replicate,aq hi];simp only[yl,aA,dt,Nat.mul_one,Nat.mod_one];apply yj;intro j;rw[wI,oA,fh]
  cases j with
  |zero=>simp[hi]
  |succ j=>simp
 ·rw[qh (by simpa using hi),qh (by simpa using hi)];rfl
theorem aaR (n:Nat):(dt 1 n [iA 0]).all inl=true:=by
 rw[fq];intro x hx;unfold dt at hx;obtain⟨j,_,rfl⟩:=dm.1 hx;simp[Nat.mod_one]
abbrev evs (l:List Ev):AC:=.sl (l.map gG)
abbrev Ph (o:Ob):List AC:=[bA o.aph,iA o.request,iA o.node,iA o.fb,iA o.value]
abbrev aJ (l:List Ob):AC:=.sl (l.map Ph)
abbrev ajD (f:pq):List AC:=[iA f.gB.node,iA f.gB.handler,iA f.gB.count,iA f.code]
abbrev ot (f:List pq):List AC:=[.sl (f.map ajD)]
abbrev xK (t:List (List Int)):List AC:=[.sl (t.map fun v=>[ints v])]
abbrev Ua (x:Int×Int):List AC:=[iA x.1,iA x.2]
abbrev fF (l:List (Int×Int)):AC:=.sl (l.map Ua)
abbrev im (w:bG):List AC:=[TZ w.c.dR,ints w.c.first,ints w.c.qy,reqs w.c.ek,iA w.c.yr,iA w.c.qz,iA w.c.tE,iA w.c.drift,
 .sl (w.nodes.map aR),jU w.bE,ints w.next,aJ w.aJ,.sl (w.bC.map ot),.sl (w.traces.map xK),fF w.covered,iA w.steps]
abbrev wO (c:eQ)(fl ob cv:AC)(st:Int)(g1 g2 g3 g4:Nat):List AC:=[TZ c.dR,ints c.first,ints c.qy,reqs c.ek,iA c.yr,iA c.qz,iA c.tE,iA c.drift,
 .own 601 g1,fl,.own 602 g2,ob,.own 603 g3,.own 604 g4,cv,iA st]
abbrev ayP (nodes:List aD.Node)(next:List Int)(fails:List (List pq))(traces:List (List (List Int)))(g1 g2 g3 g4:Nat):List (Nat×Slot):=
 [(601,.row 193 52 g1 (nodes.map aR)),(602,.row 3 1 g2 (bH next)),(603,.row 300 1 g3 (fails.map ot)),(604,.row 79 1 g4 (traces.map xK))]
end Ab
namespace Ab
open Go Go.RowKit
attribute [local irreducible] aM bt aX
open aD (fW eP Rr aT uO yo zU zW)
theorem LZ {D:List Nat}{st:St}:∀{a b x y:List AC},st.kD D a=some x->st.kD D b=some y->st.kD D (a++b)=some (x++y)
 |[],b,x,y,ha,hb=>by cases ha;exact hb
 |c::a,b,x,y,ha,hb=>by
  unfold St.kD at ha;split at ha
  ·rename_i u v h1 h2;cases ha;rw[List.cons_append];unfold St.kD;rw[h1,LZ h2 hb];rfl
  ·cases ha
theorem Ma {D:List Nat}{st:St}:∀{a:List AC},a.all inl=true->st.kD D a=some a
 |[],_=>rfl
 |c::a,h=>by
  simp only[BJ,bV] at h;unfold St.kD;rw[Ma h.2]
  cases c with
  |own s g=>cases h.1
  |cP s g=>cases h.1
  |part s g i=>cases h.1
  |cls f bZ=>cases h.1
  |fM f bZ=>rfl
  |v x=>rfl
  |sl es=>rfl
section
variable {s:aD.Node} {ak:AC} {rep:Bool} {val:Int} {c:aT} {o:List AC} {aE:AC}
theorem ayQ {D:List Nat}{st:St}{s1 s2 g1 g2:Nat}(AZ:inl ak=true)(ho:o.all inl=true)(vV:inl aE=true)(h1:s1∈D)(h2:s2∈D):st.kD D (rC s ak (.own s1 g1) rep val (.own s2 g2) c o aE)=some (rC s ak (.own s1 g1) rep val (.own s2 g2) c o aE):=by
 rw[eJ];refine LZ (Ma (TU s)) ?_;have e:([ak,AC.own s1 g1,bA rep,iA val,AC.own s2 g2,iA c.node,iA c.handler,iA c.count]++o++[aE])=[ak]++([AC.own s1 g1]++([bA rep,iA val]++([AC.own s2 g2]++([iA c.node,iA c.handler,iA c.count]++(o++[aE]))))):=ai;rw[e]
 have own:∀(s g:Nat),s∈D->st.kD D [AC.own s g]=some [AC.own s g]:=fun s g hs=>by simp[St.kD,St.pF,hs]
 refine LZ (Ma (by simp[AZ])) (LZ (own _ _ h1) (LZ (Ma ai) (LZ (own _ _ h2) (Ma (by simp[ho,vV])))))
end
theorem ayR (r r':Rr)(a:fW)(ak aE:AC)(o:List AC)(g1 g2:Nat)(h:uO r a=some r')(AZ:inl ak=true)(hoi:o.all inl=true)(vV:inl aE=true)(ho:o.length=6)(hc:r.s.aZ.cells.length<=1000000)(hp:r.s.aZ.pending.length<=1000000)(ht:r.s.timers.length<=1000000)(hs:r.sent.length<=1000000)(hf:r.bC.length<=1000000):
  iB Tryz.prog 255 [.w (.agg (rC r.s ak (.own 401 g1) r.sb r.value (.own 402 g2) r.gB o aE)),.w (.agg (Hu a))] [(401,.row 208 9 g1 (r.sent.map xt)),(402,.row 3 1 g2 (bH r.bC))]
  (fun x S'=>x=.w (.agg (rC r'.s ak (.own 401 (g1+(r'.sent.length-r.sent.length))) r'.sb r'.value (.own 402 (g2+(r'.bC.length-r.bC.length))) r.gB o aE))/\∀p∈[(401,Slot.row 208 9 (g1+(r'.sent.length-r.sent.length)) (r'.sent.map xt)),(402,Slot.row 3 1 (g2+(r'.bC.length-r.bC.length)) (bH r'.bC))],S' p.1=p.2):=by
 have fz:∀(st:St) (s:aD.Node) (rep:Bool) (val:Int) (g1 g2:Nat),st.kD [401,402] (rC s ak (.own 401 g1) rep val (.own 402 g2) r.gB o aE)=some (rC s ak (.own 401 g1) rep val (.own 402 g2) r.gB o aE):=fun st s rep val g1 g2=>ayQ AZ hoi vV ai ai
 have hw:∀(s:aD.Node) (rep:Bool) (val:Int) (g1 g2:Nat),(rC s ak (.own 401 g1) rep val (.own 402 g2) r.gB o aE).take 67=rC s ak (.own 401 g1) rep val (.own 402 g2) r.gB o aE:=fun s rep val g1 g2=>nh (by rw[TW _ _ _ _ _ _ _ _ _ ho];exact cK _)
 have hl:∀(s:aD.Node) (sn fl:AC) (rep:Bool) (val:Int),(rC s ak sn rep val fl r.gB o aE).length=67:=fun s sn fl rep val=>TW _ _ _ _ _ _ _ _ _ ho
 unfold uO at h;refine qP Tryz.func255 (aB 500 []) [] [.cell 4 67] [2,3,4,5,7] [502,503,504,505] ?_;by_cases k1:a.kind=1
 ·rw[aq k1,bO] at h;obtain⟨d,hd,rfl⟩:=h;have FF:=gI @k1 @hl @hw @fz @ajf @aaF;refine bJ (arz r.s.aZ d a.a a.b hd hc hp) ?_;refine kE ?_;exact(by simp[ed])
 rw[af k1] at h;by_cases k2:a.kind=2
 ·rw[aq k2,bO] at h;obtain⟨d,hd,rfl⟩:=h;have FF:=gI @k2 @hl @hw @fz @ajf @aaF;refine bJ (ary r.s.aZ d hd hc hp) ?_;refine kE ?_;exact(by simp[ed])
 rw[af k2] at h;by_cases k4:a.kind=4
 ·rw[aq k4] at h;cases h;have FF:=gI @k4 @hl @hw @fz @ajg @aaG;refine bJ (aiW r.s.timers a.a true ht) ?_;refine kE ?_;exact(by simp[ed])
 rw[af k4] at h;by_cases k5:a.kind=5
 ·rw[aq k5] at h;cases h;have FF:=gI @k5 @hl @hw @fz @ajg @aaG;refine bJ (aiW r.s.timers a.a false ht) ?_;refine kE ?_;exact(by simp[ed])
 rw[af k5] at h;by_cases k3:a.kind=3
 ·rw[aq k3] at h;cases h;have Jd:r.sent.length+1<=100000000:=ab;have FF:=wF @k3 @hl @hw @fz @LU @Jc @ayf @Jd
  try refine aF ?_
  refine kE ?_;exact(by simp[ed])
 rw[af k3] at h;by_cases k6:a.kind=6
 ·rw[aq k6] at h;by_cases w1:0<=r.s.waiting
  ·by_cases w2:a.a=r.s.waiting
   ·rw[aq ⟨w1,w2⟩] at h;cases h;have FF:=FT @k6 @hl @hw @fz @w1 @w2 @aaE @ajh @ayg @ayh
    try refine aF ?_
    refine kE ?_;exact(by simp[ed])
   ·rw[af (fun hh=>w2 hh.2)] at h;cases h;have FF:=kj @k6 @hl @hw @fz @w1 @w2 @aaE
    try refine aF ?_
    refine kE ?_;exact(by simp[ed])
  ·rw[af (fun hh=>w1 hh.1)] at h;cases h;have FF:=gI @k6 @hl @hw @fz @w1 @aaE
   try refine aF ?_
   refine kE ?_;exact(by simp[ed])
 rw[af k6] at h;by_cases k7:a.kind=7
 ·rw[aq k7] at h;cases h;have hf8:r.bC.length+1<=100000000:=ab;have FF:=kj @k7 @hl @hw @fz @TX @ayi @hf8
  try refine aF ?_
  refine kE ?_;exact(by simp[ed])
 rw[af k7] at h;cases h;have FF:=FT @k1 @k2 @k3 @k4 @k5 @k6 @k7 @hl @hw @fz
 try refine aF ?_
 refine kE ?_;exact(by simp[ed])
end Ab
end Go.Proofs.YtkanpepkdcmpmaaGreatDoor
