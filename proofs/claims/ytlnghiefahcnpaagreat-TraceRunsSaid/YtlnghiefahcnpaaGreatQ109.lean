import Derived.Test.YtlnghiefahcnpaaGreatQ13
import Derived.Test.YtlnghiefahcnpaaGreatQ108
set_option maxHeartbeats 40000000
set_option maxRecDepth 100000
set_option linter.all false
namespace Go.Proofs.YtlnghiefahcnpaaGreat
namespace aq
open dL
theorem PL {α:Type}{p:α->Bool}:∀{a b:List α},(∀x∈a,p x=true)->(a++b).dropWhile p=b.dropWhile p
 |[],b,_=>rfl
 |x::a,b,h=>by
  rw[List.cons_append,List.dropWhile_cons_of_pos (h x ae)]
  exact PL fun y hy=>h y (by simp[hy])
theorem aeG {l:List Ask}(h:∀a∈l,a.n+1=a.arity):tR l=none:=by
 unfold tR;have:=PL (p:=fun a:Ask=>decide (a.n+1=a.arity)) (a:=l.reverse) (b:=[]) (fun x hx=>ll (h x (by simpa using hx)));rw[vS] at this;rw[this];rfl
theorem aeH {l:List Ask}{k:Nat}(hk:k<l.length)(h:l[k].n+1≠l[k].arity)(ha:∀j (hj:j<l.length),k<j->l[j].n+1=l[j].arity):
  tR l=some ((l.take k).map fS++[⟨l[k].qn,l[k].n+1⟩]):=by
 have hl:l=l.take k++l[k]::l.drop (k+1):=by
  conv=>lhs;rw[<-List.take_append_drop k l,List.drop_eq_getElem_cons hk]
 have hr:l.reverse=(l.drop (k+1)).reverse++(l[k]::(l.take k).reverse):=by
  conv=>lhs;rw[hl]
  simp
 have hd:l.reverse.dropWhile (fun a:Ask=>decide (a.n+1=a.arity))=l[k]::(l.take k).reverse:=by
  rw[hr,PL (fun x hx=> ?_),List.dropWhile_cons_of_neg (by simpa using h)];rw[List.mem_reverse] at hx;obtain⟨j,hj,rfl⟩:=vQ.1 hx;simp only[lj] at hj;rw[List.getElem_drop];exact ll (ha _ aa aa)
 unfold tR;rw[hd];simp only[List.reverse_reverse];rfl
end aq
namespace aq
open dL
theorem aeI {k:Nat}(hk:k<12):∃p,build (sources.getD k [])=some p/\mI p=true:=by
 have h:=apN;rw[dY] at h;have hl:sources.length=12:=kZ
 have hm:sources.getD k []∈sources:=by
  rw[eu,List.getElem?_eq_getElem aa,Bo];exact cT _
 have h1:=h _ hm;split at h1
 ·rename_i p hp;exact⟨p,hp,h1⟩
 ·cases h1
theorem aeJ (l:List Int):∃c,config l=some c/\fy c:=by
 unfold config;dsimp only;obtain⟨p,hp,iL⟩:=aeI (k:=pick l 0 1000000%12) (mN _ ai);rw[hp];dsimp only
 have key:∃ps,(if pick l 1 1000000%3=0 then(build (sources.getD (pick l 1 1000000/3%12) [])).map fun q=>[p,q] else some [p])=some ps/\1<=ps.length/\ps.length<=2/\∀q∈ps,mI q=true:=by
  split
  ·obtain⟨q,hq,rR⟩:=aeI (k:=pick l 1 1000000/3%12) (mN _ ai);rw[hq]
   exact⟨[p,q],rfl,ae,ae,fun x hx=>by
    simp only[eM,qz,qD] at hx
    rcases hx with rfl|rfl
    ·exact iL
    ·exact rR⟩
  ·exact⟨[p],rfl,ae,ae,fun x hx=>by
    simp only[qx] at hx;subst hx
    exact iL⟩
 obtain⟨ps,e,h1,h2,h3⟩:=key;rw[e];dsimp only;generalize pick l 2 1000000=k2;generalize pick l 4 1000000=k4;generalize pick l 5 1000000=k5
 have hm:∀a:Nat,(0:Int)<=((a%ps.length:Nat):Int)/\((a%ps.length:Nat):Int)<ps.length:=fun a=>by
  have:=mN a (show 0<ps.length by omega);omega
 refine⟨_,rfl,⟨⟨h1,by show ps.length<=64;omega⟩,h3,?_,fun v hv=> ?_,fun v hv=> ?_,?_,?_,fun r hr=> ?_,?_,?_,?_,?_⟩⟩
 ·show 1<=((List.range _).map _).length/\((List.range _).map _).length<=12
  simp only[List.length_map,xA];omega
 ·simp only[fZ] at hv;obtain⟨n,_,rfl⟩:=hv;exact hm _
 ·dsimp only at hv;split at hv
  ·simp only[eM,qz,qD] at hv
   rcases hv with rfl|rfl
   ·exact hm _
   ·show(0:Int)<=0/\(0:Int)<ps.length
    omega
  ·simp at hv
 ·show(if _ then _ else _:List Int).length<=64
  split<;>simp
 ·show((List.range _).map _).length<=300
  simp only[List.length_map,xA];omega
 ·simp only[fZ,eF] at hr;obtain⟨i,hi,rfl⟩:=hr;refine⟨?_,?_,?_⟩
  ·have h8:∀j:Fin 8,bp ([0,1,2,3,4,0,1,3].getD j.val 0)=true:=ai;exact h8 ⟨pick l (6+i) 1000000/3%8,mN _ ai⟩
  ·show bp ((1+pick l (6+i) 1000000/24%5/4:Nat):Int)=true
   rw[qd];omega
  ·show bp ((1+i:Nat):Int)=true
   rw[qd];omega
 ·show(0:Int)<=((k4%3/2:Nat):Int)/\((k4%3/2:Nat):Int)<=10
  omega
 ·show(0:Int)<=((k4/3%4/3:Nat):Int)/\((k4/3%4/3:Nat):Int)<=10
  omega
 ·show(0:Int)<=((k4/12%4/3:Nat):Int)/\((k4/12%4/3:Nat):Int)<=10
  omega
 ·show(0:Int)<=((k4/48%5/4:Nat):Int)/\((k4/48%5/4:Nat):Int)<=3
  omega
end aq
namespace Ab
open Go Go.RowKit
attribute [local irreducible] aC bo aU
open aq (bR mo Ob lE aE Env aL Rr fy du bl fH eJ wH nz enabled rA sS lS xj uA jB ja)
theorem yY (w:aE)(n:Nat)(s:aq.Node)(o:List Ev)(m:bm):eJ w n s o m=(if s.cI<w.c.kz then bl (if s.dropped<w.c.jA then bl (if s.up then bl o ⟨3,n,0,m⟩ else o) ⟨5,n,0,m⟩ else(if s.up then bl o ⟨3,n,0,m⟩ else o)) ⟨6,n,0,m⟩ else(if s.dropped<w.c.jA then bl (if s.up then bl o ⟨3,n,0,m⟩ else o) ⟨5,n,0,m⟩ else(if s.up then bl o ⟨3,n,0,m⟩ else o))):=rfl
theorem aeN {c:bR}(hc:fy c){k j:Nat}(hk:k<=30){w:aE}(h:du c k j w):bt Tryz.prog 15 [.agg (er w)] (fun x=>x=.w (.c (evs (enabled w)))):=by
 have axA:=hc.xf;have tE:=h.nodes;have nb:=h.next
 have dM:w.aX.length<=15030:=by have:=h.qj;omega
 have aeO:∀s∈w.nodes,s.timers.length<=8:=fun s hs=>(h.node s hs).qg
 have jh:=h.node;have lT:=h.cfg
 have axB:w.c.first.length=w.nodes.length:=by rw[lT,tE]
 have hE:∀n,(nz w 0 [] (w.nodes.take n)).length<=12*(3*15030+74):=fun n=>by
  have h1:=aq.Pr hc lT (w.nodes.take n) 0 [] (fun s hs=>aeO s (vP hs))
  have h2:(w.nodes.take n).length<=12:=by rw[eo];omega
  have h3:(w.nodes.take n).length*(3*w.aX.length+74)<=12*(3*15030+74):=Nat.mul_le_mul h2 aa;simp only[List.length_nil] at h1;omega
 refine bZ aG Tryz.func15 rfl ZR [.t 2] ah _ rfl [1,2,3,4,5,6,7,8,9,10] [1,5] ?_;refine bG ZR ?_;dsimp only[V0,uV,S0];have FF:=trivial
 repeat first|refine bb ?_|refine zrq ?_
 try clear FF
 refine cF (fun m V S=>∃(n:Nat) (s5:Slot) (x5 x6 x7 x8 x9 x10:AV),n<=w.nodes.length/\m=w.nodes.length-n/\
  V=[(0,.w (.agg (er w))),(1,.pb 1 1 0),(2,.w (.c (.sl []))),(3,.w (.c (evs (nz w 0 [] (w.nodes.take n))))),(4,.w (.c (iA n))),(5,x5),(6,x6),(7,x7),(8,x8),(9,x9),(10,x10)]/\
  S=[(1,.box 1 (er w)),(5,s5)]) (n:=w.nodes.length) ⟨0,.dead 0,.u,.u,.u,.u,.u,.u,aa,aa,rfl,rfl⟩ ?_
 rintro m V L S ⟨n,s5,x5,x6,x7,x8,x9,x10,hn,rfl,rfl,rfl⟩;by_cases hlt:n<w.nodes.length
 ·have mJ:n<=1000000000:=aa;have gF:n<w.next.length:=aa;have CN:n<w.c.first.length:=aa;have Az:=hE n;have mK:=aq.adP w w.nodes 0 n [] hlt;generalize nz w 0 [] (w.nodes.take n)=out at Az mK⊢
  obtain⟨s,hs⟩:∃s,w.nodes[n]=s:=⟨_,rfl⟩
  have hsm:s∈w.nodes:=hs▸cT hlt;have ht8:=aeO s hsm;have nF:=(jh s hsm).nc;rw[hs,fK] at mK
  obtain⟨nx,gB⟩:∃nx,w.next[n]=nx:=⟨_,rfl⟩
  have aeP:w.next.getD n 0=nx:=by rw[eu,List.getElem?_eq_getElem gF,gB];rfl
  obtain⟨fv,Dh⟩:∃fv,w.c.first[n]=fv:=⟨_,rfl⟩
  have arh:w.c.first.getD n 0=fv:=by rw[eu,List.getElem?_eq_getElem CN,Dh];rfl
  have hto:(fH w.aX n).length<=15030:=by
   have:(fH w.aX n).length<=w.aX.length:=by unfold fH;rw[List.length_map];exact List.length_filter_le _ _
   omega
  have xI:(fH w.aX n).length<=15030:=hto;have AE:=aoU w.aX n aa
  obtain⟨ms,PV⟩:∃ms,fH w.aX n=ms:=⟨_,rfl⟩
  rw[PV] at xI AE;rw[aq.adM] at mK;by_cases ej:s.up=true
  ·have e1:rA w n s out=out:=by unfold rA;rw[if_pos ej]
   have e2:sS w n s out=ms.foldl (eJ w n s) out:=by unfold sS;rw[PV]
   rw[e1,e2] at mK;have FF:=kh @hlt @hs @ej
   repeat first|refine aN AE ?_|refine aO AE ?_|refine aP AE ?_|refine bb ?_|refine zrq ?_
   try clear FF
   refine cF (fun m V S=>∃i:Nat,i<=ms.length/\m=ms.length-i/\V=[(0,.w (.agg (er w))),(1,.pb 1 1 0),(2,.w (.c (.sl []))),(3,.w (.c (evs ((ms.take i).foldl (eJ w n s) out)))),(4,.w (.c (iA n))),(5,.pb 5 (s5.gen+1) 0),(6,x6),(7,x7),(8,.w (.c (msgs ms))),(9,.w (.c (iA i))),(10,x10)]/\S=[(1,.box 1 (er w)),(5,.box (s5.gen+1) (aK s))]) (n:=ms.length) ⟨0,aa,aa,rfl,rfl⟩ ?_;rintro m V L S ⟨i,hi,rfl,rfl,rfl⟩;by_cases nX:i<ms.length
   ·have dI:i<=1000000000:=aa
    obtain⟨mm,gr⟩:∃mm,ms[i]=mm:=⟨_,rfl⟩
    have hst:=aq.FW (eJ w n s) ms out i nX;have rr:=aq.CY (f:=eJ w n s) (m:=3) (fun o x=>aq.Kh w n s o x) (ms.take i) out;rw[gr] at hst;rw[eo] at rr;generalize(ms.take i).foldl (eJ w n s) out=o at hst rr⊢;have ho0:o.length<=999990:=aa;have tC:=aq.FP o ⟨3,n,0,mm⟩;have xZ:=aq.FP (bl o ⟨3,n,0,mm⟩) ⟨5,n,0,mm⟩;by_cases hd:s.dropped<w.c.jA
    ·by_cases hb:s.cI<w.c.kz
     ·have hm:eJ w n s o mm=(bl (bl (bl o ⟨3,n,0,mm⟩) ⟨5,n,0,mm⟩) ⟨6,n,0,mm⟩):=by rw[yY];simp[ej,hd,hb]
      have FF:=eL @nX @gr @ej @hd @hb (bL dI)
      repeat first|refine aN (cL o ⟨3,n,0,mm⟩ aa) ?_|refine aN (cL (bl o ⟨3,n,0,mm⟩) ⟨5,n,0,mm⟩ aa) ?_|refine aN (cL (bl (bl o ⟨3,n,0,mm⟩) ⟨5,n,0,mm⟩) ⟨6,n,0,mm⟩ aa) ?_|refine aO (cL o ⟨3,n,0,mm⟩ aa) ?_|refine aO (cL (bl o ⟨3,n,0,mm⟩) ⟨5,n,0,mm⟩ aa) ?_|refine aO (cL (bl (bl o ⟨3,n,0,mm⟩) ⟨5,n,0,mm⟩) ⟨6,n,0,mm⟩ aa) ?_|refine aP (cL o ⟨3,n,0,mm⟩ aa) ?_|refine aP (cL (bl o ⟨3,n,0,mm⟩) ⟨5,n,0,mm⟩ aa) ?_|refine aP (cL (bl (bl o ⟨3,n,0,mm⟩) ⟨5,n,0,mm⟩) ⟨6,n,0,mm⟩ aa) ?_|refine bb ?_|refine zrq ?_
      try clear FF
      exact⟨ms.length-(i+1),aa,i+1,aa,aa,by rw[hst,hm];rfl,rfl⟩
     ·have hm:eJ w n s o mm=(bl (bl o ⟨3,n,0,mm⟩) ⟨5,n,0,mm⟩):=by rw[yY];simp[ej,hd,hb]
      have FF:=eL @nX @gr @ej @hd @hb (bL dI)
      repeat first|refine aN (cL o ⟨3,n,0,mm⟩ aa) ?_|refine aN (cL (bl o ⟨3,n,0,mm⟩) ⟨5,n,0,mm⟩ aa) ?_|refine aO (cL o ⟨3,n,0,mm⟩ aa) ?_|refine aO (cL (bl o ⟨3,n,0,mm⟩) ⟨5,n,0,mm⟩ aa) ?_|refine aP (cL o ⟨3,n,0,mm⟩ aa) ?_|refine aP (cL (bl o ⟨3,n,0,mm⟩) ⟨5,n,0,mm⟩ aa) ?_|refine bb ?_|refine zrq ?_
      try clear FF
      exact⟨ms.length-(i+1),aa,i+1,aa,aa,by rw[hst,hm];rfl,rfl⟩
    ·by_cases hb:s.cI<w.c.kz
     ·have hm:eJ w n s o mm=(bl (bl o ⟨3,n,0,mm⟩) ⟨6,n,0,mm⟩):=by rw[yY];simp[ej,hd,hb]
      have FF:=eL @nX @gr @ej @hd @hb (bL dI)
      repeat first|refine aN (cL o ⟨3,n,0,mm⟩ aa) ?_|refine aN (cL (bl o ⟨3,n,0,mm⟩) ⟨6,n,0,mm⟩ aa) ?_|refine aO (cL o ⟨3,n,0,mm⟩ aa) ?_|refine aO (cL (bl o ⟨3,n,0,mm⟩) ⟨6,n,0,mm⟩ aa) ?_|refine aP (cL o ⟨3,n,0,mm⟩ aa) ?_|refine aP (cL (bl o ⟨3,n,0,mm⟩) ⟨6,n,0,mm⟩ aa) ?_|refine bb ?_|refine zrq ?_
      try clear FF
      exact⟨ms.length-(i+1),aa,i+1,aa,aa,by rw[hst,hm];rfl,rfl⟩
     ·have hm:eJ w n s o mm=(bl o ⟨3,n,0,mm⟩):=by rw[yY];simp[ej,hd,hb]
      have FF:=eL @nX @gr @ej @hd @hb (bL dI)
      repeat first|refine aN (cL o ⟨3,n,0,mm⟩ aa) ?_|refine aO (cL o ⟨3,n,0,mm⟩ aa) ?_|refine aP (cL o ⟨3,n,0,mm⟩ aa) ?_|refine bb ?_|refine zrq ?_
      try clear FF
      exact⟨ms.length-(i+1),aa,i+1,aa,aa,by rw[hst,hm];rfl,rfl⟩
   obtain rfl:i=ms.length:=aa;rw[ig];have rr:=aq.CY (f:=eJ w n s) (m:=3) (fun o x=>aq.Kh w n s o x) ms out;generalize ms.foldl (eJ w n s) out=o2 at mK rr⊢;have wv:o2.length<=999990:=aa;have ari:=aq.adN w n s o2;have c40:=acZ s;have pH:(s.waiting<0/\0<=nx)\/(s.waiting<0/\¬0<=nx)\/¬s.waiting<0:=aa
   rcases pH with hw|hw|hw
   case' inl=>
    obtain⟨pG,oz⟩:=hw
    have e3:lS w n s o2=bl o2 ⟨2,n,nx,⟨0,0,0,0,0⟩⟩:=by unfold lS;rw[aeP,if_pos ⟨ej,pG,oz⟩];rfl
    have FF:=eL @nX @ej @pG @oz @gF @gB
    repeat first|refine aN (cL o2 ⟨2,n,nx,⟨0,0,0,0,0⟩⟩ aa) ?_|refine aO (cL o2 ⟨2,n,nx,⟨0,0,0,0,0⟩⟩ aa) ?_|refine aP (cL o2 ⟨2,n,nx,⟨0,0,0,0,0⟩⟩ aa) ?_|refine bb ?_|refine zrq ?_
    try clear FF
    rw[<-e3];clear pG oz
   case' inr.inl=>
    obtain⟨pG,oz⟩:=hw
    have e3:lS w n s o2=o2:=by unfold lS;rw[aeP,if_neg (fun hh=>oz hh.2.2)]
    have FF:=eL @nX @ej @pG @oz @gF @gB
    repeat first|refine bb ?_|refine zrq ?_
    try clear FF
    rw[show evs o2=evs (lS w n s o2) by rw[e3]];clear pG oz
   case' inr.inr=>
    have e3:lS w n s o2=o2:=by unfold lS;rw[if_neg (fun hh=>hw hh.2.1)]
    have FF:=kh @nX @ej @hw
    repeat first|refine bb ?_|refine zrq ?_
    try clear FF
    rw[show evs o2=evs (lS w n s o2) by rw[e3]];clear hw
   all_goals
    clear e3;generalize lS w n s o2=o3 at ari mK⊢
    have e4:xj n s o3=s.timers.foldl (fun o t=>bl o ⟨4,n,t,⟨0,0,0,0,0⟩⟩) o3:=by unfold xj;rw[if_pos ej];rfl
    rw[e4] at mK;refine cF (fun m V S=>∃i:Nat,i<=s.timers.length/\m=s.timers.length-i/\V=[(0,.w (.agg (er w))),(1,.pb 1 1 0),(2,.w (.c (.sl []))),(3,.w (.c (evs ((s.timers.take i).foldl (fun o t=>bl o ⟨4,n,t,⟨0,0,0,0,0⟩⟩) o3)))),(4,.w (.c (iA n))),(5,.pb 5 (s5.gen+1) 0),(6,x6),(7,x7),(8,.w (.c (msgs ms))),(9,.w (.c (iA ms.length))),(10,.w (.c (iA i)))]/\S=[(1,.box 1 (er w)),(5,.box (s5.gen+1) (aK s))]) (n:=s.timers.length) ⟨0,aa,aa,rfl,rfl⟩ ?_;rintro m V L S ⟨i,hi,rfl,rfl,rfl⟩;by_cases AG:i<s.timers.length
    ·have dI:i<=1000000000:=aa
     obtain⟨tt,Dj⟩:∃tt,s.timers[i]=tt:=⟨_,rfl⟩
     have hst:=aq.FW (fun o t=>bl o ⟨4,n,t,⟨0,0,0,0,0⟩⟩) s.timers o3 i AG;have aeQ:=aq.Db (fun t=>⟨4,n,t,⟨0,0,0,0,0⟩⟩) (s.timers.take i) o3;rw[Dj] at hst;rw[eo] at aeQ;generalize(s.timers.take i).foldl (fun o t=>bl o ⟨4,n,t,⟨0,0,0,0,0⟩⟩) o3=o at hst aeQ⊢;have FF:=dW @AG @Dj @ej (bL dI)
     repeat first|refine aN (cL o ⟨4,n,tt,⟨0,0,0,0,0⟩⟩ aa) ?_|refine aO (cL o ⟨4,n,tt,⟨0,0,0,0,0⟩⟩ aa) ?_|refine aP (cL o ⟨4,n,tt,⟨0,0,0,0,0⟩⟩ aa) ?_|refine bb ?_|refine zrq ?_
     try clear FF
     exact⟨s.timers.length-(i+1),aa,i+1,aa,aa,by rw[hst];rfl,rfl⟩
    obtain rfl:i=s.timers.length:=aa;rw[ig];have arj:=aq.Db (fun t=>⟨4,n,t,⟨0,0,0,0,0⟩⟩) s.timers o3;generalize s.timers.foldl (fun o t=>bl o ⟨4,n,t,⟨0,0,0,0,0⟩⟩) o3=o4 at mK arj⊢
    obtain⟨c4,PW⟩:∃c4,s.counts.getD 40 0=c4:=⟨_,rfl⟩
    rw[PW] at c40;by_cases mR:c4<w.c.mr
    ·have e5:uA w n s o4=bl o4 ⟨7,n,0,⟨0,0,0,0,0⟩⟩:=by unfold uA;rw[PW,if_pos ⟨ej,mR⟩];rfl
     have FF:=fX @AG @ej @c40 @mR (bL mJ)
     repeat first|refine aN (cL o4 ⟨7,n,0,⟨0,0,0,0,0⟩⟩ aa) ?_|refine aO (cL o4 ⟨7,n,0,⟨0,0,0,0,0⟩⟩ aa) ?_|refine aP (cL o4 ⟨7,n,0,⟨0,0,0,0,0⟩⟩ aa) ?_|refine bb ?_|refine zrq ?_
     try clear FF
     exact⟨w.nodes.length-(n+1),aa,n+1,_,_,_,_,_,_,_,aa,aa,by rw[mK,e5];rfl,rfl⟩
    ·have e5:uA w n s o4=o4:=by unfold uA;rw[PW,if_neg (fun hh=>mR hh.2)]
     have FF:=fX @AG @ej @c40 @mR (bL mJ)
     repeat first|refine bb ?_|refine zrq ?_
     try clear FF
     exact⟨w.nodes.length-(n+1),aa,n+1,_,_,_,_,_,_,_,aa,aa,by rw[mK,e5];rfl,rfl⟩
  ·have nY:s.up=false:=by simpa using ej
   have pF:=aq.adO hc lT n s
   have e1:rA w n s out=(ja w n s).foldl (fun o v=>bl o ⟨1,n,v,⟨0,0,0,0,0⟩⟩) out:=by unfold rA;rw[if_neg ej];rfl
   have e3:∀o,lS w n s o=o:=fun o=>by unfold lS;rw[if_neg (fun hh=>ej hh.1)]
   have e4:∀o,xj n s o=o:=fun o=>by unfold xj;rw[if_neg ej]
   have e5:∀o,uA w n s o=o:=fun o=>by unfold uA;rw[if_neg (fun hh=>ej hh.1)]
   have e2:∀o,sS w n s o=ms.foldl (eJ w n s) o:=fun o=>by unfold sS;rw[PV]
   rw[e1,e5,e4,e3,e2] at mK;have rW:s.version<0\/(¬s.version<0/\w.c.mq.length=0)\/(¬s.version<0/\¬w.c.mq.length=0):=aa
   rcases rW with hv|hv|hv
   case' inl=>
    have dk:ja w n s=[fv]:=by unfold ja;rw[if_pos hv,arh]
    have FF:=eL @hlt @hs @nY @hv @CN @Dh
    repeat first|refine bb ?_|refine zrq ?_
    try clear FF
    rw[show AC.sl [[iA fv]]=ints (ja w n s) by rw[dk];rfl];clear hv
   case' inr.inl=>
    obtain⟨jt,hr⟩:=hv
    have dk:ja w n s=[s.version]:=by unfold ja;rw[if_neg jt,if_pos hr]
    have yz:w.c.mq=[]:=tf hr;have FF:=fX @hlt @hs @nY @jt @hr
    repeat first|refine bb ?_|refine zrq ?_
    try clear FF
    rw[show AC.sl [[iA s.version]]=ints (ja w n s) by rw[dk];rfl];clear jt hr yz
   case' inr.inr=>
    obtain⟨jt,hr⟩:=hv
    have dk:ja w n s=w.c.mq:=by unfold ja;rw[if_neg jt,if_neg hr]
    have yz:¬w.c.mq=[]:=fun hh=>hr (by rw[hh];rfl)
    have FF:=eL @hlt @hs @nY @jt @hr @yz
    repeat first|refine bb ?_|refine zrq ?_
    try clear FF
    rw[show(6,AV.w (AW.c (ints w.c.mq)))=(6,AV.w (AW.c (ints (ja w n s)))) by rw[dk]];clear jt hr yz
   all_goals
    clear dk;generalize ja w n s=vs at pF mK⊢;refine cF (fun m V S=>∃i:Nat,i<=vs.length/\m=vs.length-i/\V=[(0,.w (.agg (er w))),(1,.pb 1 1 0),(2,.w (.c (.sl []))),(3,.w (.c (evs ((vs.take i).foldl (fun o v=>bl o ⟨1,n,v,⟨0,0,0,0,0⟩⟩) out)))),(4,.w (.c (iA n))),(5,.pb 5 (s5.gen+1) 0),(6,.w (.c (ints vs))),(7,.w (.c (iA i))),(8,x8),(9,x9),(10,x10)]/\S=[(1,.box 1 (er w)),(5,.box (s5.gen+1) (aK s))]) (n:=vs.length) ⟨0,aa,aa,rfl,rfl⟩ ?_;rintro m V L S ⟨i,hi,rfl,rfl,rfl⟩;by_cases PX:i<vs.length
    ·have dI:i<=1000000000:=aa
     obtain⟨vv,Dl⟩:∃vv,vs[i]=vv:=⟨_,rfl⟩
     have hst:=aq.FW (fun o v=>bl o ⟨1,n,v,⟨0,0,0,0,0⟩⟩) vs out i PX;have Dk:=aq.Db (fun v=>⟨1,n,v,⟨0,0,0,0,0⟩⟩) (vs.take i) out;rw[Dl] at hst;rw[eo] at Dk;generalize(vs.take i).foldl (fun o v=>bl o ⟨1,n,v,⟨0,0,0,0,0⟩⟩) out=o at hst Dk⊢;have FF:=kh @PX @Dl (bL dI)
     repeat first|refine aN (cL o ⟨1,n,vv,⟨0,0,0,0,0⟩⟩ aa) ?_|refine aO (cL o ⟨1,n,vv,⟨0,0,0,0,0⟩⟩ aa) ?_|refine aP (cL o ⟨1,n,vv,⟨0,0,0,0,0⟩⟩ aa) ?_|refine bb ?_|refine zrq ?_
     try clear FF
     exact⟨vs.length-(i+1),aa,i+1,aa,aa,by rw[hst];rfl,rfl⟩
    obtain rfl:i=vs.length:=aa;rw[ig];have Dk:=aq.Db (fun v=>⟨1,n,v,⟨0,0,0,0,0⟩⟩) vs out;generalize vs.foldl (fun o v=>bl o ⟨1,n,v,⟨0,0,0,0,0⟩⟩) out=o1 at mK Dk⊢;have FF:=jk @PX @nY
    repeat first|refine aN AE ?_|refine aO AE ?_|refine aP AE ?_|refine bb ?_|refine zrq ?_
    try clear FF
    refine cF (fun m V S=>∃i:Nat,i<=ms.length/\m=ms.length-i/\V=[(0,.w (.agg (er w))),(1,.pb 1 1 0),(2,.w (.c (.sl []))),(3,.w (.c (evs ((ms.take i).foldl (eJ w n s) o1)))),(4,.w (.c (iA n))),(5,.pb 5 (s5.gen+1) 0),(6,.w (.c (ints vs))),(7,.w (.c (iA vs.length))),(8,.w (.c (msgs ms))),(9,.w (.c (iA i))),(10,x10)]/\S=[(1,.box 1 (er w)),(5,.box (s5.gen+1) (aK s))]) (n:=ms.length) ⟨0,aa,aa,rfl,rfl⟩ ?_;rintro m V L S ⟨i,hi,rfl,rfl,rfl⟩;by_cases nX:i<ms.length
    ·have dI:i<=1000000000:=aa
     obtain⟨mm,gr⟩:∃mm,ms[i]=mm:=⟨_,rfl⟩
     have hst:=aq.FW (eJ w n s) ms o1 i nX;have rr:=aq.CY (f:=eJ w n s) (m:=3) (fun o x=>aq.Kh w n s o x) (ms.take i) o1;rw[gr] at hst;rw[eo] at rr;generalize(ms.take i).foldl (eJ w n s) o1=o at hst rr⊢;have ho0:o.length<=999990:=aa;have xZ:=aq.FP o ⟨5,n,0,mm⟩;by_cases hd:s.dropped<w.c.jA
     ·by_cases hb:s.cI<w.c.kz
      ·have hm:eJ w n s o mm=(bl (bl o ⟨5,n,0,mm⟩) ⟨6,n,0,mm⟩):=by rw[yY];simp[nY,hd,hb]
       have FF:=eL @nX @gr @nY @hd @hb (bL dI)
       repeat first|refine aN (cL o ⟨5,n,0,mm⟩ aa) ?_|refine aN (cL (bl o ⟨5,n,0,mm⟩) ⟨6,n,0,mm⟩ aa) ?_|refine aO (cL o ⟨5,n,0,mm⟩ aa) ?_|refine aO (cL (bl o ⟨5,n,0,mm⟩) ⟨6,n,0,mm⟩ aa) ?_|refine aP (cL o ⟨5,n,0,mm⟩ aa) ?_|refine aP (cL (bl o ⟨5,n,0,mm⟩) ⟨6,n,0,mm⟩ aa) ?_|refine bb ?_|refine zrq ?_
       try clear FF
       exact⟨ms.length-(i+1),aa,i+1,aa,aa,by rw[hst,hm];rfl,rfl⟩
      ·have hm:eJ w n s o mm=(bl o ⟨5,n,0,mm⟩):=by rw[yY];simp[nY,hd,hb]
       have FF:=eL @nX @gr @nY @hd @hb (bL dI)
       repeat first|refine aN (cL o ⟨5,n,0,mm⟩ aa) ?_|refine aO (cL o ⟨5,n,0,mm⟩ aa) ?_|refine aP (cL o ⟨5,n,0,mm⟩ aa) ?_|refine bb ?_|refine zrq ?_
       try clear FF
       exact⟨ms.length-(i+1),aa,i+1,aa,aa,by rw[hst,hm];rfl,rfl⟩
     ·by_cases hb:s.cI<w.c.kz
      ·have hm:eJ w n s o mm=(bl o ⟨6,n,0,mm⟩):=by rw[yY];simp[nY,hd,hb]
       have FF:=eL @nX @gr @nY @hd @hb (bL dI)
       repeat first|refine aN (cL o ⟨6,n,0,mm⟩ aa) ?_|refine aO (cL o ⟨6,n,0,mm⟩ aa) ?_|refine aP (cL o ⟨6,n,0,mm⟩ aa) ?_|refine bb ?_|refine zrq ?_
       try clear FF
       exact⟨ms.length-(i+1),aa,i+1,aa,aa,by rw[hst,hm];rfl,rfl⟩
      ·have hm:eJ w n s o mm=o:=by rw[yY];simp[nY,hd,hb]
       have FF:=eL @nX @gr @nY @hd @hb (bL dI)
       repeat first|refine bb ?_|refine zrq ?_
       try clear FF
       exact⟨ms.length-(i+1),aa,i+1,aa,aa,by rw[hst,hm];rfl,rfl⟩
    obtain rfl:i=ms.length:=aa;rw[ig];generalize ms.foldl (eJ w n s) o1=o2 at mK⊢;have FF:=jk @nX @nY
    repeat first|refine bb ?_|refine zrq ?_
    try clear FF
    refine cF (fun m V S=>m=0/\V=[(0,.w (.agg (er w))),(1,.pb 1 1 0),(2,.w (.c (.sl []))),(3,.w (.c (evs o2))),(4,.w (.c (iA n))),(5,.pb 5 (s5.gen+1) 0),(6,.w (.c (ints vs))),(7,.w (.c (iA vs.length))),(8,.w (.c (msgs ms))),(9,.w (.c (iA ms.length))),(10,.w (.c (iA 0)))]/\S=[(1,.box 1 (er w)),(5,.box (s5.gen+1) (aK s))]) (n:=0) ⟨rfl,rfl,rfl⟩ ?_;rintro m V L S ⟨rfl,rfl,rfl⟩;by_cases AG:0<s.timers.length
    ·have FF:=kh @AG @nY (bL mJ)
     repeat first|refine bb ?_|refine zrq ?_
     try clear FF
     exact⟨w.nodes.length-(n+1),aa,n+1,_,_,_,_,_,_,_,aa,aa,by rw[mK];rfl,rfl⟩
    ·have yN:s.timers=[]:=tf aa;have FF:=dW @AG @yN @nY (bL mJ)
     repeat first|refine bb ?_|refine zrq ?_
     try clear FF
     exact⟨w.nodes.length-(n+1),aa,n+1,_,_,_,_,_,_,_,aa,aa,by rw[mK];rfl,rfl⟩
 ·have hne:n=w.nodes.length:=aa;have FF:=@hlt
  repeat first|refine bb ?_|refine zrq ?_
  try clear FF
  (try dsimp only[aM,aJ])
  exact bd (by simp;try rfl) (by rw[hne,ig];rfl)
theorem PY {c:bR}(hc:fy c){k j:Nat}(hk:k<=30){w:aE}(h:du c k j w)(e:Ev)(he:e∈enabled w):bt Tryz.prog 35 [.agg (er w),.agg (dp e)] (fun x=>x=.w (.c (bA true))):=by
 have hlen:(enabled w).length<=1000000:=by
  have h1:=aq.Pr hc h.cfg w.nodes 0 [] (fun s hs=>(h.node s hs).qg)
  have h2:w.nodes.length<=12:=by rw[h.nodes];exact hc.xf.2
  have dM:w.aX.length<=15030:=by have:=h.qj;omega
  have h3:w.nodes.length*(3*w.aX.length+74)<=12*(3*15030+74):=Nat.mul_le_mul h2 aa;simp only[List.length_nil] at h1
  show(nz w 0 [] w.nodes).length<=_
  omega
 have hE:=aeN hc hk h
 obtain⟨l,hl⟩:∃l,enabled w=l:=⟨_,rfl⟩
 rw[hl] at hE hlen he;refine bZ aG Tryz.func35 rfl ZV [.t 4] ah _ rfl [2,3,4,5,6] [2,3] ?_;refine bG ZV ?_;dsimp only[V0,uV,S0];have FF:=trivial
 repeat first|refine aN hE ?_|refine aO hE ?_|refine aP hE ?_|refine bb ?_|refine zrq ?_
 try clear FF
 refine cF (fun n V S=>∃k:Nat,k<=l.length/\n=l.length-k/\(∀j (hj:j<l.length),j<k->l[j]≠e)/\
  V=[(0,.w (.agg (er w))),(1,.w (.agg (dp e))),(2,.pb 2 1 0),(3,.pb 3 1 0),(4,.w (.c (bA false))),(5,.w (.c (evs l))),(6,.w (.c (iA k)))]/\S=[(2,.box 1 (er w)),(3,.box 1 (dp e))]) (n:=l.length) ⟨0,aa,aa,fun j _ h=>aa,rfl,rfl⟩ ?_
 rintro n V L S ⟨k,hk,rfl,hj,rfl,rfl⟩;by_cases hlt:k<l.length
 ·have cg:k<=1000000000:=aa
  obtain⟨x,hx⟩:∃x,l[k]=x:=⟨_,rfl⟩
  by_cases ke:x=e
  ·subst ke;have FF:=jk @hlt @hx
   repeat first|refine bb ?_|refine zrq ?_
   try clear FF
   (try dsimp only[aM,aJ])
   exact bd (by simp;try rfl) (rfl)
  ·have hne:=adQ ke;have FF:=dW @hlt @hx @hne (bL cg)
   repeat first|refine bb ?_|refine zrq ?_
   try clear FF
   exact⟨l.length-(k+1),aa,k+1,aa,aa,fun j dD dx=>by
    by_cases dN:j=k
    ·subst dN;rw[hx];exact ke
    ·exact hj j dD aa,rfl,rfl⟩
 ·exfalso;obtain⟨j,dD,dN⟩:=vQ.1 he;exact hj j dD aa dN
end Ab
end Go.Proofs.YtlnghiefahcnpaaGreat
