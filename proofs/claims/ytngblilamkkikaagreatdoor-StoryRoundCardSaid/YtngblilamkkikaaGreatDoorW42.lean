import Derived.Test.YtngblilamkkikaaGreatDoorW41
set_option maxHeartbeats 40000000
set_option maxRecDepth 100000
set_option linter.all false
namespace Go.Proofs.YtngblilamkkikaaGreatDoor
section
open Go.RowKit
variable {a p:aw} {c:UInt8}
theorem abd (c:UInt8)(b:aw):∀(p a:aw),c∉p->p.isPrefixOf (a++c::b)=p.isPrefixOf a
 |[],_,_=>by simp[List.isPrefixOf]
 |q::p,[],h=>by
  have h1:(q==c)=false:=nV.2 (fun e=>h (by rw[e];simp));simp[List.isPrefixOf,h1]
 |q::p,x::a,h=>by
  have ih:=abd c b p a (fun e=>h (kA _ e));simp only[List.cons_append,List.isPrefixOf,ih]
theorem abe(hc:c∉p)(a b:aw){j:Nat}(hj:j<=a.length):Lib.occAt (a++c::b) p j=Lib.occAt a p j:=by
 unfold Lib.occAt;rw[zU hj];exact abd c b p _ hc
theorem aAr(hc:c∉p)(_hp:p≠[])(a b:aw):
  (∃i:Nat,Lib.index a p=i/\Lib.index (a++c::b) p=i/\i+p.length<=a.length)\/(Lib.index a p= -1/\(Lib.index (a++c::b) p= -1\/∃i:Nat,Lib.index (a++c::b) p=i/\a.length<i)):=by
 rcases Lib.index_spec a p with⟨h1,h2⟩|⟨i,h1,h2,h3,h4⟩
 ·refine .inr ⟨h1,?_⟩
  rcases Lib.index_spec (a++c::b) p with⟨g1,_⟩|⟨i,g1,g2,g3,g4⟩
  ·exact .inl g1
  ·refine .inr ⟨i,g1,?_⟩;by_cases hi:i<=a.length
   ·rw[abe hc a b hi,h2 i hi] at g3;cases g3
   ·omega
 ·have hr:=Lib.index_room a p (by rw[h1];omega);rw[h1] at hr;refine .inl ⟨i,h1,Lib.index_hit (fun j hj=> ?_) bC (by rw[abe hc a b h2];exact h3),ab⟩;rw[abe hc a b ab];exact h4 j hj
theorem akb(h:c∉a)(b:aw):Lib.index (a++c::b) [c]=a.length:=by
 induction a with
 |nil=>exact ahz c b
 |cons x a ih=>
  rw[List.cons_append,YS x c _ (fun e=>h (by rw[e];simp)),ih (fun e=>h (kA _ e))];have:((a.length:Int)== -1)=false:=nV.2 ab;rw[this];simp
theorem aAs(h:c∉a):Lib.index a [c]= -1:=by
 induction a with
 |nil=>rfl
 |cons x a ih=>
  rw[YS x c _ (fun e=>h (by rw[e];simp)),ih (fun e=>h (kA _ e))];rfl
theorem OB(p s:aw):cutAt [p] s=if 0<=Lib.index s p then min s.length (Lib.index s p).toNat else s.length:=rfl
theorem aAt(p q s:aw):cutAt [p,q] s=if 0<=Lib.index s q then min (cutAt [p] s) (Lib.index s q).toNat else cutAt [p] s:=rfl
theorem uE(h:c∉a)(b:aw):cutAt [[c]] (a++c::b)=a.length:=by
 rw[OB,akb h,aj ab];simp
theorem akc(h:c∉a):cutAt [[c]] a=a.length:=by
 rw[OB,aAs h,af ab]
theorem akd(hc:c∉p)(hp:p≠[])(ha:c∉a)(b:aw):cutAt [p,[c]] (a++c::b)=cutAt [p] a:=by
 rw[aAt,akb ha,aj ab,OB,OB];have hl:(a++c::b).length=a.length+1+b.length:=bC
 rcases aAr hc hp a b with⟨i,h1,h2,h3⟩|⟨h1,h2|⟨i,h2,h3⟩⟩
 ·rw[h1,h2,aj ab,aj ab,hl];simp;omega
 ·rw[h1,h2,af ab,af ab,hl];simp;omega
 ·rw[h1,h2,aj ab,af ab,hl];simp;omega
theorem abf(c:UInt8)(s:aw):c∉s\/∃a b,s=a++c::b/\c∉a:=by
 induction s with
 |nil=>exact .inl ai
 |cons x s ih=>
  by_cases hx:x=c
  ·subst hx;exact .inr ⟨[],s,rfl,ai⟩
  ·rcases ih with h|⟨a,b,rfl,h⟩
   ·exact .inl (by simp only[bZ,not_or];exact⟨fun e=>hx e.symm,h⟩)
   ·exact .inr ⟨x::a,b,rfl,by simp only[bZ,not_or];exact⟨fun e=>hx e.symm,h⟩⟩
theorem abg(h:c∉a):bM c a=[a]:=by
 induction a with
 |nil=>rfl
 |cons x a ih=>
  unfold bM;rw[af (fun e=>h (by rw[e];simp)),ih (fun e=>h (kA _ e))]
theorem abh(h:c∉a)(b:aw):bM c (a++c::b)=a::bM c b:=by
 induction a with
 |nil=>simp[bM]
 |cons x a ih=>
  rw[List.cons_append]
  conv=>lhs;unfold bM
  rw[af (fun e=>h (by rw[e];simp)),ih (fun e=>h (kA _ e))]
end
section
open Go.RowKit
variable {c:UInt8} {k:Nat} {l:List aw}
def bF (c:UInt8):List aw->aw
 |[]=>[]
 |[a]=>a
 |a::b::l=>a++c::bF c (b::l)
theorem vW(c:UInt8)(a:aw)(h:l≠[]):bF c (a::l)=a++c::bF c l:=by
 cases l with
 |nil=>exact absurd rfl h
 |cons b l=>rfl
theorem ake(c:UInt8)(s:aw):bM c s≠[]:=by
 rcases abf c s with h|⟨a,b,rfl,h⟩
 ·rw[abg h];simp
 ·rw[abh h];simp
theorem akf (c:UInt8):∀(f:Nat) (s:aw),s.length<f->bF c (bM c s)=s
 |0,_,h=>ab
 |f+1,s,hf=>by
  rcases abf c s with h|⟨a,b,rfl,h⟩
  ·rw[abg h];rfl
  ·rw[abh h,vW c a (ake c b),akf c f b (by simp at hf;omega)]
theorem abj(c:UInt8)(s:aw):bF c (bM c s)=s:=akf c _ s (Nat.lt_succ_self _)
theorem BN (c:UInt8):∀(l:List aw),l≠[]->(∀a∈l,c∉a)->bM c (bF c l)=l
 |[],h,_=>absurd rfl h
 |[a],_,h=>abg (h a ai)
 |a::b::l,_,h=>by
  show bM c (a++c::bF c (b::l))=_
  rw[abh (h a ai),BN c (b::l) ai (fun x hx=>h x (kA _ hx))]
theorem qk(n:Nat)(h:c.toNat<48):c∉Lib.decDigits n:=fun hc=>by
 have:=Sg n c hc;omega
theorem TX:∀(ws:List aw) (l:List Nat),ws.mapM num=some l↔ws=l.map Lib.decDigits/\∀n∈l,n<=2147483647
 |[],l=>by
  simp only[List.mapM_nil];constructor
  ·intro h;injection h with h;subst h;simp
  ·rintro⟨h,_⟩;have:=List.map_eq_nil_iff.1 h.symm;subst this;rfl
 |w::ws,l=>by
  rw[EN];constructor
  ·intro h
   cases hn:num w with
   |none=>rw[hn] at h;cases h
   |some n=>
    rw[hn] at h
    cases hm:ws.mapM num with
    |none=>rw[hm] at h;cases h
    |some ns=>
     rw[hm] at h;injection h with h;subst h;obtain⟨h1,h2⟩:=(TX ws ns).1 hm;obtain⟨h3,h4⟩:=(xx w n).1 hn;refine⟨by rw[cY,<-h1,<-h4],fun x hx=> ?_⟩
     rcases bZ.1 hx with rfl|hx
     ·exact h3
     ·exact h2 x hx
  ·rintro⟨h1,h2⟩
   cases l with
   |nil=>simp at h1
   |cons n ns=>
    rw[cY] at h1;injection h1 with h3 h4;have hn:=(xx w n).2 ⟨h2 n ai,h3⟩;have hm:=(TX ws ns).2 ⟨h4,fun x hx=>h2 x (kA _ hx)⟩;rw[hn,hm];rfl
theorem KS(s:aw)(m:Nat)(hm:1<=m)(l:List Nat):eH s m=some l↔s=bF 46 (l.map Lib.decDigits)/\(∀n∈l,n<=2147483647)/\l.length=m:=by
 unfold eH;constructor
 ·intro h;split at h
  ·rename_i hl;obtain⟨h1,h2⟩:=(TX _ _).1 h;refine⟨by rw[<-h1,abj],h2,?_⟩;rw[<-hl,h1,dy]
  ·cases h
 ·rintro⟨rfl,h2,h3⟩
  have hne:l.map Lib.decDigits≠[]:=fun e=>by
   have:=aG List.length e;rw[dy,h3] at this;simp at this;omega
  have hs:=BN 46 (l.map Lib.decDigits) hne (fun a ha=>by
   obtain⟨n,_,rfl⟩:=dh.1 ha
   exact qk n aq)
  rw[hs,dy,aj h3];exact(TX _ _).2 ⟨rfl,h2⟩
theorem akg(l:List Nat):Em (l.map fun n:Nat=>(n:Int))=bF 46 (l.map Lib.decDigits):=by
 induction l with
 |nil=>rfl
 |cons a l ih=>
  cases l with
  |nil=>rfl
  |cons b l=>
   simp only[cY,Em,iZ] at ih⊢;rw[ih];simp[bF]
theorem BP(n:Nat)(h:n<=2147483647):iX (Lib.decDigits n)=n:=ajV ((xx _ _).2 ⟨h,rfl⟩)
theorem akh(h:l≠[])(ha:∀a∈l,a≠[]):bF c l≠[]:=by
 cases l with
 |nil=>exact absurd rfl h
 |cons a l=>
  cases l with
  |nil=>exact ha a ai
  |cons b l=>rw[vW c a ai];simp
theorem aki(l:List Nat)(h:l≠[])(hl:∀n∈l,n<=2147483647):qj 46 (bF 46 (l.map Lib.decDigits))=l.map fun n:Nat=>(n:Int):=by
 have hne:l.map Lib.decDigits≠[]:=fun e=>h (List.map_eq_nil_iff.1 e)
 unfold qj
 rw[af (akh hne (fun a ha=>by obtain⟨n,_,rfl⟩:=dh.1 ha;exact JY n)),BN 46 _ hne (fun a ha=>by
   obtain⟨n,_,rfl⟩:=dh.1 ha
   exact qk n aq),List.map_map]
 refine Ix (fun n hn=> ?_);exact BP n (hl n hn)
theorem abk {words:List aw}{w:aw}:∀{n k:Nat},rF words w n=k->k≠0->0<k/\k<n/\w=words.getD k []
 |0,k,h,h0=>absurd h.symm h0
 |n+1,k,h,h0=>by
  rw[Tf] at h;split at h
  ·rename_i hc;subst h;exact⟨hc.1,ab,hc.2⟩
  ·obtain⟨h1,h2,h3⟩:=abk h h0;exact⟨h1,ab,h3⟩
theorem BQ(h:0<k/\k<8):kindOf dt (dt.getD k [])=k/\(32:UInt8)∉dt.getD k []:=by
 have key:∀x:Fin 8,0<x.val->kindOf dt (dt.getD x.val [])=x.val/\(32:UInt8)∉dt.getD x.val []:=aq;exact key ⟨k,h.2⟩ h.1
theorem akj(h:0<k/\k<4):kindOf dM (dM.getD k [])=k/\(32:UInt8)∉dM.getD k []:=by
 have key:∀x:Fin 4,0<x.val->kindOf dM (dM.getD x.val [])=x.val/\(32:UInt8)∉dM.getD x.val []:=aq;exact key ⟨k,h.2⟩ h.1
end
section
open Go.RowKit
variable {e:Ev}
def OC (k nd r:Nat):aw:=bF 32 [dt.getD k [],Lib.decDigits nd,Lib.decDigits r]
def OD (k nd:Nat)(l:List Nat):aw:=bF 32 [dt.getD k [],Lib.decDigits nd,bF 46 (l.map Lib.decDigits)]
def OE (nd:Nat):aw:=bF 32 [dt.getD 7 [],Lib.decDigits nd]
inductive mn:Ev->aw->Prop where
 |f1 (k nd r:Nat) (hk:k=1\/k=2\/k=4) (hn:nd<12) (hr:r<=2147483647):mn ⟨k,nd,r,⟨0,0,0,0,0⟩⟩ (OC k nd r)
 |f2 (k nd a b c d x:Nat) (hk:k=3\/k=5\/k=6) (hn:nd<12) (ha:a<12) (hb:b<40) (hc:c<=2147483647) (hd:d<=2147483647) (hx:x<=2147483647):mn ⟨k,nd,0,⟨a,b,c,d,x⟩⟩ (OD k nd [a,b,c,d,x])
 |f3 (nd:Nat) (hn:nd<12):mn ⟨7,nd,0,⟨0,0,0,0,0⟩⟩ (OE nd)
theorem mn.text{s:aw}(h:mn e s):lh e=s:=by
 have ct:su e:=by
  cases h with
  |f1 k nd r hk hn hr=>exact⟨by dsimp only;omega,by dsimp only;omega,.inl ⟨by dsimp only;omega,by dsimp only;omega,rfl⟩⟩
  |f2 k nd a b c d x hk hn ha hb hc hd hx=>exact⟨by dsimp only;omega,by dsimp only;omega,.inr (.inl ⟨by dsimp only;omega,rfl,by dsimp only;omega,by dsimp only;omega,by dsimp only;omega⟩)⟩
  |f3 nd hn=>exact⟨by dsimp only;omega,by dsimp only;omega,.inr (.inr ⟨rfl,rfl,rfl⟩)⟩
 unfold lh;rw[aj ((KQ e).2 ct)]
 cases h with
 |f1 k nd r hk hn hr=>
  unfold Oy;dsimp only;rw[aj ab];simp[OC,bF]
 |f2 k nd a b c d x hk hn ha hb hc hd hx=>
  unfold Oy;dsimp only;rw[af ab,af ab];have:=akg [a,b,c,d,x];simp only[cY,lN] at this;simp only[bQ.ints];rw[this];simp[OD,bF]
 |f3 nd hn=>
  unfold Oy;dsimp only;rw[af ab,aj rfl];simp[OE,bF]
theorem mn.xS(h:su e):∃s,mn e s:=by
 obtain⟨kind,node,arg,⟨m0,m1,m2,m3,m4⟩⟩:=e;obtain⟨h0,h1,h⟩:=h;dsimp only at h0 h1 h
 obtain⟨nd,rfl⟩:∃n:Nat,node=n:=⟨node.toNat,ab⟩
 rcases h with⟨hk,hr,hm⟩|⟨hk,rfl,⟨ha,hb,hc⟩,hd,hx⟩|⟨rfl,rfl,hm⟩
 ·obtain⟨k,rfl⟩:∃n:Nat,kind=n:=⟨kind.toNat,ab⟩
  obtain⟨r,rfl⟩:∃n:Nat,arg=n:=⟨arg.toNat,ab⟩
  rw[hm];exact⟨_,.f1 k nd r ab ab ab⟩
 ·obtain⟨k,rfl⟩:∃n:Nat,kind=n:=⟨kind.toNat,ab⟩
  obtain⟨a,rfl⟩:∃n:Nat,m0=n:=⟨m0.toNat,ab⟩
  obtain⟨b,rfl⟩:∃n:Nat,m1=n:=⟨m1.toNat,ab⟩
  obtain⟨c,rfl⟩:∃n:Nat,m2=n:=⟨m2.toNat,ab⟩
  obtain⟨d,rfl⟩:∃n:Nat,m3=n:=⟨m3.toNat,ab⟩
  obtain⟨x,rfl⟩:∃n:Nat,m4=n:=⟨m4.toNat,ab⟩
  exact⟨_,.f2 k nd a b c d x ab ab ab ab ab ab ab⟩
 ·rw[hm];exact⟨_,.f3 nd ab⟩
theorem OG{n:Nat}(h:n<=2147483647):eH (Lib.decDigits n) 1=some [n]:=(KS _ 1 ab [n]).2 ⟨rfl,by simpa using h,rfl⟩
theorem TY(l:List Nat):(32:UInt8)∉bF 46 (l.map Lib.decDigits):=by
 induction l with
 |nil=>simp[bF]
 |cons a l ih=>
  cases l with
  |nil=>exact qk a aq
  |cons b l=>
   rw[cY,vW 46 _ ai];intro h
   rcases fJ.1 h with h|h
   ·exact qk a aq h
   ·rcases bZ.1 h with h|h
    ·exact absurd h aq
    ·exact ih h
theorem mn.parse{s:aw}(h:mn e s):dR s=some e:=by
 cases h with
 |f1 k nd r hk hn hr=>
  obtain⟨h1,h2⟩:=BQ (k:=k) ab;unfold dR OC
  rw[BN 32 _ ai (by
   intro a ha;simp only[bZ,kB,lO] at ha
   rcases ha with rfl|rfl|rfl
   ·exact h2
   ·exact qk _ aq
   ·exact qk _ aq)]
  simp only[Cg,Ch,List.length_cons,List.length_nil];rw[h1,af (by rw[af ab];omega),OG ab,OG hr];simp only[];rw[af ab,af ab,af ab]
 |f2 k nd a b c d x hk hn ha hb hc hd hx=>
  obtain⟨h1,h2⟩:=BQ (k:=k) ab;unfold dR OD
  rw[BN 32 _ ai (by
   intro y hy;simp only[bZ,kB,lO] at hy
   rcases hy with rfl|rfl|rfl
   ·exact h2
   ·exact qk _ aq
   ·exact TY _)]
  simp only[Cg,Ch,List.length_cons,List.length_nil];rw[h1,af (by rw[af ab];omega),OG ab,(KS _ 5 ab [a,b,c,d,x]).2 ⟨rfl,by simp;omega,rfl⟩];simp only[];rw[af ab,aj hk,aj ⟨ha,hb⟩]
 |f3 nd hn=>
  obtain⟨h1,h2⟩:=BQ (k:=7) ab;unfold dR OE
  rw[BN 32 _ ai (by
   intro y hy;simp only[bZ,kB,lO] at hy
   rcases hy with rfl|rfl
   ·exact h2
   ·exact qk _ aq)]
  simp only[Cg,Ch,List.length_cons,List.length_nil];rw[h1,af ai,OG ab];simp only[];rw[af ab,af ab];simp
theorem mn.ref{s:aw}(h:mn e s):oV s=(e,true):=by
 have ht:=h.text
 cases h with
 |f1 k nd r hk hn hr=>
  obtain⟨h1,h2⟩:=BQ (k:=k) ab;have e1:OC k nd r=dt.getD k []++32::(Lib.decDigits nd++32::Lib.decDigits r):=rfl;have c1:=uE h2 (Lib.decDigits nd++32::Lib.decDigits r);have c2:=uE (qk nd (c:=32) aq) (Lib.decDigits r);unfold oV;simp only[];rw[e1,c1,nW,lM,oX,sY,c2,nW,lM,oX,sY,h1,BP nd ab,BP r hr,aj hk,ht,e1,IB]
 |f2 k nd a b c d x hk hn ha hb hc hd hx=>
  obtain⟨h1,h2⟩:=BQ (k:=k) ab;have e1:OD k nd [a,b,c,d,x]=dt.getD k []++32::(Lib.decDigits nd++32::bF 46 ([a,b,c,d,x].map Lib.decDigits)):=rfl;have c1:=uE h2 (Lib.decDigits nd++32::bF 46 ([a,b,c,d,x].map Lib.decDigits));have c2:=uE (qk nd (c:=32) aq) (bF 46 ([a,b,c,d,x].map Lib.decDigits));have c3:=aki [a,b,c,d,x] ai bC;unfold oV;simp only[];rw[e1,c1,nW,lM,oX,sY,c2,nW,lM,oX,sY,h1,BP nd ab,af ab,af ab,c3];simp only[cY,lN];simp only[cY,lN] at e1;rw[ht,e1,IB,fh (show 0<k by omega)];rfl
 |f3 nd hn=>
  obtain⟨h1,h2⟩:=BQ (k:=7) ab;have e1:OE nd=dt.getD 7 []++32::Lib.decDigits nd:=rfl;have c1:=uE h2 (Lib.decDigits nd);have c2:=akc (qk nd (c:=32) aq);unfold oV;simp only[];rw[e1,c1,nW,lM,oX,sY,c2,fx,IA,List.drop_nil,h1,BP nd ab,af ab,aj rfl,ht,e1,IB]
theorem abl{s:aw}{n:Nat}(h:eH s 1=some [n]):s=Lib.decDigits n/\n<=2147483647:=by
 obtain⟨h1,h2,_⟩:=(KS s 1 ab [n]).1 h;exact⟨h1,h2 n ai⟩
theorem akk{s:aw}(h:dR s=some e):mn e s:=by
 have hj:=abj 32 s;unfold dR at h;generalize bM 32 s=ws at h hj;simp only[] at h;generalize hk:kindOf dt (ws.getD 0 [])=k at h;by_cases hc:k=0\/ws.length≠(if k=7 then 2 else 3)
 ·rw[aj hc] at h;cases h
 ·rw[af hc] at h
  have bj:k≠0:=fun e=>hc (.inl e)
  have hlen:ws.length=if k=7 then 2 else 3:=Decidable.byContradiction fun e=>hc (.inr e)
  obtain⟨k1,k2,hw⟩:=abk (words:=dt) (n:=8) hk bj;split at h
  ·rename_i nd mO;obtain⟨hd,_⟩:=abl mO;split at h
   ·cases h
   ·rename_i hn;split at h
    ·rename_i DL;rw[af ab] at hlen
     obtain⟨w0,w1,w2,rfl⟩:∃a b c,ws=[a,b,c]:=by
      match ws,hlen with
      |[a,b,c],_=>exact⟨a,b,c,rfl⟩
     simp only[Cg,Ch] at hw hd h;split at h
     ·rename_i a b c d x hd5;obtain⟨g1,g2,_⟩:=(KS _ 5 ab _).1 hd5;split at h
      ·rename_i dH;injection h with h;subst h;subst hw hd g1 hj;exact .f2 k nd a b c d x DL ab dH.1 dH.2 (g2 c ai) (g2 d ai) (g2 x ai)
      ·cases h
     ·cases h
    ·split at h
     ·rename_i BG;subst BG;rw[aj rfl] at hlen
      obtain⟨w0,w1,rfl⟩:∃a b,ws=[a,b]:=by
       match ws,hlen with
       |[a,b],_=>exact⟨a,b,rfl⟩
      simp only[Cg,Ch] at hw hd h;injection h with h;subst h;subst hw hd hj;exact .f3 nd ab
     ·rename_i DL BG;rw[af BG] at hlen
      obtain⟨w0,w1,w2,rfl⟩:∃a b c,ws=[a,b,c]:=by
       match ws,hlen with
       |[a,b,c],_=>exact⟨a,b,c,rfl⟩
      simp only[Cg,Ch] at hw hd h;split at h
      ·rename_i r hd5;obtain⟨g1,g2⟩:=abl hd5;injection h with h;subst h;subst hw hd g1 hj;exact .f1 k nd r ab ab g2
      ·cases h
  ·cases h
theorem aAu{s:aw}(h:(oV s).2=true):lh (oV s).1=s/\0<(oV s).1.kind:=by
 unfold oV at h⊢;simp only[] at h⊢;split at h
 ·rename_i hk;rw[aj hk] at*;exact⟨by simpa using h,by dsimp only;omega⟩
 ·split at h
  ·rename_i hk BG;rw[af hk,aj BG] at*;exact⟨by simpa using h,by dsimp only;omega⟩
  ·rename_i hk BG;rw[af hk,af BG];split at h
   ·rename_i a b c d x heq;simp only[bO,cP,Cl] at h;exact⟨h.2,by dsimp only;omega⟩
   ·cases h
theorem aAv(s:aw):(oV s).2=(dR s).isSome/\∀e,dR s=some e->oV s=(e,true):=by
 cases hp:dR s with
 |some e=>
  have h:=(akk hp).ref;exact⟨by rw[h];rfl,fun e' he=>by injection he with he;subst he;exact h⟩
 |none=>
  refine⟨?_,fun e he=>by cases he⟩
  cases hr:(oV s).2 with
  |false=>rfl
  |true=>
   obtain⟨h1,h2⟩:=aAu hr
   have hw:Ox (oV s).1=true:=by
    cases hw:Ox (oV s).1 with
    |true=>rfl
    |false=>
     have h3:lh (oV s).1=[]:=by unfold lh;rw[hw];rfl
     rw[h1] at h3;subst h3;exact absurd hr aq
   obtain⟨t,ht⟩:=mn.xS ((KQ _).1 hw);have h4:=ht.parse;rw[<-ht.text,h1,hp] at h4;cases h4
end
section
open Go.RowKit
variable {q:Qn}
def KT (k:Nat)(l:List Nat)(i:Nat):aw:=bF 32 [dM.getD k [],bF 46 (l.map Lib.decDigits),Lib.decDigits i]
inductive nA:Qn->aw->Prop where
 |f (k a b c i:Nat) (hk:0<k/\k<4) (ha:a<12) (hb:b<41) (hc:c<=2147483647) (hi:i<=2147483647):nA ⟨a,b,c,k,i⟩ (KT k [a,b,c] i)
theorem nA.text{s:aw}(h:nA q s):mU q=s:=by
 cases h with
 |f k a b c i hk ha hb hc hi=>
  have ct:Dj ⟨a,b,c,k,i⟩:=⟨by dsimp only;omega,by dsimp only;omega,by dsimp only;omega⟩
  unfold mU;rw[aj ((KR _).2 ct)];unfold aba;dsimp only;have:=akg [a,b,c];simp only[cY,lN] at this;rw[this];simp[KT,bF]
theorem nA.xS(h:Dj q):∃s,nA q s:=by
 obtain⟨a,b,c,k,i⟩:=q;obtain⟨hk,⟨ha,hb,hc⟩,hi⟩:=h;dsimp only at hk ha hb hc hi
 obtain⟨k,rfl⟩:∃n:Nat,k=n:=⟨k.toNat,ab⟩
 obtain⟨a,rfl⟩:∃n:Nat,a=n:=⟨a.toNat,ab⟩
 obtain⟨b,rfl⟩:∃n:Nat,b=n:=⟨b.toNat,ab⟩
 obtain⟨c,rfl⟩:∃n:Nat,c=n:=⟨c.toNat,ab⟩
 obtain⟨i,rfl⟩:∃n:Nat,i=n:=⟨i.toNat,ab⟩
 exact⟨_,.f k a b c i ab ab ab ab ab⟩
theorem nA.parse{s:aw}(h:nA q s):gQ s=some q:=by
 cases h with
 |f k a b c i hk ha hb hc hi=>
  obtain⟨h1,h2⟩:=akj hk;unfold gQ KT
  rw[BN 32 _ ai (by
   intro y hy;simp only[bZ,kB,lO] at hy
   rcases hy with rfl|rfl|rfl
   ·exact h2
   ·exact TY _
   ·exact qk _ aq)]
  simp only[Cg,Ch,List.length_cons,List.length_nil];rw[h1,af ab,OG hi,(KS _ 3 ab [a,b,c]).2 ⟨rfl,by simp;omega,rfl⟩];simp only[];rw[aj ⟨ha,hb⟩]
theorem nA.ref{s:aw}(h:nA q s):rI s=(q,true):=by
 have ht:=h.text
 cases h with
 |f k a b c i hk ha hb hc hi=>
  obtain⟨h1,h2⟩:=akj hk;have e1:KT k [a,b,c] i=dM.getD k []++32::(bF 46 ([a,b,c].map Lib.decDigits)++32::Lib.decDigits i):=rfl;have c1:=uE h2 (bF 46 ([a,b,c].map Lib.decDigits)++32::Lib.decDigits i);have c2:=uE (TY [a,b,c]) (Lib.decDigits i);have c3:=aki [a,b,c] ai bC;unfold rI;simp only[];rw[e1,c1,nW,lM,oX,sY,c2,nW,lM,oX,sY,h1,BP i hi,c3];simp only[cY,lN];simp only[cY,lN] at e1;rw[af ab,ht,e1,IB]
theorem akl{s:aw}(h:gQ s=some q):nA q s:=by
 have hj:=abj 32 s;unfold gQ at h;generalize bM 32 s=ws at h hj;simp only[] at h;generalize hk:kindOf dM (ws.getD 0 [])=k at h;by_cases hc:k=0\/ws.length≠3
 ·rw[aj hc] at h;cases h
 ·rw[af hc] at h
  have bj:k≠0:=fun e=>hc (.inl e)
  have hlen:ws.length=3:=Decidable.byContradiction fun e=>hc (.inr e)
  obtain⟨k1,k2,hw⟩:=abk (words:=dM) (n:=4) hk bj
  obtain⟨w0,w1,w2,rfl⟩:∃a b c,ws=[a,b,c]:=by
   match ws,hlen with
   |[a,b,c],_=>exact⟨a,b,c,rfl⟩
  simp only[Cg,Ch] at hw h;split at h
  ·rename_i a b c i xM mO;obtain⟨g1,g2,_⟩:=(KS _ 3 ab _).1 xM;obtain⟨g3,g4⟩:=abl mO;split at h
   ·rename_i dH;injection h with h;subst h;subst hw g1 g3 hj;exact .f k a b c i ⟨k1,k2⟩ dH.1 dH.2 (g2 c ai) g4
   ·cases h
  ·cases h
theorem aAw{s:aw}(h:(rI s).2=true):mU (rI s).1=s/\0<(rI s).1.kind:=by
 unfold rI at h⊢;simp only[] at h⊢;split at h
 ·rename_i a b c heq;split at h
  ·cases h
  ·rename_i hk;simp only[af hk];exact⟨by simpa using h,by first|omega|(dsimp only;omega)⟩
 ·cases h
theorem aAx(s:aw):(rI s).2=(gQ s).isSome/\∀q,gQ s=some q->rI s=(q,true):=by
 cases hp:gQ s with
 |some q=>
  have h:=(akl hp).ref;exact⟨by rw[h];rfl,fun e' he=>by injection he with he;subst he;exact h⟩
 |none=>
  refine⟨?_,fun e he=>by cases he⟩
  cases hr:(rI s).2 with
  |false=>rfl
  |true=>
   obtain⟨h1,h2⟩:=aAw hr
   have hw:OA (rI s).1=true:=by
    cases hw:OA (rI s).1 with
    |true=>rfl
    |false=>
     have h3:mU (rI s).1=[]:=by unfold mU;rw[hw];rfl
     rw[h1] at h3;subst h3;exact absurd hr aq
   obtain⟨t,ht⟩:=nA.xS ((KR _).1 hw);have h4:=ht.parse;rw[<-ht.text,h1,hp] at h4;cases h4
end
section
open Go.RowKit
theorem Eo (s p:aw):Lib.index s p=0↔Lib.hasPrefix s p=true:=by
 constructor
 ·intro h
  rcases Lib.index_spec s p with⟨h1,_⟩|⟨i,h1,_,h3,_⟩
  ·rw[h1] at h;omega
  ·have:i=0:=ab;subst this;exact h3
 ·intro h;exact Lib.index_first (i:=0) (Ai _) h (fun j hj=>absurd hj (Nat.not_lt_zero _))
theorem abm (s:aw):(isNum s=true/\iX s=(de s:Int))\/(isNum s=false/\iX s= -1):=by
 unfold isNum
 cases h:num s with
 |none=>exact .inr ⟨rfl,ajW h⟩
 |some n=>exact .inl ⟨rfl,by rw[ajV h,avE h]⟩
def xU (i:Nat):Int->List Int->Bool
 |_,[]=>true
 |last,x::l=>decide (0<=x) && decide (x<(i:Int)) && decide (last<x) && xU i x l
theorem akm (i:Nat):∀(ws:List aw) (last:Int) (r:RS),(RS.ry i last ws r).bad=(r.bad|| !xU i last (ws.map iX))
 |[],last,r=>by simp[RS.ry,xU]
 |w::ws,last,r=>by
  rw[RS.ry,akm i ws,cY,xU]
  rcases abm w with⟨h1,h2⟩|⟨h1,h2⟩
  ·rw[h2];simp only[RS.must,RS.number,h1];have e1:decide (0<=(de w:Int))=true:=fh ab
   have e2:decide ((de w:Int)<(i:Int))=decide (de w<i):=by
    rw[qy];simp
   rw[e1,e2];cases r.bad<;>cases decide (last<(de w:Int))<;>cases decide (de w<i)<;>simp
  ·rw[h2];simp[RS.must,RS.number,h1]
theorem akn (i:Nat):∀(l:List Int) (last:Int),xU i last l=true↔(∀j<l.length,0<=l.getD j 0/\l.getD j 0<(i:Int)/\(0<j->l.getD (j-1) 0<l.getD j 0))/\(0<l.length->last<l.getD 0 0)
 |[],last=>by simp[xU]
 |x::l,last=>by
  rw[xU];simp only[bO,cP,akn i l x];constructor
  ·rintro⟨⟨⟨h1,h2⟩,h3⟩,h4,h5⟩;refine⟨fun j hj=> ?_,fun _=>h3⟩
   cases j with
   |zero=>exact⟨h1,h2,fun h=>absurd h (Nat.lt_irrefl 0)⟩
   |succ j=>
    obtain⟨g1,g2,g3⟩:=h4 j (by simpa using hj);refine⟨by simpa using g1,by simpa using g2,fun _=> ?_⟩
    cases j with
    |zero=>simpa using h5 (by simpa using hj)
    |succ j=>simpa using g3 ab
  ·rintro⟨h1,h2⟩;have h0:=h1 0 ai;refine⟨⟨⟨by simpa using h0.1,by simpa using h0.2.1⟩,by simpa using h2 ai⟩,fun j hj=> ?_,fun hl=> ?_⟩
   ·have OH:=h1 (j+1) (by simpa using hj);refine⟨by simpa using OH.1,by simpa using OH.2.1,fun hjp=> ?_⟩;have:=OH.2.2 ab
    cases j with
    |zero=>omega
    |succ j=>simpa using this
   ·have:=(h1 1 (by simpa using hl)).2.2 ab;simpa using this
theorem ako (i:Nat)(l:List Int):TW i l l.length=xU i (-1) l:=by
 unfold TW;rw[qy,cP,akn];constructor
 ·intro h;exact⟨h,fun hl=>by have:=(h 0 hl).1;omega⟩
 ·exact fun h=>h.1
theorem Hy (r:RS)(p:aw):(r.skip p).rest=(if Lib.index r.rest p=0 then r.rest.drop p.length else r.rest)/\(r.skip p).bad=r.bad:=by
 refine⟨?_,rfl⟩;unfold RS.skip;by_cases h:Lib.index r.rest p=0
 ·rw[aj h];simp[Lib.trimPrefix,(Eo _ _).1 h]
 ·rw[af h]
  have:Lib.hasPrefix r.rest p=false:=by
   cases hh:Lib.hasPrefix r.rest p with
   |false=>rfl
   |true=>exact absurd ((Eo _ _).2 hh) h
  simp[Lib.trimPrefix,this]
theorem OI (r:RS)(p:aw):r.has p=decide (Lib.index r.rest p=0):=by
 unfold RS.has;rw[qy,cP,Eo]
theorem akp (i:Nat)(r:RS):(RS.tail i r).bad=(r.bad|| !En i true r.rest):=by
 unfold RS.tail En;simp only[];obtain⟨h1,h2⟩:=Hy r [32,42];have h2l:([32,42]:aw).length=2:=rfl;rw[h2l] at h1;rw[<-h1];generalize r.skip [32,42]=r1 at h1 h2;rw[<-h2];clear h1 h2;rw[OI];by_cases iR:Lib.index r1.rest [32,97,102,116,101,114,32]=0
 ·rw[fh iR,aj rfl,aj iR];obtain⟨g1,g2⟩:=Hy r1 [32,97,102,116,101,114,32];rw[aj iR] at g1;have h7:([32,97,102,116,101,114,32]:aw).length=7:=rfl;rw[h7] at g1;generalize r1.skip [32,97,102,116,101,114,32]=r2 at g1 g2
  have hne:(r1.rest==[])=false:=by
   cases hr:r1.rest with
   |nil=>rw[hr] at iR;exact absurd iR aq
   |cons a b=>rfl
  simp only[RS.must];rw[akm,g2,ako,hne,<-g1];by_cases hq:r2.rest=[]
  ·rw[hq];simp[qj,bM,xU,aaZ]
  ·have hn:qj 44 r2.rest=(bM 44 r2.rest).map iX:=by unfold qj;rw[af hq]
   have Cn:0<(qj 44 r2.rest).length:=by
    rw[hn,dy];exact Cf.2 (ake 44 _)
   rw[fh Cn,<-hn];simp
 ·rw[ja iR,af iR];obtain⟨g1,g2⟩:=Hy r1 [32,97,102,116,101,114,32];rw[af iR] at g1;simp only[ye,nY,RS.must,g1,g2];simp
theorem akq (i:Nat)(rest:aw):En i false rest=false:=by
 unfold En;simp
end
section
open Go.RowKit
variable {c:UInt8} {p:aw}
theorem TZ(r:RS)(cT:List aw)(h:c∉r.rest):c∉(r.until cT).rest:=fun hc=>h (Ce hc)
theorem akr(r:RS)(p:aw)(h:c∉r.rest):c∉(r.skip p).rest:=fun hc=>by
 rw[(Hy r p).1] at hc;split at hc
 ·exact h (Ce hc)
 ·exact h hc
theorem aAy(r:RS)(h:c∉r.rest):c∉r.fe.rest:=by
 unfold RS.fe;simp only[];split
 ·exact akr _ _ (TZ _ _ h)
 ·exact TZ _ _ h
theorem aAz(r:RS)(h:c∉r.rest):c∉r.im.rest:=by
 unfold RS.im;simp only[];exact akr _ _ (TZ _ _ h)
theorem aAA(r:RS)(h:c∉r.rest):r.has [c]=false:=by
 cases hh:r.has [c] with
 |false=>rfl
 |true=>
  have hp:[c]<+:r.rest:=ED.1 hh;exact absurd (hp.subset ai) h
theorem aAB(r:RS)(h:(93:UInt8)∉r.rest):r.mg.bad=true:=by
 unfold RS.mg;have h2:=aAz _ (aAy r h);generalize r.fe.im=r2 at h2;unfold RS.pT;simp only[];split
 ·have:=aAA ((r2.until [[93]]).number (r2.text [[93]])) (TZ r2 [[93]] h2);simp[RS.must,this]
 ·simp[RS.must]
theorem Ua(a b:aw)(hp:(93:UInt8)∉p)(bd:Bool):RS.has ⟨a++93::b,bd⟩ p=decide (Lib.index a p=0):=by
 unfold RS.has Lib.hasPrefix;rw[abd 93 b p a hp];have:=Eo a p;unfold Lib.hasPrefix at this;rw[qy,cP,this]
theorem akt{one:aw}(_hp:p≠[]):(0<=Lib.index one p/\Lib.index (one.drop (cutAt [p] one)) p=0/\p.length+cutAt [p] one<=one.length)\/(Lib.index one p= -1/\one.drop (cutAt [p] one)=[]):=by
 rw[OB]
 rcases Lib.index_spec one p with⟨h1,_⟩|⟨i,h1,h2,h3,h4⟩
 ·refine .inr ⟨h1,?_⟩;rw[h1,af ab,IA]
 ·have hr:=Lib.index_room one p (by rw[h1];omega);rw[h1] at hr;refine .inl ⟨ab,?_,?_⟩
  ·rw[h1,aj ab,iZ,Nat.min_eq_right ab];exact(Eo _ _).2 h3
  ·rw[h1,aj ab,iZ,Nat.min_eq_right ab];omega
theorem OJ(hp:p≠[]):Lib.index [] p≠0:=by
 cases p with
 |nil=>exact absurd rfl hp
 |cons a p=>intro h;simp[Lib.index] at h
theorem aAC(an more:aw)(h:(93:UInt8)∉an):
  ((RS.pT (RS.im ⟨an++93::more,false⟩) (de (RS.text ⟨an++93::more,false⟩ [[47],[93]]))).bad=!(decide (0<=iX (an.take (cutAt [[47]] an))) && decide (iX (an.take (cutAt [[47]] an))<iX ((an.drop (cutAt [[47]] an)).drop 1))))/\
  ((decide (0<=iX (an.take (cutAt [[47]] an))) && decide (iX (an.take (cutAt [[47]] an))<iX ((an.drop (cutAt [[47]] an)).drop 1)))=true->
   (RS.pT (RS.im ⟨an++93::more,false⟩) (de (RS.text ⟨an++93::more,false⟩ [[47],[93]]))).rest=more/\((de (RS.text ⟨an++93::more,false⟩ [[47],[93]]):Nat):Int)=iX (an.take (cutAt [[47]] an))):=by
 have GH:=akd (c:=93) (p:=[47]) aq ai h more;have OK:=aac [[47]] an;have NJ:=akt (p:=[47]) (one:=an) ai
 have OL:RS.text ⟨an++93::more,false⟩ [[47],[93]]=an.take (cutAt [[47]] an):=by
  unfold RS.text;simp only[];rw[GH,sU OK]
 have abn:RS.until ⟨an++93::more,false⟩ [[47],[93]]=⟨an.drop (cutAt [[47]] an)++93::more,false⟩:=by
  unfold RS.until;simp only[];rw[GH,zU OK]
 have FB:(93:UInt8)∉an.drop (cutAt [[47]] an):=fun hx=>h (Ce hx)
 rw[OL];unfold RS.im;simp only[];rw[OL,abn];generalize an.drop (cutAt [[47]] an)=uF at*;generalize an.take (cutAt [[47]] an)=ns at*;have hn:=abm ns
 have aAD:∀(r:RS) (n:Nat),r.bad=true->(r.pT n).bad=true:=by
  intro r n hr;unfold RS.pT;simp only[];split<;>simp[RS.must,RS.number,RS.skip,RS.until,hr]
 have SK:RS.number ⟨uF++93::more,false⟩ ns=⟨uF++93::more,!isNum ns⟩:=by simp[RS.number]
 rw[SK,Ua uF more aq]
 rcases NJ with⟨_,g2,_⟩|⟨_,g2⟩
 ·have h1:1<=uF.length:=by
   have:=Lib.index_room uF [47] (by rw[g2];omega);rw[g2] at this;simp at this;omega
  have iR:Lib.index (uF++93::more) [47]=0:=by
   have:=Ua uF more (p:=[47]) aq false;rw[fh g2,OI] at this;exact uK this
  have iW:=(Hy (⟨uF++93::more,!isNum ns⟩:RS) [47]).1;simp only[iR,mr] at iW;have h1l:([47]:aw).length=1:=rfl;rw[h1l,zU h1] at iW
  have jw:((⟨uF++93::more,!isNum ns⟩:RS).skip [47]).must (decide (Lib.index uF [47]=0))=⟨uF.drop 1++93::more,!isNum ns⟩:=by
   rw[fh g2];unfold RS.must;rw[iW];simp[RS.skip]
  rw[jw]
  have Gm:(93:UInt8)∉uF.drop 1:=fun hx=>FB (Ce hx)
  generalize uF.drop 1=ar at Gm;have hm:=abm ar;have KG:=uE Gm more
  have KU:∀b,RS.text ⟨ar++93::more,b⟩ [[93]]=ar:=fun b=>by
   unfold RS.text;simp only[];rw[KG,nW]
  have ni:∀b,RS.until ⟨ar++93::more,b⟩ [[93]]=⟨93::more,b⟩:=fun b=>by
   unfold RS.until;simp only[];rw[KG,lM]
  have hh:∀b,RS.has ⟨93::more,b⟩ [93]=true:=fun b=>by simp[RS.has,Lib.hasPrefix,List.isPrefixOf]
  have hs:∀b,RS.skip ⟨93::more,b⟩ [93]=⟨more,b⟩:=fun b=>by
   simp[RS.skip,Lib.trimPrefix,Lib.hasPrefix,List.isPrefixOf]
  unfold RS.pT;simp only[KU,ni,RS.number,hh,hs]
  rcases hn with⟨n1,n2⟩|⟨n1,n2⟩
  ·rcases hm with⟨m1,m2⟩|⟨m1,m2⟩
   ·rw[n1,n2,m1,m2];by_cases hlt:de ns<de ar
    ·have e2:((de ns:Nat):Int)<(de ar:Nat):=ab;simp[hlt,RS.must,e2]
    ·have e2:¬((de ns:Nat):Int)<(de ar:Nat):=ab;simp[hlt,RS.must]
   ·rw[n1,n2,m1,m2];have e2:¬((de ns:Nat):Int)< -1:=ab;have e3:decide (((de ns:Nat):Int)< -1)=false:=ja e2;rw[e3];split<;>simp[RS.must]
  ·rw[n1,n2];have e3:decide ((0:Int)≤-1)=false:=rfl;rw[e3];split<;>simp[RS.must]
 ·subst g2;have e1:decide (Lib.index ([]:aw) [47]=0)=false:=ja (OJ ai);rw[e1,aAD _ _ (by simp[RS.must])];have e2:iX (List.drop 1 ([]:aw))= -1:=aaZ;rw[e2]
  rcases hn with⟨n1,n2⟩|⟨n1,n2⟩
  ·rw[n2];have e3:decide (((de ns:Nat):Int)< -1)=false:=ja ab;rw[e3];simp
  ·rw[n2];have e3:decide ((0:Int)≤-1)=false:=rfl;rw[e3];simp
theorem aAE(one more:aw)(h:(93:UInt8)∉one):
  ((RS.mg ⟨one++93::more,false⟩).bad=!(zM (one++93::more)).2)/\
  ((zM (one++93::more)).2=true->(RS.mg ⟨one++93::more,false⟩).rest=more/\RS.eb ⟨one++93::more,false⟩=(zM (one++93::more)).1):=by
 have lu:=uE h more;unfold zM;simp only[];rw[lu,nW];have GH:=akd (c:=93) (p:=[32,61,32]) aq ai h more;have OK:=aac [[32,61,32]] one;have NJ:=akt (p:=[32,61,32]) (one:=one) ai
 have OL:RS.text ⟨one++93::more,false⟩ [[32,61,32],[93]]=one.take (cutAt [[32,61,32]] one):=by
  unfold RS.text;simp only[];rw[GH,sU OK]
 have abn:RS.until ⟨one++93::more,false⟩ [[32,61,32],[93]]=⟨one.drop (cutAt [[32,61,32]] one)++93::more,false⟩:=by
  unfold RS.until;simp only[];rw[GH,zU OK]
 have FB:(93:UInt8)∉one.drop (cutAt [[32,61,32]] one):=fun hx=>h (Ce hx)
 have hA:RS.eb ⟨one++93::more,false⟩=⟨(gQ (one.take (cutAt [[32,61,32]] one))).getD ru,RS.zt ⟨one++93::more,false⟩⟩:=by
  unfold RS.eb;rw[OL]
 rw[hA];unfold RS.mg RS.zt;generalize one.drop (cutAt [[32,61,32]] one)=rJ at*;generalize one.take (cutAt [[32,61,32]] one)=qs at*;have hq:=aAx qs
 have h1:RS.fe ⟨one++93::more,false⟩=if(gQ qs).isSome then((⟨rJ++93::more,false⟩:RS).skip [32,61,32]).must ((⟨rJ++93::more,false⟩:RS).has [32,61,32]) else(⟨rJ++93::more,false⟩:RS).must false:=by
  unfold RS.fe;simp only[];rw[OL,abn]
 have key:∀r:RS,r.bad=true->(r.im.pT (de (r.text [[47],[93]]))).bad=true:=by
  intro r hr
  have h2:r.im.bad=true:=by simp[RS.im,RS.must,RS.number,RS.skip,RS.until,hr]
  generalize de (r.text [[47],[93]])=n;generalize r.im=r2 at h2;unfold RS.pT;simp only[];split<;>simp[RS.must,RS.number,RS.skip,RS.until,h2]
 cases hp:gQ qs with
 |none=>
  have fC:(rI qs).2=false:=by rw[hq.1,hp];rfl
  rw[h1,hp,fC];have hb:=key ((⟨rJ++93::more,false⟩:RS).must false) (by simp[RS.must]);simp only[Option.isSome_none,ye,nY,hb];simp
 |some q=>
  have hqq:=hq.2 q hp;rw[h1,hp,hqq];simp only[Option.isSome_some,mr,Ad,Bool.true_and];rw[Ua rJ more aq false]
  rcases NJ with⟨_,g2,_⟩|⟨_,g2⟩
  ·
   have iW:=(Hy (⟨rJ++93::more,false⟩:RS) [32,61,32]).1
   have iR:Lib.index (rJ++93::more) [32,61,32]=0:=by
    have:=Ua rJ more (p:=[32,61,32]) aq false;rw[fh g2,OI] at this;exact uK this
   have h3:3<=rJ.length:=by
    have:=Lib.index_room rJ [32,61,32] (by rw[g2];omega);rw[g2] at this;simp at this;omega
   simp only[iR,mr] at iW;have h3l:([32,61,32]:aw).length=3:=rfl;rw[h3l,zU h3] at iW
   have jw:((⟨rJ++93::more,false⟩:RS).skip [32,61,32]).must (decide (Lib.index rJ [32,61,32]=0))=⟨rJ.drop 3++93::more,false⟩:=by
    rw[fh g2];unfold RS.must;rw[iW];simp[RS.skip]
   rw[jw]
   have Gm:(93:UInt8)∉rJ.drop 3:=fun hx=>FB (Ce hx)
   generalize rJ.drop 3=an at Gm;obtain⟨k1,k2⟩:=aAC an more Gm;refine⟨k1,fun hh=> ?_⟩;obtain⟨k3,k4⟩:=k2 hh;refine⟨k3,?_⟩;rw[k4]
  ·subst g2;have e1:decide (Lib.index ([]:aw) [32,61,32]=0)=false:=ja (OJ ai);rw[e1,key _ (by simp[RS.must])];have e2:iX (List.take (cutAt [[47]] (List.drop 3 ([]:aw))) (List.drop 3 ([]:aw)))= -1:=aaZ;rw[e2];have e3:decide ((0:Int)≤-1)=false:=rfl;rw[e3];simp
end
section
open Go.RowKit
theorem aku:∀(f g:Nat) (rest:aw) (acc:List aI),rest.length<f->rest.length<g->
  ((RS.asks g ⟨rest,false⟩).2.bad=true/\(uD f true rest acc=none\/∃x y,uD f true rest acc=some (false,x,y)))\/
  ((RS.asks g ⟨rest,false⟩).2.bad=false/\uD f true rest acc=some (true,(RS.asks g ⟨rest,false⟩).2.rest,acc++(RS.asks g ⟨rest,false⟩).1))
 |0,_,_,_,h,_=>ab
 |_+1,0,_,_,_,h=>ab
 |f+1,g+1,rest,acc,hf,hg=>by
  by_cases iR:Lib.index rest [32,91]=0
  ·have mS:RS.has ⟨rest,false⟩ [32,91]=true:=by rw[OI];exact fh iR
   have h2:2<=rest.length:=by
    have:=Lib.index_room rest [32,91] (by rw[iR];omega);rw[iR] at this;simp at this;omega
   have iW:RS.skip ⟨rest,false⟩ [32,91]=⟨rest.drop 2,false⟩:=by
    have h1:=(Hy ⟨rest,false⟩ [32,91]).1;simp only[iR,mr] at h1;unfold RS.skip at h1⊢;simp only[] at h1⊢;rw[h1];rfl
   rw[RS.Tz g ⟨rest,false⟩ rfl mS,iW];unfold uD;rw[aj ⟨rfl,iR⟩];have fu:(rest.drop 2).length+2=rest.length:=bC;generalize rest.drop 2=q0 at fu
   rcases abf 93 q0 with h|⟨one,more,rfl,h⟩
   ·have hb:=aAB ⟨q0,false⟩ h;rw[akc h,IA,aj rfl,RS.KL g _ hb];exact .inl ⟨hb,.inl rfl⟩
   ·obtain⟨k1,k2⟩:=aAE one more h;rw[uE h,lM,af ai,oX,sY]
    cases ct:(zM (one++93::more)).2 with
    |false=>
     rw[ct] at k1
     have k1:(RS.mg ⟨one++93::more,false⟩).bad=true:=by rw[k1];rfl
     rw[RS.KL g _ k1];refine .inl ⟨k1,.inr ?_⟩
     cases f with
     |zero=>simp at fu;omega
     |succ f=>exact⟨_,_,by unfold uD;rw[af ai]⟩
    |true=>
     rw[ct] at k1;obtain⟨k3,k4⟩:=k2 ct
     have hR:RS.mg ⟨one++93::more,false⟩=⟨more,false⟩:=by
      generalize RS.mg ⟨one++93::more,false⟩=r at k1 k3;obtain⟨a,b⟩:=r;simp at k1 k3;rw[k1,k3]
     rw[hR,k4]
     have jf:more.length<f/\more.length<g:=by simp at fu;omega
     rcases aku f g more (acc++[(zM (one++93::more)).1]) jf.1 jf.2 with⟨j1,j2⟩|⟨j1,j2⟩
     ·exact .inl ⟨j1,j2⟩
     ·refine .inr ⟨j1,?_⟩;rw[j2];simp
  ·have mS:RS.has ⟨rest,false⟩ [32,91]=false:=by rw[OI];exact ja iR
   rw[RS.Ty (g+1) ⟨rest,false⟩ mS];refine .inr ⟨rfl,?_⟩;unfold uD;rw[af (fun h=>iR h.2)];simp
theorem akv {i:Nat}{s:aw}(h:(vK i s).bad=true):line i s=none:=by
 rw[aaP]
 have:(Bj i s).bad=true:=by
  unfold Bj sB;rw[RS.KL _ _ h,akp,h];rfl
 rw[this];rfl
theorem aAF (i:Nat)(s:aw):abc i s=line i s:=by
 unfold abc
 cases hp:Lib.hasPrefix s (head i) with
 |false=>
  rw[af ai];symm;apply akv;unfold vK oN;simp[RS.must,RS.until,RS.has,hp]
 |true=>
  rw[aj rfl]
  have hH:oN i s=⟨s.drop (head i).length,false⟩:=by
   unfold oN;simp[RS.must,RS.has,RS.skip,Lib.trimPrefix,hp]
  have hE:xy i s=dR ((s.drop (head i).length).take (cutAt ko (s.drop (head i).length))):=by
   unfold xy;rw[hH];rfl
  have hR:vK i s=⟨(s.drop (head i).length).drop (cutAt ko (s.drop (head i).length)),!(xy i s).isSome⟩:=by
   unfold vK;rw[hH];simp[RS.must,RS.until]
  have sC:(s.drop (head i).length).length<=s.length:=ai;unfold abb;generalize s.drop (head i).length=t at*;have zF:(t.drop (cutAt ko t)).length<=t.length:=ai;generalize t.take (cutAt ko t)=x at*;generalize t.drop (cutAt ko t)=y at*;have aF:=aAv x
  cases gE:dR x with
  |none=>
   have h2:(oV x).2=false:=by rw[aF.1,gE];rfl
   rw[h2]
   have h3:uD (t.length+1) false y []=some (false,y,[]):=by unfold uD;rw[af ai]
   rw[h3];simp only[akq];symm;apply akv;rw[hR,hE,gE];rfl
  |some e=>
   rw[aF.2 e gE];simp only[]
   have hA:sB i s=RS.asks (s.length+1) ⟨y,false⟩:=by
    unfold sB;rw[hR,hE,gE];rfl
   rw[aaP,hE,gE];unfold Bj;rw[hA,akp]
   rcases aku (t.length+1) (s.length+1) y [] ab ab with⟨j1,j2|⟨a,b,j2⟩⟩|⟨j1,j2⟩
   ·rw[j2,j1];rfl
   ·rw[j2,j1];simp only[akq];rfl
   ·rw[j2,j1];simp only[Bool.false_or,Ad,List.nil_append]
    cases En i true (RS.asks (s.length+1) ⟨y,false⟩).2.rest with
    |true=>rfl
    |false=>rfl
end
section
def abo {α:Type}(p:Nat->Bool):Nat->List α->List α
 |_,[]=>[]
 |i,a::l=>if p i then abo p (i+1) l else a::abo p (i+1) l
end
section
open Go.RowKit
variable {B N:Nat} {v:Value} {w:World} {xs:List Int}
def Bytes (w:World)(B:Nat)(v:Value)(xs:List Int):Prop:=w.ownsRow B 5 1 v xs.length (bv xs)
theorem Bytes.join{M:Nat}{ys:List Int}{u:Value}(hN:N=xs.length)(hM:M=ys.length)(h:w.ownsRow B 5 1 u (N+M) (bv xs++bv ys)):Bytes w B u (xs++ys):=by
 subst hN hM;unfold Bytes;rw[List.length_append,ayG];exact h
theorem Bytes.below{w':World}(h:Bytes w B v xs)(hb:ay w w'):Bytes w' B v xs:=rU h hb
theorem Bytes.open(h:Bytes w B v xs):∃k c,v=.slice k xs.length c:=by
 obtain⟨k,c,e,_⟩:=(Flat.dU h).open;exact⟨k,c,e⟩
theorem Bytes.own(h:Bytes w B v xs)(hN:Hid (N=xs.length)):w.ownsRow B 5 1 v N (bv xs):=by
 rw[hN.out];exact h
theorem Bytes.nil(w:World)(B:Nat):Bytes w B (.slice none 0 0) []:=jU _ _ _ _
end
section
def akw {α:Type}(lG:List Int)(k s:Nat)(l:List α):List α:=abo (fun j=>decide ((j:Int)∈lG) && decide (k<=j)) s l
def akx (P k:Nat):List Int:=(List.range (P-k)).map fun x=>((P-1-x:Nat):Int)
end
section
open Go.RowKit
structure PSt (lG:List Int)(evs:List Ev)(r:List aI)(gu:Nat)(wg wr:World)(kk:Nat)(v:Value)(k:Option Addr)(c:Nat)(k2:Option Addr)(c2:Nat)(E:List Ev)(A:List aI):Prop where
 own:wr.ownsRow (gu+1) 3 1 v (akx (evs.length+r.length) kk).length (iv (akx (evs.length+r.length) kk))
 cj:ax wr gu #[.slice k E.length c,.slice k2 A.length c2]
 sep:∀w',wr.grownBy w' v.ownBlock->gz w' k c k2 c2 E A
 below:Below gu wg wr
 ev:E=akw lG kk 0 evs
 an:ey A=akw lG kk evs.length r
 ok:∀a∈A,a.ok
 len:A.length<=100
 aEd:E.length<=100
theorem PSt.same {lG:List Int}{evs:List Ev}{r:List aI}{gu:Nat}{wg wr:World}{kk:Nat}{v:Value}{k:Option Addr}{c:Nat}{k2:Option Addr}{c2:Nat}{E:List Ev}{A:List aI}(h:PSt lG evs r gu wg wr kk v k c k2 c2 E A):gz wr k c k2 c2 E A:=h.sep wr (World.grownBy.refl _ _)
end
section
open Go.RowKit
structure abp (W:World)(ga i:Nat)(k:Option Addr)(c:Nat)(k2:Option Addr)(c2:Nat)(evs:List Ev)(l:List aI):Prop where
 cell:W.cell? ⟨ga,i*2,none⟩=some (.slice k evs.length c)/\W.cell? ⟨ga,i*2+1,none⟩=some (.slice k2 l.length c2)
 tape:gz W k c k2 c2 evs l
 ok:(∀e∈evs,e.ok)/\∀a∈l,a.ok
 len:evs.length<=10/\l.length<=10
theorem abp.kept {W W':World}{ga i:Nat}{k:Option Addr}{c:Nat}{k2:Option Addr}{c2:Nat}{evs:List Ev}{l:List aI}(h:abp W ga i k c k2 c2 evs l)(hb:ay W W'):abp W' ga i k c k2 c2 evs l:=by
 have h0:=eh _ _ h.cell.1;exact⟨⟨by rw[hb.cell (by simpa using h0)];exact h.cell.1,by rw[hb.cell (by simpa using h0)];exact h.cell.2⟩,h.tape.kept hb,h.ok,h.len⟩
theorem aky (e1 e2:List Ev)(l1 l2:List aI)(k:Option Addr)(c:Nat)(k2:Option Addr)(c2:Nat)(k3:Option Addr)(c3:Nat)(k4:Option Addr)(c4:Nat)(w:World)(h1:gz w k c k2 c2 e1 l1)(h2:gz w k3 c3 k4 c4 e2 l2)(b:Bool)(hb:b=(decide (e1=e2) && decide (l1=l2))):
  Calls Tryz.prog 7 #[tv k c k2 c2 e1 l1,tv k3 c3 k4 c4 e2 l2] w fun e w'=>e=.returned (.bool b)/\ay w w':=by
 subst hb;exact azV e1 e2 l1 l2 k c k2 c2 k3 c3 k4 c4 w h1 h2
structure abq (W:World)(gk i:Nat)(q:Qn):Prop where
 c0:W.cell? ⟨gk,i*5,none⟩=some (I q.node)
 c1:W.cell? ⟨gk,i*5+1,none⟩=some (I q.handler)
 c2:W.cell? ⟨gk,i*5+2,none⟩=some (I q.count)
 c3:W.cell? ⟨gk,i*5+3,none⟩=some (I q.kind)
 c4:W.cell? ⟨gk,i*5+4,none⟩=some (I q.index)
theorem abq.kept {W W':World}{gk i:Nat}{q:Qn}(h:abq W gk i q)(hb:ay W W'):abq W' gk i q:=by
 have h0:=eh _ _ h.c0
 have key:∀o,W'.cell? ⟨gk,o,none⟩=W.cell? ⟨gk,o,none⟩:=fun o=>hb.cell (by simpa using h0)
 exact⟨(key _).trans h.c0,(key _).trans h.c1,(key _).trans h.c2,(key _).trans h.c3,(key _).trans h.c4⟩
end
section
open Go.RowKit
def abr (X:World):Prop:=Calls Tryz.prog 10 #[] X fun e w'=>e=.returned (.bool true)/\ay X w'
def abt (W:World)(g n m:Nat):Prop:=∀j,j<n->∃t:aw,t.length<=m/\W.cell? ⟨g,j,none⟩=some (.string ⟨t.toArray⟩)
theorem abt.kept {W X:World}{g n m:Nat}(h:abt W g n m)(_hn:0<n)(hb:ay W X):abt X g n m:=fun j hj=>by
 obtain⟨t,h1,h2⟩:=h j hj;have hlt:=eh _ _ h2;exact⟨t,h1,(hb.cell (p:=⟨g,j,none⟩) (by simpa using hlt)).trans h2⟩
end
section
open Go.RowKit
theorem akz:(Tryz.prog.info? 9).map (fun i=>(i.zero,i.size,i.bytes))=some (some (.string ⟨#[]⟩),1,16):=ah
theorem akA (c:UInt8):∀l:List aw,Lib.join l [c]=bF c l
 |[]=>rfl
 |[a]=>by simp[Lib.join,bF,List.intercalate]
 |a::b::l=>by
  have ih:=akA c (b::l);rw[vW c a ai,<-ih];simp[Lib.join,List.intercalate]
def vX (l:List Int):List Value:=l.map fun n=>sv (Lib.itoa n)
theorem mV (n:Int)(h:dI n):(Lib.itoa n).length<=20:=by
 obtain⟨h1,h2⟩:=h;by_cases h0:0<=n
 ·obtain⟨m,rfl⟩:∃m:Nat,n=m:=⟨n.toNat,ab⟩
  rw[Lib.itoa_nonneg];have:=Oz 18 m ab;omega
 ·unfold Lib.itoa;rw[aj ab];have:=Oz 18 n.natAbs ab;simp;omega
theorem zN (c:UInt8)(m:Nat):∀l:List aw,(∀a∈l,a.length<=m)->(bF c l).length<=(m+1)*l.length
 |[],_=>by simp[bF]
 |[a],h=>by
  have:=h a ai;simp[bF];omega
 |a::b::l,h=>by
  have h1:=h a ai;have h2:=zN c m (b::l) (fun x hx=>h x (kA _ hx));rw[vW c a ai];simp only[List.length_append,List.length_cons] at h2⊢;have e:(m+1)*(l.length+1+1)=(m+1)*(l.length+1)+(m+1):=Nat.mul_succ _ _;rw[e];omega
theorem akB (c:UInt8)(l:List Int)(h31:∀n∈l,dI n)(hl:l.length<=100000)(W:World){B:Nat}{v:Value}(h:W.ownsRow B 9 1 v l.length (vX l)):
  Calls Tryz.prog 70 #[v,.string ⟨#[c]⟩] W fun e w'=>e=.returned (sv (bF c (l.map Lib.itoa)))/\ay W w':=by
 obtain⟨hlen,h0|⟨g,cap,cur,rfl,hb,hg,hn,hc,h1,h2⟩⟩:=id h
 ·obtain⟨rfl,hz⟩:=h0;have se:l=[]:=zV.1 hz;subst se;refine(Tryz.strings_Join_none none 0 ⟨#[c]⟩ W).mono ?_;rintro e w' ⟨rfl,rfl⟩;exact⟨rfl,Below.refl _ _⟩
 ·have hlt:=(h.lt g rfl).2
  have YQ:=fun j u hu=>h.cells (g:=g) rfl j u hu
  have hx:(l.map fun n=>(⟨(Lib.itoa n).toArray⟩:ByteArray)).length=l.length:=dy _
  have hm:((l.map fun n=>(⟨(Lib.itoa n).toArray⟩:ByteArray)).map (·.data.toList))=l.map Lib.itoa:=by simp[List.map_map,Function.comp_def]
  have hj:=akA c (l.map Lib.itoa)
  have hJ:=Tryz.strings_Join g 0 cap (l.map fun n=>(⟨(Lib.itoa n).toArray⟩:ByteArray)) ⟨#[c]⟩ W (fun j x KV=>by
   have:=YQ j (.string x) (by
    rw[eZ] at KV;simp only[vX,eZ]
    cases hq:l[j]? with
    |none=>rw[hq] at KV;cases KV
    |some q=>
     rw[hq] at KV;simp only[wu,aC] at KV⊢;rw[<-KV]
     rfl)
   have kC:(⟨g,0,none⟩:Addr).add j=⟨g,0+j,none⟩:=by unfold Addr.add;split<;>simp_all
   rw[kC] at this
   exact this) hlt (by rw[hx];omega) (by rw[hx];exact hn) (by
   rw[hm]
   show(Lib.join (l.map Lib.itoa) [c]).length<=_
   rw[hj]
   have:=zN c 20 (l.map Lib.itoa) (fun a ha=>by
    obtain⟨n,hn,rfl⟩:=dh.1 ha
    exact mV n (h31 n hn))
   rw[dy] at this
   omega)
  rw[hx,hm] at hJ;have e1:Lib.join (l.map Lib.itoa) [c]=bF c (l.map Lib.itoa):=hj;have e2:(⟨#[c]⟩:ByteArray).data.toList=[c]:=rfl;rw[e2,e1] at hJ;exact hJ
end
section
open Go.RowKit
theorem akC (l:List Int)(h31:∀n∈l,dI n)(hl:l.length<=100000)(v:Value)(w:World)(hg:Gl w)(hv:bW w v l):
  Calls Tryz.prog 67 #[v] w fun e w'=>e=.returned (sv (bF 46 (l.map Lib.itoa)))/\ay w w':=by
 obtain⟨ka,ca,rfl,hm⟩:=hv.open;have Hv:=ae hv;have Hg:=ae hg;have OM:=ae h31;clear hv hg h31;unfold sv;go_enter Tryz.func67,Tryz.ntmps67;go_wp2_with fail;go_loopw [3,8] (fun vo vi wr=>∃(k:Nat) (av:Option Addr) (ml:Nat),vo=.slice av k ml/\vi=.int .i64 k/\k<=l.length/\Hid (ay w wr)/\Hid (wr.ownsRow w.heap.size 9 1 (.slice av k ml) k (vX (l.take k)))) (fun _ vi _=>l.length-(intOf vi).toNat)
 case atStart=>exact⟨0,none,0,rfl,rfl,ab,ae (Below.refl _ _),ae (jU _ _ _ _)⟩
 case round=>
  obtain⟨k,av,ml,rfl,rfl,hk,Hb,pY⟩:=hrel;by_cases hlt:k<l.length
  ·obtain⟨b,o,rfl,x0⟩:=bW.at (Hv.out.kept Hb.out aA) (i:=k) (x:=l[k]) (by simp[hlt]);have hn:=OM.out l[k] (cA hlt);have eI:=ae (vL l[k] hn wr (Hg.out.below (Hb.out.mono aA)))
   have cM:vX (l.take (k+1))=vX (l.take k)++[sv (Lib.itoa l[k])]:=by
    unfold vX;rw[List.take_succ_eq_append_getElem hlt,cU];rfl
   have uo:=ae cM;clear cM;generalize l[k]=n at x0 hn eI uo;generalize Lib.itoa n=t at eI uo;unfold sv at eI uo;have nT:=Hb.out.size
   go_wp2_with (first
    |(go_at_call 22;refine eI.out.mono ?_;rintro e w1 ⟨rfl,D1⟩;have dE:=D1.size)
    |(at_builtin;go_must (refine uT rfl _ _ 57 rfl 9 _ 1 16 Tryz.underlying57 akz rfl ab ab w.heap.size (.slice av k ml) k (vX (l.take k)) rfl ((rU pY.out D1).alloc _) w1.heap.size 1 1 #[.string ⟨t.toArray⟩] 9 rfl (ej _ _) rfl rfl ab ab (by rw[World.size_alloc];omega) ?_);intro g5 BA w5 kj kS oR mQ rE iP))
   go_roundw
   case rel=>exact⟨k+1,_,BA,rfl,by go_num,ab,ae (((Hb.out.trans (D1.mono nT)).alloc ab _).trans iP),ae (by rw[uo.out];exact mQ)⟩
   case measure=>simp[intOf];omega
  ·obtain rfl:k=l.length:=ab;have OO:=pY.out;rw[fx] at OO;have Hj:=ae (akB 46 l OM.out hl wr OO);unfold sv at Hj;have nT:=Hb.out.size
   go_wp2_with (go_at_call 70;refine Hj.out.mono ?_;rintro e w1 ⟨rfl,D1⟩)
   go_ret;exact⟨rfl,Hb.out.trans (D1.mono nT)⟩
theorem akD (l:List Int)(h31:∀n∈l,dI n)(hl:l.length<=100000)(c:UInt8)(v:Value)(w:World)(hg:Gl w)(hv:bW w v l):
  Calls Tryz.prog 25 #[sv [c],v] w fun e w'=>e=.returned (sv (bF c (l.map Lib.itoa)))/\ay w w':=by
 obtain⟨ka,ca,rfl,hm⟩:=hv.open;have Hv:=ae hv;have Hg:=ae hg;have OM:=ae h31;clear hv hg h31;unfold sv;go_enter Tryz.func25,Tryz.ntmps25;go_wp2_with fail;go_loopw [5,10] (fun vo vi wr=>∃(k:Nat) (av:Option Addr) (ml:Nat),vo=.slice av k ml/\vi=.int .i64 k/\k<=l.length/\Hid (ay w wr)/\Hid (wr.ownsRow w.heap.size 9 1 (.slice av k ml) k (vX (l.take k)))) (fun _ vi _=>l.length-(intOf vi).toNat)
 case atStart=>exact⟨0,none,0,rfl,rfl,ab,ae (Below.refl _ _),ae (jU _ _ _ _)⟩
 case round=>
  obtain⟨k,av,ml,rfl,rfl,hk,Hb,pY⟩:=hrel;by_cases hlt:k<l.length
  ·obtain⟨b,o,rfl,x0⟩:=bW.at (Hv.out.kept Hb.out aA) (i:=k) (x:=l[k]) (by simp[hlt]);have hn:=OM.out l[k] (cA hlt);have eI:=ae (vL l[k] hn wr (Hg.out.below (Hb.out.mono aA)))
   have cM:vX (l.take (k+1))=vX (l.take k)++[sv (Lib.itoa l[k])]:=by
    unfold vX;rw[List.take_succ_eq_append_getElem hlt,cU];rfl
   have uo:=ae cM;clear cM;generalize l[k]=n at x0 hn eI uo;generalize Lib.itoa n=t at eI uo;unfold sv at eI uo;have nT:=Hb.out.size
   go_wp2_with (first
    |(go_at_call 22;refine eI.out.mono ?_;rintro e w1 ⟨rfl,D1⟩;have dE:=D1.size)
    |(at_builtin;go_must (refine uT rfl _ _ 57 rfl 9 _ 1 16 Tryz.underlying57 akz rfl ab ab w.heap.size (.slice av k ml) k (vX (l.take k)) rfl ((rU pY.out D1).alloc _) w1.heap.size 1 1 #[.string ⟨t.toArray⟩] 9 rfl (ej _ _) rfl rfl ab ab (by rw[World.size_alloc];omega) ?_);intro g5 BA w5 kj kS oR mQ rE iP))
   go_roundw
   case rel=>exact⟨k+1,_,BA,rfl,by go_num,ab,ae (((Hb.out.trans (D1.mono nT)).alloc ab _).trans iP),ae (by rw[uo.out];exact mQ)⟩
   case measure=>simp[intOf];omega
  ·obtain rfl:k=l.length:=ab;have OO:=pY.out;rw[fx] at OO;have Hj:=ae (akB c l OM.out hl wr OO);unfold sv at Hj;have nT:=Hb.out.size
   go_wp2_with (go_at_call 70;refine Hj.out.mono ?_;rintro e w1 ⟨rfl,D1⟩)
   go_ret;exact⟨rfl,Hb.out.trans (D1.mono nT)⟩
end
section
open Go.RowKit
def HK (e:Ev):aw:=
 let h:=dt.getD e.kind.toNat []++[32]++Lib.itoa e.node
 if e.kind=3\/e.kind=5\/e.kind=6 then h++([32]++bF 46 (e.msg.ints.map Lib.itoa))
 else if e.kind=7 then h
 else h++([32]++Lib.itoa e.arg)
theorem abu:∀(l:List Int),(∀x∈l,0<=x)->Em l=bF 46 (l.map Lib.itoa)
 |[],_=>rfl
 |[n],h=>by
  have:=h n ai
  obtain⟨m,rfl⟩:∃m:Nat,n=m:=⟨n.toNat,ab⟩
  simp[Em,bF,Lib.itoa_nonneg]
 |n::m::l,h=>by
  have h0:=h n ai
  obtain⟨k,rfl⟩:∃m:Nat,n=m:=⟨n.toNat,ab⟩
  have ih:=abu (m::l) (fun x hx=>h x (kA _ hx));simp only[Em];rw[ih];simp[bF,Lib.itoa_nonneg]
theorem OP {n:Int}(h:0<=n):Lib.itoa n=Lib.decDigits n.toNat:=by
 obtain⟨k,rfl⟩:∃m:Nat,n=m:=⟨n.toNat,ab⟩
 rw[Lib.itoa_nonneg,iZ]
theorem akE {e:Ev}(h:su e):HK e=lh e:=by
 unfold lh;rw[aj ((KQ e).2 h)];unfold HK Oy;obtain⟨h0,h1,h⟩:=h;simp only[];rw[OP h0]
 rcases h with⟨hk,hr,_⟩|⟨hk,_,⟨ha,hb,hc⟩,hd,hx⟩|⟨hk,_,_⟩
 ·rw[af ab,af ab,aj hk,OP hr.1];simp
 ·rw[aj hk,af ab,af ab,abu _ (by intro x hx;simp[bQ.ints] at hx;omega)];simp
 ·rw[af ab,aj hk,af ab,aj hk]
theorem aAG (e:Ev):(if dR (HK e)=some e then HK e else [])=lh e:=by
 by_cases h:su e
 ·obtain⟨s,hs⟩:=mn.xS h;have h1:=akE h;have h2:=hs.parse;rw[<-hs.text,<-h1] at h2;rw[aj h2,h1]
 ·have h1:lh e=[]:=by
   unfold lh;rw[af (fun hw=>h ((KQ e).1 hw))]
  rw[h1];split
  ·rename_i hp;have hf:=akk hp;have ht:=hf.text;rw[h1] at ht;exact ht.symm
  ·rfl
end
section
open Go.RowKit
theorem aAH (e:Ev)(ct:∀x∈e.ints,dI x)(w:World)(hg:Gl w):Calls Tryz.prog 23 #[.agg (iV e)] w fun r w'=>r=.returned (sv (lh e))/\ay w w':=by
 have Hg:=ae hg;have oT:=ae ct;clear hg ct;have HT:=ae (aAG e)
 obtain⟨T,hT⟩:∃T,T=lh e:=⟨_,rfl⟩
 rw[<-hT] at HT⊢;by_cases hk:e.kind<1\/7<e.kind
 ·have HF:=ae (show T=[] by
   rw[hT];unfold lh;rw[af];intro hw;obtain⟨_,_,h⟩:=(KQ e).1 hw
   omega)
  clear hT HT oT;obtain⟨kind,node,arg,⟨m0,m1,m2,m3,m4⟩⟩:=e;dsimp only at hk;have HB:=ae (show ay w (w.alloc (.cells #[I kind,I node,I arg,I m0,I m1,I m2,I m3,I m4] 67)) from(Below.refl _ _).alloc aA _);unfold iV;dsimp only;by_cases h1:kind<1
  ·clear hk;go_enter Tryz.func23,Tryz.ntmps23;go_wp2_with fail;go_ret;exact⟨by rw[HF.out];rfl,HB.out⟩
  ·have h7:7<kind:=ab;clear hk;go_enter Tryz.func23,Tryz.ntmps23;go_wp2_with fail;go_ret;exact⟨by rw[HF.out];rfl,HB.out⟩
 ·clear hT;obtain⟨kind,node,arg,⟨m0,m1,m2,m3,m4⟩⟩:=e;dsimp only at hk
  obtain⟨k,rfl⟩:∃k:Nat,kind=k:=⟨kind.toNat,ab⟩
  have fM:1<=k:=ab;have CW:k<8:=ab;clear hk;have TG:(0:Int)<=k:=ab;have aAI:(k:Int)<8:=ab;have aAJ:¬(k:Int)<1:=ab;have aAK:¬(7:Int)<k:=ab
  obtain⟨word,Ep⟩:∃x,x=dt.getD k []:=⟨_,rfl⟩
  have um:word.length<=7:=by rw[Ep];exact ajZ k
  have cB:=oT.out node (by simp[Ev.ints]);have lE:=mV node cB;have eI:=ae (fun X (hX:Gl X)=>vL node cB X hX);have KW:=ae Ep;clear Ep cB;generalize iN:Lib.itoa node=dn at lE eI;have zO:=ae iN;clear iN;have qf:=ae (show ax (w.alloc (.cells #[I k,I node,I arg,I m0,I m1,I m2,I m3,I m4] 67)) w.heap.size #[I k,I node,I arg,I m0,I m1,I m2,I m3,I m4] from ax.new w _ _);unfold iV;unfold sv at eI;dsimp only;go_enter Tryz.func23,Tryz.ntmps23;go_upto_region 4 with fail;have E0:Array Value:=#[]
  obtain⟨W,hW⟩:∃W,W=(w.alloc (.cells #[I k,I node,I arg,I m0,I m1,I m2,I m3,I m4] 67)).alloc (.cells #[I m0,I m1,I m2,I m3,I m4] 65):=⟨_,rfl⟩
  have aF:ax W w.heap.size #[I k,I node,I arg,I m0,I m1,I m2,I m3,I m4]/\ax W (w.heap.size+1) #[I m0,I m1,I m2,I m3,I m4]:=by
   rw[hW];refine⟨qf.out.alloc _,?_⟩;rw[<-World.size_alloc w (.cells #[I k,I node,I arg,I m0,I m1,I m2,I m3,I m4] 67)];exact ax.new _ _ _
  have br:ay w W:=by rw[hW];exact((Below.refl _ _).alloc aA _).alloc ai _
  rw[<-hW];clear hW qf E0;have cq:¬9223372036854775807<word.length+1:=ab;have jY:¬9223372036854775807<word.length+1+dn.length:=ab;go_cut [4] from 17 to 27 (fun t wd=>t=.string ⟨(word++[32]++dn).toArray⟩/\ax wd w.heap.size #[I k,I node,I arg,I m0,I m1,I m2,I m3,I m4]/\ax wd (w.heap.size+1) #[I m0,I m1,I m2,I m3,I m4]/\Hid (ay w wd))
  case first=>
   have zP:ax W.drew w.heap.size #[I k,I node,I arg,I m0,I m1,I m2,I m3,I m4]/\ax W.drew (w.heap.size+1) #[I m0,I m1,I m2,I m3,I m4]:=⟨aF.1.drew,aF.2.drew⟩
   have Ub:=br.drew;clear aF br;refine PJ 9 (.take 1 (.take 2 (.take 6 (.take 7 (.move 0 (.take 3 (.fork 4 8 (.take 5 (.move 8 .nil)) (.move 4 (.take 5 .nil))))))))) (fun X=>(∀j,X.cell? ⟨w.heap.size,j,none⟩=(#[I k,I node,I arg,I m0,I m1,I m2,I m3,I m4]:Array Value)[j]?)) ah rfl ah zP.1.cell ?_
   iterate 4 refine dN ?_
   generalize W.drew=w2 at zP Ub⊢;refine eN rfl (fun K hK=> ?_);go_simp;go_at_call 66;refine(ajr _).mono ?_;rintro e w3 ⟨rfl,aW,D3,_⟩
   have zQ:ax w3 w.heap.size #[I k,I node,I arg,I m0,I m1,I m2,I m3,I m4]/\ax w3 (w.heap.size+1) #[I m0,I m1,I m2,I m3,I m4]:=⟨zP.1.kept D3 zP.1.lt,zP.2.kept D3 zP.2.lt⟩
   have KX:=Ub.trans (D3.mono Ub.size)
   have hc:w3.cell? ⟨w2.heap.size,k,none⟩=some (sv word):=by
    refine du.cell aW ?_;rw[KW.out];have:k<dt.length:=CW;simp[List.getD,this]
   unfold sv at hc;refine hK.out _ _ zQ.1.cell ?_;clear hK K zP Ub D3 aW;generalize w2.heap.size=B at hc⊢;refine bV ?_;refine dN ?_;refine Ct ?_ ?_
   ·refine eN rfl (fun K hK=> ?_);go_simp;refine hK.out _ _ zQ.1.cell ?_;clear hK K;refine bV ?_;refine dN ?_;refine eN rfl (fun K hK=> ?_);go_simp;go_at_call 22;refine(eI.out _ (Hg.out.below KX)).mono ?_;rintro e w4 ⟨rfl,D4⟩
    have Er:ax w4 w.heap.size #[I k,I node,I arg,I m0,I m1,I m2,I m3,I m4]/\ax w4 (w.heap.size+1) #[I m0,I m1,I m2,I m3,I m4]:=⟨zQ.1.kept D4 zQ.1.lt,zQ.2.kept D4 zQ.2.lt⟩
    have abv:=KX.trans (D4.mono KX.size);refine hK.out _ _ Er.1.cell ?_;clear hK K;refine bV ?_;refine wB ?_;go_wp2_with fail;refine NoPanic.normal ?_;go_wp2_with fail;go_meet;exact⟨aG Value.string ((aG (·++_) (dC word [32])).trans (dC (word++[32]) dn)),Er.1,Er.2,ae abv⟩
   ·refine eN rfl (fun K hK=> ?_);go_simp;go_at_call 22;refine(eI.out _ (Hg.out.below KX)).mono ?_;rintro e w4 ⟨rfl,D4⟩
    have Er:ax w4 w.heap.size #[I k,I node,I arg,I m0,I m1,I m2,I m3,I m4]/\ax w4 (w.heap.size+1) #[I m0,I m1,I m2,I m3,I m4]:=⟨zQ.1.kept D4 zQ.1.lt,zQ.2.kept D4 zQ.2.lt⟩
    have abv:=KX.trans (D4.mono KX.size);have RU:w4.cell? ⟨B,k,none⟩=some (.string ⟨word.toArray⟩):=(D4.cell (p:=⟨B,k,none⟩) (by simpa using eh _ _ hc)).trans hc;refine hK.out _ _ Er.1.cell ?_;clear hK K hc;refine bV ?_;refine eN rfl (fun K hK=> ?_);go_simp;refine hK.out _ _ Er.1.cell ?_;clear hK K;refine bV ?_;refine dN ?_;refine wB ?_;go_wp2_with fail;refine NoPanic.normal ?_;go_wp2_with fail;go_meet;exact⟨aG Value.string ((aG (·++_) (dC word [32])).trans (dC (word++[32]) dn)),Er.1,Er.2,ae abv⟩
  case rest=>
   obtain⟨rfl,aF,Br,HB⟩:=hcut;have sK:=ae aF;have Hmb:=ae Br;have c0:=aF.cell 0;have c2:=aF.cell 2;have n0:=Br.cell 0;have n1:=Br.cell 1;have n2:=Br.cell 2;have n3:=Br.cell 3;have n4:=Br.cell 4;clear aF Br
   obtain⟨x,hx⟩:∃x,x=HK ⟨k,node,arg,⟨m0,m1,m2,m3,m4⟩⟩:=⟨_,rfl⟩
   have HX:=ae (show x=(if k=3\/k=5\/k=6 then(word++[32]++dn)++([32]++bF 46 ([m0,m1,m2,m3,m4].map Lib.itoa)) else if k=7 then word++[32]++dn else(word++[32]++dn)++([32]++Lib.itoa arg)) by
    rw[hx];unfold HK;dsimp only;rw[iZ,<-KW.out,zO.out]
    have e1:((k:Int)=3\/(k:Int)=5\/(k:Int)=6)=(k=3\/k=5\/k=6):=by apply propext;omega
    have e2:((k:Int)=7)=(k=7):=by apply propext;omega
    simp only[e1,e2]
    rfl)
   rw[<-hx] at HT;clear hx;have Uc:(word++[32]++dn).length<=30:=bC;clear um lE eI KW zO cq jY;generalize word++[32]++dn=hd at HX Uc⊢;go_upto_block 0 with fail;go_cut [4] from 17 (fun t wd=>t=.string ⟨x.toArray⟩/\x.length<=1000/\Hid (ax wd w.heap.size #[I k,I node,I arg,I m0,I m1,I m2,I m3,I m4])/\Hid (ay w wd))
   case first=>
    have HG:=ae (Hg.out.below HB.out);have cq:¬9223372036854775807<hd.length+1:=ab;by_cases hA:k=3\/k=5\/k=6
    ·have hX:=HX.out;rw[aj hA] at hX;have xV:=ae (fun v X (hX:Gl X) (hv:bW X v [m0,m1,m2,m3,m4])=>akC [m0,m1,m2,m3,m4] (fun n hn=>oT.out n (by simp[Ev.ints] at hn⊢;omega)) ai v X hX hv)
     have dV:(bF 46 ([m0,m1,m2,m3,m4].map Lib.itoa)).length<=21*5:=zN 46 20 _ (fun a ha=>by
      obtain⟨n,hn,rfl⟩:=dh.1 ha
      exact mV n (oT.out n (by simp[Ev.ints] at hn⊢;omega)))
     generalize bF 46 ([m0,m1,m2,m3,m4].map Lib.itoa)=j at hX xV dV;subst hX;unfold sv at xV;have yT:¬9223372036854775807<1+j.length:=ab;have Ud:¬9223372036854775807<hd.length+(1+j.length):=ab;have nT:=HB.out.size
     have bN:=ae (show bW (wc.alloc (.cells #[I m0,I m1,I m2,I m3,I m4] 3)) (.slice (some ⟨wc.heap.size,0,none⟩) 5 5) [m0,m1,m2,m3,m4] from
      Flat.rR rfl ai (fun j u hu=>by rw[eM,(ax.new wc #[I m0,I m1,I m2,I m3,I m4] 3).cell j];simpa [iv] using hu))
     have HGa:=ae (HG.out.alloc (.cells #[I m0,I m1,I m2,I m3,I m4] 3));have Ue:=ae (show ay wc (wc.alloc (.cells #[I m0,I m1,I m2,I m3,I m4] 3)) from(Below.refl _ _).alloc aA _)
     rcases hA with rfl|rfl|rfl
     all_goals (go_wp2_with (go_at_call 67;refine(xV.out _ _ HGa.out bN.out).mono ?_;rintro e w5 ⟨rfl,D5⟩;replace D5:=ae D5))
     all_goals go_meet
     all_goals exact⟨aG Value.string ((aG (_++·) (dC [32] j)).trans (dC hd ([32]++j))),by simp;omega,ae (sK.out.kept (Ue.out.trans (D5.out.mono Ue.out.size)) sK.out.lt),ae (HB.out.trans ((Ue.out.trans (D5.out.mono Ue.out.size)).mono HB.out.size))⟩
    ·by_cases h7:k=7
     ·subst h7;have hX:=HX.out;rw[af ab,aj rfl] at hX;subst hX;clear hA;go_wp2_with fail;go_meet;exact⟨rfl,ab,sK,HB⟩
     ·have hX:=HX.out;rw[af hA,af h7] at hX;have hai:=oT.out arg (by simp[Ev.ints]);have Hia:=ae (vL arg hai _ HG.out);have tw:=mV arg hai;generalize Lib.itoa arg=t at hX Hia tw;subst hX;unfold sv at Hia;have yT:¬9223372036854775807<1+t.length:=ab;have Ud:¬9223372036854775807<hd.length+(1+t.length):=ab;have DL:k=1\/k=2\/k=4:=ab;have nT:=HB.out.size;clear hA h7
      rcases DL with rfl|rfl|rfl
      all_goals (go_wp2_with (go_at_call 22;refine Hia.out.mono ?_;rintro e w5 ⟨rfl,D5⟩;replace D5:=ae D5))
      all_goals go_meet
      all_goals exact⟨aG Value.string ((aG (_++·) (dC [32] t)).trans (dC hd ([32]++t))),by simp;omega,ae (sK.out.kept D5.out sK.out.lt),ae (HB.out.trans (D5.out.mono HB.out.size))⟩
   case rest=>
    obtain⟨rfl,tu,OQ,kY⟩:=hcut;have Hp:=ae (ajt x _ (Hg.out.below kY.out) ab);unfold nU at Hp
    cases gE:dR x with
    |none=>
     rw[gE] at Hp;have HF:=ae (show T=[] by rw[<-HT.out,af (by rw[gE];simp)]);clear HT HX gE;unfold sv at Hp
     go_wp2_with (go_at_call 50;refine Hp.out.mono ?_;rintro e w5 ⟨rfl,D5⟩;unfold iV;replace D5:=ae D5)
     go_ret;exact⟨by rw[HF.out];rfl,(kY.out.trans (D5.out.mono kY.out.size)).alloc (by have:=kY.out.size;have:=D5.out.size;omega) _⟩
    |some e2=>
     rw[gE] at Hp;have HF:=ae (show T=if e2=⟨k,node,arg,⟨m0,m1,m2,m3,m4⟩⟩ then x else [] by rw[<-HT.out,gE];simp);clear HT HX gE;obtain⟨a0,a1,a2,⟨a3,a4,a5,a6,a7⟩⟩:=e2
     have hz:=fun W=>acd a0 a1 a2 a3 a4 a5 a6 a7 k node arg m0 m1 m2 m3 m4 W
     obtain⟨ee,xu⟩:∃ee,ee=cF [a0,a1,a2,a3,a4,a5,a6,a7] [(k:Int),node,arg,m0,m1,m2,m3,m4]:=⟨_,rfl⟩
     rw[<-xu] at hz
     have HE:=ae (show T=if ee=true then x else [] by
      rw[HF.out,xu]
      by_cases h:[a0,a1,a2,a3,a4,a5,a6,a7]=[(k:Int),node,arg,m0,m1,m2,m3,m4]
      ·rw[Ly h,aj rfl,aj (by simp only[List.cons.injEq] at h;obtain⟨e1,e2,e3,e4,e5,e6,e7,e8,_⟩:=h;rw[e1,e2,e3,e4,e5,e6,e7,e8])]
      ·rw[Lz h,af (fun e=>h (by injection e with e1 e2 e3 e4;injection e4 with e4 e5 e6 e7 e8;rw[e1,e2,e3,e4,e5,e6,e7,e8]))];rfl)
     clear xu HF;unfold sv at Hp
     go_upto_region 13 with(go_at_call 50;refine Hp.out.mono ?_;rintro e w5 ⟨rfl,D5⟩;unfold iV;replace D5:=ae D5)
     have h5:=(OQ.out.kept D5.out OQ.out.lt).alloc (.cells #[I a0,I a1,I a2,I a3,I a4,I a5,I a6,I a7] 67);have h6:=ax.new w5 #[I a0,I a1,I a2,I a3,I a4,I a5,I a6,I a7] 67;have nw:=ae ((kY.out.trans (D5.out.mono kY.out.size)).alloc (by have:=kY.out.size;have:=D5.out.size;omega) (.cells #[I a0,I a1,I a2,I a3,I a4,I a5,I a6,I a7] 67))
     obtain⟨V,hV⟩:∃V,V=w5.alloc (.cells #[I a0,I a1,I a2,I a3,I a4,I a5,I a6,I a7] 67):=⟨_,rfl⟩
     obtain⟨G,hG⟩:∃G,G=w5.heap.size:=⟨_,rfl⟩
     rw[<-hV] at h5 h6 nw⊢;rw[<-hG] at h6⊢;clear hV hG c0 c2 n0 n1 n2 n3 n4;have x0:=h5.cell 0;have x1:=h5.cell 1;have x2:=h5.cell 2;have x3:=h5.cell 3;have x4:=h5.cell 4;have x5:=h5.cell 5;have x6:=h5.cell 6;have x7:=h5.cell 7;have y0:=h6.cell 0;have y1:=h6.cell 1;have y2:=h6.cell 2;have y3:=h6.cell 3;have y4:=h6.cell 4;have y5:=h6.cell 5;have y6:=h6.cell 6;have y7:=h6.cell 7
     cases ee with
     |true=>
      go_wp2_with fail;go_ret;exact⟨by rw[HE.out];rfl,nw.out⟩
     |false=>
      go_wp2_with fail;go_ret;exact⟨by rw[HE.out];rfl,nw.out⟩
end
section
open Go.RowKit
def HU (q:Qn):aw:=dM.getD q.kind.toNat []++[32]++bF 46 ([q.node,q.handler,q.count].map Lib.itoa)++[32]++Lib.itoa q.index
theorem akF {q:Qn}(h:Dj q):HU q=mU q:=by
 unfold mU;rw[aj ((KR q).2 h)];unfold HU aba;obtain⟨hk,⟨ha,hb,hc⟩,hi⟩:=h;rw[OP hi.1,abu _ (by intro x hx;simp at hx;omega)]
theorem aAL (q:Qn):(if gQ (HU q)=some q then HU q else [])=mU q:=by
 by_cases h:Dj q
 ·obtain⟨s,hs⟩:=nA.xS h;have h1:=akF h;have h2:=hs.parse;rw[<-hs.text,<-h1] at h2;rw[aj h2,h1]
 ·have h1:mU q=[]:=by
   unfold mU;rw[af (fun hw=>h ((KR q).1 hw))]
  rw[h1];split
  ·rename_i hp;have ht:=(akl hp).text;rw[h1] at ht;exact ht.symm
  ·rfl
end
end Go.Proofs.YtngblilamkkikaaGreatDoor
