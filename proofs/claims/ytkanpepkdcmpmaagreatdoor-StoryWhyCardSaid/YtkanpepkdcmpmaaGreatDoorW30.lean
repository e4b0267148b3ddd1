import Derived.Test.YtkanpepkdcmpmaaGreatDoorW29
import Derived.Test.YtkanpepkdcmpmaaGreatDoorW20
set_option maxHeartbeats 40000000
set_option maxRecDepth 100000
set_option linter.all false
namespace Go.Proofs.YtkanpepkdcmpmaaGreatDoor
section
open Go.RowKit
theorem abt (c:UInt8)(s:aq):c∉s\/∃a b,s=a++c::b/\c∉a:=by
 induction s with
 |nil=>exact .inl ai
 |cons x s ih=>
  by_cases hx:x=c
  ·subst hx;exact .inr ⟨[],s,rfl,ai⟩
  ·rcases ih with h|⟨a,b,rfl,h⟩
   ·exact .inl (by simp only[cA,not_or];exact⟨fun e=>hx e.symm,h⟩)
   ·exact .inr ⟨x::a,b,rfl,by simp only[cA,not_or];exact⟨fun e=>hx e.symm,h⟩⟩
theorem abu {c:UInt8}{a:aq}(h:c∉a):cg c a=[a]:=by
 induction a with
 |nil=>rfl
 |cons x a ih=>
  unfold cg;rw[af (fun e=>h (by rw[e];simp)),ih (fun e=>h (lF _ e))]
theorem abv {c:UInt8}{a:aq}(h:c∉a)(b:aq):cg c (a++c::b)=a::cg c b:=by
 induction a with
 |nil=>simp[cg]
 |cons x a ih=>
  rw[List.cons_append]
  conv=>lhs;unfold cg
  rw[af (fun e=>h (by rw[e];simp)),ih (fun e=>h (lF _ e))]
end
section
open Go.RowKit
def bJ (c:UInt8):List aq->aq
 |[]=>[]
 |[a]=>a
 |a::b::l=>a++c::bJ c (b::l)
theorem ur (c:UInt8)(a:aq){l:List aq}(h:l≠[]):bJ c (a::l)=a++c::bJ c l:=by
 cases l with
 |nil=>exact absurd rfl h
 |cons b l=>rfl
theorem akA (c:UInt8)(s:aq):cg c s≠[]:=by
 rcases abt c s with h|⟨a,b,rfl,h⟩
 ·rw[abu h];simp
 ·rw[abv h];simp
theorem akB (c:UInt8):∀(f:Nat) (s:aq),s.length<f->bJ c (cg c s)=s
 |0,_,h=>ab
 |f+1,s,hf=>by
  rcases abt c s with h|⟨a,b,rfl,h⟩
  ·rw[abu h];rfl
  ·rw[abv h,ur c a (akA c b),akB c f b (by simp at hf;omega)]
theorem abw (c:UInt8)(s:aq):bJ c (cg c s)=s:=akB c _ s (Nat.lt_succ_self _)
theorem Dg (c:UInt8):∀(l:List aq),l≠[]->(∀a∈l,c∉a)->cg c (bJ c l)=l
 |[],h,_=>absurd rfl h
 |[a],_,h=>abu (h a ai)
 |a::b::l,_,h=>by
  show cg c (a++c::bJ c (b::l))=_
  rw[abv (h a ai),Dg c (b::l) ai (fun x hx=>h x (lF _ hx))]
theorem rO (n:Nat){c:UInt8}(h:c.toNat<48):c∉Lib.decDigits n:=fun hc=>by
 have:=Tf n c hc;omega
theorem UE:∀(ws:List aq) (l:List Nat),ws.mapM num=some l↔ws=l.map Lib.decDigits/\∀n∈l,n<=2147483647
 |[],l=>by
  simp only[List.mapM_nil];constructor
  ·intro h;injection h with h;subst h;simp
  ·rintro⟨h,_⟩;have:=List.map_eq_nil_iff.1 h.symm;subst this;rfl
 |w::ws,l=>by
  rw[Gw];constructor
  ·intro h
   cases hn:num w with
   |none=>rw[hn] at h;cases h
   |some n=>
    rw[hn] at h
    cases hm:ws.mapM num with
    |none=>rw[hm] at h;cases h
    |some ns=>
     rw[hm] at h;injection h with h;subst h;obtain⟨h1,h2⟩:=(UE ws ns).1 hm;obtain⟨h3,h4⟩:=(yQ w n).1 hn;refine⟨by rw[dJ,<-h1,<-h4],fun x hx=> ?_⟩
     rcases cA.1 hx with rfl|hx
     ·exact h3
     ·exact h2 x hx
  ·rintro⟨h1,h2⟩
   cases l with
   |nil=>simp at h1
   |cons n ns=>
    rw[dJ] at h1;injection h1 with h3 h4;have hn:=(yQ w n).2 ⟨h2 n ai,h3⟩;have hm:=(UE ws ns).2 ⟨h4,fun x hx=>h2 x (lF _ hx)⟩;rw[hn,hm];rfl
theorem Mt (s:aq)(m:Nat)(hm:1<=m)(l:List Nat):jG s m=some l↔s=bJ 46 (l.map Lib.decDigits)/\(∀n∈l,n<=2147483647)/\l.length=m:=by
 unfold jG;constructor
 ·intro h;split at h
  ·rename_i hl;obtain⟨h1,h2⟩:=(UE _ _).1 h;refine⟨by rw[<-h1,abw],h2,?_⟩;rw[<-hl,h1,dI]
  ·cases h
 ·rintro⟨rfl,h2,h3⟩
  have hne:l.map Lib.decDigits≠[]:=fun e=>by
   have:=aF List.length e;rw[dI,h3] at this;simp at this;omega
  have hs:=Dg 46 (l.map Lib.decDigits) hne (fun a ha=>by
   obtain⟨n,_,rfl⟩:=dp.1 ha
   exact rO n au)
  rw[hs,dI,aj h3];exact(UE _ _).2 ⟨rfl,h2⟩
theorem akC (l:List Nat):iQ (l.map fun n:Nat=>(n:Int))=bJ 46 (l.map Lib.decDigits):=by
 induction l with
 |nil=>rfl
 |cons a l ih=>
  cases l with
  |nil=>rfl
  |cons b l=>
   simp only[dJ,iQ,gF] at ih⊢;rw[ih];simp[bJ]
theorem abx {words:List aq}{w:aq}:∀{n k:Nat},zh words w n=k->k≠0->0<k/\k<n/\w=words.getD k []
 |0,k,h,h0=>absurd h.symm h0
 |n+1,k,h,h0=>by
  rw[TT] at h;split at h
  ·rename_i hc;subst h;exact⟨hc.1,ab,hc.2⟩
  ·obtain⟨h1,h2,h3⟩:=abx h h0;exact⟨h1,ab,h3⟩
theorem Dh {k:Nat}(h:0<k/\k<8):kindOf dR (dR.getD k [])=k/\(32:UInt8)∉dR.getD k []:=by
 have key:∀x:Fin 8,0<x.val->kindOf dR (dR.getD x.val [])=x.val/\(32:UInt8)∉dR.getD x.val []:=au;exact key ⟨k,h.2⟩ h.1
theorem akD {k:Nat}(h:0<k/\k<4):kindOf ew (ew.getD k [])=k/\(32:UInt8)∉ew.getD k []:=by
 have key:∀x:Fin 4,0<x.val->kindOf ew (ew.getD x.val [])=x.val/\(32:UInt8)∉ew.getD x.val []:=au;exact key ⟨k,h.2⟩ h.1
end
section
open Go.RowKit
variable {e:Ev}
def PF (k nd r:Nat):aq:=bJ 32 [dR.getD k [],Lib.decDigits nd,Lib.decDigits r]
def PG (k nd:Nat)(l:List Nat):aq:=bJ 32 [dR.getD k [],Lib.decDigits nd,bJ 46 (l.map Lib.decDigits)]
def PH (nd:Nat):aq:=bJ 32 [dR.getD 7 [],Lib.decDigits nd]
inductive np:Ev->aq->Prop where
 |f1 (k nd r:Nat) (hk:k=1\/k=2\/k=4) (hn:nd<12) (hr:r<=2147483647):np ⟨k,nd,r,⟨0,0,0,0,0⟩⟩ (PF k nd r)
 |f2 (k nd a b c d x:Nat) (hk:k=3\/k=5\/k=6) (hn:nd<12) (ha:a<12) (hb:b<40) (hc:c<=2147483647) (hd:d<=2147483647) (hx:x<=2147483647):np ⟨k,nd,0,⟨a,b,c,d,x⟩⟩ (PG k nd [a,b,c,d,x])
 |f3 (nd:Nat) (hn:nd<12):np ⟨7,nd,0,⟨0,0,0,0,0⟩⟩ (PH nd)
theorem np.text{s:aq}(h:np e s):eU e=s:=by
 have cB:sV e:=by
  cases h with
  |f1 k nd r hk hn hr=>exact⟨by dsimp only;omega,by dsimp only;omega,.inl ⟨by dsimp only;omega,by dsimp only;omega,rfl⟩⟩
  |f2 k nd a b c d x hk hn ha hb hc hd hx=>exact⟨by dsimp only;omega,by dsimp only;omega,.inr (.inl ⟨by dsimp only;omega,rfl,by dsimp only;omega,by dsimp only;omega,by dsimp only;omega⟩)⟩
  |f3 nd hn=>exact⟨by dsimp only;omega,by dsimp only;omega,.inr (.inr ⟨rfl,rfl,rfl⟩)⟩
 unfold eU;rw[aj ((Fx e).2 cB)]
 cases h with
 |f1 k nd r hk hn hr=>
  unfold De;dsimp only;rw[aj ab];simp[PF,bJ]
 |f2 k nd a b c d x hk hn ha hb hc hd hx=>
  unfold De;dsimp only;rw[af ab,af ab];have:=akC [a,b,c,d,x];simp only[dJ,mP] at this;simp only[bR.ints];rw[this];simp[PG,bJ]
 |f3 nd hn=>
  unfold De;dsimp only;rw[af ab,aj rfl];simp[PH,bJ]
theorem np.zr(h:sV e):∃s,np e s:=by
 obtain⟨kind,node,arg,⟨m0,m1,m2,m3,m4⟩⟩:=e;obtain⟨h0,h1,h⟩:=h;dsimp only at h0 h1 h
 obtain⟨nd,rfl⟩:∃n:Nat,node=n:=⟨node.toNat,ab⟩
 rcases h with⟨hk,hr,hm⟩|⟨hk,rfl,⟨ha,hb,hc⟩,hd,hx⟩|⟨rfl,rfl,hm⟩
 ·obtain⟨k,rfl⟩:∃n:Nat,kind=n:=⟨kind.toNat,ab⟩
  obtain⟨r,rfl⟩:∃n:Nat,arg=n:=⟨arg.toNat,ab⟩
  rw[hm];exact⟨_,.f1 k nd r ab ab ab⟩
 ·obtain⟨k,rfl⟩:∃n:Nat,kind=n:=⟨kind.toNat,ab⟩
  obtain⟨a,rfl⟩:∃n:Nat,m0=n:=⟨m0.toNat,ab⟩
  obtain⟨b,rfl⟩:∃n:Nat,m1=n:=⟨m1.toNat,ab⟩
  obtain⟨c,rfl⟩:∃n:Nat,m2=n:=⟨m2.toNat,ab⟩
  obtain⟨d,rfl⟩:∃n:Nat,m3=n:=⟨m3.toNat,ab⟩
  obtain⟨x,rfl⟩:∃n:Nat,m4=n:=⟨m4.toNat,ab⟩
  exact⟨_,.f2 k nd a b c d x ab ab ab ab ab ab ab⟩
 ·rw[hm];exact⟨_,.f3 nd ab⟩
theorem PI{n:Nat}(h:n<=2147483647):jG (Lib.decDigits n) 1=some [n]:=(Mt _ 1 ab [n]).2 ⟨rfl,by simpa using h,rfl⟩
theorem UF(l:List Nat):(32:UInt8)∉bJ 46 (l.map Lib.decDigits):=by
 induction l with
 |nil=>simp[bJ]
 |cons a l ih=>
  cases l with
  |nil=>exact rO a au
  |cons b l=>
   rw[dJ,ur 46 _ ai];intro h
   rcases fU.1 h with h|h
   ·exact rO a au h
   ·rcases cA.1 h with h|h
    ·exact absurd h au
    ·exact ih h
theorem np.parse{s:aq}(h:np e s):il s=some e:=by
 cases h with
 |f1 k nd r hk hn hr=>
  obtain⟨h1,h2⟩:=Dh (k:=k) ab;unfold il PF
  rw[Dg 32 _ ai (by
   intro a ha;simp only[cA,jL,kV] at ha
   rcases ha with rfl|rfl|rfl
   ·exact h2
   ·exact rO _ au
   ·exact rO _ au)]
  simp only[DJ,DK,List.length_cons,List.length_nil];rw[h1,af (by rw[af ab];omega),PI ab,PI hr];simp only[];rw[af ab,af ab,af ab]
 |f2 k nd a b c d x hk hn ha hb hc hd hx=>
  obtain⟨h1,h2⟩:=Dh (k:=k) ab;unfold il PG
  rw[Dg 32 _ ai (by
   intro y hy;simp only[cA,jL,kV] at hy
   rcases hy with rfl|rfl|rfl
   ·exact h2
   ·exact rO _ au
   ·exact UF _)]
  simp only[DJ,DK,List.length_cons,List.length_nil];rw[h1,af (by rw[af ab];omega),PI ab,(Mt _ 5 ab [a,b,c,d,x]).2 ⟨rfl,by simp;omega,rfl⟩];simp only[];rw[af ab,aj hk,aj ⟨ha,hb⟩]
 |f3 nd hn=>
  obtain⟨h1,h2⟩:=Dh (k:=7) ab;unfold il PH
  rw[Dg 32 _ ai (by
   intro y hy;simp only[cA,jL,kV] at hy
   rcases hy with rfl|rfl
   ·exact h2
   ·exact rO _ au)]
  simp only[DJ,DK,List.length_cons,List.length_nil];rw[h1,af ai,PI ab];simp only[];rw[af ab,af ab];simp
theorem aby{s:aq}{n:Nat}(h:jG s 1=some [n]):s=Lib.decDigits n/\n<=2147483647:=by
 obtain⟨h1,h2,_⟩:=(Mt s 1 ab [n]).1 h;exact⟨h1,h2 n ai⟩
theorem akE{s:aq}(h:il s=some e):np e s:=by
 have hj:=abw 32 s;unfold il at h;generalize cg 32 s=ws at h hj;simp only[] at h;generalize hk:kindOf dR (ws.getD 0 [])=k at h;by_cases hc:k=0\/ws.length≠(if k=7 then 2 else 3)
 ·rw[aj hc] at h;cases h
 ·rw[af hc] at h
  have aX:k≠0:=fun e=>hc (.inl e)
  have hlen:ws.length=if k=7 then 2 else 3:=Decidable.byContradiction fun e=>hc (.inr e)
  obtain⟨k1,k2,hw⟩:=abx (words:=dR) (n:=8) hk aX;split at h
  ·rename_i nd jH;obtain⟨hd,_⟩:=aby jH;split at h
   ·cases h
   ·rename_i hn;split at h
    ·rename_i ET;rw[af ab] at hlen
     obtain⟨w0,w1,w2,rfl⟩:∃a b c,ws=[a,b,c]:=by
      match ws,hlen with
      |[a,b,c],_=>exact⟨a,b,c,rfl⟩
     simp only[DJ,DK] at hw hd h;split at h
     ·rename_i a b c d x Jo;obtain⟨g1,g2,_⟩:=(Mt _ 5 ab _).1 Jo;split at h
      ·rename_i eQ;injection h with h;subst h;subst hw hd g1 hj;exact .f2 k nd a b c d x ET ab eQ.1 eQ.2 (g2 c ai) (g2 d ai) (g2 x ai)
      ·cases h
     ·cases h
    ·split at h
     ·rename_i CW;subst CW;rw[aj rfl] at hlen
      obtain⟨w0,w1,rfl⟩:∃a b,ws=[a,b]:=by
       match ws,hlen with
       |[a,b],_=>exact⟨a,b,rfl⟩
      simp only[DJ,DK] at hw hd h;injection h with h;subst h;subst hw hd hj;exact .f3 nd ab
     ·rename_i ET CW;rw[af CW] at hlen
      obtain⟨w0,w1,w2,rfl⟩:∃a b c,ws=[a,b,c]:=by
       match ws,hlen with
       |[a,b,c],_=>exact⟨a,b,c,rfl⟩
      simp only[DJ,DK] at hw hd h;split at h
      ·rename_i r Jo;obtain⟨g1,g2⟩:=aby Jo;injection h with h;subst h;subst hw hd g1 hj;exact .f1 k nd r ab ab g2
      ·cases h
  ·cases h
end
section
open Go.RowKit
def Mu (k:Nat)(l:List Nat)(i:Nat):aq:=bJ 32 [ew.getD k [],bJ 46 (l.map Lib.decDigits),Lib.decDigits i]
inductive oF:Qn->aq->Prop where
 |f (k a b c i:Nat) (hk:0<k/\k<4) (ha:a<12) (hb:b<41) (hc:c<=2147483647) (hi:i<=2147483647):oF ⟨a,b,c,k,i⟩ (Mu k [a,b,c] i)
theorem oF.text {q:Qn}{s:aq}(h:oF q s):ja q=s:=by
 cases h with
 |f k a b c i hk ha hb hc hi=>
  have cB:CY ⟨a,b,c,k,i⟩:=⟨by dsimp only;omega,by dsimp only;omega,by dsimp only;omega⟩
  unfold ja;rw[aj ((Fy _).2 cB)];unfold Ms;dsimp only;have:=akC [a,b,c];simp only[dJ,mP] at this;rw[this];simp[Mu,bJ]
theorem oF.zr {q:Qn}(h:CY q):∃s,oF q s:=by
 obtain⟨a,b,c,k,i⟩:=q;obtain⟨hk,⟨ha,hb,hc⟩,hi⟩:=h;dsimp only at hk ha hb hc hi
 obtain⟨k,rfl⟩:∃n:Nat,k=n:=⟨k.toNat,ab⟩
 obtain⟨a,rfl⟩:∃n:Nat,a=n:=⟨a.toNat,ab⟩
 obtain⟨b,rfl⟩:∃n:Nat,b=n:=⟨b.toNat,ab⟩
 obtain⟨c,rfl⟩:∃n:Nat,c=n:=⟨c.toNat,ab⟩
 obtain⟨i,rfl⟩:∃n:Nat,i=n:=⟨i.toNat,ab⟩
 exact⟨_,.f k a b c i ab ab ab ab ab⟩
theorem oF.parse {q:Qn}{s:aq}(h:oF q s):kp s=some q:=by
 cases h with
 |f k a b c i hk ha hb hc hi=>
  obtain⟨h1,h2⟩:=akD hk;unfold kp Mu
  rw[Dg 32 _ ai (by
   intro y hy;simp only[cA,jL,kV] at hy
   rcases hy with rfl|rfl|rfl
   ·exact h2
   ·exact UF _
   ·exact rO _ au)]
  simp only[DJ,DK,List.length_cons,List.length_nil];rw[h1,af ab,PI hi,(Mt _ 3 ab [a,b,c]).2 ⟨rfl,by simp;omega,rfl⟩];simp only[];rw[aj ⟨ha,hb⟩]
theorem akF {s:aq}{q:Qn}(h:kp s=some q):oF q s:=by
 have hj:=abw 32 s;unfold kp at h;generalize cg 32 s=ws at h hj;simp only[] at h;generalize hk:kindOf ew (ws.getD 0 [])=k at h;by_cases hc:k=0\/ws.length≠3
 ·rw[aj hc] at h;cases h
 ·rw[af hc] at h
  have aX:k≠0:=fun e=>hc (.inl e)
  have hlen:ws.length=3:=Decidable.byContradiction fun e=>hc (.inr e)
  obtain⟨k1,k2,hw⟩:=abx (words:=ew) (n:=4) hk aX
  obtain⟨w0,w1,w2,rfl⟩:∃a b c,ws=[a,b,c]:=by
   match ws,hlen with
   |[a,b,c],_=>exact⟨a,b,c,rfl⟩
  simp only[DJ,DK] at hw h;split at h
  ·rename_i a b c i hd3 jH;obtain⟨g1,g2,_⟩:=(Mt _ 3 ab _).1 hd3;obtain⟨g3,g4⟩:=aby jH;split at h
   ·rename_i eQ;injection h with h;subst h;subst hw g1 g3 hj;exact .f k a b c i ⟨k1,k2⟩ eQ.1 eQ.2 (g2 c ai) g4
   ·cases h
  ·cases h
end
section
open Go.RowKit
def abz (W:World)(g n m:Nat):Prop:=∀j,j<n->∃t:aq,t.length<=m/\W.cell? ⟨g,j,none⟩=some (.string ⟨t.toArray⟩)
theorem abz.kept {W X:World}{g n m:Nat}(h:abz W g n m)(_hn:0<n)(hb:aw W X):abz X g n m:=fun j hj=>by
 obtain⟨t,h1,h2⟩:=h j hj;have hlt:=ez _ _ h2;exact⟨t,h1,(hb.cell (p:=⟨g,j,none⟩) (by simpa using hlt)).trans h2⟩
end
section
open Go.RowKit
theorem akG:(Tryz.prog.info? 9).map (fun i=>(i.zero,i.size,i.bytes))=some (some (.string ⟨#[]⟩),1,16):=ah
theorem akH (c:UInt8):∀l:List aq,Lib.join l [c]=bJ c l
 |[]=>rfl
 |[a]=>by simp[Lib.join,bJ,List.intercalate]
 |a::b::l=>by
  have ih:=akH c (b::l);rw[ur c a ai,<-ih];simp[Lib.join,List.intercalate]
def xG (l:List Int):List Value:=l.map fun n=>sv (Lib.itoa n)
theorem iR (n:Int)(h:cJ n):(Lib.itoa n).length<=20:=by
 obtain⟨h1,h2⟩:=h;by_cases h0:0<=n
 ·obtain⟨m,rfl⟩:∃m:Nat,n=m:=⟨n.toNat,ab⟩
  rw[Lib.itoa_nonneg];have:=PE 18 m ab;omega
 ·unfold Lib.itoa;rw[aj ab];have:=PE 18 n.natAbs ab;simp;omega
theorem zt (c:UInt8)(m:Nat):∀l:List aq,(∀a∈l,a.length<=m)->(bJ c l).length<=(m+1)*l.length
 |[],_=>by simp[bJ]
 |[a],h=>by
  have:=h a ai;simp[bJ];omega
 |a::b::l,h=>by
  have h1:=h a ai;have h2:=zt c m (b::l) (fun x hx=>h x (lF _ hx));rw[ur c a ai];simp only[List.length_append,List.length_cons] at h2⊢;have e:(m+1)*(l.length+1+1)=(m+1)*(l.length+1)+(m+1):=Nat.mul_succ _ _;rw[e];omega
theorem akI (c:UInt8)(l:List Int)(h31:∀n∈l,cJ n)(hl:l.length<=100000)(W:World){B:Nat}{v:Value}(h:W.ownsRow B 9 1 v l.length (xG l)):
  Calls Tryz.prog 79 #[v,.string ⟨#[c]⟩] W fun e w'=>e=.returned (sv (bJ c (l.map Lib.itoa)))/\aw W w':=by
 obtain⟨hlen,h0|⟨g,cap,cur,rfl,hb,hg,hn,hc,h1,h2⟩⟩:=id h
 ·obtain⟨rfl,hz⟩:=h0;have tQ:l=[]:=BK.1 hz;subst tQ;refine(Tryz.strings_Join_none none 0 ⟨#[c]⟩ W).mono ?_;rintro e w' ⟨rfl,rfl⟩;exact⟨rfl,Below.refl _ _⟩
 ·have hlt:=(h.lt g rfl).2
  have YZ:=fun j u hu=>h.cells (g:=g) rfl j u hu
  have hx:(l.map fun n=>(⟨(Lib.itoa n).toArray⟩:ByteArray)).length=l.length:=dI _
  have hm:((l.map fun n=>(⟨(Lib.itoa n).toArray⟩:ByteArray)).map (·.data.toList))=l.map Lib.itoa:=by simp[List.map_map,Function.comp_def]
  have hj:=akH c (l.map Lib.itoa)
  have hJ:=Tryz.strings_Join g 0 cap (l.map fun n=>(⟨(Lib.itoa n).toArray⟩:ByteArray)) ⟨#[c]⟩ W (fun j x Mw=>by
   have:=YZ j (.string x) (by
    rw[fD] at Mw;simp only[xG,fD]
    cases hq:l[j]? with
    |none=>rw[hq] at Mw;cases Mw
    |some q=>
     rw[hq] at Mw;simp only[yh,aA] at Mw⊢;rw[<-Mw]
     rfl)
   have lH:(⟨g,0,none⟩:Addr).add j=⟨g,0+j,none⟩:=by unfold Addr.add;split<;>simp_all
   rw[lH] at this
   exact this) hlt (by rw[hx];omega) (by rw[hx];exact hn) (by
   rw[hm]
   show(Lib.join (l.map Lib.itoa) [c]).length<=_
   rw[hj]
   have:=zt c 20 (l.map Lib.itoa) (fun a ha=>by
    obtain⟨n,hn,rfl⟩:=dp.1 ha
    exact iR n (h31 n hn))
   rw[dI] at this
   omega)
  rw[hx,hm] at hJ;have e1:Lib.join (l.map Lib.itoa) [c]=bJ c (l.map Lib.itoa):=hj;have e2:(⟨#[c]⟩:ByteArray).data.toList=[c]:=rfl;rw[e2,e1] at hJ;exact hJ
end
section
open Go.RowKit
theorem akJ (l:List Int)(h31:∀n∈l,cJ n)(hl:l.length<=100000)(v:Value)(w:World)(hg:Gl w)(hv:br w v l):
  Calls Tryz.prog 75 #[v] w fun e w'=>e=.returned (sv (bJ 46 (l.map Lib.itoa)))/\aw w w':=by
 obtain⟨ka,ca,rfl,hm⟩:=hv.open;have Hv:=ae hv;have Hg:=ae hg;have PJ:=ae h31;clear hv hg h31;unfold sv;go_enter Tryz.func75,Tryz.ntmps75;go_wp2_with fail;go_loopw [3,8] (fun vo vi wr=>∃(k:Nat) (av:Option Addr) (nr:Nat),vo=.slice av k nr/\vi=.int .i64 k/\k<=l.length/\Hid (aw w wr)/\Hid (wr.ownsRow w.heap.size 9 1 (.slice av k nr) k (xG (l.take k)))) (fun _ vi _=>l.length-(intOf vi).toNat)
 case atStart=>exact⟨0,none,0,rfl,rfl,ab,ae (Below.refl _ _),ae (kz _ _ _ _)⟩
 case round=>
  obtain⟨k,av,nr,rfl,rfl,hk,Hb,jm⟩:=hrel;by_cases hlt:k<l.length
  ·obtain⟨b,o,rfl,x0⟩:=br.at (Hv.out.kept Hb.out ax) (i:=k) (x:=l[k]) (by simp[hlt]);have hn:=PJ.out l[k] (bW hlt);have fe:=ae (yR l[k] hn wr (Hg.out.below (Hb.out.mono ax)))
   have de:xG (l.take (k+1))=xG (l.take k)++[sv (Lib.itoa l[k])]:=by
    unfold xG;rw[List.take_succ_eq_append_getElem hlt,dm];rfl
   have vQ:=ae de;clear de;generalize l[k]=n at x0 hn fe vQ;generalize Lib.itoa n=t at fe vQ;unfold sv at fe vQ;have jo:=Hb.out.size
   go_wp2_with (first
    |(go_at_call 29;refine fe.out.mono ?_;rintro e w1 ⟨rfl,D1⟩;have cQ:=D1.size)
    |(at_builtin;go_must (refine tF rfl _ _ 108 rfl 9 _ 1 16 Tryz.underlying108 akG rfl ab ab w.heap.size (.slice av k nr) k (xG (l.take k)) rfl ((pB jm.out D1).alloc _) w1.heap.size 1 1 #[.string ⟨t.toArray⟩] 9 rfl (dY _ _) rfl rfl ab ab (by rw[World.size_alloc];omega) ?_);intro g5 ui w5 fX gL jn jI nT eM))
   go_roundw
   case rel=>exact⟨k+1,_,ui,rfl,by go_num,ab,ae (((Hb.out.trans (D1.mono jo)).alloc ab _).trans eM),ae (by rw[vQ.out];exact jI)⟩
   case measure=>simp[intOf];omega
  ·obtain rfl:k=l.length:=ab;have PK:=jm.out;rw[fT] at PK;have Hj:=ae (akI 46 l PJ.out hl wr PK);unfold sv at Hj;have jo:=Hb.out.size
   go_wp2_with (go_at_call 79;refine Hj.out.mono ?_;rintro e w1 ⟨rfl,D1⟩)
   go_ret;exact⟨rfl,Hb.out.trans (D1.mono jo)⟩
theorem akK (l:List Int)(h31:∀n∈l,cJ n)(hl:l.length<=100000)(c:UInt8)(v:Value)(w:World)(hg:Gl w)(hv:br w v l):
  Calls Tryz.prog 32 #[sv [c],v] w fun e w'=>e=.returned (sv (bJ c (l.map Lib.itoa)))/\aw w w':=by
 obtain⟨ka,ca,rfl,hm⟩:=hv.open;have Hv:=ae hv;have Hg:=ae hg;have PJ:=ae h31;clear hv hg h31;unfold sv;go_enter Tryz.func32,Tryz.ntmps32;go_wp2_with fail;go_loopw [5,10] (fun vo vi wr=>∃(k:Nat) (av:Option Addr) (nr:Nat),vo=.slice av k nr/\vi=.int .i64 k/\k<=l.length/\Hid (aw w wr)/\Hid (wr.ownsRow w.heap.size 9 1 (.slice av k nr) k (xG (l.take k)))) (fun _ vi _=>l.length-(intOf vi).toNat)
 case atStart=>exact⟨0,none,0,rfl,rfl,ab,ae (Below.refl _ _),ae (kz _ _ _ _)⟩
 case round=>
  obtain⟨k,av,nr,rfl,rfl,hk,Hb,jm⟩:=hrel;by_cases hlt:k<l.length
  ·obtain⟨b,o,rfl,x0⟩:=br.at (Hv.out.kept Hb.out ax) (i:=k) (x:=l[k]) (by simp[hlt]);have hn:=PJ.out l[k] (bW hlt);have fe:=ae (yR l[k] hn wr (Hg.out.below (Hb.out.mono ax)))
   have de:xG (l.take (k+1))=xG (l.take k)++[sv (Lib.itoa l[k])]:=by
    unfold xG;rw[List.take_succ_eq_append_getElem hlt,dm];rfl
   have vQ:=ae de;clear de;generalize l[k]=n at x0 hn fe vQ;generalize Lib.itoa n=t at fe vQ;unfold sv at fe vQ;have jo:=Hb.out.size
   go_wp2_with (first
    |(go_at_call 29;refine fe.out.mono ?_;rintro e w1 ⟨rfl,D1⟩;have cQ:=D1.size)
    |(at_builtin;go_must (refine tF rfl _ _ 108 rfl 9 _ 1 16 Tryz.underlying108 akG rfl ab ab w.heap.size (.slice av k nr) k (xG (l.take k)) rfl ((pB jm.out D1).alloc _) w1.heap.size 1 1 #[.string ⟨t.toArray⟩] 9 rfl (dY _ _) rfl rfl ab ab (by rw[World.size_alloc];omega) ?_);intro g5 ui w5 fX gL jn jI nT eM))
   go_roundw
   case rel=>exact⟨k+1,_,ui,rfl,by go_num,ab,ae (((Hb.out.trans (D1.mono jo)).alloc ab _).trans eM),ae (by rw[vQ.out];exact jI)⟩
   case measure=>simp[intOf];omega
  ·obtain rfl:k=l.length:=ab;have PK:=jm.out;rw[fT] at PK;have Hj:=ae (akI c l PJ.out hl wr PK);unfold sv at Hj;have jo:=Hb.out.size
   go_wp2_with (go_at_call 79;refine Hj.out.mono ?_;rintro e w1 ⟨rfl,D1⟩)
   go_ret;exact⟨rfl,Hb.out.trans (D1.mono jo)⟩
end
section
open Go.RowKit
def Jt (e:Ev):aq:=
 let h:=dR.getD e.kind.toNat []++[32]++Lib.itoa e.node
 if e.kind=3\/e.kind=5\/e.kind=6 then h++([32]++bJ 46 (e.msg.ints.map Lib.itoa))
 else if e.kind=7 then h
 else h++([32]++Lib.itoa e.arg)
theorem abA:∀(l:List Int),(∀x∈l,0<=x)->iQ l=bJ 46 (l.map Lib.itoa)
 |[],_=>rfl
 |[n],h=>by
  have:=h n ai
  obtain⟨m,rfl⟩:∃m:Nat,n=m:=⟨n.toNat,ab⟩
  simp[iQ,bJ,Lib.itoa_nonneg]
 |n::m::l,h=>by
  have h0:=h n ai
  obtain⟨k,rfl⟩:∃m:Nat,n=m:=⟨n.toNat,ab⟩
  have ih:=abA (m::l) (fun x hx=>h x (lF _ hx));simp only[iQ];rw[ih];simp[bJ,Lib.itoa_nonneg]
theorem PL {n:Int}(h:0<=n):Lib.itoa n=Lib.decDigits n.toNat:=by
 obtain⟨k,rfl⟩:∃m:Nat,n=m:=⟨n.toNat,ab⟩
 rw[Lib.itoa_nonneg,gF]
theorem akL {e:Ev}(h:sV e):Jt e=eU e:=by
 unfold eU;rw[aj ((Fx e).2 h)];unfold Jt De;obtain⟨h0,h1,h⟩:=h;simp only[];rw[PL h0]
 rcases h with⟨hk,hr,_⟩|⟨hk,_,⟨ha,hb,hc⟩,hd,hx⟩|⟨hk,_,_⟩
 ·rw[af ab,af ab,aj hk,PL hr.1];simp
 ·rw[aj hk,af ab,af ab,abA _ (by intro x hx;simp[bR.ints] at hx;omega)];simp
 ·rw[af ab,aj hk,af ab,aj hk]
theorem azG (e:Ev):(if il (Jt e)=some e then Jt e else [])=eU e:=by
 by_cases h:sV e
 ·obtain⟨s,hs⟩:=np.zr h;have h1:=akL h;have h2:=hs.parse;rw[<-hs.text,<-h1] at h2;rw[aj h2,h1]
 ·have h1:eU e=[]:=by
   unfold eU;rw[af (fun hw=>h ((Fx e).1 hw))]
  rw[h1];split
  ·rename_i hp;have hf:=akE hp;have ht:=hf.text;rw[h1] at ht;exact ht.symm
  ·rfl
end
section
open Go.RowKit
theorem azH (e:Ev)(cB:∀x∈e.ints,cJ x)(w:World)(hg:Gl w):Calls Tryz.prog 30 #[.agg (gQ e)] w fun r w'=>r=.returned (sv (eU e))/\aw w w':=by
 have Hg:=ae hg;have mM:=ae cB;clear hg cB;have HT:=ae (azG e)
 obtain⟨T,hT⟩:∃T,T=eU e:=⟨_,rfl⟩
 rw[<-hT] at HT⊢;by_cases hk:e.kind<1\/7<e.kind
 ·have HF:=ae (show T=[] by
   rw[hT];unfold eU;rw[af];intro hw;obtain⟨_,_,h⟩:=(Fx e).1 hw
   omega)
  clear hT HT mM;obtain⟨kind,node,arg,⟨m0,m1,m2,m3,m4⟩⟩:=e;dsimp only at hk;have HB:=ae (show aw w (w.alloc (.cells #[I kind,I node,I arg,I m0,I m1,I m2,I m3,I m4] 41)) from(Below.refl _ _).alloc ax _);unfold gQ;dsimp only;by_cases h1:kind<1
  ·clear hk;go_enter Tryz.func30,Tryz.ntmps30;go_wp2_with fail;go_ret;exact⟨by rw[HF.out];rfl,HB.out⟩
  ·have h7:7<kind:=ab;clear hk;go_enter Tryz.func30,Tryz.ntmps30;go_wp2_with fail;go_ret;exact⟨by rw[HF.out];rfl,HB.out⟩
 ·clear hT;obtain⟨kind,node,arg,⟨m0,m1,m2,m3,m4⟩⟩:=e;dsimp only at hk
  obtain⟨k,rfl⟩:∃k:Nat,kind=k:=⟨kind.toNat,ab⟩
  have ej:1<=k:=ab;have vE:k<8:=ab;clear hk;have Mx:(0:Int)<=k:=ab;have abB:(k:Int)<8:=ab;have azI:¬(k:Int)<1:=ab;have azJ:¬(7:Int)<k:=ab
  obtain⟨word,po⟩:∃x,x=dR.getD k []:=⟨_,rfl⟩
  have rG:word.length<=7:=by rw[po];exact abq k
  have cK:=mM.out node (by simp[Ev.ints]);have fB:=iR node cK;have fe:=ae (fun X (hX:Gl X)=>yR node cK X hX);have My:=ae po;clear po cK;generalize eK:Lib.itoa node=dn at fB fe;have kR:=ae eK;clear eK;have wh:=ae (show ay (w.alloc (.cells #[I k,I node,I arg,I m0,I m1,I m2,I m3,I m4] 41)) w.heap.size #[I k,I node,I arg,I m0,I m1,I m2,I m3,I m4] from ay.new w _ _);unfold gQ;unfold sv at fe;dsimp only;go_enter Tryz.func30,Tryz.ntmps30;go_upto_region 4 with fail;have E0:Array Value:=#[]
  obtain⟨W,hW⟩:∃W,W=(w.alloc (.cells #[I k,I node,I arg,I m0,I m1,I m2,I m3,I m4] 41)).alloc (.cells #[I m0,I m1,I m2,I m3,I m4] 39):=⟨_,rfl⟩
  have aI:ay W w.heap.size #[I k,I node,I arg,I m0,I m1,I m2,I m3,I m4]/\ay W (w.heap.size+1) #[I m0,I m1,I m2,I m3,I m4]:=by
   rw[hW];refine⟨wh.out.alloc _,?_⟩;rw[<-World.size_alloc w (.cells #[I k,I node,I arg,I m0,I m1,I m2,I m3,I m4] 41)];exact ay.new _ _ _
  have bt:aw w W:=by rw[hW];exact((Below.refl _ _).alloc ax _).alloc ai _
  rw[<-hW];clear hW wh E0;have cD:¬9223372036854775807<word.length+1:=ab;have fb:¬9223372036854775807<word.length+1+dn.length:=ab;go_cut [4] from 17 to 27 (fun t wd=>t=.string ⟨(word++[32]++dn).toArray⟩/\ay wd w.heap.size #[I k,I node,I arg,I m0,I m1,I m2,I m3,I m4]/\ay wd (w.heap.size+1) #[I m0,I m1,I m2,I m3,I m4]/\Hid (aw w wd))
  case first=>
   have pq:ay W.drew w.heap.size #[I k,I node,I arg,I m0,I m1,I m2,I m3,I m4]/\ay W.drew (w.heap.size+1) #[I m0,I m1,I m2,I m3,I m4]:=⟨aI.1.drew,aI.2.drew⟩
   have xH:=bt.drew;clear aI bt;refine Kw 9 (.take 1 (.take 2 (.take 6 (.take 7 (.move 0 (.take 3 (.fork 4 8 (.take 5 (.move 8 .nil)) (.move 4 (.take 5 .nil))))))))) (fun X=>(∀j,X.cell? ⟨w.heap.size,j,none⟩=(#[I k,I node,I arg,I m0,I m1,I m2,I m3,I m4]:Array Value)[j]?)) ah rfl ah pq.1.cell ?_
   iterate 4 refine cU ?_
   generalize W.drew=w2 at pq xH⊢;refine dt rfl (fun K hK=> ?_);go_simp;go_at_call 74;refine(aiR _).mono ?_;rintro e w3 ⟨rfl,bg,D3,_⟩
   have fu:ay w3 w.heap.size #[I k,I node,I arg,I m0,I m1,I m2,I m3,I m4]/\ay w3 (w.heap.size+1) #[I m0,I m1,I m2,I m3,I m4]:=⟨pq.1.kept D3 pq.1.lt,pq.2.kept D3 pq.2.lt⟩
   have lB:=xH.trans (D3.mono xH.size)
   have hc:w3.cell? ⟨w2.heap.size,k,none⟩=some (sv word):=by
    refine gX.cell bg ?_;rw[My.out];have:k<dR.length:=vE;simp[List.getD,this]
   unfold sv at hc;refine hK.out _ _ fu.1.cell ?_;clear hK K pq xH D3 bg;generalize w2.heap.size=B at hc⊢;refine bC ?_;refine cU ?_;refine wS ?_ ?_
   ·refine dt rfl (fun K hK=> ?_);go_simp;refine hK.out _ _ fu.1.cell ?_;clear hK K;refine bC ?_;refine cU ?_;refine dt rfl (fun K hK=> ?_);go_simp;go_at_call 29;refine(fe.out _ (Hg.out.below lB)).mono ?_;rintro e w4 ⟨rfl,D4⟩
    have Fz:ay w4 w.heap.size #[I k,I node,I arg,I m0,I m1,I m2,I m3,I m4]/\ay w4 (w.heap.size+1) #[I m0,I m1,I m2,I m3,I m4]:=⟨fu.1.kept D4 fu.1.lt,fu.2.kept D4 fu.2.lt⟩
    have abC:=lB.trans (D4.mono lB.size);refine hK.out _ _ Fz.1.cell ?_;clear hK K;refine bC ?_;refine pA ?_;go_wp2_with fail;refine NoPanic.normal ?_;go_wp2_with fail;go_meet;exact⟨aF Value.string ((aF (·++_) (bp word [32])).trans (bp (word++[32]) dn)),Fz.1,Fz.2,ae abC⟩
   ·refine dt rfl (fun K hK=> ?_);go_simp;go_at_call 29;refine(fe.out _ (Hg.out.below lB)).mono ?_;rintro e w4 ⟨rfl,D4⟩
    have Fz:ay w4 w.heap.size #[I k,I node,I arg,I m0,I m1,I m2,I m3,I m4]/\ay w4 (w.heap.size+1) #[I m0,I m1,I m2,I m3,I m4]:=⟨fu.1.kept D4 fu.1.lt,fu.2.kept D4 fu.2.lt⟩
    have abC:=lB.trans (D4.mono lB.size);have UG:w4.cell? ⟨B,k,none⟩=some (.string ⟨word.toArray⟩):=(D4.cell (p:=⟨B,k,none⟩) (by simpa using ez _ _ hc)).trans hc;refine hK.out _ _ Fz.1.cell ?_;clear hK K hc;refine bC ?_;refine dt rfl (fun K hK=> ?_);go_simp;refine hK.out _ _ Fz.1.cell ?_;clear hK K;refine bC ?_;refine cU ?_;refine pA ?_;go_wp2_with fail;refine NoPanic.normal ?_;go_wp2_with fail;go_meet;exact⟨aF Value.string ((aF (·++_) (bp word [32])).trans (bp (word++[32]) dn)),Fz.1,Fz.2,ae abC⟩
  case rest=>
   obtain⟨rfl,aI,CJ,HB⟩:=hcut;have js:=ae aI;have Hmb:=ae CJ;have c0:=aI.cell 0;have c2:=aI.cell 2;have n0:=CJ.cell 0;have n1:=CJ.cell 1;have n2:=CJ.cell 2;have n3:=CJ.cell 3;have n4:=CJ.cell 4;clear aI CJ
   obtain⟨x,hx⟩:∃x,x=Jt ⟨k,node,arg,⟨m0,m1,m2,m3,m4⟩⟩:=⟨_,rfl⟩
   have HX:=ae (show x=(if k=3\/k=5\/k=6 then(word++[32]++dn)++([32]++bJ 46 ([m0,m1,m2,m3,m4].map Lib.itoa)) else if k=7 then word++[32]++dn else(word++[32]++dn)++([32]++Lib.itoa arg)) by
    rw[hx];unfold Jt;dsimp only;rw[gF,<-My.out,kR.out]
    have e1:((k:Int)=3\/(k:Int)=5\/(k:Int)=6)=(k=3\/k=5\/k=6):=by apply propext;omega
    have e2:((k:Int)=7)=(k=7):=by apply propext;omega
    simp only[e1,e2]
    rfl)
   rw[<-hx] at HT;clear hx;have FA:(word++[32]++dn).length<=30:=bz;clear rG fB fe My kR cD fb;generalize word++[32]++dn=hd at HX FA⊢;go_upto_block 0 with fail;go_cut [4] from 17 (fun t wd=>t=.string ⟨x.toArray⟩/\x.length<=1000/\Hid (ay wd w.heap.size #[I k,I node,I arg,I m0,I m1,I m2,I m3,I m4])/\Hid (aw w wd))
   case first=>
    have HG:=ae (Hg.out.below HB.out);have cD:¬9223372036854775807<hd.length+1:=ab;by_cases hA:k=3\/k=5\/k=6
    ·have hX:=HX.out;rw[aj hA] at hX;have zu:=ae (fun v X (hX:Gl X) (hv:br X v [m0,m1,m2,m3,m4])=>akJ [m0,m1,m2,m3,m4] (fun n hn=>mM.out n (by simp[Ev.ints] at hn⊢;omega)) ai v X hX hv)
     have eb:(bJ 46 ([m0,m1,m2,m3,m4].map Lib.itoa)).length<=21*5:=zt 46 20 _ (fun a ha=>by
      obtain⟨n,hn,rfl⟩:=dp.1 ha
      exact iR n (mM.out n (by simp[Ev.ints] at hn⊢;omega)))
     generalize bJ 46 ([m0,m1,m2,m3,m4].map Lib.itoa)=j at hX zu eb;subst hX;unfold sv at zu;have rm:¬9223372036854775807<1+j.length:=ab;have Mz:¬9223372036854775807<hd.length+(1+j.length):=ab;have jo:=HB.out.size
     have bF:=ae (show br (wc.alloc (.cells #[I m0,I m1,I m2,I m3,I m4] 3)) (.slice (some ⟨wc.heap.size,0,none⟩) 5 5) [m0,m1,m2,m3,m4] from
      Flat.qD rfl ai (fun j u hu=>by rw[eP,(ay.new wc #[I m0,I m1,I m2,I m3,I m4] 3).cell j];simpa [iv] using hu))
     have HGa:=ae (HG.out.alloc (.cells #[I m0,I m1,I m2,I m3,I m4] 3));have UH:=ae (show aw wc (wc.alloc (.cells #[I m0,I m1,I m2,I m3,I m4] 3)) from(Below.refl _ _).alloc ax _)
     rcases hA with rfl|rfl|rfl
     all_goals (go_wp2_with (go_at_call 75;refine(zu.out _ _ HGa.out bF.out).mono ?_;rintro e w5 ⟨rfl,D5⟩;replace D5:=ae D5))
     all_goals go_meet
     all_goals exact⟨aF Value.string ((aF (_++·) (bp [32] j)).trans (bp hd ([32]++j))),by simp;omega,ae (js.out.kept (UH.out.trans (D5.out.mono UH.out.size)) js.out.lt),ae (HB.out.trans ((UH.out.trans (D5.out.mono UH.out.size)).mono HB.out.size))⟩
    ·by_cases h7:k=7
     ·subst h7;have hX:=HX.out;rw[af ab,aj rfl] at hX;subst hX;clear hA;go_wp2_with fail;go_meet;exact⟨rfl,ab,js,HB⟩
     ·have hX:=HX.out;rw[af hA,af h7] at hX;have MA:=mM.out arg (by simp[Ev.ints]);have Hia:=ae (yR arg MA _ HG.out);have xd:=iR arg MA;generalize Lib.itoa arg=t at hX Hia xd;subst hX;unfold sv at Hia;have rm:¬9223372036854775807<1+t.length:=ab;have Mz:¬9223372036854775807<hd.length+(1+t.length):=ab;have ET:k=1\/k=2\/k=4:=ab;have jo:=HB.out.size;clear hA h7
      rcases ET with rfl|rfl|rfl
      all_goals (go_wp2_with (go_at_call 29;refine Hia.out.mono ?_;rintro e w5 ⟨rfl,D5⟩;replace D5:=ae D5))
      all_goals go_meet
      all_goals exact⟨aF Value.string ((aF (_++·) (bp [32] t)).trans (bp hd ([32]++t))),by simp;omega,ae (js.out.kept D5.out js.out.lt),ae (HB.out.trans (D5.out.mono HB.out.size))⟩
   case rest=>
    obtain⟨rfl,qP,PM,iT⟩:=hcut;have Hp:=ae (akx x _ (Hg.out.below iT.out) ab);unfold EvR at Hp
    cases iC:il x with
    |none=>
     rw[iC] at Hp;have HF:=ae (show T=[] by rw[<-HT.out,af (by rw[iC];simp)]);clear HT HX iC;unfold sv at Hp
     go_wp2_with (go_at_call 76;refine Hp.out.mono ?_;rintro e w5 ⟨rfl,D5⟩;unfold gQ;replace D5:=ae D5)
     go_ret;exact⟨by rw[HF.out];rfl,(iT.out.trans (D5.out.mono iT.out.size)).alloc (by have:=iT.out.size;have:=D5.out.size;omega) _⟩
    |some e2=>
     rw[iC] at Hp;have HF:=ae (show T=if e2=⟨k,node,arg,⟨m0,m1,m2,m3,m4⟩⟩ then x else [] by rw[<-HT.out,iC];simp);clear HT HX iC;obtain⟨a0,a1,a2,⟨a3,a4,a5,a6,a7⟩⟩:=e2
     have hz:=fun W=>adT a0 a1 a2 a3 a4 a5 a6 a7 k node arg m0 m1 m2 m3 m4 W
     obtain⟨ee,xI⟩:∃ee,ee=cL [a0,a1,a2,a3,a4,a5,a6,a7] [(k:Int),node,arg,m0,m1,m2,m3,m4]:=⟨_,rfl⟩
     rw[<-xI] at hz
     have HE:=ae (show T=if ee=true then x else [] by
      rw[HF.out,xI]
      by_cases h:[a0,a1,a2,a3,a4,a5,a6,a7]=[(k:Int),node,arg,m0,m1,m2,m3,m4]
      ·rw[Kr h,aj rfl,aj (by simp only[List.cons.injEq] at h;obtain⟨e1,e2,e3,e4,e5,e6,e7,e8,_⟩:=h;rw[e1,e2,e3,e4,e5,e6,e7,e8])]
      ·rw[Ks h,af (fun e=>h (by injection e with e1 e2 e3 e4;injection e4 with e4 e5 e6 e7 e8;rw[e1,e2,e3,e4,e5,e6,e7,e8]))];rfl)
     clear xI HF;unfold sv at Hp
     go_upto_region 13 with(go_at_call 76;refine Hp.out.mono ?_;rintro e w5 ⟨rfl,D5⟩;unfold gQ;replace D5:=ae D5)
     have h5:=(PM.out.kept D5.out PM.out.lt).alloc (.cells #[I a0,I a1,I a2,I a3,I a4,I a5,I a6,I a7] 41);have h6:=ay.new w5 #[I a0,I a1,I a2,I a3,I a4,I a5,I a6,I a7] 41;have mJ:=ae ((iT.out.trans (D5.out.mono iT.out.size)).alloc (by have:=iT.out.size;have:=D5.out.size;omega) (.cells #[I a0,I a1,I a2,I a3,I a4,I a5,I a6,I a7] 41))
     obtain⟨V,hV⟩:∃V,V=w5.alloc (.cells #[I a0,I a1,I a2,I a3,I a4,I a5,I a6,I a7] 41):=⟨_,rfl⟩
     obtain⟨G,hG⟩:∃G,G=w5.heap.size:=⟨_,rfl⟩
     rw[<-hV] at h5 h6 mJ⊢;rw[<-hG] at h6⊢;clear hV hG c0 c2 n0 n1 n2 n3 n4;have x0:=h5.cell 0;have x1:=h5.cell 1;have x2:=h5.cell 2;have x3:=h5.cell 3;have x4:=h5.cell 4;have x5:=h5.cell 5;have x6:=h5.cell 6;have x7:=h5.cell 7;have y0:=h6.cell 0;have y1:=h6.cell 1;have y2:=h6.cell 2;have y3:=h6.cell 3;have y4:=h6.cell 4;have y5:=h6.cell 5;have y6:=h6.cell 6;have y7:=h6.cell 7
     cases ee with
     |true=>
      go_wp2_with fail;go_ret;exact⟨by rw[HE.out];rfl,mJ.out⟩
     |false=>
      go_wp2_with fail;go_ret;exact⟨by rw[HE.out];rfl,mJ.out⟩
end
section
open Go.RowKit
def Ju (q:Qn):aq:=ew.getD q.kind.toNat []++[32]++bJ 46 ([q.node,q.handler,q.count].map Lib.itoa)++[32]++Lib.itoa q.index
theorem akM {q:Qn}(h:CY q):Ju q=ja q:=by
 unfold ja;rw[aj ((Fy q).2 h)];unfold Ju Ms;obtain⟨hk,⟨ha,hb,hc⟩,hi⟩:=h;rw[PL hi.1,abA _ (by intro x hx;simp at hx;omega)]
theorem azK (q:Qn):(if kp (Ju q)=some q then Ju q else [])=ja q:=by
 by_cases h:CY q
 ·obtain⟨s,hs⟩:=oF.zr h;have h1:=akM h;have h2:=hs.parse;rw[<-hs.text,<-h1] at h2;rw[aj h2,h1]
 ·have h1:ja q=[]:=by
   unfold ja;rw[af (fun hw=>h ((Fy q).1 hw))]
  rw[h1];split
  ·rename_i hp;have ht:=(akF hp).text;rw[h1] at ht;exact ht.symm
  ·rfl
end
end Go.Proofs.YtkanpepkdcmpmaaGreatDoor
