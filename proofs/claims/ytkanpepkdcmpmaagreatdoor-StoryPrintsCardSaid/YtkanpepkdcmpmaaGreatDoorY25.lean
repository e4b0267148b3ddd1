import Derived.Test.YtkanpepkdcmpmaaGreatDoorY24
set_option maxHeartbeats 40000000
set_option maxRecDepth 100000
set_option linter.all false
namespace Go.Proofs.YtkanpepkdcmpmaaGreatDoor
section
open Go.RowKit
theorem abn (c:UInt8)(s:aj):c∉s\/∃a b,s=a++c::b/\c∉a:=by
 induction s with
 |nil=>exact .inl ai
 |cons x s ih=>
  by_cases hx:x=c
  ·subst hx;exact .inr ⟨[],s,rfl,ai⟩
  ·rcases ih with h|⟨a,b,rfl,h⟩
   ·exact .inl (by simp only[cz,not_or];exact⟨fun e=>hx e.symm,h⟩)
   ·exact .inr ⟨x::a,b,rfl,by simp only[cz,not_or];exact⟨fun e=>hx e.symm,h⟩⟩
theorem abo {c:UInt8}{a:aj}(h:c∉a):bW c a=[a]:=by
 induction a with
 |nil=>rfl
 |cons x a ih=>
  unfold bW;rw[af (fun e=>h (by rw[e];simp)),ih (fun e=>h (jC _ e))]
theorem abp {c:UInt8}{a:aj}(h:c∉a)(b:aj):bW c (a++c::b)=a::bW c b:=by
 induction a with
 |nil=>simp[bW]
 |cons x a ih=>
  rw[List.cons_append]
  conv=>lhs;unfold bW
  rw[af (fun e=>h (by rw[e];simp)),ih (fun e=>h (jC _ e))]
end
section
open Go.RowKit
def bI (c:UInt8):List aj->aj
 |[]=>[]
 |[a]=>a
 |a::b::l=>a++c::bI c (b::l)
theorem uq (c:UInt8)(a:aj){l:List aj}(h:l≠[]):bI c (a::l)=a++c::bI c l:=by
 cases l with
 |nil=>exact absurd rfl h
 |cons b l=>rfl
theorem akn (c:UInt8)(s:aj):bW c s≠[]:=by
 rcases abn c s with h|⟨a,b,rfl,h⟩
 ·rw[abo h];simp
 ·rw[abp h];simp
theorem ako (c:UInt8):∀(f:Nat) (s:aj),s.length<f->bI c (bW c s)=s
 |0,_,h=>ab
 |f+1,s,hf=>by
  rcases abn c s with h|⟨a,b,rfl,h⟩
  ·rw[abo h];rfl
  ·rw[abp h,uq c a (akn c b),ako c f b (by simp at hf;omega)]
theorem abq (c:UInt8)(s:aj):bI c (bW c s)=s:=ako c _ s (Nat.lt_succ_self _)
theorem CX (c:UInt8):∀(l:List aj),l≠[]->(∀a∈l,c∉a)->bW c (bI c l)=l
 |[],h,_=>absurd rfl h
 |[a],_,h=>abo (h a ai)
 |a::b::l,_,h=>by
  show bW c (a++c::bI c (b::l))=_
  rw[abp (h a ai),CX c (b::l) ai (fun x hx=>h x (jC _ hx))]
theorem rF (n:Nat){c:UInt8}(h:c.toNat<48):c∉Lib.decDigits n:=fun hc=>by
 have:=SU n c hc;omega
theorem Uu:∀(ws:List aj) (l:List Nat),ws.mapM num=some l↔ws=l.map Lib.decDigits/\∀n∈l,n<=2147483647
 |[],l=>by
  simp only[List.mapM_nil];constructor
  ·intro h;injection h with h;subst h;simp
  ·rintro⟨h,_⟩;have:=List.map_eq_nil_iff.1 h.symm;subst this;rfl
 |w::ws,l=>by
  rw[Gf];constructor
  ·intro h
   cases hn:num w with
   |none=>rw[hn] at h;cases h
   |some n=>
    rw[hn] at h
    cases hm:ws.mapM num with
    |none=>rw[hm] at h;cases h
    |some ns=>
     rw[hm] at h;injection h with h;subst h;obtain⟨h1,h2⟩:=(Uu ws ns).1 hm;obtain⟨h3,h4⟩:=(yR w n).1 hn;refine⟨by rw[dF,<-h1,<-h4],fun x hx=> ?_⟩
     rcases cz.1 hx with rfl|hx
     ·exact h3
     ·exact h2 x hx
  ·rintro⟨h1,h2⟩
   cases l with
   |nil=>simp at h1
   |cons n ns=>
    rw[dF] at h1;injection h1 with h3 h4;have hn:=(yR w n).2 ⟨h2 n ai,h3⟩;have hm:=(Uu ws ns).2 ⟨h4,fun x hx=>h2 x (jC _ hx)⟩;rw[hn,hm];rfl
theorem Mk (s:aj)(m:Nat)(hm:1<=m)(l:List Nat):jw s m=some l↔s=bI 46 (l.map Lib.decDigits)/\(∀n∈l,n<=2147483647)/\l.length=m:=by
 unfold jw;constructor
 ·intro h;split at h
  ·rename_i hl;obtain⟨h1,h2⟩:=(Uu _ _).1 h;refine⟨by rw[<-h1,abq],h2,?_⟩;rw[<-hl,h1,dE]
  ·cases h
 ·rintro⟨rfl,h2,h3⟩
  have hne:l.map Lib.decDigits≠[]:=fun e=>by
   have:=aG List.length e;rw[dE,h3] at this;simp at this;omega
  have hs:=CX 46 (l.map Lib.decDigits) hne (fun a ha=>by
   obtain⟨n,_,rfl⟩:=dm.1 ha
   exact rF n au)
  rw[hs,dE,aq h3];exact(Uu _ _).2 ⟨rfl,h2⟩
theorem akp (l:List Nat):iI (l.map fun n:Nat=>(n:Int))=bI 46 (l.map Lib.decDigits):=by
 induction l with
 |nil=>rfl
 |cons a l ih=>
  cases l with
  |nil=>rfl
  |cons b l=>
   simp only[dF,iI,fJ] at ih⊢;rw[ih];simp[bI]
theorem abr {words:List aj}{w:aj}:∀{n k:Nat},zh words w n=k->k≠0->0<k/\k<n/\w=words.getD k []
 |0,k,h,h0=>absurd h.symm h0
 |n+1,k,h,h0=>by
  rw[TI] at h;split at h
  ·rename_i hc;subst h;exact⟨hc.1,ab,hc.2⟩
  ·obtain⟨h1,h2,h3⟩:=abr h h0;exact⟨h1,ab,h3⟩
theorem CY {k:Nat}(h:0<k/\k<8):kindOf dL (dL.getD k [])=k/\(32:UInt8)∉dL.getD k []:=by
 have key:∀x:Fin 8,0<x.val->kindOf dL (dL.getD x.val [])=x.val/\(32:UInt8)∉dL.getD x.val []:=au;exact key ⟨k,h.2⟩ h.1
theorem akq {k:Nat}(h:0<k/\k<4):kindOf eh (eh.getD k [])=k/\(32:UInt8)∉eh.getD k []:=by
 have key:∀x:Fin 4,0<x.val->kindOf eh (eh.getD x.val [])=x.val/\(32:UInt8)∉eh.getD x.val []:=au;exact key ⟨k,h.2⟩ h.1
end
section
open Go.RowKit
variable {e:Ev}
def Pq (k nd r:Nat):aj:=bI 32 [dL.getD k [],Lib.decDigits nd,Lib.decDigits r]
def Pr (k nd:Nat)(l:List Nat):aj:=bI 32 [dL.getD k [],Lib.decDigits nd,bI 46 (l.map Lib.decDigits)]
def Ps (nd:Nat):aj:=bI 32 [dL.getD 7 [],Lib.decDigits nd]
inductive mV:Ev->aj->Prop where
 |f1 (k nd r:Nat) (hk:k=1\/k=2\/k=4) (hn:nd<12) (hr:r<=2147483647):mV ⟨k,nd,r,⟨0,0,0,0,0⟩⟩ (Pq k nd r)
 |f2 (k nd a b c d x:Nat) (hk:k=3\/k=5\/k=6) (hn:nd<12) (ha:a<12) (hb:b<40) (hc:c<=2147483647) (hd:d<=2147483647) (hx:x<=2147483647):mV ⟨k,nd,0,⟨a,b,c,d,x⟩⟩ (Pr k nd [a,b,c,d,x])
 |f3 (nd:Nat) (hn:nd<12):mV ⟨7,nd,0,⟨0,0,0,0,0⟩⟩ (Ps nd)
theorem mV.text{s:aj}(h:mV e s):ei e=s:=by
 have bU:sQ e:=by
  cases h with
  |f1 k nd r hk hn hr=>exact⟨by dsimp only;omega,by dsimp only;omega,.inl ⟨by dsimp only;omega,by dsimp only;omega,rfl⟩⟩
  |f2 k nd a b c d x hk hn ha hb hc hd hx=>exact⟨by dsimp only;omega,by dsimp only;omega,.inr (.inl ⟨by dsimp only;omega,rfl,by dsimp only;omega,by dsimp only;omega,by dsimp only;omega⟩)⟩
  |f3 nd hn=>exact⟨by dsimp only;omega,by dsimp only;omega,.inr (.inr ⟨rfl,rfl,rfl⟩)⟩
 unfold ei;rw[aq ((Fk e).2 bU)]
 cases h with
 |f1 k nd r hk hn hr=>
  unfold CV;dsimp only;rw[aq ab];simp[Pq,bI]
 |f2 k nd a b c d x hk hn ha hb hc hd hx=>
  unfold CV;dsimp only;rw[af ab,af ab];have:=akp [a,b,c,d,x];simp only[dF,mF] at this;simp only[bQ.ints];rw[this];simp[Pr,bI]
 |f3 nd hn=>
  unfold CV;dsimp only;rw[af ab,aq rfl];simp[Ps,bI]
theorem mV.zr(h:sQ e):∃s,mV e s:=by
 obtain⟨kind,node,arg,⟨m0,m1,m2,m3,m4⟩⟩:=e;obtain⟨h0,h1,h⟩:=h;dsimp only at h0 h1 h
 obtain⟨nd,rfl⟩:∃n:Nat,node=n:=⟨node.toNat,ab⟩
 rcases h with⟨hk,hr,hm⟩|⟨hk,rfl,⟨ha,hb,hc⟩,hd,hx⟩|⟨rfl,rfl,hm⟩
 ·obtain⟨k,rfl⟩:∃n:Nat,kind=n:=⟨kind.toNat,ab⟩
  obtain⟨r,rfl⟩:∃n:Nat,arg=n:=⟨arg.toNat,ab⟩
  rw[hm];exact⟨_,.f1 k nd r ab ab ab⟩
 ·obtain⟨k,rfl⟩:∃n:Nat,kind=n:=⟨kind.toNat,ab⟩
  obtain⟨a,rfl⟩:∃n:Nat,m0=n:=⟨m0.toNat,ab⟩
  obtain⟨b,rfl⟩:∃n:Nat,m1=n:=⟨m1.toNat,ab⟩
  obtain⟨c,rfl⟩:∃n:Nat,m2=n:=⟨m2.toNat,ab⟩
  obtain⟨d,rfl⟩:∃n:Nat,m3=n:=⟨m3.toNat,ab⟩
  obtain⟨x,rfl⟩:∃n:Nat,m4=n:=⟨m4.toNat,ab⟩
  exact⟨_,.f2 k nd a b c d x ab ab ab ab ab ab ab⟩
 ·rw[hm];exact⟨_,.f3 nd ab⟩
theorem Pt{n:Nat}(h:n<=2147483647):jw (Lib.decDigits n) 1=some [n]:=(Mk _ 1 ab [n]).2 ⟨rfl,by simpa using h,rfl⟩
theorem Uv(l:List Nat):(32:UInt8)∉bI 46 (l.map Lib.decDigits):=by
 induction l with
 |nil=>simp[bI]
 |cons a l ih=>
  cases l with
  |nil=>exact rF a au
  |cons b l=>
   rw[dF,uq 46 _ ai];intro h
   rcases fL.1 h with h|h
   ·exact rF a au h
   ·rcases cz.1 h with h|h
    ·exact absurd h au
    ·exact ih h
theorem mV.parse{s:aj}(h:mV e s):gY s=some e:=by
 cases h with
 |f1 k nd r hk hn hr=>
  obtain⟨h1,h2⟩:=CY (k:=k) ab;unfold gY Pq
  rw[CX 32 _ ai (by
   intro a ha;simp only[cz,jD,kL] at ha
   rcases ha with rfl|rfl|rfl
   ·exact h2
   ·exact rF _ au
   ·exact rF _ au)]
  simp only[Dz,DA,List.length_cons,List.length_nil];rw[h1,af (by rw[af ab];omega),Pt ab,Pt hr];simp only[];rw[af ab,af ab,af ab]
 |f2 k nd a b c d x hk hn ha hb hc hd hx=>
  obtain⟨h1,h2⟩:=CY (k:=k) ab;unfold gY Pr
  rw[CX 32 _ ai (by
   intro y hy;simp only[cz,jD,kL] at hy
   rcases hy with rfl|rfl|rfl
   ·exact h2
   ·exact rF _ au
   ·exact Uv _)]
  simp only[Dz,DA,List.length_cons,List.length_nil];rw[h1,af (by rw[af ab];omega),Pt ab,(Mk _ 5 ab [a,b,c,d,x]).2 ⟨rfl,by simp;omega,rfl⟩];simp only[];rw[af ab,aq hk,aq ⟨ha,hb⟩]
 |f3 nd hn=>
  obtain⟨h1,h2⟩:=CY (k:=7) ab;unfold gY Ps
  rw[CX 32 _ ai (by
   intro y hy;simp only[cz,jD,kL] at hy
   rcases hy with rfl|rfl
   ·exact h2
   ·exact rF _ au)]
  simp only[Dz,DA,List.length_cons,List.length_nil];rw[h1,af ai,Pt ab];simp only[];rw[af ab,af ab];simp
theorem abt{s:aj}{n:Nat}(h:jw s 1=some [n]):s=Lib.decDigits n/\n<=2147483647:=by
 obtain⟨h1,h2,_⟩:=(Mk s 1 ab [n]).1 h;exact⟨h1,h2 n ai⟩
theorem akr{s:aj}(h:gY s=some e):mV e s:=by
 have hj:=abq 32 s;unfold gY at h;generalize bW 32 s=ws at h hj;simp only[] at h;generalize hk:kindOf dL (ws.getD 0 [])=k at h;by_cases hc:k=0\/ws.length≠(if k=7 then 2 else 3)
 ·rw[aq hc] at h;cases h
 ·rw[af hc] at h
  have aY:k≠0:=fun e=>hc (.inl e)
  have hlen:ws.length=if k=7 then 2 else 3:=Decidable.byContradiction fun e=>hc (.inr e)
  obtain⟨k1,k2,hw⟩:=abr (words:=dL) (n:=8) hk aY;split at h
  ·rename_i nd jx;obtain⟨hd,_⟩:=abt jx;split at h
   ·cases h
   ·rename_i hn;split at h
    ·rename_i Ls;rw[af ab] at hlen
     obtain⟨w0,w1,w2,rfl⟩:∃a b c,ws=[a,b,c]:=by
      match ws,hlen with
      |[a,b,c],_=>exact⟨a,b,c,rfl⟩
     simp only[Dz,DA] at hw hd h;split at h
     ·rename_i a b c d x Jf;obtain⟨g1,g2,_⟩:=(Mk _ 5 ab _).1 Jf;split at h
      ·rename_i eL;injection h with h;subst h;subst hw hd g1 hj;exact .f2 k nd a b c d x Ls ab eL.1 eL.2 (g2 c ai) (g2 d ai) (g2 x ai)
      ·cases h
     ·cases h
    ·split at h
     ·rename_i CN;subst CN;rw[aq rfl] at hlen
      obtain⟨w0,w1,rfl⟩:∃a b,ws=[a,b]:=by
       match ws,hlen with
       |[a,b],_=>exact⟨a,b,rfl⟩
      simp only[Dz,DA] at hw hd h;injection h with h;subst h;subst hw hd hj;exact .f3 nd ab
     ·rename_i Ls CN;rw[af CN] at hlen
      obtain⟨w0,w1,w2,rfl⟩:∃a b c,ws=[a,b,c]:=by
       match ws,hlen with
       |[a,b,c],_=>exact⟨a,b,c,rfl⟩
      simp only[Dz,DA] at hw hd h;split at h
      ·rename_i r Jf;obtain⟨g1,g2⟩:=abt Jf;injection h with h;subst h;subst hw hd g1 hj;exact .f1 k nd r ab ab g2
      ·cases h
  ·cases h
end
section
open Go.RowKit
def Ml (k:Nat)(l:List Nat)(i:Nat):aj:=bI 32 [eh.getD k [],bI 46 (l.map Lib.decDigits),Lib.decDigits i]
inductive ow:Qn->aj->Prop where
 |f (k a b c i:Nat) (hk:0<k/\k<4) (ha:a<12) (hb:b<41) (hc:c<=2147483647) (hi:i<=2147483647):ow ⟨a,b,c,k,i⟩ (Ml k [a,b,c] i)
theorem ow.text {q:Qn}{s:aj}(h:ow q s):gQ q=s:=by
 cases h with
 |f k a b c i hk ha hb hc hi=>
  have bU:CO ⟨a,b,c,k,i⟩:=⟨by dsimp only;omega,by dsimp only;omega,by dsimp only;omega⟩
  unfold gQ;rw[aq ((Fl _).2 bU)];unfold Mj;dsimp only;have:=akp [a,b,c];simp only[dF,mF] at this;rw[this];simp[Ml,bI]
theorem ow.zr {q:Qn}(h:CO q):∃s,ow q s:=by
 obtain⟨a,b,c,k,i⟩:=q;obtain⟨hk,⟨ha,hb,hc⟩,hi⟩:=h;dsimp only at hk ha hb hc hi
 obtain⟨k,rfl⟩:∃n:Nat,k=n:=⟨k.toNat,ab⟩
 obtain⟨a,rfl⟩:∃n:Nat,a=n:=⟨a.toNat,ab⟩
 obtain⟨b,rfl⟩:∃n:Nat,b=n:=⟨b.toNat,ab⟩
 obtain⟨c,rfl⟩:∃n:Nat,c=n:=⟨c.toNat,ab⟩
 obtain⟨i,rfl⟩:∃n:Nat,i=n:=⟨i.toNat,ab⟩
 exact⟨_,.f k a b c i ab ab ab ab ab⟩
theorem ow.parse {q:Qn}{s:aj}(h:ow q s):jW s=some q:=by
 cases h with
 |f k a b c i hk ha hb hc hi=>
  obtain⟨h1,h2⟩:=akq hk;unfold jW Ml
  rw[CX 32 _ ai (by
   intro y hy;simp only[cz,jD,kL] at hy
   rcases hy with rfl|rfl|rfl
   ·exact h2
   ·exact Uv _
   ·exact rF _ au)]
  simp only[Dz,DA,List.length_cons,List.length_nil];rw[h1,af ab,Pt hi,(Mk _ 3 ab [a,b,c]).2 ⟨rfl,by simp;omega,rfl⟩];simp only[];rw[aq ⟨ha,hb⟩]
theorem akt {s:aj}{q:Qn}(h:jW s=some q):ow q s:=by
 have hj:=abq 32 s;unfold jW at h;generalize bW 32 s=ws at h hj;simp only[] at h;generalize hk:kindOf eh (ws.getD 0 [])=k at h;by_cases hc:k=0\/ws.length≠3
 ·rw[aq hc] at h;cases h
 ·rw[af hc] at h
  have aY:k≠0:=fun e=>hc (.inl e)
  have hlen:ws.length=3:=Decidable.byContradiction fun e=>hc (.inr e)
  obtain⟨k1,k2,hw⟩:=abr (words:=eh) (n:=4) hk aY
  obtain⟨w0,w1,w2,rfl⟩:∃a b c,ws=[a,b,c]:=by
   match ws,hlen with
   |[a,b,c],_=>exact⟨a,b,c,rfl⟩
  simp only[Dz,DA] at hw h;split at h
  ·rename_i a b c i hd3 jx;obtain⟨g1,g2,_⟩:=(Mk _ 3 ab _).1 hd3;obtain⟨g3,g4⟩:=abt jx;split at h
   ·rename_i eL;injection h with h;subst h;subst hw g1 g3 hj;exact .f k a b c i ⟨k1,k2⟩ eL.1 eL.2 (g2 c ai) g4
   ·cases h
  ·cases h
end
section
open Go.RowKit
def abu (W:World)(g n m:Nat):Prop:=∀j,j<n->∃t:aj,t.length<=m/\W.cell? ⟨g,j,none⟩=some (.string ⟨t.toArray⟩)
theorem abu.kept {W X:World}{g n m:Nat}(h:abu W g n m)(_hn:0<n)(hb:aw W X):abu X g n m:=fun j hj=>by
 obtain⟨t,h1,h2⟩:=h j hj;have hlt:=iT _ _ h2;exact⟨t,h1,(hb.cell (p:=⟨g,j,none⟩) (by simpa using hlt)).trans h2⟩
end
section
open Go.RowKit
theorem aku:(Tryz.prog.info? 9).map (fun i=>(i.zero,i.size,i.bytes))=some (some (.string ⟨#[]⟩),1,16):=ah
theorem akv (c:UInt8):∀l:List aj,Lib.join l [c]=bI c l
 |[]=>rfl
 |[a]=>by simp[Lib.join,bI,List.intercalate]
 |a::b::l=>by
  have ih:=akv c (b::l);rw[uq c a ai,<-ih];simp[Lib.join,List.intercalate]
def xR (l:List Int):List Value:=l.map fun n=>sv (Lib.itoa n)
theorem iP (n:Int)(h:bY n):(Lib.itoa n).length<=20:=by
 obtain⟨h1,h2⟩:=h;by_cases h0:0<=n
 ·obtain⟨m,rfl⟩:∃m:Nat,n=m:=⟨n.toNat,ab⟩
  rw[Lib.itoa_nonneg];have:=Pp 18 m ab;omega
 ·unfold Lib.itoa;rw[aq ab];have:=Pp 18 n.natAbs ab;simp;omega
theorem Bf (c:UInt8)(m:Nat):∀l:List aj,(∀a∈l,a.length<=m)->(bI c l).length<=(m+1)*l.length
 |[],_=>by simp[bI]
 |[a],h=>by
  have:=h a ai;simp[bI];omega
 |a::b::l,h=>by
  have h1:=h a ai;have h2:=Bf c m (b::l) (fun x hx=>h x (jC _ hx));rw[uq c a ai];simp only[List.length_append,List.length_cons] at h2⊢;have e:(m+1)*(l.length+1+1)=(m+1)*(l.length+1)+(m+1):=Nat.mul_succ _ _;rw[e];omega
theorem akw (c:UInt8)(l:List Int)(h31:∀n∈l,bY n)(hl:l.length<=100000)(W:World){B:Nat}{v:Value}(h:W.ownsRow B 9 1 v l.length (xR l)):
  Calls Tryz.prog 79 #[v,.string ⟨#[c]⟩] W fun e w'=>e=.returned (sv (bI c (l.map Lib.itoa)))/\aw W w':=by
 obtain⟨hlen,h0|⟨g,cap,cur,rfl,hb,hg,hn,hc,h1,h2⟩⟩:=id h
 ·obtain⟨rfl,hz⟩:=h0;have tN:l=[]:=BC.1 hz;subst tN;refine(Tryz.strings_Join_none none 0 ⟨#[c]⟩ W).mono ?_;rintro e w' ⟨rfl,rfl⟩;exact⟨rfl,Below.refl _ _⟩
 ·have hlt:=(h.lt g rfl).2
  have YR:=fun j u hu=>h.cells (g:=g) rfl j u hu
  have hx:(l.map fun n=>(⟨(Lib.itoa n).toArray⟩:ByteArray)).length=l.length:=dE _
  have hm:((l.map fun n=>(⟨(Lib.itoa n).toArray⟩:ByteArray)).map (·.data.toList))=l.map Lib.itoa:=by simp[List.map_map,Function.comp_def]
  have hj:=akv c (l.map Lib.itoa)
  have hJ:=Tryz.strings_Join g 0 cap (l.map fun n=>(⟨(Lib.itoa n).toArray⟩:ByteArray)) ⟨#[c]⟩ W (fun j x Mm=>by
   have:=YR j (.string x) (by
    rw[fh] at Mm;simp only[xR,fh]
    cases hq:l[j]? with
    |none=>rw[hq] at Mm;cases Mm
    |some q=>
     rw[hq] at Mm;simp only[yl,aA] at Mm⊢;rw[<-Mm]
     rfl)
   have lv:(⟨g,0,none⟩:Addr).add j=⟨g,0+j,none⟩:=by unfold Addr.add;split<;>simp_all
   rw[lv] at this
   exact this) hlt (by rw[hx];omega) (by rw[hx];exact hn) (by
   rw[hm]
   show(Lib.join (l.map Lib.itoa) [c]).length<=_
   rw[hj]
   have:=Bf c 20 (l.map Lib.itoa) (fun a ha=>by
    obtain⟨n,hn,rfl⟩:=dm.1 ha
    exact iP n (h31 n hn))
   rw[dE] at this
   omega)
  rw[hx,hm] at hJ;have e1:Lib.join (l.map Lib.itoa) [c]=bI c (l.map Lib.itoa):=hj;have e2:(⟨#[c]⟩:ByteArray).data.toList=[c]:=rfl;rw[e2,e1] at hJ;exact hJ
end
section
open Go.RowKit
theorem azw (l:List Int)(h31:∀n∈l,bY n)(hl:l.length<=100000)(v:Value)(w:World)(hg:Gl w)(hv:br w v l):
  Calls Tryz.prog 75 #[v] w fun e w'=>e=.returned (sv (bI 46 (l.map Lib.itoa)))/\aw w w':=by
 obtain⟨ka,ca,rfl,hm⟩:=hv.open;have Hv:=ae hv;have Hg:=ae hg;have Pv:=ae h31;clear hv hg h31;unfold sv;go_enter Tryz.func75,Tryz.ntmps75;go_wp2_with fail;go_loopw [3,8] (fun vo vi wr=>∃(k:Nat) (av:Option Addr) (mW:Nat),vo=.slice av k mW/\vi=.int .i64 k/\k<=l.length/\Hid (aw w wr)/\Hid (wr.ownsRow w.heap.size 9 1 (.slice av k mW) k (xR (l.take k)))) (fun _ vi _=>l.length-(intOf vi).toNat)
 case atStart=>exact⟨0,none,0,rfl,rfl,ab,ae (Below.refl _ _),ae (ko _ _ _ _)⟩
 case round=>
  obtain⟨k,av,mW,rfl,rfl,hk,Hb,jd⟩:=hrel;by_cases hlt:k<l.length
  ·obtain⟨b,o,rfl,x0⟩:=br.at (Hv.out.kept Hb.out ax) (i:=k) (x:=l[k]) (by simp[hlt]);have hn:=Pv.out l[k] (bP hlt);have lj:=ae (EC l[k] hn wr (Hg.out.below (Hb.out.mono ax)))
   have db:xR (l.take (k+1))=xR (l.take k)++[sv (Lib.itoa l[k])]:=by
    unfold xR;rw[List.take_succ_eq_append_getElem hlt,de];rfl
   have vP:=ae db;clear db;generalize l[k]=n at x0 hn lj vP;generalize Lib.itoa n=t at lj vP;unfold sv at lj vP;have jZ:=Hb.out.size
   go_wp2_with (first
    |(go_at_call 29;refine lj.out.mono ?_;rintro e w1 ⟨rfl,D1⟩;have cL:=D1.size)
    |(at_builtin;go_must (refine tB rfl _ _ 108 rfl 9 _ 1 16 Tryz.underlying108 aku rfl ab ab w.heap.size (.slice av k mW) k (xR (l.take k)) rfl ((pj jd.out D1).alloc _) w1.heap.size 1 1 #[.string ⟨t.toArray⟩] 9 rfl (dV _ _) rfl rfl ab ab (by rw[World.size_alloc];omega) ?_);intro g5 ui w5 fQ gE je jy nJ eI))
   go_roundw
   case rel=>exact⟨k+1,_,ui,rfl,by go_num,ab,ae (((Hb.out.trans (D1.mono jZ)).alloc ab _).trans eI),ae (by rw[vP.out];exact jy)⟩
   case measure=>simp[intOf];omega
  ·obtain rfl:k=l.length:=ab;have Px:=jd.out;rw[fK] at Px;have Hj:=ae (akw 46 l Pv.out hl wr Px);unfold sv at Hj;have jZ:=Hb.out.size
   go_wp2_with (go_at_call 79;refine Hj.out.mono ?_;rintro e w1 ⟨rfl,D1⟩)
   go_ret;exact⟨rfl,Hb.out.trans (D1.mono jZ)⟩
theorem akx (l:List Int)(h31:∀n∈l,bY n)(hl:l.length<=100000)(c:UInt8)(v:Value)(w:World)(hg:Gl w)(hv:br w v l):
  Calls Tryz.prog 32 #[sv [c],v] w fun e w'=>e=.returned (sv (bI c (l.map Lib.itoa)))/\aw w w':=by
 obtain⟨ka,ca,rfl,hm⟩:=hv.open;have Hv:=ae hv;have Hg:=ae hg;have Pv:=ae h31;clear hv hg h31;unfold sv;go_enter Tryz.func32,Tryz.ntmps32;go_wp2_with fail;go_loopw [5,10] (fun vo vi wr=>∃(k:Nat) (av:Option Addr) (mW:Nat),vo=.slice av k mW/\vi=.int .i64 k/\k<=l.length/\Hid (aw w wr)/\Hid (wr.ownsRow w.heap.size 9 1 (.slice av k mW) k (xR (l.take k)))) (fun _ vi _=>l.length-(intOf vi).toNat)
 case atStart=>exact⟨0,none,0,rfl,rfl,ab,ae (Below.refl _ _),ae (ko _ _ _ _)⟩
 case round=>
  obtain⟨k,av,mW,rfl,rfl,hk,Hb,jd⟩:=hrel;by_cases hlt:k<l.length
  ·obtain⟨b,o,rfl,x0⟩:=br.at (Hv.out.kept Hb.out ax) (i:=k) (x:=l[k]) (by simp[hlt]);have hn:=Pv.out l[k] (bP hlt);have lj:=ae (EC l[k] hn wr (Hg.out.below (Hb.out.mono ax)))
   have db:xR (l.take (k+1))=xR (l.take k)++[sv (Lib.itoa l[k])]:=by
    unfold xR;rw[List.take_succ_eq_append_getElem hlt,de];rfl
   have vP:=ae db;clear db;generalize l[k]=n at x0 hn lj vP;generalize Lib.itoa n=t at lj vP;unfold sv at lj vP;have jZ:=Hb.out.size
   go_wp2_with (first
    |(go_at_call 29;refine lj.out.mono ?_;rintro e w1 ⟨rfl,D1⟩;have cL:=D1.size)
    |(at_builtin;go_must (refine tB rfl _ _ 108 rfl 9 _ 1 16 Tryz.underlying108 aku rfl ab ab w.heap.size (.slice av k mW) k (xR (l.take k)) rfl ((pj jd.out D1).alloc _) w1.heap.size 1 1 #[.string ⟨t.toArray⟩] 9 rfl (dV _ _) rfl rfl ab ab (by rw[World.size_alloc];omega) ?_);intro g5 ui w5 fQ gE je jy nJ eI))
   go_roundw
   case rel=>exact⟨k+1,_,ui,rfl,by go_num,ab,ae (((Hb.out.trans (D1.mono jZ)).alloc ab _).trans eI),ae (by rw[vP.out];exact jy)⟩
   case measure=>simp[intOf];omega
  ·obtain rfl:k=l.length:=ab;have Px:=jd.out;rw[fK] at Px;have Hj:=ae (akw c l Pv.out hl wr Px);unfold sv at Hj;have jZ:=Hb.out.size
   go_wp2_with (go_at_call 79;refine Hj.out.mono ?_;rintro e w1 ⟨rfl,D1⟩)
   go_ret;exact⟨rfl,Hb.out.trans (D1.mono jZ)⟩
end
section
open Go.RowKit
def CZ (e:Ev):aj:=
 let h:=dL.getD e.kind.toNat []++[32]++Lib.itoa e.node
 if e.kind=3\/e.kind=5\/e.kind=6 then h++([32]++bI 46 (e.msg.ints.map Lib.itoa))
 else if e.kind=7 then h
 else h++([32]++Lib.itoa e.arg)
theorem abv:∀(l:List Int),(∀x∈l,0<=x)->iI l=bI 46 (l.map Lib.itoa)
 |[],_=>rfl
 |[n],h=>by
  have:=h n ai
  obtain⟨m,rfl⟩:∃m:Nat,n=m:=⟨n.toNat,ab⟩
  simp[iI,bI,Lib.itoa_nonneg]
 |n::m::l,h=>by
  have h0:=h n ai
  obtain⟨k,rfl⟩:∃m:Nat,n=m:=⟨n.toNat,ab⟩
  have ih:=abv (m::l) (fun x hx=>h x (jC _ hx));simp only[iI];rw[ih];simp[bI,Lib.itoa_nonneg]
theorem Py {n:Int}(h:0<=n):Lib.itoa n=Lib.decDigits n.toNat:=by
 obtain⟨k,rfl⟩:∃m:Nat,n=m:=⟨n.toNat,ab⟩
 rw[Lib.itoa_nonneg,fJ]
theorem aky {e:Ev}(h:sQ e):CZ e=ei e:=by
 unfold ei;rw[aq ((Fk e).2 h)];unfold CZ CV;obtain⟨h0,h1,h⟩:=h;simp only[];rw[Py h0]
 rcases h with⟨hk,hr,_⟩|⟨hk,_,⟨ha,hb,hc⟩,hd,hx⟩|⟨hk,_,_⟩
 ·rw[af ab,af ab,aq hk,Py hr.1];simp
 ·rw[aq hk,af ab,af ab,abv _ (by intro x hx;simp[bQ.ints] at hx;omega)];simp
 ·rw[af ab,aq hk,af ab,aq hk]
theorem azx (e:Ev):(if gY (CZ e)=some e then CZ e else [])=ei e:=by
 by_cases h:sQ e
 ·obtain⟨s,hs⟩:=mV.zr h;have h1:=aky h;have h2:=hs.parse;rw[<-hs.text,<-h1] at h2;rw[aq h2,h1]
 ·have h1:ei e=[]:=by
   unfold ei;rw[af (fun hw=>h ((Fk e).1 hw))]
  rw[h1];split
  ·rename_i hp;have hf:=akr hp;have ht:=hf.text;rw[h1] at ht;exact ht.symm
  ·rfl
end
section
open Go.RowKit
def Jk (q:Qn):aj:=eh.getD q.kind.toNat []++[32]++bI 46 ([q.node,q.handler,q.count].map Lib.itoa)++[32]++Lib.itoa q.index
theorem akz {q:Qn}(h:CO q):Jk q=gQ q:=by
 unfold gQ;rw[aq ((Fl q).2 h)];unfold Jk Mj;obtain⟨hk,⟨ha,hb,hc⟩,hi⟩:=h;rw[Py hi.1,abv _ (by intro x hx;simp at hx;omega)]
theorem azy (q:Qn):(if jW (Jk q)=some q then Jk q else [])=gQ q:=by
 by_cases h:CO q
 ·obtain⟨s,hs⟩:=ow.zr h;have h1:=akz h;have h2:=hs.parse;rw[<-hs.text,<-h1] at h2;rw[aq h2,h1]
 ·have h1:gQ q=[]:=by
   unfold gQ;rw[af (fun hw=>h ((Fl q).1 hw))]
  rw[h1];split
  ·rename_i hp;have ht:=(akt hp).text;rw[h1] at ht;exact ht.symm
  ·rfl
end
end Go.Proofs.YtkanpepkdcmpmaaGreatDoor
