import Derived.Test.YtngblilamkkikaaGreatDoorW0
import Derived.Lib.ParseIntB
import Derived.Lib.ItoaNum
import Derived.Lib.ItoaMem
import Derived.Lib.Strings
import Derived.Lib.IndexMore
import Derived.Lib.SplitLaws
set_option maxHeartbeats 40000000
set_option maxRecDepth 100000
set_option linter.all false
namespace Go.Proofs.YtngblilamkkikaaGreatDoor
section
open Go.RowKit
abbrev aw:=List UInt8
def mN (acc:Nat):aw->Option Nat
 |[]=>some acc
 |c::r=>if 48<=c.toNat/\c.toNat<=57 then mN (acc*10+(c.toNat-48)) r else none
def num (s:aw):Option Nat:=
 match mN 0 s with
 |some n=>if n<=2147483647/\Lib.decDigits n=s then some n else none
 |none=>none
theorem avC (s t:aw):∀acc,mN acc (s++t)=(mN acc s).bind (fun n=>mN n t):=by
 induction s with
 |nil=>intro acc;rfl
 |cons c s ih=>
  intro acc;simp only[List.cons_append,mN];split
  ·exact ih _
  ·rfl
theorem Nq (n:Nat)(h:¬n<10):Lib.decDigits n=Lib.decDigits (n/10)++[UInt8.ofNat (48+n%10)]:=by
 rw[Lib.decDigits,dif_neg h]
theorem Sd {n:Nat}(h:n<256):(UInt8.ofNat n).toNat=n:=UInt8.toNat_ofNat_of_lt' h
theorem YL (n:Nat):mN 0 (Lib.decDigits n)=some n:=by
 induction n using Nat.strongRecOn with
 |_ n ih=>
  by_cases h:n<10
  ·rw[Lib.decDigits_one h];simp only[mN];rw[Sd ab,aj ab];congr 1;omega
  ·rw[Nq n h,avC,ih (n/10) ab];simp only[Lu,mN];rw[Sd ab,aj ab];congr 1;omega
theorem xx (s:aw)(n:Nat):num s=some n↔n<=2147483647/\s=Lib.decDigits n:=by
 unfold num;constructor
 ·intro h;split at h
  ·split at h
   ·rename_i hh;injection h with h;subst h;exact⟨hh.1,hh.2.symm⟩
   ·cases h
  ·cases h
 ·rintro⟨h1,rfl⟩;rw[YL];simp[h1]
theorem JY (n:Nat):Lib.decDigits n≠[]:=by
 by_cases h:n<10
 ·rw[Lib.decDigits_one h];simp
 ·rw[Nq n h];simp
theorem Sg (n:Nat):∀c∈Lib.decDigits n,48<=c.toNat/\c.toNat<=57:=by
 induction n using Nat.strongRecOn with
 |_ n ih=>
  intro c hc;by_cases h:n<10
  ·rw[Lib.decDigits_one h] at hc;have hc:=rO.1 hc;subst hc;rw[Sd ab];omega
  ·rw[Nq n h] at hc
   rcases fJ.1 hc with hc|hc
   ·exact ih (n/10) ab c hc
   ·have hc:=rO.1 hc;subst hc;rw[Sd ab];omega
theorem avD:num []=none:=by
 cases h:num [] with
 |none=>rfl
 |some n=>exact absurd ((xx _ _).1 h).2.symm (JY n)
theorem ahq {M:Nat}(hM:M<18446744073709551616):∀(s:aw) (acc v:Nat),acc<=M->Lib.parseUintM M acc s=.ok v->mN acc s=some v/\v<=M
 |[],acc,v,ha,h=>by
  simp only[Lib.parseUintM] at h;injection h with h;subst h;exact⟨rfl,ha⟩
 |c::s,acc,v,ha,h=>by
  simp only[Lib.parseUintM] at h;split at h
  ·rename_i hd;split at h
   ·cases h
   ·split at h
    ·cases h
    ·rename_i h1 h2;simp only[mN,aj hd];exact ahq hM s _ v ab h
  ·cases h
theorem YM:∀(s:aw) (acc v:Nat),mN acc s=some v->acc<=v
 |[],acc,v,h=>by simp only[mN] at h;injection h with h;omega
 |c::s,acc,v,h=>by
  simp only[mN] at h;split at h
  ·have:=YM s _ v h;omega
  ·cases h
theorem ahr {M:Nat}(hM:M<18446744073709551610):∀(s:aw) (acc v:Nat),mN acc s=some v->v<=M->Lib.parseUintM M acc s=.ok v
 |[],acc,v,h,hv=>by simp only[mN] at h;injection h with h;subst h;rfl
 |c::s,acc,v,h,hv=>by
  simp only[mN] at h;split at h
  ·rename_i hd;have hg:=YM s _ v h;simp only[Lib.parseUintM,aj hd];rw[af ab,af ab];exact ahr hM s _ v h hv
  ·cases h
def de (s:aw):Nat:=match Lib.parseUintB 31 s with
 | .ok u=>u
 | .syntax=>0
 | .range=>2147483647
def isNum (s:aw):Bool:=(num s).isSome
theorem YN {s:aw}{n:Nat}(h:num s=some n):Lib.parseUintB 31 s=.ok n:=by
 obtain⟨h1,rfl⟩:=(xx _ _).1 h;unfold Lib.parseUintB;rw[af (JY n)];exact ahr aq _ _ _ (YL n) h1
theorem avE {s:aw}{n:Nat}(h:num s=some n):de s=n:=by
 unfold de;rw[YN h]
theorem YO {s:aw}{u:Nat}(h:Lib.parseUintB 31 s=.ok u):u<=2147483647/\decide (Lib.decDigits u=s)=isNum s:=by
 have h0:=h;unfold Lib.parseUintB at h;split at h
 ·cases h
 ·obtain⟨h1,h2⟩:=ahq (M:=2^31-1) aq s 0 u ab h;refine⟨h2,?_⟩;unfold isNum;by_cases hs:Lib.decDigits u=s
  ·rw[(xx s u).2 ⟨h2,hs.symm⟩];simp[hs]
  ·cases hn:num s with
   |none=>simp[hs]
   |some n=>
    have:=YN hn;rw[h0] at this;injection this with this;subst this;exact absurd ((xx _ _).1 hn).2.symm hs
theorem avF {s:aw}(h:∀u,Lib.parseUintB 31 s≠ .ok u):isNum s=false:=by
 unfold isNum
 cases hn:num s with
 |none=>rfl
 |some n=>exact absurd (YN hn) (h n)
theorem ahs (s:aw):de s<=2147483647:=by
 unfold de;split
 ·rename_i h;exact(YO h).1
 ·omega
 ·omega
def cutAt (cT:List aw)(s:aw):Nat:=cT.foldl (fun a p=>if 0<=Lib.index s p then min a (Lib.index s p).toNat else a) s.length
def bM (c:UInt8):aw->List aw
 |[]=>[[]]
 |x::r=>if x=c then []::bM c r else match bM c r with
  |h::t=>(x::h)::t
  |[]=>[[x]]
def eH (s:aw)(many:Nat):Option (List Nat):=
 if(bM 46 s).length=many then(bM 46 s).mapM num else none
def kindOf (words:List aw)(w:aw):Nat:=(List.range words.length).foldl (fun k i=>if 0<i/\w=words.getD i [] then i else k) 0
def dt:List aw:=[[],[115,116,97,114,116],[105,110,118,111,107,101],[100,101,108,105,118,101,114],[116,105,109,101,114],[100,114,111,112],[100,117,112],[99,114,97,115,104]]
def dM:List aw:=[[],[100,114,97,119],[116,105,99,107],[107,101,101,112]]
def rq:Ev:=⟨0,0,0,⟨0,0,0,0,0⟩⟩
def ru:Qn:=⟨0,0,0,0,0⟩
def dR (s:aw):Option Ev:=
 let ws:=bM 32 s
 let k:=kindOf dt (ws.getD 0 [])
 if k=0\/ws.length≠(if k=7 then 2 else 3) then none
 else match eH (ws.getD 1 []) 1 with
  |some [nd]=>
   if 12<=nd then none
   else if k=3\/k=5\/k=6 then
    match eH (ws.getD 2 []) 5 with
    |some [a,b,c,d,e]=>if a<12/\b<40 then some ⟨k,nd,0,⟨a,b,c,d,e⟩⟩ else none
    |_=>none
   else if k=7 then some ⟨7,nd,0,⟨0,0,0,0,0⟩⟩
   else match eH (ws.getD 2 []) 1 with
    |some [r]=>some ⟨k,nd,r,⟨0,0,0,0,0⟩⟩
    |_=>none
  |_=>none
def gQ (s:aw):Option Qn:=
 let ws:=bM 32 s
 let k:=kindOf dM (ws.getD 0 [])
 if k=0\/ws.length≠3 then none
 else match eH (ws.getD 1 []) 3,eH (ws.getD 2 []) 1 with
  |some [a,b,c],some [i]=>if a<12/\b<41 then some ⟨a,b,c,k,i⟩ else none
  |_,_=>none
structure RS where
 rest:aw
 bad:Bool
def RS.skip (r:RS)(p:aw):RS:=⟨Lib.trimPrefix r.rest p,r.bad⟩
def RS.has (r:RS)(p:aw):Bool:=Lib.hasPrefix r.rest p
def RS.must (r:RS)(c:Bool):RS:=⟨r.rest,r.bad|| !c⟩
def RS.text (r:RS)(cT:List aw):aw:=r.rest.take (cutAt cT r.rest)
def RS.until (r:RS)(cT:List aw):RS:=⟨r.rest.drop (cutAt cT r.rest),r.bad⟩
def RS.number (r:RS)(s:aw):RS:=⟨r.rest,r.bad|| !isNum s⟩
def RS.fe (r:RS):RS:=
 let r1:=r.until [[32,61,32],[93]]
 if(gQ (r.text [[32,61,32],[93]])).isSome then(r1.skip [32,61,32]).must (r1.has [32,61,32]) else r1.must false
def RS.im (r:RS):RS:=
 let r2:=(r.until [[47],[93]]).number (r.text [[47],[93]])
 (r2.skip [47]).must (r2.has [47])
def RS.pT (r:RS)(n:Nat):RS:=
 let r3:=(r.until [[93]]).number (r.text [[93]])
 if n<de (r.text [[93]]) then(r3.skip [93]).must (r3.has [93]) else r3.must false
def RS.zt (r:RS):Nat:=de (r.fe.text [[47],[93]])
def RS.mg (r:RS):RS:=r.fe.im.pT r.zt
def RS.eb (r:RS):aI:=⟨(gQ (r.text [[32,61,32],[93]])).getD ru,r.zt⟩
def RS.asks:Nat->RS->List aI×RS
 |0,r=>([],r)
 |k+1,r=>
  if r.bad then([],r)
  else if r.has [32,91] then
   let t:=(r.skip [32,91]).mg.asks k
   ((r.skip [32,91]).eb::t.1,t.2)
  else([],r)
def RS.ry (i:Nat):Int->List aw->RS->RS
 |_,[],r=>r
 |last,s::l,r=>RS.ry i (de s) l ((r.number s).must (decide (last<(de s:Int)) && decide (de s<i)))
def RS.tail (i:Nat)(r:RS):RS:=
 let r1:=r.skip [32,42]
 let r2:=r1.skip [32,97,102,116,101,114,32]
 let r3:=if r1.has [32,97,102,116,101,114,32] then⟨[],(RS.ry i (-1) (bM 44 r2.rest) r2).bad⟩ else r2
 r3.must (r3.rest==[])
def head (i:Nat):aw:=Lib.decDigits i++[58,32]
def ko:List aw:=[[32,91],[32,42],[32,97,102,116,101,114,32]]
def oN (i:Nat)(s:aw):RS:=let r:RS:=⟨s,false⟩;(r.skip (head i)).must (r.has (head i))
def xy (i:Nat)(s:aw):Option Ev:=dR ((oN i s).text ko)
def vK (i:Nat)(s:aw):RS:=((oN i s).until ko).must (xy i s).isSome
def sB (i:Nat)(s:aw):List aI×RS:=(vK i s).asks (s.length+1)
def Bj (i:Nat)(s:aw):RS:=RS.tail i (sB i s).2
def line (i:Nat)(s:aw):Option (Ev×List aI):=if(Bj i s).bad then none else some ((xy i s).getD rq,(sB i s).1)
def lines:Nat->List aw->Option (List Ev×List aI)
 |_,[]=>some ([],[])
 |i,s::l=>match line i s with
  |none=>none
  |some (e,a)=>match lines (i+1) l with
   |none=>none
   |some (es,more)=>some (e::es,a++more)
inductive Bk where
 |ok (e:List Ev) (a:List aI)
 |form
 |rV
def zu (s:aw):Bk:=
 if 5000<s.count 10 then .rV
 else if s=[] then .ok [] []
 else if s.getLast? =some 10 then
  match lines 0 (bM 10 s.dropLast) with
  |some (e,a)=> .ok e a
  |none=> .form
 else .form
end
section
open Go.RowKit
def sv (s:aw):Value:=.string ⟨s.toArray⟩
theorem YP {a b:ByteArray}(h:a.data.toList=b.data.toList):a=b:=by
 cases a;cases b;simp only[ByteArray.mk.injEq];exact Array.toList_inj.1 h
theorem avG (s:aw)(k:Nat):(⟨s.toArray⟩:ByteArray).extract 0 k=⟨(s.take k).toArray⟩:=YP (Lib.extract_from_zero ⟨s.toArray⟩ k)
theorem avH (s:aw)(k:Nat):(⟨s.toArray⟩:ByteArray).extract k s.length=⟨(s.drop k).toArray⟩:=YP (Lib.extract_to_end ⟨s.toArray⟩ k)
end
end Go.Proofs.YtngblilamkkikaaGreatDoor
