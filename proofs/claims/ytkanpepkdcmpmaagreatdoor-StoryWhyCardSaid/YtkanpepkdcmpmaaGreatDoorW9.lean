import Derived.Lib.ParseIntB
import Derived.Lib.ItoaNum
import Derived.Lib.ItoaMem
import Derived.Lib.Strings
import Derived.Lib.IndexMore
import Derived.Lib.SplitLaws
import Derived.Test.YtkanpepkdcmpmaaGreatDoorW0
set_option maxHeartbeats 40000000
set_option maxRecDepth 100000
set_option linter.all false
namespace Go.Proofs.YtkanpepkdcmpmaaGreatDoor
section
open Go.RowKit
abbrev aq:=List UInt8
def nO (acc:Nat):aq->Option Nat
 |[]=>some acc
 |c::r=>if 48<=c.toNat/\c.toNat<=57 then nO (acc*10+(c.toNat-48)) r else none
def num (s:aq):Option Nat:=
 match nO 0 s with
 |some n=>if n<=2147483647/\Lib.decDigits n=s then some n else none
 |none=>none
theorem atZ (s t:aq):∀acc,nO acc (s++t)=(nO acc s).bind (fun n=>nO n t):=by
 induction s with
 |nil=>intro acc;rfl
 |cons c s ih=>
  intro acc;simp only[List.cons_append,nO];split
  ·exact ih _
  ·rfl
theorem Lq (n:Nat)(h:¬n<10):Lib.decDigits n=Lib.decDigits (n/10)++[UInt8.ofNat (48+n%10)]:=by
 rw[Lib.decDigits,dif_neg h]
theorem Te {n:Nat}(h:n<256):(UInt8.ofNat n).toNat=n:=UInt8.toNat_ofNat_of_lt' h
theorem YV (n:Nat):nO 0 (Lib.decDigits n)=some n:=by
 induction n using Nat.strongRecOn with
 |_ n ih=>
  by_cases h:n<10
  ·rw[Lib.decDigits_one h];simp only[nO];rw[Te ab,aj ab];congr 1;omega
  ·rw[Lq n h,atZ,ih (n/10) ab];simp only[Nn,nO];rw[Te ab,aj ab];congr 1;omega
theorem yQ (s:aq)(n:Nat):num s=some n↔n<=2147483647/\s=Lib.decDigits n:=by
 unfold num;constructor
 ·intro h;split at h
  ·split at h
   ·rename_i hh;injection h with h;subst h;exact⟨hh.1,hh.2.symm⟩
   ·cases h
  ·cases h
 ·rintro⟨h1,rfl⟩;rw[YV];simp[h1]
theorem Lr (n:Nat):Lib.decDigits n≠[]:=by
 by_cases h:n<10
 ·rw[Lib.decDigits_one h];simp
 ·rw[Lq n h];simp
theorem Tf (n:Nat):∀c∈Lib.decDigits n,48<=c.toNat/\c.toNat<=57:=by
 induction n using Nat.strongRecOn with
 |_ n ih=>
  intro c hc;by_cases h:n<10
  ·rw[Lib.decDigits_one h] at hc;have hc:=oK.1 hc;subst hc;rw[Te ab];omega
  ·rw[Lq n h] at hc
   rcases fU.1 hc with hc|hc
   ·exact ih (n/10) ab c hc
   ·have hc:=oK.1 hc;subst hc;rw[Te ab];omega
theorem agY {M:Nat}(hM:M<18446744073709551616):∀(s:aq) (acc v:Nat),acc<=M->Lib.parseUintM M acc s=.ok v->nO acc s=some v/\v<=M
 |[],acc,v,ha,h=>by
  simp only[Lib.parseUintM] at h;injection h with h;subst h;exact⟨rfl,ha⟩
 |c::s,acc,v,ha,h=>by
  simp only[Lib.parseUintM] at h;split at h
  ·rename_i hd;split at h
   ·cases h
   ·split at h
    ·cases h
    ·rename_i h1 h2;simp only[nO,aj hd];exact agY hM s _ v ab h
  ·cases h
theorem YW:∀(s:aq) (acc v:Nat),nO acc s=some v->acc<=v
 |[],acc,v,h=>by simp only[nO] at h;injection h with h;omega
 |c::s,acc,v,h=>by
  simp only[nO] at h;split at h
  ·have:=YW s _ v h;omega
  ·cases h
theorem agZ {M:Nat}(hM:M<18446744073709551610):∀(s:aq) (acc v:Nat),nO acc s=some v->v<=M->Lib.parseUintM M acc s=.ok v
 |[],acc,v,h,hv=>by simp only[nO] at h;injection h with h;subst h;rfl
 |c::s,acc,v,h,hv=>by
  simp only[nO] at h;split at h
  ·rename_i hd;have hg:=YW s _ v h;simp only[Lib.parseUintM,aj hd];rw[af ab,af ab];exact agZ hM s _ v h hv
  ·cases h
def dM (s:aq):Nat:=match Lib.parseUintB 31 s with
 | .ok u=>u
 | .syntax=>0
 | .range=>2147483647
def isNum (s:aq):Bool:=(num s).isSome
theorem YX {s:aq}{n:Nat}(h:num s=some n):Lib.parseUintB 31 s=.ok n:=by
 obtain⟨h1,rfl⟩:=(yQ _ _).1 h;unfold Lib.parseUintB;rw[af (Lr n)];exact agZ au _ _ _ (YV n) h1
theorem YY {s:aq}{u:Nat}(h:Lib.parseUintB 31 s=.ok u):u<=2147483647/\decide (Lib.decDigits u=s)=isNum s:=by
 have h0:=h;unfold Lib.parseUintB at h;split at h
 ·cases h
 ·obtain⟨h1,h2⟩:=agY (M:=2^31-1) au s 0 u ab h;refine⟨h2,?_⟩;unfold isNum;by_cases hs:Lib.decDigits u=s
  ·rw[(yQ s u).2 ⟨h2,hs.symm⟩];simp[hs]
  ·cases hn:num s with
   |none=>simp[hs]
   |some n=>
    have:=YX hn;rw[h0] at this;injection this with this;subst this;exact absurd ((yQ _ _).1 hn).2.symm hs
def cutAt (dH:List aq)(s:aq):Nat:=dH.foldl (fun a p=>if 0<=Lib.index s p then min a (Lib.index s p).toNat else a) s.length
def cg (c:UInt8):aq->List aq
 |[]=>[[]]
 |x::r=>if x=c then []::cg c r else match cg c r with
  |h::t=>(x::h)::t
  |[]=>[[x]]
def jG (s:aq)(many:Nat):Option (List Nat):=
 if(cg 46 s).length=many then(cg 46 s).mapM num else none
def kindOf (words:List aq)(w:aq):Nat:=(List.range words.length).foldl (fun k i=>if 0<i/\w=words.getD i [] then i else k) 0
def dR:List aq:=[[],[115,116,97,114,116],[105,110,118,111,107,101],[100,101,108,105,118,101,114],[116,105,109,101,114],[100,114,111,112],[100,117,112],[99,114,97,115,104]]
def ew:List aq:=[[],[100,114,97,119],[116,105,99,107],[107,101,101,112]]
def pR:Ev:=⟨0,0,0,⟨0,0,0,0,0⟩⟩
def pS:Qn:=⟨0,0,0,0,0⟩
def il (s:aq):Option Ev:=
 let ws:=cg 32 s
 let k:=kindOf dR (ws.getD 0 [])
 if k=0\/ws.length≠(if k=7 then 2 else 3) then none
 else match jG (ws.getD 1 []) 1 with
  |some [nd]=>
   if 12<=nd then none
   else if k=3\/k=5\/k=6 then
    match jG (ws.getD 2 []) 5 with
    |some [a,b,c,d,e]=>if a<12/\b<40 then some ⟨k,nd,0,⟨a,b,c,d,e⟩⟩ else none
    |_=>none
   else if k=7 then some ⟨7,nd,0,⟨0,0,0,0,0⟩⟩
   else match jG (ws.getD 2 []) 1 with
    |some [r]=>some ⟨k,nd,r,⟨0,0,0,0,0⟩⟩
    |_=>none
  |_=>none
def kp (s:aq):Option Qn:=
 let ws:=cg 32 s
 let k:=kindOf ew (ws.getD 0 [])
 if k=0\/ws.length≠3 then none
 else match jG (ws.getD 1 []) 3,jG (ws.getD 2 []) 1 with
  |some [a,b,c],some [i]=>if a<12/\b<41 then some ⟨a,b,c,k,i⟩ else none
  |_,_=>none
structure RS where
 rest:aq
 bad:Bool
def RS.skip (r:RS)(p:aq):RS:=⟨Lib.trimPrefix r.rest p,r.bad⟩
def RS.has (r:RS)(p:aq):Bool:=Lib.hasPrefix r.rest p
def RS.must (r:RS)(c:Bool):RS:=⟨r.rest,r.bad|| !c⟩
def RS.text (r:RS)(dH:List aq):aq:=r.rest.take (cutAt dH r.rest)
def RS.until (r:RS)(dH:List aq):RS:=⟨r.rest.drop (cutAt dH r.rest),r.bad⟩
def RS.number (r:RS)(s:aq):RS:=⟨r.rest,r.bad|| !isNum s⟩
def RS.fW (r:RS):RS:=
 let r1:=r.until [[32,61,32],[93]]
 if(kp (r.text [[32,61,32],[93]])).isSome then(r1.skip [32,61,32]).must (r1.has [32,61,32]) else r1.must false
def RS.jj (r:RS):RS:=
 let r2:=(r.until [[47],[93]]).number (r.text [[47],[93]])
 (r2.skip [47]).must (r2.has [47])
def RS.ry (r:RS)(n:Nat):RS:=
 let r3:=(r.until [[93]]).number (r.text [[93]])
 if n<dM (r.text [[93]]) then(r3.skip [93]).must (r3.has [93]) else r3.must false
def RS.AR (r:RS):Nat:=dM (r.fW.text [[47],[93]])
def RS.nh (r:RS):RS:=r.fW.jj.ry r.AR
def RS.eL (r:RS):aL:=⟨(kp (r.text [[32,61,32],[93]])).getD pS,r.AR⟩
def RS.asks:Nat->RS->List aL×RS
 |0,r=>([],r)
 |k+1,r=>
  if r.bad then([],r)
  else if r.has [32,91] then
   let t:=(r.skip [32,91]).nh.asks k
   ((r.skip [32,91]).eL::t.1,t.2)
  else([],r)
def RS.sM (i:Nat):Int->List aq->RS->RS
 |_,[],r=>r
 |last,s::l,r=>RS.sM i (dM s) l ((r.number s).must (decide (last<(dM s:Int)) && decide (dM s<i)))
def RS.tail (i:Nat)(r:RS):RS:=
 let r1:=r.skip [32,42]
 let r2:=r1.skip [32,97,102,116,101,114,32]
 let r3:=if r1.has [32,97,102,116,101,114,32] then⟨[],(RS.sM i (-1) (cg 44 r2.rest) r2).bad⟩ else r2
 r3.must (r3.rest==[])
inductive Cz where
 |ok (e:List Ev) (a:List aL)
 |form
 |tH
end
section
open Go.RowKit
def sv (s:aq):Value:=.string ⟨s.toArray⟩
theorem Tg {a b:ByteArray}(h:a.data.toList=b.data.toList):a=b:=by
 cases a;cases b;simp only[ByteArray.mk.injEq];exact Array.toList_inj.1 h
end
end Go.Proofs.YtkanpepkdcmpmaaGreatDoor
