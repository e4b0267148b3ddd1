import Derived.Lib.ParseIntB
import Derived.Lib.ItoaMem
import Derived.Lib.Strings
import Derived.Lib.IndexMore
import Derived.Lib.SplitLaws
import Derived.Shelf.Strings.Builder1
import Derived.Shelf.Strings.Builder2
import Derived.Shelf.Strings.OnBuilder
import Derived.Shelf.Small.Bits
import Derived.Shelf.Small.Wraps
import Derived.Shelf.Strings.BuilderF
import Derived.Shelf.Strings.BuilderK
import Derived.Shelf.Strconv.Atoi
import Derived.Shelf.Strconv.Itoa0
import Derived.Shelf.Strconv.Itoa1
import Derived.Shelf.LaysM
import Derived.Shelf.Strconv.Itoa2
import Derived.Shelf.Strconv.Itoa3
import Derived.Shelf.Strconv.AtoiErrFast
import Derived.Shelf.Strconv.ParseIntEmpty
import Derived.Shelf.Strconv.AtoiFail
import Derived.Shelf.Strconv.Clone
import Derived.Shelf.Strconv.SyntaxError
import Derived.Shelf.LaysC
import Derived.Shelf.Strconv.ToError
import Derived.Shelf.Strconv.Lower
import Derived.Shelf.Strconv.ParseUint10
import Derived.Shelf.Strconv.ParseUint10Empty
import Derived.Shelf.Strconv.ParseUint10Any
import Derived.Shelf.Strconv.ParseInt10
import Derived.Shelf.Strconv.AtoiLong
import Derived.Shelf.Strconv.AtoiInnerAll
import Derived.Shelf.Strconv.RangeError
import Derived.Shelf.Strconv.ToErrorRange
import Derived.Shelf.Strconv.AtoiAll
import Derived.Ground.MpProg
import Derived.Shelf.Pu.ParseUintPublic10
import Derived.Shelf.Strings.Search1
import Derived.Shelf.Strings.Search2
import Derived.Shelf.Strings.Search3
import Derived.Shelf.Strings.Count
import Derived.Shelf.Strings.Shaped
import Derived.Shelf.Strings.Prefix
import Derived.Shelf.Strings.Split
import Derived.Shelf.Strings.SplitShaped
import Derived.Shelf.Unicode.DecodeSlow
import Derived.Test.YtkanpepkdcmpmaaGreatDoorY1
import Derived.Test.YtkanpepkdcmpmaaGreatDoorRows
import Derived.ProofKit
import Derived.OpenShut
import Derived.ShutString
import Derived.ChangeOld
import Derived.Lay
import Derived.Stop.Joined
import Derived.Stop.LaidErr
import Derived.Shelf.Vars
import Derived.HandedShaped
import Derived.MakeChecks
import Derived.Lib.ParseIntBMem
import Derived.Lib.AtoiErrMem
set_option maxHeartbeats 40000000
set_option maxRecDepth 100000
set_option linter.all false
namespace Go.Proofs.YtkanpepkdcmpmaaGreatDoor
section
open Go.RowKit
abbrev aj:=List UInt8
def nD (acc:Nat):aj->Option Nat
 |[]=>some acc
 |c::r=>if 48<=c.toNat/\c.toNat<=57 then nD (acc*10+(c.toNat-48)) r else none
def num (s:aj):Option Nat:=
 match nD 0 s with
 |some n=>if n<=2147483647/\Lib.decDigits n=s then some n else none
 |none=>none
theorem atO (s t:aj):∀acc,nD acc (s++t)=(nD acc s).bind (fun n=>nD n t):=by
 induction s with
 |nil=>intro acc;rfl
 |cons c s ih=>
  intro acc;simp only[List.cons_append,nD];split
  ·exact ih _
  ·rfl
theorem Lh (n:Nat)(h:¬n<10):Lib.decDigits n=Lib.decDigits (n/10)++[UInt8.ofNat (48+n%10)]:=by
 rw[Lib.decDigits,dif_neg h]
theorem SS {n:Nat}(h:n<256):(UInt8.ofNat n).toNat=n:=UInt8.toNat_ofNat_of_lt' h
theorem YN (n:Nat):nD 0 (Lib.decDigits n)=some n:=by
 induction n using Nat.strongRecOn with
 |_ n ih=>
  by_cases h:n<10
  ·rw[Lib.decDigits_one h];simp only[nD];rw[SS ab,aq ab];congr 1;omega
  ·rw[Lh n h,atO,ih (n/10) ab];simp only[MZ,nD];rw[SS ab,aq ab];congr 1;omega
theorem yR (s:aj)(n:Nat):num s=some n↔n<=2147483647/\s=Lib.decDigits n:=by
 unfold num;constructor
 ·intro h;split at h
  ·split at h
   ·rename_i hh;injection h with h;subst h;exact⟨hh.1,hh.2.symm⟩
   ·cases h
  ·cases h
 ·rintro⟨h1,rfl⟩;rw[YN];simp[h1]
theorem Li (n:Nat):Lib.decDigits n≠[]:=by
 by_cases h:n<10
 ·rw[Lib.decDigits_one h];simp
 ·rw[Lh n h];simp
theorem SU (n:Nat):∀c∈Lib.decDigits n,48<=c.toNat/\c.toNat<=57:=by
 induction n using Nat.strongRecOn with
 |_ n ih=>
  intro c hc;by_cases h:n<10
  ·rw[Lib.decDigits_one h] at hc;have hc:=oB.1 hc;subst hc;rw[SS ab];omega
  ·rw[Lh n h] at hc
   rcases fL.1 hc with hc|hc
   ·exact ih (n/10) ab c hc
   ·have hc:=oB.1 hc;subst hc;rw[SS ab];omega
theorem agQ {M:Nat}(hM:M<18446744073709551616):∀(s:aj) (acc v:Nat),acc<=M->Lib.parseUintM M acc s=.ok v->nD acc s=some v/\v<=M
 |[],acc,v,ha,h=>by
  simp only[Lib.parseUintM] at h;injection h with h;subst h;exact⟨rfl,ha⟩
 |c::s,acc,v,ha,h=>by
  simp only[Lib.parseUintM] at h;split at h
  ·rename_i hd;split at h
   ·cases h
   ·split at h
    ·cases h
    ·rename_i h1 h2;simp only[nD,aq hd];exact agQ hM s _ v ab h
  ·cases h
theorem YO:∀(s:aj) (acc v:Nat),nD acc s=some v->acc<=v
 |[],acc,v,h=>by simp only[nD] at h;injection h with h;omega
 |c::s,acc,v,h=>by
  simp only[nD] at h;split at h
  ·have:=YO s _ v h;omega
  ·cases h
theorem agR {M:Nat}(hM:M<18446744073709551610):∀(s:aj) (acc v:Nat),nD acc s=some v->v<=M->Lib.parseUintM M acc s=.ok v
 |[],acc,v,h,hv=>by simp only[nD] at h;injection h with h;subst h;rfl
 |c::s,acc,v,h,hv=>by
  simp only[nD] at h;split at h
  ·rename_i hd;have hg:=YO s _ v h;simp only[Lib.parseUintM,aq hd];rw[af ab,af ab];exact agR hM s _ v h hv
  ·cases h
def dK (s:aj):Nat:=match Lib.parseUintB 31 s with
 | .ok u=>u
 | .syntax=>0
 | .range=>2147483647
def isNum (s:aj):Bool:=(num s).isSome
theorem YP {s:aj}{n:Nat}(h:num s=some n):Lib.parseUintB 31 s=.ok n:=by
 obtain⟨h1,rfl⟩:=(yR _ _).1 h;unfold Lib.parseUintB;rw[af (Li n)];exact agR au _ _ _ (YN n) h1
theorem YQ {s:aj}{u:Nat}(h:Lib.parseUintB 31 s=.ok u):u<=2147483647/\decide (Lib.decDigits u=s)=isNum s:=by
 have h0:=h;unfold Lib.parseUintB at h;split at h
 ·cases h
 ·obtain⟨h1,h2⟩:=agQ (M:=2^31-1) au s 0 u ab h;refine⟨h2,?_⟩;unfold isNum;by_cases hs:Lib.decDigits u=s
  ·rw[(yR s u).2 ⟨h2,hs.symm⟩];simp[hs]
  ·cases hn:num s with
   |none=>simp[hs]
   |some n=>
    have:=YP hn;rw[h0] at this;injection this with this;subst this;exact absurd ((yR _ _).1 hn).2.symm hs
def cutAt (dD:List aj)(s:aj):Nat:=dD.foldl (fun a p=>if 0<=Lib.index s p then min a (Lib.index s p).toNat else a) s.length
def bW (c:UInt8):aj->List aj
 |[]=>[[]]
 |x::r=>if x=c then []::bW c r else match bW c r with
  |h::t=>(x::h)::t
  |[]=>[[x]]
def jw (s:aj)(many:Nat):Option (List Nat):=
 if(bW 46 s).length=many then(bW 46 s).mapM num else none
def kindOf (words:List aj)(w:aj):Nat:=(List.range words.length).foldl (fun k i=>if 0<i/\w=words.getD i [] then i else k) 0
def dL:List aj:=[[],[115,116,97,114,116],[105,110,118,111,107,101],[100,101,108,105,118,101,114],[116,105,109,101,114],[100,114,111,112],[100,117,112],[99,114,97,115,104]]
def eh:List aj:=[[],[100,114,97,119],[116,105,99,107],[107,101,101,112]]
def oT:Ev:=⟨0,0,0,⟨0,0,0,0,0⟩⟩
def oU:Qn:=⟨0,0,0,0,0⟩
def gY (s:aj):Option Ev:=
 let ws:=bW 32 s
 let k:=kindOf dL (ws.getD 0 [])
 if k=0\/ws.length≠(if k=7 then 2 else 3) then none
 else match jw (ws.getD 1 []) 1 with
  |some [nd]=>
   if 12<=nd then none
   else if k=3\/k=5\/k=6 then
    match jw (ws.getD 2 []) 5 with
    |some [a,b,c,d,e]=>if a<12/\b<40 then some ⟨k,nd,0,⟨a,b,c,d,e⟩⟩ else none
    |_=>none
   else if k=7 then some ⟨7,nd,0,⟨0,0,0,0,0⟩⟩
   else match jw (ws.getD 2 []) 1 with
    |some [r]=>some ⟨k,nd,r,⟨0,0,0,0,0⟩⟩
    |_=>none
  |_=>none
def jW (s:aj):Option Qn:=
 let ws:=bW 32 s
 let k:=kindOf eh (ws.getD 0 [])
 if k=0\/ws.length≠3 then none
 else match jw (ws.getD 1 []) 3,jw (ws.getD 2 []) 1 with
  |some [a,b,c],some [i]=>if a<12/\b<41 then some ⟨a,b,c,k,i⟩ else none
  |_,_=>none
structure RS where
 rest:aj
 bad:Bool
def RS.skip (r:RS)(p:aj):RS:=⟨Lib.trimPrefix r.rest p,r.bad⟩
def RS.has (r:RS)(p:aj):Bool:=Lib.hasPrefix r.rest p
def RS.must (r:RS)(c:Bool):RS:=⟨r.rest,r.bad|| !c⟩
def RS.text (r:RS)(dD:List aj):aj:=r.rest.take (cutAt dD r.rest)
def RS.until (r:RS)(dD:List aj):RS:=⟨r.rest.drop (cutAt dD r.rest),r.bad⟩
def RS.number (r:RS)(s:aj):RS:=⟨r.rest,r.bad|| !isNum s⟩
def RS.fP (r:RS):RS:=
 let r1:=r.until [[32,61,32],[93]]
 if(jW (r.text [[32,61,32],[93]])).isSome then(r1.skip [32,61,32]).must (r1.has [32,61,32]) else r1.must false
def RS.ja (r:RS):RS:=
 let r2:=(r.until [[47],[93]]).number (r.text [[47],[93]])
 (r2.skip [47]).must (r2.has [47])
def RS.rf (r:RS)(n:Nat):RS:=
 let r3:=(r.until [[93]]).number (r.text [[93]])
 if n<dK (r.text [[93]]) then(r3.skip [93]).must (r3.has [93]) else r3.must false
def RS.AD (r:RS):Nat:=dK (r.fP.text [[47],[93]])
def RS.mQ (r:RS):RS:=r.fP.ja.rf r.AD
def RS.eH (r:RS):aL:=⟨(jW (r.text [[32,61,32],[93]])).getD oU,r.AD⟩
def RS.asks:Nat->RS->List aL×RS
 |0,r=>([],r)
 |k+1,r=>
  if r.bad then([],r)
  else if r.has [32,91] then
   let t:=(r.skip [32,91]).mQ.asks k
   ((r.skip [32,91]).eH::t.1,t.2)
  else([],r)
def RS.sI (i:Nat):Int->List aj->RS->RS
 |_,[],r=>r
 |last,s::l,r=>RS.sI i (dK s) l ((r.number s).must (decide (last<(dK s:Int)) && decide (dK s<i)))
def RS.tail (i:Nat)(r:RS):RS:=
 let r1:=r.skip [32,42]
 let r2:=r1.skip [32,97,102,116,101,114,32]
 let r3:=if r1.has [32,97,102,116,101,114,32] then⟨[],(RS.sI i (-1) (bW 44 r2.rest) r2).bad⟩ else r2
 r3.must (r3.rest==[])
inductive Cq where
 |ok (e:List Ev) (a:List aL)
 |form
 |tD
end
section
open Go.RowKit
def sv (s:aj):Value:=.string ⟨s.toArray⟩
theorem SV {a b:ByteArray}(h:a.data.toList=b.data.toList):a=b:=by
 cases a;cases b;simp only[ByteArray.mk.injEq];exact Array.toList_inj.1 h
end
section
open Go.Shelf
def Tryz.agS:Go.Shelf.Ren:=⟨fun|169=>34|n=>n,fun|70=>85|9=>9|0=>0|72=>88|37=>86|127=>157|3=>3|5=>5|n=>n,fun|n=>n⟩
theorem Tryz.atP:Go.Proofs.Lays.n169 Tryz.prog Tryz.agS:={
 mixed:=ah
 f169:=Tryz.func34.trans (aG some ah)
 t0:=Tryz.underlying0
 a0:=Tryz.isAgg0
 z0:=Tryz.sizeOf0
 v0:=Tryz.zeroValue0
 t3:=Tryz.underlying3
 a3:=Tryz.isAgg3
 z3:=Tryz.sizeOf3
 v3:=Tryz.zeroValue3
 t9:=Tryz.underlying9
 a9:=Tryz.isAgg9
 z9:=Tryz.sizeOf9
 v9:=Tryz.zeroValue9
 t37:=Tryz.underlying86
 a37:=Tryz.isAgg86
 z37:=Tryz.sizeOf86
 v37:=Tryz.zeroValue86
 t70:=Tryz.underlying85
 a70:=Tryz.isAgg85
 z70:=Tryz.sizeOf85
 v70:=Tryz.zeroValue85
 t72:=Tryz.underlying88
 a72:=Tryz.isAgg88
 z72:=Tryz.sizeOf88
 v72:=Tryz.zeroValue88
 t127:=Tryz.underlying157
 a127:=Tryz.isAgg157
 z127:=Tryz.sizeOf157
 v127:=Tryz.zeroValue157 }
theorem Tryz.atS:Builder.Extra Tryz.prog Tryz.agS:={
 sizeBuilder:=ah
 liesBuilder:=ah
 t5:=Tryz.underlying5
 a5:=Tryz.isAgg5
 z5:=Tryz.sizeOf5
 v5:=Tryz.zeroValue5
 infoByte:=ah
 cellsByte:=ah
 sizeByte:=ah
 neB5:=by decide }
def Tryz.agT:Go.Shelf.Ren:=⟨fun|156=>79|165=>134|166=>28|169=>34|240=>72|241=>182|276=>130|277=>232|n=>n,fun|31=>108|9=>9|3=>3|4=>4|0=>0|20=>20|72=>88|76=>91|70=>85|37=>86|75=>90|127=>157|164=>223|5=>5|80=>96|n=>n,fun|n=>n⟩
theorem Tryz.agU:Go.Proofs.Lays.n156 Tryz.prog Tryz.agT:={
 mixed:=ah
 f156:=Tryz.func79.trans (aG some ah)
 f165:=Tryz.func134.trans (aG some ah)
 f166:=Tryz.func28.trans (aG some ah)
 f169:=Tryz.func34.trans (aG some ah)
 f240:=Tryz.func72.trans (aG some ah)
 f241:=Tryz.func182.trans (aG some ah)
 f276:=Tryz.func130.trans (aG some ah)
 f277:=Tryz.func232.trans (aG some ah)
 t0:=Tryz.underlying0
 a0:=Tryz.isAgg0
 z0:=Tryz.sizeOf0
 v0:=Tryz.zeroValue0
 t3:=Tryz.underlying3
 a3:=Tryz.isAgg3
 z3:=Tryz.sizeOf3
 v3:=Tryz.zeroValue3
 t4:=Tryz.underlying4
 a4:=Tryz.isAgg4
 z4:=Tryz.sizeOf4
 v4:=Tryz.zeroValue4
 t9:=Tryz.underlying9
 a9:=Tryz.isAgg9
 z9:=Tryz.sizeOf9
 v9:=Tryz.zeroValue9
 t20:=Tryz.underlying20
 a20:=Tryz.isAgg20
 z20:=Tryz.sizeOf20
 v20:=Tryz.zeroValue20
 t31:=Tryz.underlying108
 a31:=Tryz.isAgg108
 z31:=Tryz.sizeOf108
 v31:=Tryz.zeroValue108
 t37:=Tryz.underlying86
 a37:=Tryz.isAgg86
 z37:=Tryz.sizeOf86
 v37:=Tryz.zeroValue86
 t70:=Tryz.underlying85
 a70:=Tryz.isAgg85
 z70:=Tryz.sizeOf85
 v70:=Tryz.zeroValue85
 t72:=Tryz.underlying88
 a72:=Tryz.isAgg88
 z72:=Tryz.sizeOf88
 v72:=Tryz.zeroValue88
 t75:=Tryz.underlying90
 a75:=Tryz.isAgg90
 z75:=Tryz.sizeOf90
 v75:=Tryz.zeroValue90
 t76:=Tryz.underlying91
 a76:=Tryz.isAgg91
 z76:=Tryz.sizeOf91
 v76:=Tryz.zeroValue91
 t127:=Tryz.underlying157
 a127:=Tryz.isAgg157
 z127:=Tryz.sizeOf157
 v127:=Tryz.zeroValue157
 t164:=Tryz.underlying223
 a164:=Tryz.isAgg223
 z164:=Tryz.sizeOf223
 v164:=Tryz.zeroValue223 }
theorem Tryz.agV:Builder.Extra Tryz.prog Tryz.agT:={
 sizeBuilder:=ah
 liesBuilder:=ah
 t5:=Tryz.underlying5
 a5:=Tryz.isAgg5
 z5:=Tryz.sizeOf5
 v5:=Tryz.zeroValue5
 infoByte:=ah
 cellsByte:=ah
 sizeByte:=ah
 neB5:=by decide }
open Go.RowKit in
theorem Tryz.strings_Join_none (a:Option Addr)(c:Nat)(sep:ByteArray)(w:World):
  Calls Tryz.prog 79 #[.slice a 0 c,.string sep] w fun e w'=>e=.returned (.string ⟨#[]⟩)/\w'=w:=Any.strings_Join_none Tryz.agU Tryz.agV a c sep w
open Go.RowKit in
theorem Tryz.strings_Join (bk o c:Nat)(xs:List ByteArray)(sep:ByteArray)(w:World)(YR:∀(j:Nat) x,xs[j]? =some x->w.cell? ⟨bk,o+j,none⟩=some (.string x))(nZ:bk<w.heap.size)(hN:xs.length<=140737488355328)(EB:xs.length<=c)(hlen:(Lib.join (xs.map (·.data.toList)) sep.data.toList).length<=140737488355328):
  Calls Tryz.prog 79 #[.slice (some ⟨bk,o,none⟩) xs.length c,.string sep] w fun e w'=>e=.returned (.string ⟨(Lib.join (xs.map (·.data.toList)) sep.data.toList).toArray⟩)/\aw w w':=Any.strings_Join Tryz.agU Tryz.agV bk o c xs sep w YR nZ hN EB hlen
def Tryz.atT:Go.Shelf.Ren:=⟨fun|103=>147|210=>191|206=>236|n=>n,fun|9=>9|4=>4|24=>112|3=>3|n=>n,fun|n=>n⟩
theorem Tryz.atU:Go.Proofs.Lays.n103 Tryz.prog Tryz.atT:={
 mixed:=ah
 f103:=Tryz.func147.trans (aG some ah)
 f206:=Tryz.func236.trans (aG some ah)
 f210:=Tryz.func191.trans (aG some ah)
 t3:=Tryz.underlying3
 a3:=Tryz.isAgg3
 z3:=Tryz.sizeOf3
 v3:=Tryz.zeroValue3
 t4:=Tryz.underlying4
 a4:=Tryz.isAgg4
 z4:=Tryz.sizeOf4
 v4:=Tryz.zeroValue4
 t9:=Tryz.underlying9
 a9:=Tryz.isAgg9
 z9:=Tryz.sizeOf9
 v9:=Tryz.zeroValue9
 t24:=Tryz.underlying112
 a24:=Tryz.isAgg112
 z24:=Tryz.sizeOf112
 v24:=Tryz.zeroValue112 }
open Go.RowKit in
theorem Tryz.strings_CutPrefix (s p:ByteArray)(w:World):
  Calls Tryz.prog 147 #[.string s,.string p] w fun e w'=>e=.returned (.tuple #[.string ⟨(Lib.trimPrefix s.data.toList p.data.toList).toArray⟩,.bool (Lib.hasPrefix s.data.toList p.data.toList)])/\w'=w:=Any.strings_CutPrefix Tryz.atU s p w
def Tryz.atV:Go.Shelf.Ren:=⟨fun|104=>50|211=>101|207=>145|n=>n,fun|9=>9|4=>4|24=>112|3=>3|n=>n,fun|n=>n⟩
theorem Tryz.atW:Go.Proofs.Lays.n104 Tryz.prog Tryz.atV:={
 mixed:=ah
 f104:=Tryz.func50.trans (aG some ah)
 f207:=Tryz.func145.trans (aG some ah)
 f211:=Tryz.func101.trans (aG some ah)
 t3:=Tryz.underlying3
 a3:=Tryz.isAgg3
 z3:=Tryz.sizeOf3
 v3:=Tryz.zeroValue3
 t4:=Tryz.underlying4
 a4:=Tryz.isAgg4
 z4:=Tryz.sizeOf4
 v4:=Tryz.zeroValue4
 t9:=Tryz.underlying9
 a9:=Tryz.isAgg9
 z9:=Tryz.sizeOf9
 v9:=Tryz.zeroValue9
 t24:=Tryz.underlying112
 a24:=Tryz.isAgg112
 z24:=Tryz.sizeOf112
 v24:=Tryz.zeroValue112 }
open Go.RowKit in
theorem Tryz.strings_CutSuffix (s p:ByteArray)(w:World)(hs:s.size<=9223372036854775807):
  Calls Tryz.prog 50 #[.string s,.string p] w fun e w'=>e=.returned (.tuple #[.string ⟨(Lib.trimSuffix s.data.toList p.data.toList).toArray⟩,.bool (Lib.hasSuffix s.data.toList p.data.toList)])/\w'=w:=Any.strings_CutSuffix Tryz.atW s p w hs
open Go.RowKit in
theorem Tryz.Builder_String_any_k (B b:Nat)(l:List UInt8)(w:World)(h:Lib.IsBuilderF 88 5 B b (Lib.byteCells l) w)(nE:B<=w.heap.size):
  Calls Tryz.prog 34 #[.pointer (some ⟨b,0,none⟩)] w fun e w'=>e=.returned (.string ⟨l.toArray⟩)/\(Lib.IsBuilderF 88 5 B b (Lib.byteCells l) w'/\Below B w w'/\Lib.OthersKept 5 (some b) w w'):=Any.Builder_String_any_k Tryz.atP Tryz.atS B b l w h nE
def Tryz.atX:Go.Shelf.Ren:=⟨fun|171=>29|243=>73|246=>131|283=>177|284=>178|285=>179|286=>180|129=>227|317=>226|318=>228|319=>229|320=>230|337=>268|338=>269|n=>n,fun|3=>3|9=>9|2=>2|4=>4|171=>280|0=>0|53=>222|37=>86|5=>5|173=>283|212=>323|51=>324|20=>20|213=>325|46=>288|232=>379|233=>380|n=>n,fun|17=>1|18=>6|19=>7|n=>n⟩
theorem Tryz.atY:Go.Proofs.LaysM.n171 Tryz.prog Tryz.atX:={
 mixed:=ah
 f129:=Tryz.func227.trans (aG some ah)
 f171:=Tryz.func29.trans (aG some ah)
 f243:=Tryz.func73.trans (aG some ah)
 f246:=Tryz.func131.trans (aG some ah)
 f283:=Tryz.func177.trans (aG some ah)
 f284:=Tryz.func178.trans (aG some ah)
 f285:=Tryz.func179.trans (aG some ah)
 f286:=Tryz.func180.trans (aG some ah)
 f317:=Tryz.func226.trans (aG some ah)
 f318:=Tryz.func228.trans (aG some ah)
 f319:=Tryz.func229.trans (aG some ah)
 f320:=Tryz.func230.trans (aG some ah)
 f337:=Tryz.func268.trans (aG some ah)
 f338:=Tryz.func269.trans (aG some ah)
 t0:=Tryz.underlying0
 a0:=Tryz.isAgg0
 z0:=Tryz.sizeOf0
 v0:=Tryz.zeroValue0
 t2:=Tryz.underlying2
 a2:=Tryz.isAgg2
 z2:=Tryz.sizeOf2
 v2:=Tryz.zeroValue2
 t3:=Tryz.underlying3
 a3:=Tryz.isAgg3
 z3:=Tryz.sizeOf3
 v3:=Tryz.zeroValue3
 t4:=Tryz.underlying4
 a4:=Tryz.isAgg4
 z4:=Tryz.sizeOf4
 v4:=Tryz.zeroValue4
 t5:=Tryz.underlying5
 a5:=Tryz.isAgg5
 z5:=Tryz.sizeOf5
 v5:=Tryz.zeroValue5
 t9:=Tryz.underlying9
 a9:=Tryz.isAgg9
 z9:=Tryz.sizeOf9
 v9:=Tryz.zeroValue9
 t20:=Tryz.underlying20
 a20:=Tryz.isAgg20
 z20:=Tryz.sizeOf20
 v20:=Tryz.zeroValue20
 t37:=Tryz.underlying86
 a37:=Tryz.isAgg86
 z37:=Tryz.sizeOf86
 v37:=Tryz.zeroValue86
 t46:=Tryz.underlying288
 a46:=Tryz.isAgg288
 z46:=Tryz.sizeOf288
 v46:=Tryz.zeroValue288
 t51:=Tryz.underlying324
 a51:=Tryz.isAgg324
 z51:=Tryz.sizeOf324
 v51:=Tryz.zeroValue324
 t53:=Tryz.underlying222
 a53:=Tryz.isAgg222
 z53:=Tryz.sizeOf222
 v53:=Tryz.zeroValue222
 t171:=Tryz.underlying280
 a171:=Tryz.isAgg280
 z171:=Tryz.sizeOf280
 v171:=Tryz.zeroValue280
 t173:=Tryz.underlying283
 a173:=Tryz.isAgg283
 z173:=Tryz.sizeOf283
 v173:=Tryz.zeroValue283
 t212:=Tryz.underlying323
 a212:=Tryz.isAgg323
 z212:=Tryz.sizeOf323
 v212:=Tryz.zeroValue323
 t213:=Tryz.underlying325
 a213:=Tryz.isAgg325
 z213:=Tryz.sizeOf325
 t232:=Tryz.underlying379
 a232:=Tryz.isAgg379
 z232:=Tryz.sizeOf379
 v232:=Tryz.zeroValue379
 t233:=Tryz.underlying380
 a233:=Tryz.isAgg380
 z233:=Tryz.sizeOf380
 v233:=Tryz.zeroValue380
 g17:=ah
 g18:=ah
 g19:=ah
 i0:=ah
 i2:=ah
 i3:=ah
 i4:=ah
 i5:=ah
 i9:=ah
 i20:=ah
 i37:=ah
 i46:=ah
 i51:=ah
 i53:=ah
 i171:=ah
 i173:=ah
 i212:=ah
 i232:=ah
 i233:=ah
 m17:=ah
 m18:=ah
 m19:=by kernel_rfl }
open Go.RowKit Go.Sort Go.Lib in
theorem Tryz.strconv_Itoa (n:Int)(h0: -9223372036854775808<=n)(h1:n<=9223372036854775807)(w:World)(yP:Lib.TabIs Tryz.prog w "internal/strconv.uint64pow10" .u64 Lib.pow10Tab):
  Calls Tryz.prog 29 #[.int .i64 n] w fun e w'=>e=.returned (.string ⟨(Lib.itoa n).toArray⟩)/\∃k os,w'=grow (w.drewN k) os:=Any.strconv_Itoa Tryz.atY n h0 h1 w yP
def Tryz.atZ:Go.Shelf.Ren:=⟨fun|245=>193|279=>239|280=>240|281=>241|282=>242|316=>271|171=>29|205=>272|243=>73|246=>131|283=>177|284=>178|285=>179|286=>180|129=>227|317=>226|318=>228|319=>229|320=>230|337=>268|338=>269|n=>n,fun|9=>9|3=>3|75=>90|167=>329|4=>4|168=>331|210=>365|37=>86|0=>0|127=>157|145=>383|143=>381|2=>2|171=>280|53=>222|5=>5|173=>283|212=>323|51=>324|20=>20|213=>325|46=>288|232=>379|233=>380|80=>96|n=>n,fun|15=>4|16=>5|17=>1|18=>6|19=>7|n=>n⟩
theorem Tryz.agW:Go.Proofs.LaysC.n245 Tryz.prog Tryz.atZ:={
 mixed:=ah
 f129:=Tryz.func227.trans (aG some ah)
 f171:=Tryz.func29.trans (aG some ah)
 f205:=Tryz.func272.trans (aG some ah)
 f243:=Tryz.func73.trans (aG some ah)
 f245:=Tryz.func193.trans (aG some ah)
 f246:=Tryz.func131.trans (aG some ah)
 f279:=Tryz.func239.trans (aG some ah)
 f280:=Tryz.func240.trans (aG some ah)
 f281:=Tryz.func241.trans (aG some ah)
 f282:=Tryz.func242.trans (aG some ah)
 f283:=Tryz.func177.trans (aG some ah)
 f284:=Tryz.func178.trans (aG some ah)
 f285:=Tryz.func179.trans (aG some ah)
 f286:=Tryz.func180.trans (aG some ah)
 f316:=Tryz.func271.trans (aG some ah)
 f317:=Tryz.func226.trans (aG some ah)
 f318:=Tryz.func228.trans (aG some ah)
 f319:=Tryz.func229.trans (aG some ah)
 f320:=Tryz.func230.trans (aG some ah)
 f337:=Tryz.func268.trans (aG some ah)
 f338:=Tryz.func269.trans (aG some ah)
 t0:=Tryz.underlying0
 a0:=Tryz.isAgg0
 z0:=Tryz.sizeOf0
 v0:=Tryz.zeroValue0
 t2:=Tryz.underlying2
 a2:=Tryz.isAgg2
 z2:=Tryz.sizeOf2
 v2:=Tryz.zeroValue2
 t3:=Tryz.underlying3
 a3:=Tryz.isAgg3
 z3:=Tryz.sizeOf3
 v3:=Tryz.zeroValue3
 t4:=Tryz.underlying4
 a4:=Tryz.isAgg4
 z4:=Tryz.sizeOf4
 v4:=Tryz.zeroValue4
 t5:=Tryz.underlying5
 a5:=Tryz.isAgg5
 z5:=Tryz.sizeOf5
 v5:=Tryz.zeroValue5
 t9:=Tryz.underlying9
 a9:=Tryz.isAgg9
 z9:=Tryz.sizeOf9
 v9:=Tryz.zeroValue9
 t20:=Tryz.underlying20
 a20:=Tryz.isAgg20
 z20:=Tryz.sizeOf20
 v20:=Tryz.zeroValue20
 t37:=Tryz.underlying86
 a37:=Tryz.isAgg86
 z37:=Tryz.sizeOf86
 v37:=Tryz.zeroValue86
 t46:=Tryz.underlying288
 a46:=Tryz.isAgg288
 z46:=Tryz.sizeOf288
 v46:=Tryz.zeroValue288
 t51:=Tryz.underlying324
 a51:=Tryz.isAgg324
 z51:=Tryz.sizeOf324
 v51:=Tryz.zeroValue324
 t53:=Tryz.underlying222
 a53:=Tryz.isAgg222
 z53:=Tryz.sizeOf222
 v53:=Tryz.zeroValue222
 t75:=Tryz.underlying90
 a75:=Tryz.isAgg90
 z75:=Tryz.sizeOf90
 v75:=Tryz.zeroValue90
 t127:=Tryz.underlying157
 a127:=Tryz.isAgg157
 z127:=Tryz.sizeOf157
 v127:=Tryz.zeroValue157
 t143:=Tryz.underlying381
 a143:=Tryz.isAgg381
 z143:=Tryz.sizeOf381
 v143:=Tryz.zeroValue381
 t145:=Tryz.underlying383
 a145:=Tryz.isAgg383
 z145:=Tryz.sizeOf383
 v145:=Tryz.zeroValue383
 t167:=Tryz.underlying329
 a167:=Tryz.isAgg329
 z167:=Tryz.sizeOf329
 v167:=Tryz.zeroValue329
 t168:=Tryz.underlying331
 a168:=Tryz.isAgg331
 z168:=Tryz.sizeOf331
 v168:=Tryz.zeroValue331
 t171:=Tryz.underlying280
 a171:=Tryz.isAgg280
 z171:=Tryz.sizeOf280
 v171:=Tryz.zeroValue280
 t173:=Tryz.underlying283
 a173:=Tryz.isAgg283
 z173:=Tryz.sizeOf283
 v173:=Tryz.zeroValue283
 t210:=Tryz.underlying365
 a210:=Tryz.isAgg365
 z210:=Tryz.sizeOf365
 v210:=Tryz.zeroValue365
 t212:=Tryz.underlying323
 a212:=Tryz.isAgg323
 z212:=Tryz.sizeOf323
 v212:=Tryz.zeroValue323
 t213:=Tryz.underlying325
 a213:=Tryz.isAgg325
 z213:=Tryz.sizeOf325
 t232:=Tryz.underlying379
 a232:=Tryz.isAgg379
 z232:=Tryz.sizeOf379
 v232:=Tryz.zeroValue379
 t233:=Tryz.underlying380
 a233:=Tryz.isAgg380
 z233:=Tryz.sizeOf380
 v233:=Tryz.zeroValue380
 g15:=ah
 g16:=ah
 g17:=ah
 g18:=ah
 g19:=ah
 t80:=Tryz.underlying96
 a80:=Tryz.isAgg96
 z80:=Tryz.sizeOf96
 v80:=Tryz.zeroValue96
 i0:=ah
 i2:=ah
 i3:=ah
 i4:=ah
 i5:=ah
 i9:=ah
 i20:=ah
 i37:=ah
 i46:=ah
 i51:=ah
 i53:=ah
 i75:=ah
 i80:=ah
 i127:=ah
 i143:=ah
 i145:=ah
 i167:=ah
 i168:=ah
 i171:=ah
 i173:=ah
 i210:=ah
 i212:=ah
 i232:=ah
 i233:=ah
 m15:=ah
 m16:=ah
 m17:=ah
 m18:=ah
 m19:=ah
 c0:=ah
 c2:=ah
 c3:=ah
 c4:=ah
 c5:=ah
 c9:=ah
 c20:=ah
 c37:=ah
 c46:=ah
 c51:=ah
 c53:=ah
 c75:=ah
 c80:=ah
 c127:=ah
 c143:=ah
 c145:=ah
 c167:=ah
 c168:=ah
 c171:=ah
 c173:=ah
 c210:=ah
 c212:=ah
 c213:=ah
 c232:=ah
 c233:=by kernel_rfl }
open Go.RowKit in
theorem Tryz.strconv_toError_syntax (fn s:ByteArray)(base bits:Int)(ev:Value)(w:World)(Ih:s.size<=281474976710656)(hv:w.cell? ⟨4,0,none⟩=some ev)(bT:ev=.nilIface\/∃te pe,ev=.iface te pe):
  Calls Tryz.prog 193 #[.string fn,.string s,.int .i64 base,.int .i64 bits,.iface 329 (.int .i64 2)] w fun e w'=>∃N,e=.returned (.iface 331 (.pointer (some ⟨N,0,none⟩)))/\w.heap.size<=N/\w'.heap[N]? =some (.cells #[.string fn,.string s,ev] 365 (0,0))/\aw w w':=Any.strconv_toError_syntax Tryz.agW fn s base bits ev w Ih hv bT
def Tryz.aua:Go.Shelf.Ren:=⟨fun|321=>237|n=>n,fun|5=>5|n=>n,fun|n=>n⟩
theorem Tryz.aub:Go.Proofs.Lays.n321 Tryz.prog Tryz.aua:={
 mixed:=ah
 f321:=Tryz.func237.trans (aG some ah)
 t5:=Tryz.underlying5
 a5:=Tryz.isAgg5
 z5:=Tryz.sizeOf5
 v5:=Tryz.zeroValue5 }
open Go.RowKit in
theorem Tryz.internal_strconv_lower (c:Int)(w:World):
  Calls Tryz.prog 237 #[.int .u8 c] w fun e w'=>e=.returned (.int .u8 (bits .or .u8 c 32))/\w'=w:=Any.internal_strconv_lower Tryz.aub c w
open Go.RowKit in
theorem Tryz.strconv_toError_range (fn s:ByteArray)(base bits:Int)(ev:Value)(w:World)(Ih:s.size<=281474976710656)(hv:w.cell? ⟨5,0,none⟩=some ev)(bT:ev=.nilIface\/∃te pe,ev=.iface te pe):
  Calls Tryz.prog 193 #[.string fn,.string s,.int .i64 base,.int .i64 bits,.iface 329 (.int .i64 1)] w fun e w'=>∃N,e=.returned (.iface 331 (.pointer (some ⟨N,0,none⟩)))/\w.heap.size<=N/\w'.heap[N]? =some (.cells #[.string fn,.string s,ev] 365 (0,0))/\aw w w':=Any.strconv_toError_range Tryz.agW fn s base bits ev w Ih hv bT
def Tryz.auc:Go.Shelf.Ren:=⟨fun|172=>181|244=>231|245=>193|247=>270|279=>239|280=>240|281=>241|282=>242|287=>192|316=>271|171=>29|205=>272|321=>237|322=>238|243=>73|246=>131|283=>177|284=>178|285=>179|286=>180|129=>227|317=>226|318=>228|319=>229|320=>230|337=>268|338=>269|n=>n,fun|9=>9|3=>3|75=>90|76=>91|4=>4|5=>5|167=>329|37=>86|0=>0|85=>357|2=>2|168=>331|53=>222|175=>235|46=>288|210=>365|127=>157|145=>383|143=>381|21=>21|171=>280|173=>283|212=>323|51=>324|20=>20|213=>325|232=>379|233=>380|80=>96|n=>n,fun|15=>4|16=>5|17=>1|18=>6|19=>7|n=>n⟩
theorem Tryz.YS:Go.Proofs.LaysC.n172 Tryz.prog Tryz.auc:={
 mixed:=ah
 f129:=Tryz.func227.trans (aG some ah)
 f171:=Tryz.func29.trans (aG some ah)
 f172:=Tryz.func181.trans (aG some ah)
 f205:=Tryz.func272.trans (aG some ah)
 f243:=Tryz.func73.trans (aG some ah)
 f244:=Tryz.func231.trans (aG some ah)
 f245:=Tryz.func193.trans (aG some ah)
 f246:=Tryz.func131.trans (aG some ah)
 f247:=Tryz.func270.trans (aG some ah)
 f279:=Tryz.func239.trans (aG some ah)
 f280:=Tryz.func240.trans (aG some ah)
 f281:=Tryz.func241.trans (aG some ah)
 f282:=Tryz.func242.trans (aG some ah)
 f283:=Tryz.func177.trans (aG some ah)
 f284:=Tryz.func178.trans (aG some ah)
 f285:=Tryz.func179.trans (aG some ah)
 f286:=Tryz.func180.trans (aG some ah)
 f287:=Tryz.func192.trans (aG some ah)
 f316:=Tryz.func271.trans (aG some ah)
 f317:=Tryz.func226.trans (aG some ah)
 f318:=Tryz.func228.trans (aG some ah)
 f319:=Tryz.func229.trans (aG some ah)
 f320:=Tryz.func230.trans (aG some ah)
 f321:=Tryz.func237.trans (aG some ah)
 f322:=Tryz.func238.trans (aG some ah)
 f337:=Tryz.func268.trans (aG some ah)
 f338:=Tryz.func269.trans (aG some ah)
 t0:=Tryz.underlying0
 a0:=Tryz.isAgg0
 z0:=Tryz.sizeOf0
 v0:=Tryz.zeroValue0
 t2:=Tryz.underlying2
 a2:=Tryz.isAgg2
 z2:=Tryz.sizeOf2
 v2:=Tryz.zeroValue2
 t3:=Tryz.underlying3
 a3:=Tryz.isAgg3
 z3:=Tryz.sizeOf3
 v3:=Tryz.zeroValue3
 t4:=Tryz.underlying4
 a4:=Tryz.isAgg4
 z4:=Tryz.sizeOf4
 v4:=Tryz.zeroValue4
 t5:=Tryz.underlying5
 a5:=Tryz.isAgg5
 z5:=Tryz.sizeOf5
 v5:=Tryz.zeroValue5
 t9:=Tryz.underlying9
 a9:=Tryz.isAgg9
 z9:=Tryz.sizeOf9
 v9:=Tryz.zeroValue9
 t20:=Tryz.underlying20
 a20:=Tryz.isAgg20
 z20:=Tryz.sizeOf20
 v20:=Tryz.zeroValue20
 t21:=Tryz.underlying21
 a21:=Tryz.isAgg21
 z21:=Tryz.sizeOf21
 v21:=Tryz.zeroValue21
 t37:=Tryz.underlying86
 a37:=Tryz.isAgg86
 z37:=Tryz.sizeOf86
 v37:=Tryz.zeroValue86
 t46:=Tryz.underlying288
 a46:=Tryz.isAgg288
 z46:=Tryz.sizeOf288
 v46:=Tryz.zeroValue288
 t51:=Tryz.underlying324
 a51:=Tryz.isAgg324
 z51:=Tryz.sizeOf324
 v51:=Tryz.zeroValue324
 t53:=Tryz.underlying222
 a53:=Tryz.isAgg222
 z53:=Tryz.sizeOf222
 v53:=Tryz.zeroValue222
 t75:=Tryz.underlying90
 a75:=Tryz.isAgg90
 z75:=Tryz.sizeOf90
 v75:=Tryz.zeroValue90
 t76:=Tryz.underlying91
 a76:=Tryz.isAgg91
 z76:=Tryz.sizeOf91
 v76:=Tryz.zeroValue91
 t85:=Tryz.underlying357
 a85:=Tryz.isAgg357
 z85:=Tryz.sizeOf357
 v85:=Tryz.zeroValue357
 t127:=Tryz.underlying157
 a127:=Tryz.isAgg157
 z127:=Tryz.sizeOf157
 v127:=Tryz.zeroValue157
 t143:=Tryz.underlying381
 a143:=Tryz.isAgg381
 z143:=Tryz.sizeOf381
 v143:=Tryz.zeroValue381
 t145:=Tryz.underlying383
 a145:=Tryz.isAgg383
 z145:=Tryz.sizeOf383
 v145:=Tryz.zeroValue383
 t167:=Tryz.underlying329
 a167:=Tryz.isAgg329
 z167:=Tryz.sizeOf329
 v167:=Tryz.zeroValue329
 t168:=Tryz.underlying331
 a168:=Tryz.isAgg331
 z168:=Tryz.sizeOf331
 v168:=Tryz.zeroValue331
 t171:=Tryz.underlying280
 a171:=Tryz.isAgg280
 z171:=Tryz.sizeOf280
 v171:=Tryz.zeroValue280
 t173:=Tryz.underlying283
 a173:=Tryz.isAgg283
 z173:=Tryz.sizeOf283
 v173:=Tryz.zeroValue283
 t175:=Tryz.underlying235
 a175:=Tryz.isAgg235
 z175:=Tryz.sizeOf235
 v175:=Tryz.zeroValue235
 t210:=Tryz.underlying365
 a210:=Tryz.isAgg365
 z210:=Tryz.sizeOf365
 v210:=Tryz.zeroValue365
 t212:=Tryz.underlying323
 a212:=Tryz.isAgg323
 z212:=Tryz.sizeOf323
 v212:=Tryz.zeroValue323
 t213:=Tryz.underlying325
 a213:=Tryz.isAgg325
 z213:=Tryz.sizeOf325
 t232:=Tryz.underlying379
 a232:=Tryz.isAgg379
 z232:=Tryz.sizeOf379
 v232:=Tryz.zeroValue379
 t233:=Tryz.underlying380
 a233:=Tryz.isAgg380
 z233:=Tryz.sizeOf380
 v233:=Tryz.zeroValue380
 g15:=ah
 g16:=ah
 g17:=ah
 g18:=ah
 g19:=ah
 t80:=Tryz.underlying96
 a80:=Tryz.isAgg96
 z80:=Tryz.sizeOf96
 v80:=Tryz.zeroValue96
 i0:=ah
 i2:=ah
 i3:=ah
 i4:=ah
 i5:=ah
 i9:=ah
 i20:=ah
 i21:=ah
 i37:=ah
 i46:=ah
 i51:=ah
 i53:=ah
 i75:=ah
 i76:=ah
 i80:=ah
 i85:=ah
 i127:=ah
 i143:=ah
 i145:=ah
 i167:=ah
 i168:=ah
 i171:=ah
 i173:=ah
 i175:=ah
 i210:=ah
 i212:=ah
 i232:=ah
 i233:=ah
 m15:=ah
 m16:=ah
 m17:=ah
 m18:=ah
 m19:=ah
 c0:=ah
 c2:=ah
 c3:=ah
 c4:=ah
 c5:=ah
 c9:=ah
 c20:=ah
 c21:=ah
 c37:=ah
 c46:=ah
 c51:=ah
 c53:=ah
 c75:=ah
 c76:=ah
 c80:=ah
 c85:=ah
 c127:=ah
 c143:=ah
 c145:=ah
 c167:=ah
 c168:=ah
 c171:=ah
 c173:=ah
 c175:=ah
 c210:=ah
 c212:=ah
 c213:=ah
 c232:=ah
 c233:=by kernel_rfl }
open Go.RowKit in
theorem Tryz.strconv_Atoi_ok (s:ByteArray)(aud:s.size<=9223372036854775806)(v:Int)(h:Lib.atoiAll s.data.toList=.ok v)(w:World):
  Calls Tryz.prog 181 #[.string s] w fun e w'=>e=.returned (.tuple #[.int .i64 v,.nilIface])/\(w'=w\/∃t,w'=Lib.bytesWorld w 5 t):=Any.strconv_Atoi_ok Tryz.YS s aud v h w
open Go.RowKit in
theorem Tryz.strconv_Atoi_syntax (s:ByteArray)(Ih:s.size<=281474976710656)(h:Lib.atoiAll s.data.toList=.syntax)(ev:Value)(w:World)(hv:w.cell? ⟨4,0,none⟩=some ev)(bT:ev=.nilIface\/∃te pe,ev=.iface te pe):
  Calls Tryz.prog 181 #[.string s] w fun e w'=>∃N,e=.returned (.tuple #[.int .i64 (0),.iface 331 (.pointer (some ⟨N,0,none⟩))])/\w.heap.size<=N/\w'.heap[N]? =some (.cells #[.string ⟨#[65,116,111,105]⟩,.string s,ev] 365 (0,0))/\aw w w':=Any.strconv_Atoi_syntax Tryz.YS s Ih h ev w hv bT
open Go.RowKit in
theorem Tryz.strconv_Atoi_range (s:ByteArray)(Ih:s.size<=281474976710656)(h:Lib.atoiAll s.data.toList=.range)(ev:Value)(w:World)(hv:w.cell? ⟨5,0,none⟩=some ev)(bT:ev=.nilIface\/∃te pe,ev=.iface te pe):
  Calls Tryz.prog 181 #[.string s] w fun e w'=>∃N,e=.returned (.tuple #[.int .i64 (Lib.atoiSat s.data.toList),.iface 331 (.pointer (some ⟨N,0,none⟩))])/\w.heap.size<=N/\w'.heap[N]? =some (.cells #[.string ⟨#[65,116,111,105]⟩,.string s,ev] 365 (0,0))/\aw w w':=Any.strconv_Atoi_range Tryz.YS s Ih h ev w hv bT
def Tryz.aue:Go.Shelf.Ren:=⟨fun|143=>100|219=>144|217=>186|225=>187|224=>188|267=>189|266=>233|314=>234|n=>n,fun|9=>9|3=>3|4=>4|5=>5|46=>288|146=>327|51=>324|n=>n,fun|1=>0|n=>n⟩
theorem Tryz.auf:Go.Proofs.Lays.n143 Tryz.prog Tryz.aue:={
 mixed:=ah
 f143:=Tryz.func100.trans (aG some ah)
 f217:=Tryz.func186.trans (aG some ah)
 f219:=Tryz.func144.trans (aG some ah)
 f224:=Tryz.func188.trans (aG some ah)
 f225:=Tryz.func187.trans (aG some ah)
 f266:=Tryz.func233.trans (aG some ah)
 f267:=Tryz.func189.trans (aG some ah)
 f314:=Tryz.func234.trans (aG some ah)
 t3:=Tryz.underlying3
 a3:=Tryz.isAgg3
 z3:=Tryz.sizeOf3
 v3:=Tryz.zeroValue3
 t4:=Tryz.underlying4
 a4:=Tryz.isAgg4
 z4:=Tryz.sizeOf4
 v4:=Tryz.zeroValue4
 t5:=Tryz.underlying5
 a5:=Tryz.isAgg5
 z5:=Tryz.sizeOf5
 v5:=Tryz.zeroValue5
 t9:=Tryz.underlying9
 a9:=Tryz.isAgg9
 z9:=Tryz.sizeOf9
 v9:=Tryz.zeroValue9
 t46:=Tryz.underlying288
 a46:=Tryz.isAgg288
 z46:=Tryz.sizeOf288
 v46:=Tryz.zeroValue288
 t51:=Tryz.underlying324
 a51:=Tryz.isAgg324
 z51:=Tryz.sizeOf324
 v51:=Tryz.zeroValue324
 t146:=Tryz.underlying327
 a146:=Tryz.isAgg327
 z146:=Tryz.sizeOf327
 v146:=Tryz.zeroValue327
 g1:=by kernel_rfl }
open Go.RowKit Go.Lib in
theorem Tryz.strings_Index (s sub:ByteArray)(m:Int)(w:World)(hs:s.size<4294967281)(hm:w.cell? ⟨0,0,none⟩=some (.int .i64 m)):
  Calls Tryz.prog 100 #[.string s,.string sub] w fun e w'=>e=.returned (.int .i64 (Lib.index s.data.toList sub.data.toList))/\w'=w:=Any.strings_Index Tryz.auf s sub m w hs hm
def Tryz.aug:Go.Shelf.Ren:=⟨fun|138=>49|195=>98|218=>99|143=>100|219=>144|217=>186|225=>187|224=>188|267=>189|266=>233|314=>234|n=>n,fun|9=>9|3=>3|4=>4|5=>5|0=>0|46=>288|146=>327|51=>324|n=>n,fun|1=>0|n=>n⟩
theorem Tryz.auh:Go.Proofs.Lays.n138 Tryz.prog Tryz.aug:={
 mixed:=ah
 f138:=Tryz.func49.trans (aG some ah)
 f143:=Tryz.func100.trans (aG some ah)
 f195:=Tryz.func98.trans (aG some ah)
 f217:=Tryz.func186.trans (aG some ah)
 f218:=Tryz.func99.trans (aG some ah)
 f219:=Tryz.func144.trans (aG some ah)
 f224:=Tryz.func188.trans (aG some ah)
 f225:=Tryz.func187.trans (aG some ah)
 f266:=Tryz.func233.trans (aG some ah)
 f267:=Tryz.func189.trans (aG some ah)
 f314:=Tryz.func234.trans (aG some ah)
 t0:=Tryz.underlying0
 a0:=Tryz.isAgg0
 z0:=Tryz.sizeOf0
 v0:=Tryz.zeroValue0
 t3:=Tryz.underlying3
 a3:=Tryz.isAgg3
 z3:=Tryz.sizeOf3
 v3:=Tryz.zeroValue3
 t4:=Tryz.underlying4
 a4:=Tryz.isAgg4
 z4:=Tryz.sizeOf4
 v4:=Tryz.zeroValue4
 t5:=Tryz.underlying5
 a5:=Tryz.isAgg5
 z5:=Tryz.sizeOf5
 v5:=Tryz.zeroValue5
 t9:=Tryz.underlying9
 a9:=Tryz.isAgg9
 z9:=Tryz.sizeOf9
 v9:=Tryz.zeroValue9
 t46:=Tryz.underlying288
 a46:=Tryz.isAgg288
 z46:=Tryz.sizeOf288
 v46:=Tryz.zeroValue288
 t51:=Tryz.underlying324
 a51:=Tryz.isAgg324
 z51:=Tryz.sizeOf324
 v51:=Tryz.zeroValue324
 t146:=Tryz.underlying327
 a146:=Tryz.isAgg327
 z146:=Tryz.sizeOf327
 v146:=Tryz.zeroValue327
 g1:=by kernel_rfl }
open Go.RowKit Go.Lib in
theorem Tryz.strings_Count_one (s:ByteArray)(c:UInt8)(w:World):
  Calls Tryz.prog 49 #[.string s,.string ⟨#[c]⟩] w fun e w'=>e=.returned (.int .i64 (Lib.countByte s.data.toList c))/\w'=w:=Any.strings_Count_one Tryz.auh s c w
def Tryz.aui:Go.Shelf.Ren:=⟨fun|146=>51|221=>102|268=>146|138=>49|143=>100|195=>98|197=>190|218=>99|219=>144|260=>235|217=>186|225=>187|224=>188|267=>189|266=>233|314=>234|n=>n,fun|9=>9|31=>108|3=>3|4=>4|0=>0|105=>289|21=>21|5=>5|46=>288|119=>359|139=>362|138=>361|146=>327|51=>324|n=>n,fun|1=>0|3=>2|4=>3|n=>n⟩
theorem Tryz.auj:Go.Proofs.Lays.n146 Tryz.prog Tryz.aui:={
 mixed:=ah
 f138:=Tryz.func49.trans (aG some ah)
 f143:=Tryz.func100.trans (aG some ah)
 f146:=Tryz.func51.trans (aG some ah)
 f195:=Tryz.func98.trans (aG some ah)
 f197:=Tryz.func190.trans (aG some ah)
 f217:=Tryz.func186.trans (aG some ah)
 f218:=Tryz.func99.trans (aG some ah)
 f219:=Tryz.func144.trans (aG some ah)
 f221:=Tryz.func102.trans (aG some ah)
 f224:=Tryz.func188.trans (aG some ah)
 f225:=Tryz.func187.trans (aG some ah)
 f260:=Tryz.func235.trans (aG some ah)
 f266:=Tryz.func233.trans (aG some ah)
 f267:=Tryz.func189.trans (aG some ah)
 f268:=Tryz.func146.trans (aG some ah)
 f314:=Tryz.func234.trans (aG some ah)
 t0:=Tryz.underlying0
 a0:=Tryz.isAgg0
 z0:=Tryz.sizeOf0
 v0:=Tryz.zeroValue0
 t3:=Tryz.underlying3
 a3:=Tryz.isAgg3
 z3:=Tryz.sizeOf3
 v3:=Tryz.zeroValue3
 t4:=Tryz.underlying4
 a4:=Tryz.isAgg4
 z4:=Tryz.sizeOf4
 v4:=Tryz.zeroValue4
 t5:=Tryz.underlying5
 a5:=Tryz.isAgg5
 z5:=Tryz.sizeOf5
 v5:=Tryz.zeroValue5
 t9:=Tryz.underlying9
 a9:=Tryz.isAgg9
 z9:=Tryz.sizeOf9
 v9:=Tryz.zeroValue9
 t21:=Tryz.underlying21
 a21:=Tryz.isAgg21
 z21:=Tryz.sizeOf21
 v21:=Tryz.zeroValue21
 t31:=Tryz.underlying108
 a31:=Tryz.isAgg108
 z31:=Tryz.sizeOf108
 v31:=Tryz.zeroValue108
 t46:=Tryz.underlying288
 a46:=Tryz.isAgg288
 z46:=Tryz.sizeOf288
 v46:=Tryz.zeroValue288
 t51:=Tryz.underlying324
 a51:=Tryz.isAgg324
 z51:=Tryz.sizeOf324
 v51:=Tryz.zeroValue324
 t105:=Tryz.underlying289
 a105:=Tryz.isAgg289
 z105:=Tryz.sizeOf289
 v105:=Tryz.zeroValue289
 t119:=Tryz.underlying359
 a119:=Tryz.isAgg359
 z119:=Tryz.sizeOf359
 t138:=Tryz.underlying361
 a138:=Tryz.isAgg361
 z138:=Tryz.sizeOf361
 v138:=Tryz.zeroValue361
 t139:=Tryz.underlying362
 a139:=Tryz.isAgg362
 z139:=Tryz.sizeOf362
 v139:=Tryz.zeroValue362
 t146:=Tryz.underlying327
 a146:=Tryz.isAgg327
 z146:=Tryz.sizeOf327
 v146:=Tryz.zeroValue327
 g1:=ah
 g3:=ah
 g4:=by kernel_rfl }
open Go.RowKit Go.Lib in
theorem Tryz.strings_Split (s sep:ByteArray)(m:Int)(w:World)(hs:s.size<4294967281)(hm:w.cell? ⟨0,0,none⟩=some (.int .i64 m))(h1:1<=sep.size):
  Calls Tryz.prog 51 #[.string s,.string sep] w fun e w'=>
   e=.returned (.slice (some ⟨w.heap.size,0,none⟩) (Lib.countB s sep+1) (Lib.countB s sep+1))/\w'=w.alloc (.cells ((Lib.splitB sep 0 (Lib.countB s sep) s).map Value.string).toArray 9):=Any.strings_Split Tryz.auj ah s sep m w hs hm h1
end
section
open Go.RowKit
theorem AE {w w':World}(h:aw w w')(row:Option Nat):w.grownBy w' row:=⟨h.os,h.tape,h.output,h.size,fun k hk _=>h.block k hk⟩
theorem auk (w:World)(k:Nat)(os:Array Obj):aw w (Go.Sort.grow (w.drewN k) os):=by
 refine⟨rfl,rfl,rfl,by simp[Go.Sort.grow],fun j hj=> ?_⟩
 show((w.drewN k).heap++os)[j]? =w.heap[j]?
 rw[Wm (by simpa using hj)];simp
theorem agX (s p:aj)(w:World):Calls Tryz.prog 147 #[sv s,sv p] w fun e w'=>e=.returned (.tuple #[sv (Lib.trimPrefix s p),.bool (Lib.hasPrefix s p)])/\w'=w:=Tryz.strings_CutPrefix ⟨s.toArray⟩ ⟨p.toArray⟩ w
theorem agY (s p:aj)(w:World)(hs:s.length<=4000000000):Calls Tryz.prog 50 #[sv s,sv p] w fun e w'=>e=.returned (.tuple #[sv (Lib.trimSuffix s p),.bool (Lib.hasSuffix s p)])/\w'=w:=
 Tryz.strings_CutSuffix ⟨s.toArray⟩ ⟨p.toArray⟩ w (by show s.toArray.size<=_;simp;omega)
theorem agZ (s p:aj)(w:World)(hg:Gl w)(hs:s.length<=4000000000):Calls Tryz.prog 100 #[sv s,sv p] w fun e w'=>e=.returned (I (Lib.index s p))/\w'=w:=by
 obtain⟨m,hm⟩:=hg.mx;exact Tryz.strings_Index ⟨s.toArray⟩ ⟨p.toArray⟩ m w (by show s.toArray.size<_;simp;omega) hm
theorem YT (s:aj)(c:UInt8)(w:World):Calls Tryz.prog 49 #[sv s,sv [c]] w fun e w'=>e=.returned (I (s.count c))/\w'=w:=Tryz.strings_Count_one ⟨s.toArray⟩ c w
theorem EC (n:Int)(h0:bY n)(w:World)(hg:Gl w):Calls Tryz.prog 29 #[I n] w fun e w'=>e=.returned (sv (Lib.itoa n))/\aw w w':=by
 refine(Tryz.strconv_Itoa n h0.1 h0.2 w hg.lE).mono ?_;rintro e w' ⟨rfl,k,os,rfl⟩;exact⟨rfl,auk w k os⟩
theorem YU (x c:UInt8)(r:aj)(h:x≠c):Lib.index (x::r) [c]=if Lib.index r [c]== -1 then -1 else Lib.index r [c]+1:=by
 have:([c]:aj).isPrefixOf (x::r)=false:=by simp[List.isPrefixOf];exact fun e=>h e.symm
 rw[Lib.index,this];rfl
theorem aha (c:UInt8)(r:aj):Lib.index (c::r) [c]=0:=by
 have:([c]:aj).isPrefixOf (c::r)=true:=by simp[List.isPrefixOf]
 rw[Lib.index,this];rfl
theorem YV (c:UInt8)(s:aj):bW c s≠[]:=by
 cases s with
 |nil=>simp[bW]
 |cons x r=>
  simp only[bW];split
  ·simp
  ·split<;>simp
theorem ahb (c:UInt8):∀(s:aj),Lib.splitK [c] 0 (Lib.count s [c]) s=bW c s
 |[]=>by
  rw[Lib.count_one];rfl
 |x::r=>by
  have ih:=ahb c r;by_cases h:x=c
  ·subst h;rw[Lib.count_cons_eq,DG,Lib.splitK,aha];simp only[bW,nk];rw[show(if(0:Int)== -1 then [x::r] else(x::r).take ((0:Int).toNat+0)::Lib.splitK [x] 0 (Lib.count r [x]) ((x::r).drop ((0:Int).toNat+[x].length)))=[]::Lib.splitK [x] 0 (Lib.count r [x]) r from rfl,ih]
  ·rw[Lib.count_cons_ne x c r h];simp only[bW,af h];rw[<-ih]
   cases hn:Lib.count r [c] with
   |zero=>rfl
   |succ k=>
    rw[Lib.splitK,Lib.splitK,YU x c r h]
    rcases Lib.index_spec r [c] with⟨h1,_⟩|⟨i,h1,_,_,_⟩
    ·rw[h1];rfl
    ·rw[h1];have e1:((i:Int)== -1)=false:=mE.2 ab;have e2:((i:Int)+1== -1)=false:=mE.2 ab;simp only[e1,e2,zJ,pd];have e3:((i:Int)+1).toNat=i+1:=ab;have e4:(i:Int).toNat=i:=ab;rw[e3,e4];simp
theorem Lj (c:UInt8)(s:aj):(bW c s).length=s.count c+1:=by
 induction s with
 |nil=>rfl
 |cons x r ih=>
  simp only[bW];by_cases h:x=c
  ·subst h;rw[aq rfl,List.length_cons,ih,List.count_cons_self]
  ·rw[af h,List.count_cons_of_ne (fun e=>h e)];rw[<-ih]
   cases hs:bW c r with
   |nil=>exact absurd hs (YV c r)
   |cons a b=>rfl
def iE (w:World)(g:Nat)(l:List aj):Prop:=w.heap[g]? =some (.cells (l.map sv).toArray 9 (0,0))
theorem iE.cell {w:World}{g:Nat}{l:List aj}(h:iE w g l){i:Nat}{s:aj}(hi:l[i]? =some s):w.cell? ⟨g,i,none⟩=some (sv s):=by
 have h1:(l.map sv).toArray[i]? =some (sv s):=by simp[hi]
 exact(zP w g i _ _ _ h).trans h1
theorem aul (s:aj)(c:UInt8)(w:World)(hg:Gl w)(hs:s.length<=4000000000):Calls Tryz.prog 51 #[sv s,sv [c]] w fun e w'=>
  e=.returned (.slice (some ⟨w.heap.size,0,none⟩) (bW c s).length (bW c s).length)/\w'=w.alloc (.cells ((bW c s).map sv).toArray 9):=by
 obtain⟨m,hm⟩:=hg.mx;refine(Tryz.strings_Split ⟨s.toArray⟩ ⟨([c]:aj).toArray⟩ m w (by show s.toArray.size<_;simp;omega) hm (cK 1)).mono ?_;have hd:=Lib.splitB_data ⟨([c]:aj).toArray⟩ 0 (Lib.countB ⟨s.toArray⟩ ⟨([c]:aj).toArray⟩) ⟨s.toArray⟩;have hk:Lib.countB ⟨s.toArray⟩ ⟨([c]:aj).toArray⟩=Lib.count s [c]:=rfl;rw[hk] at hd⊢;have ED:(Lib.splitB ⟨([c]:aj).toArray⟩ 0 (Lib.count s [c]) ⟨s.toArray⟩).map (·.data.toList)=bW c s:=hd.trans (ahb c s)
 have Aq:(Lib.splitB ⟨([c]:aj).toArray⟩ 0 (Lib.count s [c]) ⟨s.toArray⟩).map Value.string=(bW c s).map sv:=by
  rw[<-ED,List.map_map];rfl
 have hl:Lib.count s [c]+1=(bW c s).length:=by rw[Lj,Lib.count_one]
 rintro e w' ⟨rfl,rfl⟩;rw[Aq,hl];exact⟨rfl,rfl⟩
theorem YW (s:aj)(c:UInt8)(w:World)(hg:Gl w)(hs:s.length<=4000000000):Calls Tryz.prog 51 #[sv s,sv [c]] w fun e w'=>
  e=.returned (.slice (some ⟨w.heap.size,0,none⟩) (bW c s).length (bW c s).length)/\iE w' w.heap.size (bW c s)/\aw w w'/\w'.heap.size=w.heap.size+1:=by
 refine(aul s c w hg hs).mono ?_;rintro e w' ⟨rfl,rfl⟩;exact⟨rfl,dV _ _,(Below.refl _ _).alloc ax _,World.size_alloc _ _⟩
end
section
open Go.ChangeShapes Go.WideShapes Go.ChangeAt Go.RowKit
theorem own:ownKnob Tryz.prog.godebug=none:=ah
theorem star: "*" ++ "errors.errorString" = "*errors.errorString" :=au
theorem ahc (u:TypeId)(h:Tryz.prog.typeName? 3 u=some "*errors.errorString"):u=381:=
 typeName_ptr_named (nm:= "errors.errorString") (by rw[star];kernel_rfl) ah au u (by rw[star];exact h)
theorem aum:Tryz.prog.globalNamed "internal/strconv.uint64pow10" =some 1:=ah
theorem ahd:Tryz.prog.globalNamed "strconv.ErrRange" =some 5:=ah
theorem ahe:Tryz.prog.globalNamed "strconv.ErrSyntax" =some 4:=ah
theorem aun:(Tryz.prog.globals[5]?).map (·.type)=some 90:=ah
theorem auo:(Tryz.prog.globals[4]?).map (·.type)=some 90:=ah
abbrev tX:List (String×DataW Unit):=Rows.storyPrintsRow.laid
theorem aup {W:World}(h:laidMetH Tryz.prog tX W)(Ii:W.ShapedOpen Tryz.prog):Gl W:=by
 rw[MakeChecks.laidMetH_plain _ _ _ ah] at h;have h3:laidMet Tryz.prog (("internal/strconv.uint64pow10",Lib.tabData .u64 Lib.pow10Tab)::[("unicode/utf8.acceptRanges",Rows.laid_unicode_utf8_acceptRanges),("strconv.ErrRange",Rows.laid_strconv_ErrRange),("strconv.ErrSyntax",Rows.laid_strconv_ErrSyntax),("unicode/utf8.first",Rows.laid_unicode_utf8_first)]) W:=h.tail.tail;obtain⟨a1,s1,iZ,_⟩:=laid_sentinel h3.tail.tail ahd aun Tryz.underlying90 ahc Tryz.underlying381 Tryz.underlying383 rfl rfl Tryz.underlying9 ah ah;obtain⟨a2,s2,pI,_⟩:=laid_sentinel h3.tail.tail.tail ahe auo Tryz.underlying90 ahc Tryz.underlying381 Tryz.underlying383 rfl rfl Tryz.underlying9 ah ah;obtain⟨m,hm⟩:=cell_of_shapedOpen_int (P:=Tryz.prog) (g:=0) (t:=3) (zero:=#[.int .i64 0]) Ii (ni ah) ah rfl ah ah Tryz.underlying3;refine⟨⟨m,hm⟩,?_,⟨_,_,by simpa using World.var?_cell ahe pI 0⟩,⟨_,_,by simpa using World.var?_cell ahd iZ 0⟩,?_⟩
 ·exact Lib.tabIs_of_head aum ah Tryz.underlying323 Tryz.underlying222 ah ah h3
 ·obtain⟨cs,hh,_⟩:=Ii.1 7 (Array.replicate 64 (.int .u8 0)) 380 (ni ah) ah;exact(ng.1 hh).1
theorem YX (os:Os)(args:Array Value):laidMetH Tryz.prog tX ((World.laidAll Tryz.prog os tX).forCall (fun _ _=>0) ⟨#[],args,[]⟩).memory:=by
 rw[MakeChecks.laidMetH_plain _ _ _ ah];exact laidMet_laidAll _ ah ah
theorem YY {H:Type}{enc:TypeId×Value->H}{os:Os}{f:FuncId}{fn:Func}{s:ChangeSpec}(started:os.Started)(auq:Tryz.prog.inits.idxOf? f=none)(Cr:Tryz.prog.funcs[f]? =some fn)
  (witness:∃(w:World) (tape:Tape) (i:Input),w.os=os/\(w.forCall tape i).Shaped Tryz.checked.prog/\i.vars=[]/\Input.okWide Tryz.checked.prog (w.forCall tape i) .any w.heap.size f i/\
   ((s.pre enc Tryz.checked.prog fn [] false (w.forCall tape i).memory i.args/\laidMetH Tryz.prog tX (w.forCall tape i).memory)/\sizedMet enc Tryz.checked.prog fn (OpenSpec.ofChange s) false (w.forCall tape i).memory i.args)/\({}:Assume).holds Tryz.checked.prog (lone (Frame.enter Tryz.checked.prog f i.args .normal) [] (w.forCall tape i)))
  (contract:∀(W:World) (base:Nat) (args:Array Value) (ds gs:List (DataW H)) (before:List MemPlace),
   (∀(j:Nat) t v,fn.params[j]? =some t->args[j]? =some v->Value.okWide Tryz.prog W .any base t v)->
   DataW.Whole enc Tryz.prog fn.params.toList s.vars false W args.toList ds gs before->Gl W->
   Calls Tryz.prog f args W fun e W'=>∃v,e=.returned v/\s.post enc Tryz.prog fn false true false false W args v W'):
  ReturnsInHanded {} Tryz.checked os f .any (fun w args=>(s.pre enc Tryz.checked.prog fn [] false w args/\laidMetH Tryz.prog tX w)/\sizedMet enc Tryz.checked.prog fn (OpenSpec.ofChange s) false w args) (s.post enc Tryz.checked.prog fn false true false false):=by
 refine returnsInHanded_of_calls own started auq witness ?_;intro w tape i _ Ii _ bU EE _;obtain⟨_,_,_,fn',aur,_,_,_,_,hval⟩:=bU;have e:fn'=fn:=dX (aur.symm.trans Cr);subst e;obtain⟨⟨⟨ds,gs,before,hw,hc⟩,hx⟩,hz⟩:=EE;have hw':=DataW.Whole.of_heap (w':=w.forCall tape i) eD hw
 refine(contract (w.forCall tape i) w.heap.size i.args ds gs before hval hw' (aup (laidMetH.of_heap eD hx) Ii)).mono fun e W' ⟨v,he,hp⟩=> ?_
 subst he;exact ChangeSpec.post_blind hp
end
section
variable {done l:List Nat} {nx:Nat->List Nat}
def sJ (nx:Nat->List Nat)(n:Nat):List Nat:=(List.range n).flatMap nx
structure rh (nx:Nat->List Nat)(n:Nat)(row:List Nat)(done:List Nat):Prop where
 nodup:row.Nodup
 lt:∀a∈row,a<n
 mem:∀b<n,b∈row↔done.count b=(sJ nx n).count b
 order:∀(q:Nat) (b:Nat),row[q]? =some b->∀a<n,b∈nx a->a∈row.take q
theorem YZ{n:Nat}(hn:l.Nodup)(hl:∀a∈l,a<n):(l++(List.range n).filter (fun a=>decide (a∉l))).Perm (List.range n):=by
 refine(List.perm_ext_iff_of_nodup ?_ Na).2 fun a=> ?_
 ·rw[MX];refine⟨hn,Na.filter _,?_⟩;intro x hx y hy;rintro rfl;have:=(nj.1 hy).2;simp at this;exact this hx
 ·simp only[fL,nj,gy,dh];constructor
  ·rintro(ha|ha)
   ·exact hl a ha
   ·exact ha.1
  ·intro ha;by_cases hr:a∈l
   ·exact .inl hr
   ·exact .inr ⟨ha,hr⟩
theorem ahf(nx:Nat->List Nat)(b:Nat){n:Nat}(hn:l.Nodup)(hl:∀a∈l,a<n):(l.flatMap nx).count b<=(sJ nx n).count b:=by
 have:=(List.Perm.flatMap_right nx (YZ hn hl)).count_eq b;rw[oY,zM] at this;unfold sJ;omega
theorem rh.step{n:Nat}{row:List Nat}(h:rh nx n row done)(k:Nat)(a:Nat)(hk:row[k]? =some a)(j:Nat)(b:Nat)(hj:(nx a)[j]? =some b)(hb:b<n)
  (hd:done=(row.take k).flatMap nx++(nx a).take j):b∉row/\done.count b<(sJ nx n).count b/\
   ((sJ nx n).count b=done.count b+1->rh nx n (row++[b]) (done++[b]))/\((sJ nx n).count b≠done.count b+1->rh nx n row (done++[b])):=by
 have eb:=(bK.1 hk).1;have dJ:=(bK.1 hj).1
 have db:row.take (k+1)=row.take k++[a]:=by rw[DB,hk];rfl
 have EE:(done++[b])<+:(row.take (k+1)).flatMap nx:=by
  rw[db,oY,hd,List.append_assoc];refine(List.prefix_append_right_inj _).2 ?_
  have:(nx a).take j++[b]=(nx a).take (j+1):=by rw[DB,hj];rfl
  rw[this];simp only[rO,List.flatMap_nil,rS];exact List.take_prefix _ _
 have cP:(row.take (k+1)).Nodup:=(List.take_sublist _ _).nodup h.nodup
 have iX:∀x∈row.take (k+1),x<n:=fun x hx=>h.lt x (tu hx)
 have hle:(done++[b]).count b<=(sJ nx n).count b:=bj (EE.sublist.count_le b) (ahf nx b cP iX);have jN:(done++[b]).count b=done.count b+1:=ai;have hlt:done.count b<(sJ nx n).count b:=ab
 have Cs:b∉row:=fun hm=>by have:=(h.mem b hb).1 hm;omega
 have ahg:∀x,x≠b->(done++[b]).count x=done.count x:=fun x hx=>by
  simp[zM,Ne.symm hx]
 refine⟨Cs,hlt,fun he=> ?_,fun he=> ?_⟩
 ·refine⟨?_,?_,?_,?_⟩
  ·rw[MX];refine⟨h.nodup,ai,?_⟩;intro x hx y hy;simp at hy;subst hy;rintro rfl;exact Cs hx
  ·intro x hx
   rcases fL.1 hx with hx|hx
   ·exact h.lt x hx
   ·simp at hx;omega
  ·intro x hx;by_cases Ct:x=b
   ·subst Ct;simp[jN,he]
   ·rw[ahg x Ct,<-h.mem x hx];simp[Ct]
  ·intro q x hq c hc yJ;by_cases fC:q<row.length
   ·rw[lT fC] at hq;rw[uE ab];exact h.order q x hq c hc yJ
   ·have sK:q=row.length:=by
     have:=(bK.1 hq).1;simp at this;omega
    subst sK;rw[iR ax] at hq;simp at hq;subst hq;rw[oC]
    refine JX fun uX=> ?_
    have SX:c∉row.take (k+1):=fun hm=>uX (tu hm)
    have kY:=ahf nx b (n:=n) (l:=c::row.take (k+1)) (List.nodup_cons.2 ⟨SX,cP⟩) (by
     intro y hy
     rcases cz.1 hy with rfl|hy
     ·exact hc
     ·exact iX y hy)
    rw[rO,zM] at kY;have h1:0<(nx c).count b:=List.count_pos_iff.2 yJ;have h2:=EE.sublist.count_le b;omega
 ·refine⟨h.nodup,h.lt,?_,h.order⟩;intro x hx;by_cases Ct:x=b
  ·subst Ct;rw[jN];constructor
   ·intro hm;exact absurd hm Cs
   ·intro e;exact absurd e.symm he
  ·rw[ahg x Ct];exact h.mem x hx
theorem rh.full{n:Nat}{row:List Nat}(h:rh nx n row (row.flatMap nx))(hx:∀a<n,∀b∈nx a,a<b):∀i<n,i∈row:=by
 intro i
 induction i using Nat.strongRecOn with
 |_ i ih=>
  intro hi;rw[h.mem i hi];have hp:=YZ h.nodup h.lt;have hc:=(List.Perm.flatMap_right nx hp).count_eq i;rw[oY,zM] at hc
  have h0:(((List.range n).filter (fun a=>decide (a∉row))).flatMap nx).count i=0:=by
   rw[List.count_eq_zero];intro hm;obtain⟨a,ha,hia⟩:=BH.1 hm;obtain⟨h1,h2⟩:=nj.1 ha;simp only[gy,dh] at h1 h2;exact h2 (ih a (hx a h1 i hia) h1)
  unfold sJ;omega
theorem rh.length{n:Nat}{row:List Nat}(h:rh nx n row (row.flatMap nx))(hx:∀a<n,∀b∈nx a,a<b):row.length=n:=by
 have hp:row.Perm (List.range n):=(List.perm_ext_iff_of_nodup h.nodup Na).2 fun a=>⟨fun ha=>gy.2 (h.lt a ha),fun ha=>h.full hx a (gy.1 ha)⟩
 simpa using hp.length_eq
theorem rh.length_le{n:Nat}{row:List Nat}(h:rh nx n row done):row.length<=n:=by
 have:=(YZ h.nodup h.lt).length_eq;rw[List.length_append,BG] at this;omega
theorem rh.start(nx:Nat->List Nat)(n:Nat):rh nx n ((List.range n).filter fun i=>decide ((sJ nx n).count i=0)) []:=by
 refine⟨Na.filter _,fun a ha=>gy.1 (nj.1 ha).1,fun b hb=> ?_,fun q b hq a ha hba=> ?_⟩
 ·simp only[nj,gy,dh,List.count_nil];constructor
  ·rintro⟨_,h⟩;exact h.symm
  ·intro h;exact⟨hb,h.symm⟩
 ·have hm:=eE hq;have:=(nj.1 hm).2;simp only[dh,List.count_eq_zero] at this;exact absurd (BH.2 ⟨a,gy.2 ha,hba⟩) this
end
section
open Go.RowKit
def gD (w:World)(p:Nat)(r:RS):Prop:=az w p #[sv r.rest,.bool r.bad]
end
section
open Go.RowKit
variable {acc:Nat} {c:UInt8} {r:aj}
theorem ahh(hd:48<=c.toNat/\c.toNat<=57)(ha:acc<=2147483647):
  Lib.parseUintM 2147483647 acc (c::r)=if 2147483647<acc*10+(c.toNat-48) then .range else Lib.parseUintM 2147483647 (acc*10+(c.toNat-48)) r:=by
 simp only[Lib.parseUintM];rw[aq hd,af ab]
theorem aus(hd:¬(48<=c.toNat/\c.toNat<=57)):Lib.parseUintM 2147483647 acc (c::r)=.syntax:=by
 simp only[Lib.parseUintM];rw[af hd]
theorem aut(s:aj)(hne:s≠[])(hs:s.length<=4000000000)(w:World):
  Calls Tryz.prog 192 #[sv s,I 10,I 31] w fun e w'=>e=.returned (Lib.uintTupleM 329 2147483647 (Lib.parseUintM 2147483647 0 s))/\aw w w':=by
 obtain⟨t,ht⟩:∃t:ByteArray,t=⟨s.toArray⟩:=⟨_,rfl⟩
 have mS:t.data.toList=s:=by rw[ht]
 have hsz:s.length=t.size:=by rw[<-mS,Lib.size_eq]
 have auu:t.toList.isEmpty=false:=by
  rw[<-decide_eq_emptyBytes];exact jk (fun h=>hne (by rw[<-mS,h];rfl))
 have hcv:=Lib.run_convert_string_bytes (P:=Tryz.prog) w 9 86 5 t (u:=.string) Tryz.underlying9 Tryz.underlying86 Tryz.underlying5
 have hcell:∀j,j<s.length->(Lib.bytesWorld w 5 t).cell? ⟨w.heap.size,j,none⟩=some (.int .u8 (s.getD j 0).toNat):=fun j hj=>by
  rw[<-mS];exact Lib.bytesWorld_cell w 5 t j ab
 have SY:=ae (Lib.bytesWorld_below w 5 t)
 have hmv:IntKind.u64.wrap (IntKind.u64.wrap 2147483648-1)=2147483647:=by
  rw[IntKind.wrap_u64,IntKind.wrap_u64];decide
 obtain⟨W,hW⟩:∃W,W=Lib.bytesWorld w 5 t:=⟨_,rfl⟩
 rw[<-hW] at hcv hcell SY;have auv:=ae hcell;unfold sv;rw[<-ht];clear hW mS hcell ht;rw[hsz] at hs;go_enter Tryz.func192,Tryz.ntmps192;go_wp2;go_loop [12,13,101] (fun vu vn vi=>∃(k acc:Nat) (x:Int),vu=.bool false/\vn=.int .u64 x/\vi=.int .i64 k/\k<=t.size/\Hid (x=acc/\acc<=2147483647/\Lib.parseUintM 2147483647 0 s=Lib.parseUintM 2147483647 acc (s.drop k))) (fun _ _ vi=>t.size-(intOf vi).toNat)
 case atStart=>exact⟨0,0,0,rfl,rfl,rfl,ab,ae ⟨rfl,ab,rfl⟩⟩
 case round=>
  obtain⟨k,acc,x,rfl,rfl,rfl,hk,H⟩:=hrel
  have x0:0<=x:=by have:=H.out;omega
  have x1:x<=2147483647:=by have:=H.out;omega
  by_cases hlt:k<t.size
  ·have Za:k<s.length:=ab;have hc:=auv.out k Za
   have qF:s.getD k 0=s[k]:=by simp[List.getD,cw Za]
   have H2:=ae (show x=acc/\acc<=2147483647/\Lib.parseUintM 2147483647 0 s=Lib.parseUintM 2147483647 acc (s[k]::s.drop (k+1)) by rw[<-List.drop_eq_getElem_cons Za];exact H.out);rw[qF] at hc;generalize s[k]=c at hc H2;have ahi:c.toNat<256:=c.toNat_lt;clear qF;by_cases hd:48<=c.toNat/\c.toNat<=57
   ·obtain⟨d,hdd⟩:∃d:Int,d=(c.toNat:Int):=⟨_,rfl⟩
    have SR:48<=d:=ab;have jx:d<=57:=ab;rw[<-hdd] at hc;by_cases Zb:2147483647<x*10+(d-48)
    ·have vF:=ae (show Lib.parseUintM 2147483647 0 s=.range by
      obtain⟨e1,e2,e3⟩:=H2.out
      rw[e3,ahh hd e2,aq ab])
     clear H2 hdd hd ahi;go_wp2;go_ret2;rw[vF.out];exact⟨rfl,SY.out⟩
    ·have vF:=ae (show x*10+(d-48)=((acc*10+(c.toNat-48):Nat):Int)/\acc*10+(c.toNat-48)<=2147483647/\Lib.parseUintM 2147483647 0 s=Lib.parseUintM 2147483647 (acc*10+(c.toNat-48)) (s.drop (k+1)) by
      obtain⟨e1,e2,e3⟩:=H2.out;refine⟨ab,ab,?_⟩
      rw[e3,ahh hd e2,af ab])
     clear H2 hdd hd ahi;go_wp2;go_round
     case rel=>exact⟨k+1,_,x*10+(d-48),rfl,by go_num,by go_num,ab,vF⟩
     case measure=>simp[intOf];omega
   ·have vF:=ae (H2.out.2.2.trans (aus hd));have Zc:=bits_lo_u8 .or (c.toNat:Int) 32;have iZ:=bits_hi_u8 .or (c.toNat:Int) 32;have hu0:=bits_lo_u8 .or 95 32;have Ow:=bits_hi_u8 .or 95 32;clear H2
    go_wp2_with (go_at_call 237;refine(Tryz.internal_strconv_lower _ _).mono ?_;rintro e w' ⟨rfl,rfl⟩)
    all_goals go_ret2
    all_goals (rw[vF.out];exact⟨rfl,SY.out⟩)
  ·obtain rfl:k=t.size:=ab;have H2:=ae (show Lib.parseUintM 2147483647 0 s=.ok acc by rw[H.out.2.2,FX ab];rfl);have hx:=H.out.1;subst hx;go_wp2;go_ret2;rw[H2.out];exact⟨rfl,SY.out⟩
def SZ (v:Value):Prop:=∃t p,v=.iface t p
theorem auw(fn:ByteArray)(s:aj)(b k:Int)(w:World)(hg:Gl w)(hs:s.length<=4000000000):
  Calls Tryz.prog 193 #[.string fn,sv s,I b,I k,.iface 329 (.int .i64 2)] w fun e w'=>∃v,e=.returned v/\SZ v/\aw w w':=by
 obtain⟨te,pe,hv⟩:=hg.WJ;refine(Tryz.strconv_toError_syntax fn ⟨s.toArray⟩ b k (.iface te pe) w (by show s.toArray.size<=_;simp;omega) hv (.inr ⟨_,_,rfl⟩)).mono ?_;rintro e w' ⟨N,rfl,h1,h2,h3⟩;exact⟨_,rfl,⟨_,_,rfl⟩,h3⟩
theorem auy(fn:ByteArray)(s:aj)(b k:Int)(w:World)(hg:Gl w)(hs:s.length<=4000000000):
  Calls Tryz.prog 193 #[.string fn,sv s,I b,I k,.iface 329 (.int .i64 1)] w fun e w'=>∃v,e=.returned v/\SZ v/\aw w w':=by
 obtain⟨te,pe,hv⟩:=hg.WK;refine(Tryz.strconv_toError_range fn ⟨s.toArray⟩ b k (.iface te pe) w (by show s.toArray.size<=_;simp;omega) hv (.inr ⟨_,_,rfl⟩)).mono ?_;rintro e w' ⟨N,rfl,h1,h2,h3⟩;exact⟨_,rfl,⟨_,_,rfl⟩,h3⟩
theorem auz(w:World):
  Calls Tryz.prog 192 #[sv [],I 10,I 31] w fun e w'=>e=.returned (.tuple #[.int .u64 0,.iface 329 (.int .i64 2)])/\w=w':=by
 unfold sv;go_enter Tryz.func192,Tryz.ntmps192;go_wp2;go_ret2;exact⟨rfl,rfl⟩
def auA (s:aj)(v:Value):Prop:=(∃u,Lib.parseUintB 31 s=.ok u/\v=.tuple #[.int .u64 (u:Nat),.nilIface])\/((∀u,Lib.parseUintB 31 s≠ .ok u)/\∃er,SZ er/\v=.tuple #[.int .u64 (dK s),er])
theorem ahj(s:aj)(w:World)(hg:Gl w)(hs:s.length<=4000000000):
  Calls Tryz.prog 148 #[sv s,I 10,I 31] w fun e w'=>(∃v,e=.returned v/\auA s v)/\aw w w':=by
 have dW:∃T,T=Lib.parseUintB 31 s/\Calls Tryz.prog 192 #[sv s,I 10,I 31] w fun e w'=>e=.returned (Lib.uintTupleM 329 2147483647 T)/\aw w w':=by
  by_cases he:s=[]
  ·subst he;refine⟨.syntax,rfl,(auz w).mono ?_⟩;rintro e w' ⟨rfl,rfl⟩;exact⟨rfl,Below.refl _ _⟩
  ·exact⟨_,rfl,by unfold Lib.parseUintB;rw[af he];exact aut s he hs w⟩
 obtain⟨T,hT,hc⟩:=dW;have HT:=ae hT;have Hc:=ae hc;have HG:=ae hg;have eo:=hs;clear hT hc hg;have Hs:=ae hs;clear hs eo
 rcases T with u|_|_
 ·
  have hu:=(YQ HT.out.symm).1;unfold sv at*;go_enter Tryz.func148,Tryz.ntmps148
  go_wp2_with (go_at_call 192;refine Hc.out.mono ?_;rintro e w1 ⟨rfl,hb⟩;unfold Lib.uintTupleM)
  go_ret2;exact⟨⟨_,rfl,.inl ⟨u,HT.out.symm,rfl⟩⟩,hb⟩
 ·
  have HN:=ae (show dK s=0 by unfold dK;rw[<-HT.out]);have HE:=ae (show∀u,Lib.parseUintB 31 s≠ .ok u by intro u;rw[<-HT.out];intro h;cases h);have Ht:=ae (fun w1 hb=>auw ⟨#[80,97,114,115,101,85,105,110,116]⟩ s 10 31 w1 (Gl.below HG.out hb) Hs.out);unfold sv at*;go_enter Tryz.func148,Tryz.ntmps148
  go_wp2_with (first|(go_at_call 192;refine Hc.out.mono ?_;rintro e w1 ⟨rfl,hb⟩;unfold Lib.uintTupleM)|(go_at_call 193;refine(Ht.out _ hb).mono ?_;rintro e w2 ⟨v,rfl,hv,eU⟩))
  go_ret2;exact⟨⟨_,rfl,.inr ⟨HE.out,_,hv,by rw[HN.out];rfl⟩⟩,hb.trans (eU.mono hb.size)⟩
 ·
  have HN:=ae (show dK s=2147483647 by unfold dK;rw[<-HT.out]);have HE:=ae (show∀u,Lib.parseUintB 31 s≠ .ok u by intro u;rw[<-HT.out];intro h;cases h);have Ht:=ae (fun w1 hb=>auy ⟨#[80,97,114,115,101,85,105,110,116]⟩ s 10 31 w1 (Gl.below HG.out hb) Hs.out);unfold sv at*;go_enter Tryz.func148,Tryz.ntmps148
  go_wp2_with (first|(go_at_call 192;refine Hc.out.mono ?_;rintro e w1 ⟨rfl,hb⟩;unfold Lib.uintTupleM)|(go_at_call 193;refine(Ht.out _ hb).mono ?_;rintro e w2 ⟨v,rfl,hv,eU⟩))
  go_ret2;exact⟨⟨_,rfl,.inr ⟨HE.out,_,hv,by rw[HN.out];rfl⟩⟩,hb.trans (eU.mono hb.size)⟩
theorem ahk{s:aj}{u:Nat}(hu:Lib.parseUintB 31 s=.ok u)(w:World)(hg:Gl w)(hs:s.length<=4000000000):
  Calls Tryz.prog 148 #[sv s,I 10,I 31] w fun e w'=>e=.returned (.tuple #[.int .u64 (u:Nat),.nilIface])/\aw w w':=by
 refine(ahj s w hg hs).mono ?_;rintro e w' ⟨⟨v,rfl,⟨u',h1,rfl⟩|⟨h1,_⟩⟩,hb⟩
 ·rw[hu] at h1;injection h1 with h1;subst h1;exact⟨rfl,hb⟩
 ·exact absurd hu (h1 u)
end
section
open Go.RowKit
variable {l:List aj}
theorem ahl:∀(s:aj) (acc v:Nat),nD acc s=some v->v<=2147483647->Lib.parseUint10 acc s=.ok v
 |[],acc,v,h,hv=>by simp only[nD] at h;injection h with h;subst h;rfl
 |c::s,acc,v,h,hv=>by
  simp only[nD] at h;split at h
  ·rename_i hd;have hg:=YO s _ v h;simp only[Lib.parseUint10,aq hd];rw[af ab,af ab];exact ahl s _ v h hv
  ·cases h
theorem auB{s:aj}{n:Nat}(h:num s=some n):Lib.atoiAll s=.ok (n:Int):=by
 obtain⟨h1,rfl⟩:=(yR _ _).1 h;have hp:=ahl _ _ _ (YN n) h1;have hd:=SU n
 cases hs:Lib.decDigits n with
 |nil=>exact absurd hs (Li n)
 |cons c r=>
  rw[hs] at hp hd;have hc:=hd c ai;unfold Lib.atoiAll;simp only[];rw[af ab];unfold Lib.parseMag;rw[af ai,hp];simp only[];rw[af ab,af ab,af ab]
theorem auC{s:aj}{n:Nat}(h:num s=some n)(w:World)(hs:s.length<=4000000000):
  Calls Tryz.prog 181 #[sv s] w fun e w'=>e=.returned (.tuple #[I n,.nilIface])/\aw w w':=by
 refine(Tryz.strconv_Atoi_ok ⟨s.toArray⟩ (by show s.toArray.size<=_;simp;omega) n (auB h) w).mono ?_;rintro e w' ⟨rfl,rfl|⟨t,rfl⟩⟩
 ·exact⟨rfl,Below.refl _ _⟩
 ·exact⟨rfl,Lib.bytesWorld_below _ _ _⟩
def Zd (s:aj)(v:Int)(er:Value):Prop:=SZ er\/(er=.nilIface/\(v<0\/(0<=v/\2147483647<v)\/(0<=v/\v<=2147483647/\(Lib.itoa v==s)=false)))
theorem auD{s:aj}(h:num s=none)(w:World)(hg:Gl w)(hs:s.length<=4000000000):
  Calls Tryz.prog 181 #[sv s] w fun e w'=>(∃v er,e=.returned (.tuple #[I v,er])/\Zd s v er)/\aw w w':=by
 rcases ha:Lib.atoiAll s with v|_|_
 ·
  refine(Tryz.strconv_Atoi_ok ⟨s.toArray⟩ (by show s.toArray.size<=_;simp;omega) v ha w).mono ?_
  have hb:Zd s v .nilIface:=by
   refine .inr ⟨rfl,?_⟩;by_cases h0:v<0
   ·exact .inl h0
   ·by_cases h1:2147483647<v
    ·exact .inr (.inl ⟨ab,h1⟩)
    ·refine .inr (.inr ⟨ab,ab,?_⟩);rw[mE];intro e
     obtain⟨u,rfl⟩:∃u:Nat,v=u:=⟨v.toNat,ab⟩
     rw[Lib.itoa_nonneg] at e;rw[(yR s u).2 ⟨ab,e.symm⟩] at h;cases h
  rintro e w' ⟨rfl,rfl|⟨t,rfl⟩⟩
  ·exact⟨⟨_,_,rfl,hb⟩,Below.refl _ _⟩
  ·exact⟨⟨_,_,rfl,hb⟩,Lib.bytesWorld_below _ _ _⟩
 ·
  obtain⟨te,pe,hv⟩:=hg.WJ;refine(Tryz.strconv_Atoi_syntax ⟨s.toArray⟩ (by show s.toArray.size<=_;simp;omega) ha (.iface te pe) w hv (.inr ⟨_,_,rfl⟩)).mono ?_;rintro e w' ⟨N,rfl,h1,h2,h3⟩;exact⟨⟨_,_,rfl,.inl ⟨_,_,rfl⟩⟩,h3⟩
 ·
  obtain⟨te,pe,hv⟩:=hg.WK;refine(Tryz.strconv_Atoi_range ⟨s.toArray⟩ (by show s.toArray.size<=_;simp;omega) ha (.iface te pe) w hv (.inr ⟨_,_,rfl⟩)).mono ?_;rintro e w' ⟨N,rfl,h1,h2,h3⟩;exact⟨⟨_,_,rfl,.inl ⟨_,_,rfl⟩⟩,h3⟩
theorem Ta(c:UInt8)(s:aj):∀t∈bW c s,t.length<=s.length:=by
 induction s with
 |nil=>intro t ht;simp[bW] at ht;subst ht;simp
 |cons x r ih=>
  intro t ht;simp only[bW] at ht;split at ht
  ·rcases cz.1 ht with rfl|ht
   ·simp
   ·have:=ih t ht;simp;omega
  ·cases hs:bW c r with
   |nil=>exact absurd hs (YV c r)
   |cons a b=>
    rw[hs] at ht ih
    rcases cz.1 ht with rfl|ht
    ·have:=ih a ai;simp;omega
    ·have:=ih t (by simp[ht]);simp;omega
theorem auE{s:aj}{ns:List Nat}{n:Nat}(h:l.mapM num=some ns)(hn:num s=some n):(l++[s]).mapM num=some (ns++[n]):=by
 rw[List.mapM_append,h];simp[hn]
theorem mapM_none{s:aj}(hm:s∈l)(hn:num s=none):l.mapM num=none:=by
 induction l with
 |nil=>cases hm
 |cons a l ih=>
  rcases cz.1 hm with rfl|hm
  ·simp[Gf,hn]
  ·rw[Gf,ih hm];cases num a<;>rfl
theorem mapM_length{ns:List Nat}(h:l.mapM num=some ns):ns.length=l.length:=by
 induction l generalizing ns with
 |nil=>simp at h;subst h;rfl
 |cons a l ih=>
  rw[Gf] at h
  cases ha:num a with
  |none=>rw[ha] at h;simp at h
  |some x=>
   cases hl:l.mapM num with
   |none=>rw[ha,hl] at h;simp at h
   |some y=>
    rw[ha,hl] at h;simp at h;subst h;simp[ih hl]
end
end Go.Proofs.YtkanpepkdcmpmaaGreatDoor
