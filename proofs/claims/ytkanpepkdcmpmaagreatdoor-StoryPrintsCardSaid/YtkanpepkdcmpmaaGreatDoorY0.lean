import Derived.Test.YtkanpepkdcmpmaaGreatDoorYA
import Derived.WalkSpells
import Derived.Deep.QuietTactic
import Derived.Deep.AppendLies
import Derived.Test.YtkanpepkdcmpmaaGreatDoorProg
import Derived.WalkLawsBesides
import Derived.BigQuiet
import Derived.StillTailTactics
import Derived.OrdersHeld
import Derived.StillTail
import Derived.Deep.RegionHeld3
import Derived.OrdersIn
import Derived.TacticsIn
import Derived.Maps.OwnSet
import Derived.Maps.RangeWalk
import Derived.DeepKeys4
import Derived.Deep.MidRow
import Derived.Laws.AppendOwnNone
import Derived.Deep.CutBlock
import Derived.Deep.Onto
import Derived.Deep.Upon
set_option maxHeartbeats 40000000
set_option maxRecDepth 100000
set_option linter.all false
namespace Go.Proofs.YtkanpepkdcmpmaaGreatDoor
namespace mG
abbrev aj:=List UInt8
structure Tok where
 kind:Nat
 pos:Nat
 text:aj
 val:Nat
deriving DecidableEq,Repr
instance:Inhabited Tok:=⟨⟨0,0,[],0⟩⟩
def letter (c:UInt8):Bool:=decide (97<=c) && decide (c<=122)
def digit (c:UInt8):Bool:=decide (48<=c) && decide (c<=57)
def skip:Bool->aj->Nat
 |_,[]=>0
 |true,c::r=>if c=10 then skip false r+1 else skip true r+1
 |false,c::r=>if c=35 then skip true r+1 else if c=32\/c=9\/c=10 then skip false r+1 else 0
def adC:aj->Nat->Option Nat
 |[],n=>some n
 |c::r,n=>if 10*n+c.toNat-48>2147483647 then none else adC r (10*n+c.toNat-48)
def aot:List aj:=[[124,124],[38,38],[60,61],[62,61],[61,61],[33,61]]
def aou:List aj:=[[123],[125],[91],[93],[40],[41],[61],[59],[44],[60],[62],[43],[45],[42],[47],[33]]
def aov (pos:Nat):aj->Option Tok
 |[]=>none
 |c::r=>
  if letter c then
   if(c::r.takeWhile (fun x=>letter x||digit x)).length>10 then none else some ⟨1,pos,c::r.takeWhile (fun x=>letter x||digit x),0⟩
  else if digit c then(adC (c::r.takeWhile digit) 0).map (fun n=>⟨2,pos,c::r.takeWhile digit,n⟩)
  else if(c::r).take 2∈aot then some ⟨3,pos,(c::r).take 2,0⟩
  else if [c]∈aou then some ⟨3,pos,[c],0⟩
  else none
def adD:Nat->aj->Nat->List Tok->Option (List Tok)
 |0,_,_,_=>none
 |_+1,[],pos,acc=>some (acc++[⟨0,pos,[],0⟩])
 |f+1,c::r,pos,acc=>
  match aov pos (c::r) with
  |none=>none
  |some t=>
   let r1:=(c::r).drop t.text.length
   adD f (r1.drop (skip false r1)) (pos+t.text.length+skip false r1) (acc++[t])
def tokens (s:aj):Option (List Tok):=adD 3002 (s.drop (skip false s)) (skip false s) []
inductive Nd where
 |mk (kind:Nat) (n:Nat) (s:aj) (kids:List Nd)
deriving Repr
def Nd.kind:Nd->Nat| .mk k _ _ _=>k
def Nd.n:Nd->Nat| .mk _ n _ _=>n
def Nd.s:Nd->aj| .mk _ _ s _=>s
def Nd.kids:Nd->List Nd| .mk _ _ _ l=>l
instance:Inhabited Nd:=⟨.mk 0 0 [] []⟩
def Wo:List aj:=[[115,101,108,102],[110,111,100,101,115],[110,111,119],[102,114,111,109],[97],[98],[105,100],[111,112],[107,101,121]]
def aow:List aj:=[[100,117,114,97,98,108,101],[118,111,108,97,116,105,108,101],[111,110],[115,116,97,114,116],[114,101,113,117,101,115,116],[116,105,109,101,114],[109,101,115,115,97,103,101],[105,102],[101,108,115,101],[119,104,105,108,101],[115,101,110,100],[99,97,110,99,101,108],[115,121,110,99],[114,101,112,108,121],[102,97,105,108],[115,116,111,112],[116,114,117,101],[102,97,108,115,101],[100,114,97,119]]
def aox (s:aj):Bool:=decide (s∈Wo)||decide (s∈aow)
section
variable (T:List Tok)
def tk (i:Nat):Tok:=T.getD i default
def tx (i:Nat):aj:=(tk T i).text
def isName (i:Nat):Bool:=decide ((tk T i).kind=1) && !aox (tx T i)
def gT (i:Nat):Nat:=if i+1<T.length then i+1 else i
def expect (s:aj)(i:Nat):Option Nat:=if tx T i=s then some (gT T i) else none
def Wp (s:aj)(level i:Nat):Option Nat:=if tx T i=s/\level<=20 then some (gT T i) else none
def number (most i:Nat):Option (Nat×Nat):=if(tk T i).kind=2/\(tk T i).val<=most then some ((tk T i).val,gT T i) else none
def opsOf:Nat->List aj
 |1=>[[124,124]]
 |2=>[[38,38]]
 |4=>[[60],[60,61],[62],[62,61],[61,61],[33,61]]
 |5=>[[43],[45]]
 |6=>[[42],[47]]
 |_=>[]
mutual
def expr:Nat->Nat->Nat->Nat->Option (Nd×Nat)
 |0,_,_,_=>none
 |f+1,level,prec,i=>
  if prec=3/\tx T i=[33] then unary f [33] level 3 i
  else if prec=3 then binary f level 4 i
  else if prec=7/\tx T i=[45] then unary f [45] level 7 i
  else if prec=7 then aoy f level i
  else binary f level prec i
def unary:Nat->aj->Nat->Nat->Nat->Option (Nd×Nat)
 |0,_,_,_,_=>none
 |f+1,s,level,prec,i=>do
  let i<-Wp T s (level+1) i
  let(Nc,i)<-expr f (level+1) prec i
  some (.mk 17 0 s [Nc],i)
def binary:Nat->Nat->Nat->Nat->Option (Nd×Nat)
 |0,_,_,_=>none
 |f+1,level,prec,i=>do
  let(left,i)<-expr f level (prec+1) i
  more f level prec left i
def more:Nat->Nat->Nat->Nd->Nat->Option (Nd×Nat)
 |0,_,_,_,_=>none
 |f+1,level,prec,left,i=>
  if tx T i∈opsOf prec then do
   let(right,j)<-expr f level (prec+1) (gT T i)
   if prec=4 then some (.mk 18 0 (tx T i) [left,right],j) else more f level prec (.mk 18 0 (tx T i) [left,right]) j
  else some (left,i)
def nested:Nat->Nat->Nat->Option (Nd×Nat)
 |0,_,_=>none
 |f+1,level,i=>do
  let i<-Wp T [40] (level+1) i
  let(Nc,i)<-expr f (level+1) 1 i
  let i<-expect T [41] i
  some (Nc,i)
def aoy:Nat->Nat->Nat->Option (Nd×Nat)
 |0,_,_=>none
 |f+1,level,i=>
  if tx T i=[40] then nested f level i
  else if tx T i=[100,114,97,119] then do
   let(Nc,j)<-nested f level (gT T i)
   some (.mk 16 0 [] [Nc],j)
  else if(tk T i).kind=2 then some (.mk 12 (tk T i).val [] [],gT T i)
  else if tx T i=[116,114,117,101] then some (.mk 13 1 [] [],gT T i)
  else if tx T i=[102,97,108,115,101] then some (.mk 13 0 [] [],gT T i)
  else if tx T i∈Wo then some (.mk 15 0 (tx T i) [],gT T i)
  else if isName T i then some (.mk 14 0 (tx T i) [],gT T i)
  else none
end
mutual
def statement:Nat->Nat->Nat->Option (Nd×Nat)
 |0,_,_=>none
 |f+1,level,i=>
  if isName T i then do
   let j<-expect T [61] (gT T i)
   let(e,j)<-expr T f level 1 j
   let j<-expect T [59] j
   some (.mk 1 0 (tx T i) [e],j)
  else if tx T i=[105,102] then do
   let(c,j)<-expr T f level 1 (gT T i)
   let(a,j)<-block f (level+1) j
   if tx T j=[101,108,115,101] then
    let(b,j)<-block f (level+1) (gT T j)
    some (.mk 2 0 [] [c,a,b],j)
   else some (.mk 2 0 [] [c,a,.mk 11 0 [] []],j)
  else if tx T i=[119,104,105,108,101] then do
   let(c,j)<-expr T f level 1 (gT T i)
   let(a,j)<-block f (level+1) j
   some (.mk 3 0 [] [c,a],j)
  else if tx T i=[115,101,110,100] then do
   let(kM,j)<-expr T f level 1 (gT T i)
   let j<-expect T [44] j
   let(k,j)<-number T 29 j
   let j<-expect T [44] j
   let(a,j)<-expr T f level 1 j
   let j<-expect T [44] j
   let(b,j)<-expr T f level 1 j
   let j<-expect T [59] j
   some (.mk 4 k [] [kM,a,b],j)
  else if tx T i=[116,105,109,101,114] then do
   let(k,j)<-number T 7 (gT T i)
   let j<-expect T [59] j
   some (.mk 5 k [] [],j)
  else if tx T i=[99,97,110,99,101,108] then do
   let(k,j)<-number T 7 (gT T i)
   let j<-expect T [59] j
   some (.mk 6 k [] [],j)
  else if tx T i=[115,121,110,99] then do
   let j<-expect T [59] (gT T i)
   some (.mk 7 0 [] [],j)
  else if tx T i=[114,101,112,108,121] then do
   let(a,j)<-expr T f level 1 (gT T i)
   let j<-expect T [44] j
   let(b,j)<-expr T f level 1 j
   let j<-expect T [59] j
   some (.mk 8 0 [] [a,b],j)
  else if tx T i=[102,97,105,108] then do
   let(a,j)<-expr T f level 1 (gT T i)
   let j<-expect T [59] j
   some (.mk 9 0 [] [a],j)
  else if tx T i=[115,116,111,112] then do
   let j<-expect T [59] (gT T i)
   some (.mk 10 0 [] [],j)
  else none
def block:Nat->Nat->Nat->Option (Nd×Nat)
 |0,_,_=>none
 |f+1,level,i=>do
  let i<-Wp T [123] level i
  stmts f level [] i
def stmts:Nat->Nat->List Nd->Nat->Option (Nd×Nat)
 |0,_,_,_=>none
 |f+1,level,acc,i=>
  if tx T i=[125] then some (.mk 11 0 [] acc,gT T i)
  else do
   let(s,j)<-statement f level i
   stmts f level (acc++[s]) j
end
def decl:Nat->List aj->List aj->Nat->Option (List aj×List aj×Nat)
 |0,_,_,_=>none
 |f+1,ns,out,i=>
  if isName T i/\tx T i∉ns/\ns.length<16 then
   if tx T (gT T i)=[44] then decl f (ns++[tx T i]) (out++[tx T i]) (gT T (gT T i))
   else do
    let j<-expect T [59] (gT T i)
    some (ns++[tx T i],out++[tx T i],j)
  else none
structure wM where
 dH:List aj
 jF:List aj
 on:List (Nat×Nd)
deriving Repr
def decls:Nat->List aj->wM->Nat->Option (wM×Nat)
 |0,_,_,_=>none
 |f+1,ns,u,i=>
  if tx T i=[100,117,114,97,98,108,101] then do
   let(ns,l,j)<-decl T f ns [] (gT T i)
   decls f ns { u with dH:=u.dH++l } j
  else if tx T i=[118,111,108,97,116,105,108,101] then do
   let(ns,l,j)<-decl T f ns [] (gT T i)
   decls f ns { u with jF:=u.jF++l } j
  else some (u,i)
def aoz (l:List (Nat×Nd))(i:Nat):Option (Nat×Nat):=do
 let(n,j)<-
  if tx T i=[115,116,97,114,116] then some (0,gT T i)
  else if tx T i=[114,101,113,117,101,115,116] then some (1,gT T i)
  else if tx T i=[116,105,109,101,114] then(number T 7 (gT T i)).map (fun x=>(2+x.1,x.2))
  else if tx T i=[109,101,115,115,97,103,101] then(number T 29 (gT T i)).map (fun x=>(10+x.1,x.2))
  else none
 if n∈l.map Prod.fst then none else some (n,j)
def adE (h:Nat×Nd):List (Nat×Nd)->List (Nat×Nd)
 |[]=>[h]
 |x::l=>if x.1<h.1 then x::adE h l else h::x::l
def handlers:Nat->wM->Nat->Option wM
 |0,_,_=>none
 |f+1,u,i=>
  if(tk T i).kind=0 then some u
  else do
   let j<-expect T [111,110] i
   let(n,j)<-aoz T u.on j
   let(b,j)<-block T f 1 j
   handlers f { u with on:=adE (n,b) u.on } j
end
def parse (s:aj):Option wM:=
 if s.length>3000 then none
 else do
  let T<-tokens s
  let(u,i)<-decls T 1000 [] ⟨[],[],[]⟩ 0
  handlers T 1000 u i
def aoA:List aj:=[[60],[60,61],[62],[62,61],[61,61],[33,61]]
def typeOf:Nat->Nd->Option Nat
 |0,_=>none
 |f+1,.mk k _ s kids=>
  if k=12\/k=14\/k=15 then some 1
  else if k=13 then some 2
  else if k≠16/\k≠17/\k≠18 then some 0
  else
   let lg:=decide (k=17/\s=[33])||decide (k=18/\s∈[[38,38],[124,124]])
   let operand:=if lg then 2 else 1
   let result:=if k=18/\s∈aoA then 2 else operand
   if kids.all (fun x=>typeOf f x==some operand) then some result else none
def Wq:Nat->Nd->Bool
 |0,_=>false
 |f+1,.mk k _ _ kids=>
  if k=11 then kids.all (Wq f)
  else if k=2\/k=3 then kids.tail.all (Wq f) && (kids.head?.bind (typeOf f)==some 2)
  else kids.all (fun x=>typeOf f x==some 1)
def indexOf (u:wM)(s:aj):Option Nat:=(u.dH++u.jF).findIdx? (fun x=>decide (x=s))
def adF (u:wM):Nat->Nd->Bool
 |0,_=>false
 |f+1,.mk k _ s kids=>(if k=1\/k=14 then(indexOf u s).isSome else true) && kids.all (adF u f)
def aoB (u:wM):Bool:=u.on.all (fun h=>Wq 60 h.2 && adF u 60 h.2)
abbrev Ins:=Nat×Nat
structure Prog where
 code:List (Int×Int)
 entry:List Int
 dH:Int
 jF:Int
deriving DecidableEq,Repr
def aoC (s:aj):List Ins:=
 if s=[43] then [(6,0)] else if s=[45] then [(7,0)] else if s=[42] then [(8,0)] else if s=[47] then [(9,0)]
 else if s=[60] then [(11,0)] else if s=[60,61] then [(12,0)] else if s=[61,61] then [(13,0)]
 else if s=[62] then [(12,0),(14,0)] else if s=[62,61] then [(11,0),(14,0)] else [(13,0),(14,0)]
def idx (u:wM)(s:aj):Nat:=(indexOf u s).getD 0
def alt (c:Nd->Nat->Option (List Ins))(l:List Nd)(n at_:Nat):Option (List Ins):=
 match l with
 |[]=>some [(1,n)]
 |x::_=>c x at_
def branch (c:Nd->Nat->Option (List Ins))(cond:Nd)(yes no:List Nd)(n at_:Nat):Option (List Ins):=do
 let out<-c cond at_
 let a<-alt c yes n (at_+out.length+1)
 let b<-alt c no n (at_+out.length+1+a.length+1)
 let f:=at_+out.length+1+a.length+1
 some (out++[(16,f)]++a++[(15,f+b.length)]++b)
def adG (c:Nd->Nat->Option (List Ins)):List Nd->List Ins->Nat->Option (List Ins)
 |[],out,_=>some out
 |x::l,out,at_=>do
  let y<-c x (at_+out.length)
  adG c l (out++y) at_
def code (u:wM):Nat->Nd->Nat->Option (List Ins)
 |0,_,_=>none
 |f+1,.mk k n s kids,at_=>
  let c:=code u f
  let k0:=kids.getD 0 default
  let k1:=kids.getD 1 default
  if k=12\/k=13 then some [(1,n)]
  else if k=14 then some [(2,idx u s)]
  else if k=15 then some [(4,(Wo.findIdx? (fun x=>decide (x=s))).getD 0)]
  else if k=2 then branch c k0 ((kids.drop 1).take 1) ((kids.drop 2).take 1) 0 at_
  else if k=5 then some [(18,n)]
  else if k=6 then some [(19,n)]
  else if k=7 then some [(20,0)]
  else if k=10 then some [(23,0)]
  else if k=3 then do
   let cond<-c k0 at_
   let body<-c k1 (at_+cond.length+1)
   some (cond++[(16,at_+cond.length+body.length+2)]++body++[(15,at_)])
  else if k=18/\s=[38,38] then branch c k0 ((kids.drop 1).take 1) [] 0 at_
  else if k=18/\s=[124,124] then branch c k0 [] ((kids.drop 1).take 1) 1 at_
  else do
   let out<-adG c kids [] at_
   some (out++(if k=18 then aoC s else if k=16 then [(5,0)] else if k=17 then(if s=[45] then [(10,0)] else [(14,0)])
    else if k=1 then [(3,idx u s)] else if k=4 then [(17,n)] else if k=8 then [(21,0)] else if k=9 then [(22,0)] else []))
def adH (u:wM):List (Nat×Nd)->List Ins->List Int->Option (List Ins×List Int)
 |[],cd,en=>some (cd,en)
 |(h,b)::l,cd,en=>do
  let x<-code u 60 b cd.length
  adH u l (cd++x++[(23,0)]) (en.set (h%40) cd.length)
def compile (u:wM):Option Prog:=do
 let(cd,en)<-adH u u.on [] (List.replicate 40 (-1))
 if cd.length>400 then none
 else some ⟨cd.map (fun x=>(Int.ofNat x.1,Int.ofNat x.2)),en,u.dH.length,u.jF.length⟩
def eX (op:Int):Int:=
 if op∈[1,2,4,15,18,19,20,23] then 0 else if op∈[5,10,14,3,16,22] then 1 else if op∈[6,7,8,9,11,12,13,21] then 2 else if op=17 then 3 else -1
def kp (op:Int):Int:=if op∈[1,2,4,5,10,14,6,7,8,9,11,12,13] then 1 else 0
def qp (p:Prog)(i:Nat):List Int:=
 let x:=p.code.getD i (0,0)
 if x.1=23 then [] else if x.1=15 then [x.2] else if x.1=16 then [(i:Int)+1,x.2] else [(i:Int)+1]
def Prog.opAt (p:Prog)(i:Nat):Int:=(p.code.getD i (0,0)).1
abbrev DK:=List Int×Bool×Bool
def aoD (d:Int)(st:DK)(t:Int):DK:=
 if t<0\/(st.1.length:Int)<=t then st
 else if st.1.getD t.toNat 0<0 then(st.1.set t.toNat d,st.2.1,true)
 else if st.1.getD t.toNat 0≠d then(st.1,false,st.2.2) else st
def qq (p:Prog)(st:DK)(i:Nat):DK:=
 let o:=st.1.getD i 0
 if o<0 then st
 else
  let d0:=o-eX (p.opAt i)
  (qp p i).foldl (aoD ((if d0<0 then 0 else d0)+kp (p.opAt i))) (if d0<0 then(st.1,false,st.2.2) else st)
def Ws (p:Prog)(st:DK):DK:=(List.range p.code.length).foldl (qq p) (st.1,st.2.1,false)
def adI (p:Prog):Nat->DK->DK
 |0,st=>st
 |f+1,st=>if(Ws p st).2.2 then adI p f (Ws p st) else Ws p st
def Wt (p:Prog)(entry:Int):List Int×Bool:=
 if entry<0\/(p.code.length:Int)<=entry then(List.replicate p.code.length (-1),true)
 else
  let s:=adI p (p.code.length+1) ((List.replicate p.code.length (-1)).set entry.toNat 0,true,true)
  (s.1,s.2.1)
def depth (p:Prog)(entry:Int):Int:=
 (List.range p.code.length).foldl (fun m i=>
  let d:=(Wt p entry).1.getD i 0
  if d>=0 then max m (max d (d-eX (p.opAt i)+kp (p.opAt i))) else m) 0
def Wu (p:Prog)(x:Int×Int):Bool:=
 if x.1=1 then decide (-2147483647<=x.2) && decide (x.2<=2147483647)
 else
  let most:Int:=if x.1=2\/x.1=3 then p.dH+p.jF-1 else if x.1=4 then 8 else if x.1=17 then 29 else if x.1=18\/x.1=19 then 7 else if x.1=15\/x.1=16 then p.code.length-1 else 0
  decide (0<=eX x.1) && decide (0<=x.2) && decide (x.2<=most)
def adJ (p:Prog)(e:Int):Int:=
 if e<0 then 0
 else if(Wt p e).1.getD (p.code.length-1) 0>=0/\(p.code.length:Int)∈qp p (p.code.length-1) then 12
 else if(Wt p e).2=false\/depth p e>16 then 13 else 0
def verify (p:Prog):Int:=
 if p.code.length>400 then 2
 else if p.dH<0\/p.jF<0\/p.dH>16\/p.jF>16-p.dH then 12
 else if p.code.any (fun x=> !Wu p x) then 12
 else if p.entry.any (fun e=>decide (e< -1)||decide ((p.code.length:Int)<=e)) then 12
 else if p.entry.any (fun e=>adJ p e=12) then 12
 else if p.entry.any (fun e=>adJ p e=13) then 13 else 0
def build (s:aj):Option Prog:=do
 let u<-parse s
 if aoB u then
  let p<-compile u
  if p.entry.all (fun e=>decide (depth p e<=16)) then some p else none
 else none
def sources:List aj:=[
 [100,117,114,97,98,108,101,32,118,59,32,111,110,32,114,101,113,117,101,115,116,32,123,32,105,102,32,111,112,32,61,61,32,48,32,123,32,114,101,112,108,121,32,105,100,44,32,118,59,32,125,32,101,108,115,101,32,123,32,105,102,32,111,112,32,61,61,32,50,32,123,32,114,101,112,108,121,32,105,100,44,32,118,59,32,118,32,61,32,97,59,32,125,32,101,108,115,101,32,123,32,118,32,61,32,97,59,32,114,101,112,108,121,32,105,100,44,32,48,59,32,125,32,125,32,125],
 [100,117,114,97,98,108,101,32,118,59,32,111,110,32,114,101,113,117,101,115,116,32,123,32,105,102,32,111,112,32,61,61,32,48,32,123,32,114,101,112,108,121,32,105,100,44,32,118,59,32,125,32,101,108,115,101,32,123,32,105,102,32,111,112,32,61,61,32,50,32,123,32,114,101,112,108,121,32,105,100,44,32,118,59,32,118,32,61,32,97,59,32,115,121,110,99,59,32,125,32,101,108,115,101,32,123,32,118,32,61,32,97,59,32,115,121,110,99,59,32,114,101,112,108,121,32,105,100,44,32,48,59,32,125,32,125,32,125],
 [100,117,114,97,98,108,101,32,118,59,32,111,110,32,114,101,113,117,101,115,116,32,123,32,105,102,32,115,101,108,102,32,61,61,32,48,32,123,32,105,102,32,111,112,32,61,61,32,48,32,123,32,114,101,112,108,121,32,105,100,44,32,118,59,32,125,32,101,108,115,101,32,123,32,118,32,61,32,97,59,32,115,121,110,99,59,32,114,101,112,108,121,32,105,100,44,32,48,59,32,125,32,125,32,101,108,115,101,32,123,32,115,101,110,100,32,48,44,32,49,32,44,32,105,100,44,32,48,32,45,32,111,112,59,32,105,102,32,111,112,32,33,61,32,48,32,123,32,115,101,110,100,32,48,44,32,50,44,32,105,100,44,32,97,59,32,125,32,125,32,125,32,111,110,32,109,101,115,115,97,103,101,32,49,32,123,32,105,102,32,98,32,61,61,32,48,32,123,32,115,101,110,100,32,102,114,111,109,44,32,51,44,32,97,44,32,118,59,32,125,32,125,32,111,110,32,109,101,115,115,97,103,101,32,50,32,123,32,118,32,61,32,98,59,32,115,121,110,99,59,32,115,101,110,100,32,102,114,111,109,44,32,51,44,32,97,44,32,48,59,32,125,32,111,110,32,109,101,115,115,97,103,101,32,51,32,123,32,114,101,112,108,121,32,97,44,32,98,59,32,125],
 [118,111,108,97,116,105,108,101,32,118,59,32,111,110,32,114,101,113,117,101,115,116,32,123,32,105,102,32,111,112,32,61,61,32,48,32,123,32,114,101,112,108,121,32,105,100,44,32,118,59,32,125,32,101,108,115,101,32,123,32,118,32,61,32,97,59,32,114,101,112,108,121,32,105,100,44,32,48,59,32,115,101,110,100,32,49,32,45,32,115,101,108,102,44,32,52,44,32,97,44,32,48,59,32,125,32,125,32,111,110,32,109,101,115,115,97,103,101,32,52,32,123,32,118,32,61,32,97,59,32,125],
 [118,111,108,97,116,105,108,101,32,120,44,32,121,59,32,111,110,32,114,101,113,117,101,115,116,32,123,32,105,102,32,111,112,32,61,61,32,51,32,123,32,115,101,110,100,32,49,32,45,32,115,101,108,102,44,32,53,44,32,105,100,44,32,97,59,32,114,101,112,108,121,32,105,100,44,32,48,59,32,125,32,101,108,115,101,32,123,32,114,101,112,108,121,32,105,100,44,32,120,59,32,120,32,61,32,121,59,32,121,32,61,32,48,59,32,125,32,125,32,111,110,32,109,101,115,115,97,103,101,32,53,32,123,32,105,102,32,120,32,61,61,32,48,32,123,32,120,32,61,32,98,59,32,125,32,101,108,115,101,32,123,32,121,32,61,32,98,59,32,125,32,125],
 [118,111,108,97,116,105,108,101,32,116,59,32,111,110,32,115,116,97,114,116,32,123,32,105,102,32,115,101,108,102,32,61,61,32,48,32,123,32,116,32,61,32,49,59,32,115,101,110,100,32,110,111,100,101,115,32,45,32,49,44,32,54,44,32,49,44,32,48,59,32,125,32,125,32,111,110,32,109,101,115,115,97,103,101,32,54,32,123,32,116,32,61,32,97,32,43,32,49,59,32,105,102,32,116,32,60,32,52,32,123,32,115,101,110,100,32,102,114,111,109,44,32,54,44,32,116,44,32,48,59,32,125,32,101,108,115,101,32,123,32,102,97,105,108,32,116,59,32,125,32,125],
 [118,111,108,97,116,105,108,101,32,99,59,32,111,110,32,115,116,97,114,116,32,123,32,116,105,109,101,114,32,49,59,32,125,32,111,110,32,116,105,109,101,114,32,49,32,123,32,99,32,61,32,99,32,43,32,100,114,97,119,40,51,41,59,32,105,102,32,99,32,62,32,52,32,123,32,102,97,105,108,32,55,59,32,125,32,105,102,32,99,32,60,32,51,32,123,32,116,105,109,101,114,32,49,59,32,125,32,125],
 [118,111,108,97,116,105,108,101,32,108,97,115,116,59,32,111,110,32,114,101,113,117,101,115,116,32,123,32,115,101,110,100,32,49,32,45,32,115,101,108,102,44,32,55,44,32,49,44,32,48,59,32,115,101,110,100,32,49,32,45,32,115,101,108,102,44,32,55,44,32,50,44,32,48,59,32,114,101,112,108,121,32,105,100,44,32,48,59,32,125,32,111,110,32,109,101,115,115,97,103,101,32,55,32,123,32,105,102,32,97,32,60,32,108,97,115,116,32,123,32,102,97,105,108,32,51,59,32,125,32,108,97,115,116,32,61,32,97,59,32,125],
 [100,117,114,97,98,108,101,32,101,59,32,118,111,108,97,116,105,108,101,32,103,59,32,111,110,32,115,116,97,114,116,32,123,32,101,32,61,32,101,32,43,32,49,59,32,105,102,32,100,114,97,119,40,50,41,32,61,61,32,49,32,123,32,115,121,110,99,59,32,125,32,103,32,61,32,110,111,119,59,32,125,32,111,110,32,114,101,113,117,101,115,116,32,123,32,105,102,32,103,32,62,32,110,111,119,32,123,32,102,97,105,108,32,49,59,32,125,32,114,101,112,108,121,32,105,100,44,32,101,59,32,125],
 [118,111,108,97,116,105,108,101,32,105,44,32,115,59,32,111,110,32,114,101,113,117,101,115,116,32,123,32,105,32,61,32,48,59,32,115,32,61,32,48,59,32,119,104,105,108,101,32,105,32,60,32,51,32,123,32,115,32,61,32,115,32,43,32,105,32,42,32,97,59,32,105,32,61,32,105,32,43,32,49,59,32,125,32,114,101,112,108,121,32,105,100,44,32,115,59,32,125],
 [111,110,32,116,105,109,101,114,32,48,32,123,32,119,104,105,108,101,32,116,114,117,101,32,123,32,125,32,125,32,111,110,32,115,116,97,114,116,32,123,32,116,105,109,101,114,32,48,59,32,99,97,110,99,101,108,32,49,59,32,125],
 []]
end mG
section
open Go.RowKit
variable {B c g i k m:Nat} {E:Prop} {K:Act->World->Prop} {P:Program} {Q:Exit->Act->World->Prop} {a:Option Addr} {cs:Array Value} {e:TypeId} {l:List Int} {o:Oper} {ops:Array Oper} {rest:List Oper} {v:Value} {w w':World} {xs:List Value}
structure bQ where
 node:Int
 handler:Int
 count:Int
 index:Int
 copy:Int
deriving DecidableEq
structure Ev where
 kind:Int
 node:Int
 arg:Int
 msg:bQ
deriving DecidableEq
structure Ask where
 node:Int
 handler:Int
 count:Int
 kind:Int
 index:Int
 arity:Int
 n:Int
deriving DecidableEq
structure ay where
 ev:Ev
 asks:List Ask
 aJ:Bool
 sent:List bQ
deriving DecidableEq
abbrev I (n:Int):Value:=.int .i64 n
def bQ.ints (m:bQ):List Int:=[m.node,m.handler,m.count,m.index,m.copy]
def Ev.ints (e:Ev):List Int:=[e.kind,e.node,e.arg,e.msg.node,e.msg.handler,e.msg.count,e.msg.index,e.msg.copy]
def Ask.ints (a:Ask):List Int:=[a.node,a.handler,a.count,a.kind,a.index,a.arity,a.n]
theorem Ev.DL{a b:Ev}:a.ints=b.ints↔a=b:=by
 constructor
 ·intro h;obtain⟨_,_,_,⟨_,_,_,_,_⟩⟩:=a;obtain⟨_,_,_,⟨_,_,_,_,_⟩⟩:=b;simp[Ev.ints] at h;simp[h]
 ·intro h;rw[h]
def iv (l:List Int):List Value:=l.map I
def bQ.cells (m:bQ):List Value:=iv m.ints
def Ask.cells (m:Ask):List Value:=iv m.ints
theorem Nf {α β:Type}(f:α->List β)(k:Nat)(hk:∀x,(f x).length=k):∀(l:List α) (i j:Nat) (x:α),l[i]? =some x->j<k->(l.flatMap f)[i*k+j]? =(f x)[j]?
 |[],i,j,x,h,_=>by simp at h
 |y::l,0,j,x,h,hj=>by
  simp at h;subst h;simp only[rO,Nat.zero_mul,fu];rw[lT (by rw[hk];exact hj)]
 |y::l,i+1,j,x,h,hj=>by
  have h':l[i]? =some x:=by simpa using h
  have ih:=Nf f k hk l i j x h' hj;simp only[rO]
  have e:(i+1)*k+j=k+(i*k+j):=by rw[zO];omega
  rw[iR (by rw[hk,e];omega),hk,e,QX];exact ih
theorem Kh{α β:Type}(f:α->List β)(k:Nat)(hk:∀x,(f x).length=k)(l:List α):(l.flatMap f).length=l.length*k:=by
 induction l with
 |nil=>simp
 |cons y l ih=>simp[rO,hk,zO,ih];omega
def Flat (w:World)(k:Nat)(v:Value)(n:Nat)(xs:List Value):Prop:=
 xs.length=n*k/\n<=9223372036854775807/\∃(a:Option Addr) (c:Nat),v=.slice a n c/\∀j u,xs[j]? =some u->∃b o,a=some ⟨b,o,none⟩/\w.cell? ⟨b,o+j,none⟩=some u
theorem Flat.kept{n:Nat}(h:Flat w k v n xs)(hb:Below B w w')(hB:w.heap.size<=B):Flat w' k v n xs:=by
 obtain⟨hl,hm,a,c,hv,hr⟩:=h;refine⟨hl,hm,a,c,hv,fun j u hu=> ?_⟩;obtain⟨b,o,ha,hc⟩:=hr j u hu;refine⟨b,o,ha,?_⟩;have h2:=iT _ _ hc;rw[hb.cell (p:=⟨b,o+j,none⟩) (by simp at h2⊢;omega)];exact hc
theorem Flat.open{n:Nat}(h:Flat w k v n xs):∃a c,v=.slice a n c/\n<=9223372036854775807:=by
 obtain⟨_,hm,a,c,hv,_⟩:=h;exact⟨a,c,hv,hm⟩
theorem Flat.cells{n:Nat}(h:Flat w k (.slice a m c) n xs)(DM:0<xs.length):
  ∃b o,a=some ⟨b,o,none⟩/\∀j u,xs[j]? =some u->w.cell? ⟨b,o+j,none⟩=some u:=by
 obtain⟨_,_,a',c',hv,hr⟩:=h;simp at hv;obtain⟨b,o,ha,_⟩:=hr 0 xs[0] (by simp[DM]);refine⟨b,o,hv.1.trans ha,fun j u hu=> ?_⟩;obtain⟨b',o',ha',hc⟩:=hr j u hu;rw[ha] at ha';simp at ha';rw[ha'.1,ha'.2];exact hc
theorem Flat.nil(w:World)(k:Nat)(a:Option Addr)(c:Nat):Flat w k (.slice a 0 c) 0 []:=⟨ai,ab,a,c,rfl,fun j u h=>by simp at h⟩
theorem Flat.wN{n b o:Nat}(hl:xs.length=n*k)(hn:n<=9223372036854775807)(h:∀j u,xs[j]? =some u->w.cell? ⟨b,o+j,none⟩=some u):Flat w k (.slice (some ⟨b,o,none⟩) n c) n xs:=
 ⟨hl,hn,_,_,rfl,fun j u hu=>⟨b,o,rfl,h j u hu⟩⟩
theorem Flat.eu{n:Nat}(h:w.ownsRow B e k v n xs):Flat w k v n xs:=by
 refine⟨h.1,?_⟩
 rcases h.2 with⟨rfl,rfl⟩|⟨g,cap,cur,rfl,_,hg,hn,hc,_,_⟩
 ·exact⟨ab,none,0,rfl,fun j u hu=>by have:=h.1;simp at this;subst this;simp at hu⟩
 ·refine⟨bj hn (by simpa [maxLen] using hc),_,_,rfl,fun j u hu=>⟨g,0,rfl,?_⟩⟩;have:=h.cells (g:=g) rfl j u hu
  have lv:(⟨g,0,none⟩:Addr).add j=⟨g,0+j,none⟩:=by unfold Addr.add;split<;>simp_all
  rw[lv] at this;exact this
def br (w:World)(v:Value)(l:List Int):Prop:=Flat w 1 v l.length (iv l)
def jG (w:World)(v:Value)(l:List Ask):Prop:=Flat w 7 v l.length (l.flatMap Ask.cells)
def lx (w:World)(v:Value)(l:List bQ):Prop:=Flat w 5 v l.length (l.flatMap bQ.cells)
theorem br.kept(h:br w v l)(hb:Below B w w')(hB:w.heap.size<=B):br w' v l:=Flat.kept h hb hB
theorem jG.kept{l:List Ask}(h:jG w v l)(hb:Below B w w')(hB:w.heap.size<=B):jG w' v l:=Flat.kept h hb hB
theorem lx.kept{l:List bQ}(h:lx w v l)(hb:Below B w w')(hB:w.heap.size<=B):lx w' v l:=Flat.kept h hb hB
theorem br.open(h:br w v l):∃a c,v=.slice a l.length c/\l.length<=9223372036854775807:=Flat.open h
theorem jG.open{l:List Ask}(h:jG w v l):∃a c,v=.slice a l.length c/\l.length<=9223372036854775807:=Flat.open h
theorem lx.open{l:List bQ}(h:lx w v l):∃a c,v=.slice a l.length c/\l.length<=9223372036854775807:=Flat.open h
theorem BN{α:Type}{f:α->List Value}(hk:∀x,(f x).length=k)(aY:0<k){n:Nat}{l:List α}(h:Flat w k (.slice a m c) n (l.flatMap f)){x:α}(hi:l[i]? =some x):
  ∃b o,a=some ⟨b,o,none⟩/\∀j u,(f x)[j]? =some u->w.cell? ⟨b,o+i*k+j,none⟩=some u:=by
 have hlt:=(bK.1 hi).1;obtain⟨b,o,ha,hc⟩:=h.cells (by rw[Kh f k hk];exact Nat.mul_pos ab aY);refine⟨b,o,ha,fun j u hu=> ?_⟩
 have hj:j<k:=by have:=(bK.1 hu).1;rw[hk] at this;exact this
 have:=hc (i*k+j) u (by rw[Nf f k hk l i j x hi hj];exact hu);rwa[<-Nat.add_assoc] at this
theorem Ask.Ki(x:Ask):x.cells.length=7:=rfl
theorem bQ.Ki(x:bQ):x.cells.length=5:=rfl
theorem jG.at{n:Nat}{l:List Ask}(h:jG w (.slice a n c) l){x:Ask}(hi:l[i]? =some x):
  ∃b o,a=some ⟨b,o,none⟩/\w.cell? ⟨b,o+i*7,none⟩=some (I x.node)/\w.cell? ⟨b,o+i*7+1,none⟩=some (I x.handler)/\w.cell? ⟨b,o+i*7+2,none⟩=some (I x.count)/\
   w.cell? ⟨b,o+i*7+3,none⟩=some (I x.kind)/\w.cell? ⟨b,o+i*7+4,none⟩=some (I x.index)/\w.cell? ⟨b,o+i*7+5,none⟩=some (I x.arity)/\w.cell? ⟨b,o+i*7+6,none⟩=some (I x.n):=by
 obtain⟨b,o,ha,hc⟩:=BN Ask.Ki ab h hi;exact⟨b,o,ha,hc 0 _ rfl,hc 1 _ rfl,hc 2 _ rfl,hc 3 _ rfl,hc 4 _ rfl,hc 5 _ rfl,hc 6 _ rfl⟩
theorem lx.at{n:Nat}{l:List bQ}(h:lx w (.slice a n c) l){x:bQ}(hi:l[i]? =some x):
  ∃b o,a=some ⟨b,o,none⟩/\w.cell? ⟨b,o+i*5,none⟩=some (I x.node)/\w.cell? ⟨b,o+i*5+1,none⟩=some (I x.handler)/\w.cell? ⟨b,o+i*5+2,none⟩=some (I x.count)/\
   w.cell? ⟨b,o+i*5+3,none⟩=some (I x.index)/\w.cell? ⟨b,o+i*5+4,none⟩=some (I x.copy):=by
 obtain⟨b,o,ha,hc⟩:=BN bQ.Ki ab h hi;exact⟨b,o,ha,hc 0 _ rfl,hc 1 _ rfl,hc 2 _ rfl,hc 3 _ rfl,hc 4 _ rfl⟩
theorem br.at{n:Nat}(h:br w (.slice a n c) l){x:Int}(hi:l[i]? =some x):
  ∃b o,a=some ⟨b,o,none⟩/\w.cell? ⟨b,o+i,none⟩=some (I x):=by
 have hlt:=(bK.1 hi).1;obtain⟨b,o,ha,hc⟩:=Flat.cells h (by simp[iv];omega);exact⟨b,o,ha,hc i _ (by simp[iv,hi])⟩
def ay.row (s:ay)(va vs:Value):List Value:=
 [I s.ev.kind,I s.ev.node,I s.ev.arg,I s.ev.msg.node,I s.ev.msg.handler,I s.ev.msg.count,I s.ev.msg.index,I s.ev.msg.copy,va,.bool s.aJ,vs]
def ay.val (s:ay)(va vs:Value):Value:=.agg (s.row va vs).toArray
def ay.In (w:World)(s:ay)(v:Value):Prop:=∃va vs,v=s.val va vs/\jG w va s.asks/\lx w vs s.sent
theorem ay.In.kept{s:ay}(h:s.In w v)(hb:Below B w w')(hB:w.heap.size<=B):s.In w' v:=by
 obtain⟨va,vs,hv,h1,h2⟩:=h;exact⟨va,vs,hv,h1.kept hb hB,h2.kept hb hB⟩
def kr (w:World):List ay->List Value->Prop
 |[],xs=>xs=[]
 |s::l,xs=>∃va vs ys,xs=s.row va vs++ys/\jG w va s.asks/\lx w vs s.sent/\kr w l ys
theorem kr.kept(hb:Below B w w')(hB:w.heap.size<=B):∀{l:List ay} {xs:List Value},kr w l xs->kr w' l xs
 |[],_,h=>h
 |_::_,_,⟨va,vs,ys,hx,h1,h2,h3⟩=>⟨va,vs,ys,hx,h1.kept hb hB,h2.kept hb hB,h3.kept hb hB⟩
theorem kr.append:∀{l m:List ay} {xs ys:List Value},kr w l xs->kr w m ys->kr w (l++m) (xs++ys)
 |[],_,xs,ys,h,h'=>by
  have:xs=[]:=h;subst this;exact h'
 |s::l,m,xs,ys,⟨va,vs,zs,hx,h1,h2,h3⟩,h'=>⟨va,vs,zs++ys,by rw[hx,List.append_assoc],h1,h2,h3.append h'⟩
theorem kr.one{s:ay}{va vs:Value}(h1:jG w va s.asks)(h2:lx w vs s.sent):kr w [s] (s.row va vs):=⟨va,vs,[],ai,h1,h2,rfl⟩
theorem kr.length:∀{l:List ay} {xs:List Value},kr w l xs->xs.length=l.length*11
 |[],xs,h=>by
  have:xs=[]:=h;subst this;rfl
 |s::l,xs,⟨va,vs,zs,hx,_,_,h3⟩=>by
  have:=h3.length;rw[hx,List.length_append,this];simp[ay.row];omega
theorem kr.at {w:World}:∀{l:List ay} {xs:List Value} {i:Nat} {s:ay},kr w l xs->l[i]? =some s->
  ∃va vs,jG w va s.asks/\lx w vs s.sent/\∀j u,(s.row va vs)[j]? =some u->xs[i*11+j]? =some u
 |[],_,_,_,_,h=>by simp at h
 |t::l,xs,0,s,⟨va,vs,zs,hx,h1,h2,h3⟩,h=>by
  simp at h;subst h;refine⟨va,vs,h1,h2,fun j u hu=> ?_⟩;have hj:=(bK.1 hu).1;rw[hx,Nat.zero_mul,fu,lT hj];exact hu
 |t::l,xs,i+1,s,⟨va,vs,zs,hx,h1,h2,h3⟩,h=>by
  have h':l[i]? =some s:=by simpa using h
  obtain⟨fV,Gm,g1,g2,g3⟩:=h3.at h';refine⟨fV,Gm,g1,g2,fun j u hu=> ?_⟩;have:=g3 j u hu;have e:(i+1)*11+j=11+(i*11+j):=ab;have hl:(t.row va vs).length=11:=rfl;rw[hx,e,iR ab,hl,QX];exact this
def fw (w:World)(v:Value)(l:List ay):Prop:=∃xs,kr w l xs/\Flat w 11 v l.length xs
theorem fw.kept{l:List ay}(h:fw w v l)(hb:Below B w w')(hB:w.heap.size<=B):fw w' v l:=by
 obtain⟨xs,h1,h2⟩:=h;exact⟨xs,h1.kept hb hB,h2.kept hb hB⟩
theorem fw.open{l:List ay}(h:fw w v l):∃a c,v=.slice a l.length c/\l.length<=9223372036854775807:=by
 obtain⟨xs,h1,h2⟩:=h;exact h2.open
theorem fw.nil(w:World)(a:Option Addr)(c:Nat):fw w (.slice a 0 c) []:=⟨[],rfl,Flat.nil _ _ _ _⟩
theorem fw.at {w:World}{a:Option Addr}{n c:Nat}{l:List ay}(h:fw w (.slice a n c) l){i:Nat}{s:ay}(hi:l[i]? =some s):
  ∃b o va vs,a=some ⟨b,o,none⟩/\jG w va s.asks/\lx w vs s.sent/\
   w.cell? ⟨b,o+i*11,none⟩=some (I s.ev.kind)/\w.cell? ⟨b,o+i*11+1,none⟩=some (I s.ev.node)/\w.cell? ⟨b,o+i*11+2,none⟩=some (I s.ev.arg)/\
   w.cell? ⟨b,o+i*11+3,none⟩=some (I s.ev.msg.node)/\w.cell? ⟨b,o+i*11+4,none⟩=some (I s.ev.msg.handler)/\w.cell? ⟨b,o+i*11+5,none⟩=some (I s.ev.msg.count)/\
   w.cell? ⟨b,o+i*11+6,none⟩=some (I s.ev.msg.index)/\w.cell? ⟨b,o+i*11+7,none⟩=some (I s.ev.msg.copy)/\w.cell? ⟨b,o+i*11+8,none⟩=some va/\
   w.cell? ⟨b,o+i*11+9,none⟩=some (.bool s.aJ)/\w.cell? ⟨b,o+i*11+10,none⟩=some vs:=by
 obtain⟨xs,h1,h2⟩:=h;obtain⟨va,vs,g1,g2,g3⟩:=h1.at hi;have hlt:=(bK.1 hi).1;obtain⟨b,o,ha,hc⟩:=h2.cells (by rw[h1.length];omega)
 have key:∀j u,(s.row va vs)[j]? =some u->w.cell? ⟨b,o+i*11+j,none⟩=some u:=fun j u hu=>by
  have:=hc _ u (g3 j u hu);rwa[<-Nat.add_assoc] at this
 exact⟨b,o,va,vs,ha,g1,g2,key 0 _ rfl,key 1 _ rfl,key 2 _ rfl,key 3 _ rfl,key 4 _ rfl,key 5 _ rfl,key 6 _ rfl,key 7 _ rfl,key 8 _ rfl,key 9 _ rfl,key 10 _ rfl⟩
theorem fw.eu{W:World}{B0:Nat}{l:List ay}{n:Nat}(h:w.ownsRow B e 11 v n xs)(hn:n=l.length)(hc:kr W l xs)(hb:Below B0 W w)(hB:W.heap.size<=B0):fw w v l:=by
 subst hn;exact⟨xs,hc.kept hb hB,Flat.eu h⟩
def az (w:World)(g:Nat)(cs:Array Value):Prop:=∃t,w.heap[g]? =some (.cells cs t (0,0))
theorem az.cell(h:az w g cs)(j:Nat):w.cell? ⟨g,j,none⟩=cs[j]? :=by
 obtain⟨t,h⟩:=h;exact zP w g j cs t _ h
theorem az.frozen(h:az w g cs)(j:Nat):w.frozen? ⟨g,j,none⟩=false:=by
 obtain⟨t,h⟩:=h;exact frozen_of_row w g j cs t h
theorem az.kept(h:az w g cs)(hb:Below B w w')(hB:g<B):az w' g cs:=by
 obtain⟨t,h⟩:=h;exact⟨t,(hb.block g hB).trans h⟩
theorem az.new(w:World)(cs:Array Value)(t:TypeId):az (w.alloc (.cells cs t)) w.heap.size cs:=⟨t,dV w _⟩
theorem az.lt(h:az w g cs):g<w.heap.size:=by
 obtain⟨t,h⟩:=h;exact(ng.1 h).1
theorem az.alloc(h:az w g cs)(o:Obj):az (w.alloc o) g cs:=by
 have hl:=h.lt;obtain⟨t,h⟩:=h;exact⟨t,(Ke w o g hl).trans h⟩
theorem az.drewN(h:az w g cs)(n:Nat):az (w.drewN n) g cs:=h
theorem az.drew(h:az w g cs):az w.drew g cs:=h
theorem az.grown(h:az w g cs){row:Option Nat}(hg:w.grownBy w' row)(hne:row≠some g):az w' g cs:=by
 have hl:=h.lt;obtain⟨t,h⟩:=h;exact⟨t,(hg.block g hl (fun e=>hne e.symm)).trans h⟩
theorem az.setOther(h:az w g cs)(a:Addr)(v:Value)(hne:a.block≠g):az (w.setCell a v) g cs:=by
 obtain⟨t,h⟩:=h;exact⟨t,(uI w a g v (fun e=>hne e.symm)).trans h⟩
theorem az.set(h:az w g cs)(i:Nat)(v:Value):az (w.setCell ⟨g,i,none⟩ v) g (cs.setIfInBounds i v):=by
 obtain⟨t,h⟩:=h;exact⟨t,heap_setCell_same w g i cs t v h⟩
theorem below_drewN{a:World}(h:Below B a w)(n:Nat):Below B a (w.drewN n):=⟨h.os,h.tape,h.output,h.size,h.block⟩
theorem eY{a b:Bool}(h:a=b):Ending.returned (.bool a)=.returned (.bool b):=by rw[h]
theorem ly{a b:Int}(h:a=b):Ending.returned (I a)=.returned (I b):=by rw[h]
theorem adK{α:Type}{l m:List α}(hl:l.length=m.length)(h:∀j<l.length,l[j]? =m[j]?):l=m:=by
 apply yj;intro j;by_cases hj:j<l.length
 ·exact h j hj
 ·rw[qh ab,qh ab]
theorem aoE{a:Act}(dp:o.guard=none)(s x:Operand)(t:TypeId)
  (ho:o.op=.call { callee:=.builtin .append,args:=#[s,x],argTypes:=#[t,t] })
  (e:TypeId) (z:Value) (k bytes:Nat) (ht:P.underlying t=some (.slice e)) (lX:(P.info? e).map (fun i=>(i.zero,i.size,i.bytes))=some (some z,k,bytes)) (nS:z.cells.size=k) (hk:0<k) (ks:bytes<=1000)
  (B:Nat) (v:Value) (n:Nat) (xs:List Value) (hs:a.eval s=v) (aS:w.ownsRow B e k v n xs)
  (b of m c:Nat) (news:List Value) (hx:a.eval x=.slice (some ⟨b,of,none⟩) m c) (hl:news.length=m*k) (Gn:∀j u,news[j]? =some u->w.cell? ⟨b,of+j,none⟩=some u) (h1:∀u∈news,u.oneCell'=true)
  (hm:0<m) (jl:n+m<=100000000) (lz:B<=w.heap.size)
  (h:∀g cap w',B<=g->g<w'.heap.size->(v.ownBlock=some g\/g=w.heap.size)->w'.ownsRow B e k (.slice (some ⟨g,0,none⟩) (n+m) cap) (n+m) (xs++news)->w.grownBy w' v.ownBlock->Below B w w'->
   wpList P ops Q rest (a.put o.dst (.slice (some ⟨g,0,none⟩) (n+m) cap)) w'):wpList P ops Q (o::rest) a w:=by
 obtain⟨i0,hi,eZ,cL,fj⟩:=wL lX
 refine wpList_append_lies w dp s x t ho B e i0 z k bytes ht hi eZ cL fj nS hk v n xs hs aS ⟨b,of,none⟩ m c news hx hl (fun j u hu=> ?_) h1 hm (by unfold maxLen;omega)
  (bj (nR jl ks) ab) lz w.heap.size rfl ?_
 ·have lv:(⟨b,of,none⟩:Addr).add j=⟨b,of+j,none⟩:=by unfold Addr.add;split<;>simp_all
  rw[lv];exact Gn j u hu
 ·intro g cap w' h2 h3 h4 h5;have hB:Below B w w':=(Below.refl B w).grown h3 lz (fun k' tA=>(aS.lt k' tA).1);refine h g cap w' ?_ h5 h4 h2 h3 hB
  rcases h4 with h4|h4
  ·exact(aS.lt g h4).1
  ·omega
theorem tB{a:Act}(dp:o.guard=none)(s x:Operand)(t:TypeId)
  (ho:o.op=.call { callee:=.builtin .append,args:=#[s,x],argTypes:=#[t,t] })
  (e:TypeId) (z:Value) (k bytes:Nat) (ht:P.underlying t=some (.slice e)) (lX:(P.info? e).map (fun i=>(i.zero,i.size,i.bytes))=some (some z,k,bytes)) (nS:z.cells.size=k) (hk:0<k) (ks:bytes<=1000)
  (B:Nat) (v:Value) (n:Nat) (xs:List Value) (hs:a.eval s=v) (aS:w.ownsRow B e k v n xs)
  (b m c:Nat) (cs:Array Value) (t':TypeId) (hx:a.eval x=.slice (some ⟨b,0,none⟩) m c) (hblk:w.heap[b]? =some (.cells cs t' (0,0))) (hl:cs.size=m*k) (h1:cs.toList.all Value.oneCell'=true)
  (hm:0<m) (jl:n+m<=100000000) (lz:B<=w.heap.size)
  (h:∀g cap w',B<=g->g<w'.heap.size->(v.ownBlock=some g\/g=w.heap.size)->w'.ownsRow B e k (.slice (some ⟨g,0,none⟩) (n+m) cap) (n+m) (xs++cs.toList)->w.grownBy w' v.ownBlock->Below B w w'->
   wpList P ops Q rest (a.put o.dst (.slice (some ⟨g,0,none⟩) (n+m) cap)) w'):wpList P ops Q (o::rest) a w:=
 aoE dp s x t ho e z k bytes ht lX nS hk ks B v n xs hs aS b 0 m c cs.toList hx (by simpa using hl)
  (fun j u hu=>by rw[fu,zP w b j cs t' _ hblk];simpa using hu) (fq.1 h1) hm jl lz h
theorem aoF{a:Act}(dp:o.guard=none)(s x:Operand)(t:TypeId)
  (ho:o.op=.call { callee:=.builtin .append,args:=#[s,x],argTypes:=#[t,t] })
  (e:TypeId) (z:Value) (k bytes:Nat) (ht:P.underlying t=some (.slice e)) (lX:(P.info? e).map (fun i=>(i.zero,i.size,i.bytes))=some (some z,k,bytes)) (nS:z.cells.size=k) (hk:0<k) (ks:bytes<=1000)
  (B:Nat) (v:Value) (n:Nat) (xs:List Value) (hs:a.eval s=v) (aS:w.ownsRow B e k v n xs)
  (b of m c:Nat) (news:List Value) (hx:a.eval x=.slice (some ⟨b,of,none⟩) m c) (hl:news.length=m*k) (Gn:∀j u,news[j]? =some u->w.cell? ⟨b,of+j,none⟩=some u) (h1:∀u∈news,u.oneCell'=true)
  (hm:0<m) (jl:n+m<=100000000) (lz:B<=w.heap.size)
  (h:∀g cap w',B<=g->g<w'.heap.size->(v.ownBlock=some g\/g=w.heap.size)->w'.ownsRow B e k (.slice (some ⟨g,0,none⟩) (n+m) cap) (n+m) (xs++news)->w.grownBy w' v.ownBlock->Below B w w'->
   K (a.put o.dst (.slice (some ⟨g,0,none⟩) (n+m) cap)) w'):if Region.wanted o (yielded ops a.tmps)=true then Oper.wp P o a w K Q else E:=by
 obtain⟨i0,hi,eZ,cL,fj⟩:=wL lX
 refine step_append_lies w dp s x t ho B e i0 z k bytes ht hi eZ cL fj nS hk v n xs hs aS ⟨b,of,none⟩ m c news hx hl (fun j u hu=> ?_) h1 hm (by unfold maxLen;omega)
  (bj (nR jl ks) ab) lz w.heap.size rfl ?_
 ·have lv:(⟨b,of,none⟩:Addr).add j=⟨b,of+j,none⟩:=by unfold Addr.add;split<;>simp_all
  rw[lv];exact Gn j u hu
 ·intro g cap w' h2 h3 h4 h5;have hB:Below B w w':=(Below.refl B w).grown h3 lz (fun k' tA=>(aS.lt k' tA).1);refine h g cap w' ?_ h5 h4 h2 h3 hB
  rcases h4 with h4|h4
  ·exact(aS.lt g h4).1
  ·omega
theorem Gp{a:Act}(dp:o.guard=none)(s x:Operand)(t:TypeId)
  (ho:o.op=.call { callee:=.builtin .append,args:=#[s,x],argTypes:=#[t,t] })
  (e:TypeId) (z:Value) (k bytes:Nat) (ht:P.underlying t=some (.slice e)) (lX:(P.info? e).map (fun i=>(i.zero,i.size,i.bytes))=some (some z,k,bytes)) (nS:z.cells.size=k) (hk:0<k) (ks:bytes<=1000)
  (B:Nat) (v:Value) (n:Nat) (xs:List Value) (hs:a.eval s=v) (aS:w.ownsRow B e k v n xs)
  (b m c:Nat) (cs:Array Value) (t':TypeId) (hx:a.eval x=.slice (some ⟨b,0,none⟩) m c) (hblk:w.heap[b]? =some (.cells cs t' (0,0))) (hl:cs.size=m*k) (h1:cs.toList.all Value.oneCell'=true)
  (hm:0<m) (jl:n+m<=100000000) (lz:B<=w.heap.size)
  (h:∀g cap w',B<=g->g<w'.heap.size->(v.ownBlock=some g\/g=w.heap.size)->w'.ownsRow B e k (.slice (some ⟨g,0,none⟩) (n+m) cap) (n+m) (xs++cs.toList)->w.grownBy w' v.ownBlock->Below B w w'->
   K (a.put o.dst (.slice (some ⟨g,0,none⟩) (n+m) cap)) w'):if Region.wanted o (yielded ops a.tmps)=true then Oper.wp P o a w K Q else E:=
 aoF dp s x t ho e z k bytes ht lX nS hk ks B v n xs hs aS b 0 m c cs.toList hx (by simpa using hl)
  (fun j u hu=>by rw[fu,zP w b j cs t' _ hblk];simpa using hu) (fq.1 h1) hm jl lz h
theorem Kj{n:Nat}(h:w.heap[g]? =some (.cells cs e (0,0)))(hB:B<=g)(hs:cs.size=n*k)(hn:n<=1000000):w.ownsRow B e k (.slice (some ⟨g,0,none⟩) n n) n cs.toList:=
 ⟨by simpa using hs,.inr ⟨g,n,cs,rfl,hB,h,cK _,by unfold maxLen;omega,hs,by rw[nh (by simp[hs])]⟩⟩
end
section
open Go.RowKit
def cS (a b:List Int):Bool:=decide (a=b)
theorem Ra {a b:List Int}(h:a=b):cS a b=true:=by simp[cS,h]
theorem Rb {a b:List Int}(h:a≠b):cS a b=false:=by simp[cS,h]
theorem aoG (a0 a1 a2 b0 b1 b2:Int)(w:World):(binOp .eql 37 (.agg #[I a0,I a1,I a2]) (.agg #[I b0,I b1,I b2])).run Tryz.prog w=.ok (.bool (cS [a0,a1,a2] [b0,b1,b2])) w:=by
 simp[go_sem,cS]
 repeat' split
 all_goals simp_all
attribute [go_sem high] aoG
theorem aoH (a0 a1 a2 b0 b1 b2:Int)(w:World):(binOp .neq 37 (.agg #[I a0,I a1,I a2]) (.agg #[I b0,I b1,I b2])).run Tryz.prog w=.ok (.bool (!cS [a0,a1,a2] [b0,b1,b2])) w:=by
 simp[go_sem,cS]
 repeat' split
 all_goals simp_all
attribute [go_sem high] aoH
theorem adL (a0 a1 a2 a3 a4 b0 b1 b2 b3 b4:Int)(w:World):(binOp .eql 39 (.agg #[I a0,I a1,I a2,I a3,I a4]) (.agg #[I b0,I b1,I b2,I b3,I b4])).run Tryz.prog w=.ok (.bool (cS [a0,a1,a2,a3,a4] [b0,b1,b2,b3,b4])) w:=by
 simp[go_sem,cS]
 repeat' split
 all_goals simp_all
attribute [go_sem high] adL
theorem aoI (a0 a1 a2 a3 a4 b0 b1 b2 b3 b4:Int)(w:World):(binOp .neq 39 (.agg #[I a0,I a1,I a2,I a3,I a4]) (.agg #[I b0,I b1,I b2,I b3,I b4])).run Tryz.prog w=.ok (.bool (!cS [a0,a1,a2,a3,a4] [b0,b1,b2,b3,b4])) w:=by
 simp[go_sem,cS]
 repeat' split
 all_goals simp_all
attribute [go_sem high] aoI
theorem aoJ (a0 a1 a2 a3 a4 a5 a6 a7 b0 b1 b2 b3 b4 b5 b6 b7:Int)(w:World):(binOp .eql 41 (.agg #[I a0,I a1,I a2,I a3,I a4,I a5,I a6,I a7]) (.agg #[I b0,I b1,I b2,I b3,I b4,I b5,I b6,I b7])).run Tryz.prog w=.ok (.bool (cS [a0,a1,a2,a3,a4,a5,a6,a7] [b0,b1,b2,b3,b4,b5,b6,b7])) w:=by
 simp[go_sem,cS]
 repeat' split
 all_goals simp_all
attribute [go_sem high] aoJ
theorem aoK (a0 a1 a2 a3 a4 a5 a6 a7 b0 b1 b2 b3 b4 b5 b6 b7:Int)(w:World):(binOp .neq 41 (.agg #[I a0,I a1,I a2,I a3,I a4,I a5,I a6,I a7]) (.agg #[I b0,I b1,I b2,I b3,I b4,I b5,I b6,I b7])).run Tryz.prog w=.ok (.bool (!cS [a0,a1,a2,a3,a4,a5,a6,a7] [b0,b1,b2,b3,b4,b5,b6,b7])) w:=by
 simp[go_sem,cS]
 repeat' split
 all_goals simp_all
attribute [go_sem high] aoK
theorem aoL (a0 a1 a2 a3 a4 b0 b1 b2 b3 b4:Int)(w:World):(binOp .eql 76 (.agg #[I a0,I a1,I a2,I a3,I a4]) (.agg #[I b0,I b1,I b2,I b3,I b4])).run Tryz.prog w=.ok (.bool (cS [a0,a1,a2,a3,a4] [b0,b1,b2,b3,b4])) w:=by
 simp[go_sem,cS]
 repeat' split
 all_goals simp_all
attribute [go_sem high] aoL
theorem aoM (a0 a1 a2 a3 a4 b0 b1 b2 b3 b4:Int)(w:World):(binOp .neq 76 (.agg #[I a0,I a1,I a2,I a3,I a4]) (.agg #[I b0,I b1,I b2,I b3,I b4])).run Tryz.prog w=.ok (.bool (!cS [a0,a1,a2,a3,a4] [b0,b1,b2,b3,b4])) w:=by
 simp[go_sem,cS]
 repeat' split
 all_goals simp_all
attribute [go_sem high] aoM
theorem aoN (a0 a1 a2 a3 a4 a5 a6 b0 b1 b2 b3 b4 b5 b6:Int)(w:World):(binOp .eql 78 (.agg #[I a0,I a1,I a2,I a3,I a4,I a5,I a6]) (.agg #[I b0,I b1,I b2,I b3,I b4,I b5,I b6])).run Tryz.prog w=.ok (.bool (cS [a0,a1,a2,a3,a4,a5,a6] [b0,b1,b2,b3,b4,b5,b6])) w:=by
 simp[go_sem,cS]
 repeat' split
 all_goals simp_all
attribute [go_sem high] aoN
theorem aoO (a0 a1 a2 a3 a4 a5 a6 b0 b1 b2 b3 b4 b5 b6:Int)(w:World):(binOp .neq 78 (.agg #[I a0,I a1,I a2,I a3,I a4,I a5,I a6]) (.agg #[I b0,I b1,I b2,I b3,I b4,I b5,I b6])).run Tryz.prog w=.ok (.bool (!cS [a0,a1,a2,a3,a4,a5,a6] [b0,b1,b2,b3,b4,b5,b6])) w:=by
 simp[go_sem,cS]
 repeat' split
 all_goals simp_all
attribute [go_sem high] aoO
theorem rT:(Tryz.prog.info? 3).map (fun i=>(i.zero,i.size,i.bytes))=some (some (.int .i64 0),1,8):=ah
theorem aoP:(Tryz.prog.info? 39).map (fun i=>(i.zero,i.size,i.bytes))=some (some (.agg #[.int .i64 0,.int .i64 0,.int .i64 0,.int .i64 0,.int .i64 0]),5,40):=ah
theorem aoQ:(Tryz.prog.info? 78).map (fun i=>(i.zero,i.size,i.bytes))=some (some (.agg #[.int .i64 0,.int .i64 0,.int .i64 0,.int .i64 0,.int .i64 0,.int .i64 0,.int .i64 0]),7,56):=ah
theorem Rc:(Tryz.prog.info? 45).map (fun i=>(i.zero,i.size,i.bytes))=some (some (.agg #[.int .i64 0,.int .i64 0,.int .i64 0,.int .i64 0,.int .i64 0,.int .i64 0,.int .i64 0,.int .i64 0,.slice none 0 0,.bool false,.slice none 0 0]),11,120):=ah
end
section
open Go.RowKit
def around (n most:Int):Int:=(if n<0 then -(n+1) else n)%most
theorem Re (l m:List Int)(v u:Value)(w:World)(hl:br w v l)(hm:br w u m):
  Calls Tryz.prog 12 #[v,u] w fun e w'=>e=.returned (.bool (decide (l=m)))/\∃n,w'=w.drewN n:=by
 obtain⟨ka,ca,rfl,gz⟩:=hl.open;obtain⟨kb,cb,rfl,kN⟩:=hm.open;by_cases hlen:l.length=m.length
 ·have Rf:=ae hlen;simp only[<-hlen] at hm⊢;clear hlen kN;have e0:((l.length:Int) !=(l.length:Int))=false:=ai;go_enter Tryz.func12,Tryz.ntmps12;go_wp2;go_loopw [5] (fun i wr=>∃k n:Nat,k<=l.length/\i=.int .i64 k/\wr=w.drewN n/\(∀j<k,l[j]? =m[j]?)) (fun i _=>l.length-(intOf i).toNat)
  case atStart=>exact⟨0,0,ab,rfl,rfl,fun j hj=>absurd hj ab⟩
  case round=>
   obtain⟨k,n,hk,rfl,rfl,hE⟩:=hrel;have HE:=ae hE;clear hE;by_cases hlt:k<l.length
   ·have cY:k<m.length:=by have:=Rf.out;omega
    obtain⟨b,o,rfl,x0⟩:=hl.at (i:=k) (x:=l[k]) (by simp[hlt]);obtain⟨b',o',rfl,y0⟩:=hm.at (i:=k) (x:=m[k]) (by simp[cY]);by_cases hx:l[k]=m[k]
    ·have Hx:=ae hx
     have hq:(l[k] !=m[k])=false:=by simp[hx]
     clear hx;go_wp2;go_quiet (fail);go_wp2;go_roundw
     case rel=>
      refine⟨k+1,n+nq,ab,by go_num,rfl,?_⟩;intro j hj;by_cases ib:j=k
      ·subst ib;simp[hlt,cY,Hx.out]
      ·exact HE.out j ab
     case measure=>simp[intOf];omega
    ·have Hx:=ae hx
     have hq:(l[k] !=m[k])=true:=by simp[hx]
     clear hx;go_wp2;go_quiet (fail);go_wp2;go_ret;refine⟨eY ?_,n+nq,ai⟩;symm;rw[Dw];intro h;exact Hx.out (by subst h;rfl)
   ·have HA:=ae (adK Rf.out (fun j hj=>HE.out j ab));go_wp2;go_ret;refine⟨eY ?_,n,rfl⟩;symm;rw[decide_eq_true_iff,HA.out]
 ·have e0:((l.length:Int) !=(m.length:Int))=true:=by rw[bne_iff_ne];omega
  have Rf:=ae hlen;clear hlen;go_enter Tryz.func12,Tryz.ntmps12;go_wp2;go_ret;refine⟨eY ?_,0,rfl⟩;symm;rw[Dw];intro h;exact Rf.out (by rw[h])
end
section
open Go
section
variable {P:Program} {ops:Array Oper} {Q:Exit->Act->World->Prop} {md:Region.Mode} {S:World->Prop}
variable {F:Act->World->Prop} {a:Act} {i id:Nat} {l tl:List Oper} {o:Oper} {r rs:List (Oper×Bool)} {w:World}
def Kk (P:Program)(md:Region.Mode)(ops:Array Oper)(Q:Exit->Act->World->Prop)(S:World->Prop)(n:Nat)(L:Array Bool->Act->World->Prop):Nat->Array Bool->Act->World->Prop
 |0,listed,a,w=>L listed a w
 |f+1,listed,a,w=>
  Region.ready md ops listed≠[]/\∀i∈Region.ready md ops listed,i<n/\wpOp P ops Q i (fun a' w'=>S w'/\Kk P md ops Q S n L f (listed.setIfInBounds i true) a' w') a w
theorem Wv {n g:Nat}{L:Array Bool->Act->World->Prop}(hL:∀listed a w,L listed a w->wpAny P md ops Q g listed a w):
  ∀(f:Nat) (listed:Array Bool) (a:Act) (w:World),Kk P md ops Q S n L f listed a w->wpAny P md ops Q (f+g) listed a w
 |0,listed,a,w,h=>by rw[fu];exact hL _ _ _ h
 |f+1,listed,a,w,h=>by
  rw[show f+1+g=(f+g)+1 by omega];exact⟨fun h0=>absurd h0 h.1,fun i hi=>wpOp_mono (fun a' w' h'=>Wv hL f _ a' w' h'.2) (h.2 i hi).2⟩
def rU (md:Region.Mode)(ops:Array Oper)(n:Nat):Bool:=decide (n=ops.size)||(decide (n<ops.size) && Region.sinkB md ops n && Region.chainB md ops n)
theorem Rg{n:Nat}{listed:Array Bool}(ht:rU md ops n=true)(inv:HeadInv md ops n listed)(dW:i<n)(nT:listed.getD i true=false):∀j∈Region.ready md ops listed,j<n:=by
 intro j hj;simp only[rU,uJ,bV,dh] at ht
 rcases ht with rfl|⟨⟨h1,h2⟩,h3⟩
 ·obtain⟨_,o,ho,_⟩:=mem_ready.1 hj;exact(ng.1 ho).1
 ·rcases BK j n with h|h
  ·exact h
  ·exact absurd hj (tail_waits h2 h3 h1 inv _ i rfl dW nT j h)
theorem adM{n:Nat}{oi:Oper}{v:Value}{L:Array Bool->Act->World->Prop}(hi:ops[i]? =some oi)(iu:∀(j:Nat) (o:Oper) cs b,ops[j]? =some o->o.op≠ .select cs b)
  (hQ:∀c a w,Q (.panic c) (a.put oi.dst v) w->Q (.panic c) a w) (ht:rU md ops n=true) (dW:i<n)
  (hdone:∀listed a w,L listed a w->∀j∈Region.ready md ops listed,n<=j):
  ∀(f:Nat) (listed:Array Bool) (a:Act) (w:World),HeadInv md ops n listed->
   (∀j oj,ops[j]? =some oj->j≠i->listed.getD j true=false->(∀e∈oj.after,Region.binds md e=true->e.on≠i)->oi.apart ops oj=true)->
   i∈Region.ready md ops listed->YieldsIf P ops S oi v a->S w->
   Kk P md ops Q S n L f (listed.setIfInBounds i true) (a.put oi.dst v) w->Kk P md ops Q S n L (f+1) listed a w:=by
 intro f
 induction f with
 |zero=>
  intro listed a w inv _ hr hy hS H;have nT:=(mem_ready.1 hr).1;refine⟨fun h=>(by rw[h] at hr;cases hr),fun j hj=> ?_⟩;have zQ:=Rg ht inv dW nT j hj;refine⟨zQ,?_⟩;by_cases lA:j=i
  ·subst lA;exact hy.wpOp hi hS ⟨hS,H⟩
  ·have:=hdone _ _ _ H j (ready_mono hj lA);omega
 |succ f ih=>
  intro listed a w inv Ng hr hy hS H;have nT:=(mem_ready.1 hr).1;refine⟨fun h=>(by rw[h] at hr;cases hr),fun j hj=> ?_⟩;have zQ:=Rg ht inv dW nT j hj;refine⟨zQ,?_⟩;by_cases lA:j=i
  ·subst lA;exact hy.wpOp hi hS ⟨hS,H⟩
  ·have h1:=(H.2 j (ready_mono hj lA)).2;obtain⟨Nh,oj,DN,lB⟩:=mem_ready.1 hj
   have Ww:∀e∈oj.after,Region.binds md e=true->e.on≠i:=fun e he hb heq=>by
    have h1:=lB e he hb;rw[heq,getD_both nT] at h1;cases h1
   have h2:=wpOp_putIf DN (Ng j oj DN lA Nh Ww) (fun cs b=>iu i oi cs b hi) (fun cs b=>iu j oj cs b DN) hQ hy h1
   have Wx:∀k ok,ops[k]? =some ok->k≠i->(listed.setIfInBounds j true).getD k true=false->
     (∀e∈ok.after,Region.binds md e=true->e.on≠i)->oi.apart ops ok=true:=fun k ok hk lC nT hno=>by
    refine Ng k ok hk lC ?_ hno;by_cases ib:j=k
    ·subst ib;exact Nh
    ·rw[getD_set_ne true ib] at nT;exact nT
   refine wpOp_mono (fun a' w' h3=>⟨h3.2.1,ih (listed.setIfInBounds j true) a' w' (inv.set hj zQ) Wx (ready_mono hr (Ne.symm lA)) h3.1 h3.2.1 ?_⟩) h2;rw[Array.setIfInBounds_comm _ _ lA];exact h3.2.2
def BP (md:Region.Mode)(ops:Array Oper)(n:Nat):List (Nat×Bool)->Array Bool->Bool
 |[],listed=>Region.seqB md ops (ops.size-n) n listed
 |(i,true)::r,listed=>decide (i<n) && (Region.ready md ops listed).contains i && Region.free md ops listed i && BP md ops n r (listed.setIfInBounds i true)
 |(i,false)::r,listed=>decide (i<n) && decide (Region.ready md ops listed=[i]) && BP md ops n r (listed.setIfInBounds i true)
def rV (P:Program)(ops:Array Oper)(Q:Exit->Act->World->Prop)(S:World->Prop)(F:Act->World->Prop):List (Oper×Bool)->Act->World->Prop
 |[],a,w=>F a w
 |(o,true)::r,a,w=>∃v,YieldsIf P ops S o v a/\rV P ops Q S F r (a.put o.dst v) w
 |(o,false)::r,a,w=>if Region.wanted o (yielded ops a.tmps)=true then Oper.wp P o a w (fun a' w'=>S w'/\rV P ops Q S F r a' w') Q else S w/\rV P ops Q S F r (a.put o.dst undef) w
def pick (l:List Oper):List (Nat×Bool)->Option (List (Oper×Bool))
 |[]=>some []
 |(i,b)::r=>match l[i]?,pick l r with
  |some o,some rs=>some ((o,b)::rs)
  |_,_=>none
theorem Rh {l:List Oper}{n:Nat}{F:Act->World->Prop}(iu:Region.noSelect l.toArray=true)(hQ:∀c a d v w,Q (.panic c) (a.put d v) w->Q (.panic c) a w)(ht:rU md l.toArray n=true):
  ∀(ord:List (Nat×Bool)) (rs:List (Oper×Bool)) (listed:Array Bool) (a:Act) (w:World),pick l ord=some rs->HeadInv md l.toArray n listed->BP md l.toArray n ord listed=true->S w->rV P l.toArray Q S F rs a w->
   Kk P md l.toArray Q S n (fun listed' a' w'=>Region.seqB md l.toArray (l.toArray.size-n) n listed'=true/\F a' w') ord.length listed a w
 |[],rs,listed,a,w,hp,inv,hB,hS,h=>by
  simp only[pick,aA] at hp;subst hp;exact⟨hB,h⟩
 |(i,b)::r,rs,listed,a,w,hp,inv,hB,hS,h=>by
  simp only[pick] at hp;split at hp
  ·rename_i o ym ho hr;simp only[aA] at hp;subst hp
   have rW:l.toArray[i]? =some o:=by simpa using ho
   cases b with
   |true=>
    simp only[BP,bV,dh] at hB;obtain⟨⟨⟨h1,h2⟩,h3⟩,h4⟩:=hB;obtain⟨v,hy,hK⟩:=h
    have np:i∈Region.ready md l.toArray listed:=by simpa using h2
    exact adM rW (Region.noSelect_spec iu) (fun c a w=>hQ c a _ _ w) ht h1 (fun listed' a' w' hL=>seqB_ready hL.1) r.length listed a w inv (Region.free_spec rW h3) np hy hS
     (Rh iu hQ ht r ym _ _ _ hr (inv.set np h1) h4 hS hK)
   |false=>
    simp only[BP,bV,dh] at hB;obtain⟨⟨h1,h2⟩,h4⟩:=hB;refine⟨fun h0=>by(rw[h2] at h0;cases h0),fun j hj=> ?_⟩;have np:=hj;rw[h2] at hj
    have lA:j=i:=by simpa using hj
    subst lA;refine⟨h1,?_⟩;unfold wpOp;simp only[rW];have h':if Region.wanted o (yielded l.toArray a.tmps)=true then Oper.wp P o a w (fun a' w'=>S w'/\rV P l.toArray Q S F ym a' w') Q else S w/\rV P l.toArray Q S F ym (a.put o.dst undef) w:=h;split
    ·rename_i hw;rw[aq hw] at h';exact .inl (Oper.wp_mono (fun a' w' hh=>⟨hh.1,Rh iu hQ ht r ym _ _ _ hr (inv.set np h1) h4 hh.1 hh.2⟩) h')
    ·rename_i hw;rw[af hw] at h';exact⟨h'.1,Rh iu hQ ht r ym _ _ _ hr (inv.set np h1) h4 h'.1 h'.2⟩
  ·cases hp
def Kl (md:Region.Mode)(ops:Array Oper)(n:Nat)(ord:List (Nat×Bool)):Bool:=
 Region.noSelect ops && rU md ops n && decide (ord.length=n) && BP md ops n ord (Array.replicate ops.size false)
theorem adN{Q:Exit->Act->World->Prop}(hQ:∀c a t w,Q (.panic c) { a with tmps:=t } w->Q (.panic c) a w):∀c (a:Act) d v w,Q (.panic c) (a.put d v) w->Q (.panic c) a w:=by
 intro c a d v w h
 cases d with
 |none=>exact h
 |some d=>exact hQ c a _ w h
theorem aoR(n:Nat)(ord:List (Nat×Bool))(S:World->Prop)(hm:P.follows .mixedOrders=true)(hp:pick l ord=some rs)(kt:l.drop n=tl)(hB:Kl .any l.toArray n ord=true)
  (hQ:∀c a t w,Q (.panic c) { a with tmps:=t } w->Q (.panic c) a w) (hS:S w.drew)
  (h:rV P l.toArray Q S (wpList P l.toArray Q tl) rs a w.drew):(Code.region id l.toArray true).wp P Q a w:=by
 subst kt;simp only[Kl,bV,dh] at hB;obtain⟨⟨⟨iu,ht⟩,hlen⟩,DO⟩:=hB
 have hn:n<=l.length:=by
  simp only[rU,uJ,bV,dh,zK] at ht;omega
 have Ni:HeadInv .any l.toArray n (Array.replicate l.toArray.size false):=
  ⟨ai,fun j oj _ hl=>(by rw[getD_replicate_false] at hl;cases hl),fun t _ ht=>getD_in (by simpa using ht) (getD_replicate_false _ _)⟩
 have H:=Rh (md:=.any) iu (adN hQ) ht ord rs _ a w.drew hp Ni DO hS h;refine wp_region_any hm ?_
 have:=Wv (Q:=Q) (g:=l.toArray.size-n) (fun listed a' w' hL=>by
  have:=wpAny_of_seq (md:=.any) (Q':=Q) (l.drop n) n listed a' w' (fun j=>by simp[oA]) (by rw[lU];simpa using hL.1) hL.2
  rwa[lU,show l.length-n=l.toArray.size-n by simp] at this) _ _ _ _ H
 rw[hlen,show n+(l.toArray.size-n)=l.toArray.size by simp;omega] at this;exact this
theorem kO(n:Nat)(ord:List (Nat×Bool))(S:World->Prop)(hm:P.follows .mixedOrders=true)(hp:pick l ord=some rs)(kt:l.drop n=tl)(hB:Kl .any l.toArray n ord=true)(hS:S w.drew)
  (h:rV P l.toArray (NoPanic Q) S (wpList P l.toArray (NoPanic Q) tl) rs a w.drew):(Code.region id l.toArray true).wp P Q a w:=
 Code.wp_mono NoPanic.imp (aoR n ord S hm hp kt hB (fun _ _ _ _ h=>h) hS h)
theorem kP(h:F a w):rV P ops Q S F [] a w:=h
theorem aoS(v:Value)(hw:Region.wanted o (yielded ops a.tmps)=true)(hy:∀w,S w->(execOp a.eval o).run P w=.ok (.value v) w)
  (h:rV P ops Q S F r (a.put o.dst v) w):rV P ops Q S F ((o,true)::r) a w:=⟨v,.inl ⟨hw,hy⟩,h⟩
theorem aoT(hw:Region.wanted o (yielded ops a.tmps)=false)
  (h:rV P ops Q S F r (a.put o.dst undef) w):rV P ops Q S F ((o,true)::r) a w:=⟨undef,.inr ⟨hw,rfl⟩,h⟩
theorem kQ 
  (h:∀K':Act->World->Prop,Shut (∀a w,S w->rV P ops Q S F r a w->K' a w)->if Region.wanted o (yielded ops a.tmps)=true then Oper.wp P o a w K' Q else K' (a.put o.dst undef) w):rV P ops Q S F ((o,false)::r) a w:=
 h _ (fun _ _ hS h=>⟨hS,h⟩)
end
end
section
open Go
section
variable {F:Fence} {nn:Nat} {P:Program} {ops:Array Oper} {Q:Exit->Act->World->Prop} {md:Region.Mode} {S:World->Prop}
variable {G:Act->World->Prop} {a:Act} {id j:Nat} {l tl:List Oper} {o oi:Oper} {r rs:List (Oper×Bool)} {v:Value} {w:World}
def Nj (ops:Array Oper):Bool:=ops.all fun o=>match o.op with
 | .defer _=>false
 |_=>true
theorem Wy(h:Nj ops=true)(ho:ops[j]? =some o):∀c,o.op≠ .defer c:=by
 intro c hc;have h1:=Array.all_eq_true.1 h j (ng.1 ho).1;have:ops[j]'(ng.1 ho).1=o:=(ng.1 ho).2;rw[this,hc] at h1;cases h1
def wP (P:Program)(ops:Array Oper)(S:World->Prop)(o:Oper)(v:Value)(a:Act):Prop:=YieldsIf P ops S o v a/\∀w,o.about P w a.eval=none
theorem wP.wpOpIn {i:Nat}{o:Oper}{v:Value}{a:Act}(hi:ops[i]? =some o)(hd:∀c,o.op≠ .defer c)(hy:wP P ops S o v a)
  {K:Act->World->Prop} {w:World} (hS:S w) (h:K (a.put o.dst v) w):wpOpIn F nn P ops Q i K a w:=by
 unfold Go.wpOpIn;simp only[hi]
 have eL:∀f,o.about P w a.eval=some f->F.fn f:=fun f hf=>by rw[hy.2 w] at hf;cases hf
 rcases hy.1 with⟨hw,hv⟩|⟨hw,rfl⟩
 ·simp only[hw,nk,Oper.wpIn,Oper.semAt_eq _ _ _ hd,hv w hS,Oper.uponIn];exact⟨eL,h⟩
 ·simp only[hw,zJ,pd];exact⟨eL,h⟩
theorem wP.of_same{a':Act}(hy:wP P ops S o v a)(he:execOp a'.eval o=execOp a.eval o)
  (hw:Region.wanted o (yielded ops a'.tmps)=Region.wanted o (yielded ops a.tmps)) (hb:∀w,o.about P w a'.eval=o.about P w a.eval):wP P ops S o v a':=
 ⟨hy.1.of_same he hw,fun w=>by rw[hb w];exact hy.2 w⟩
theorem aoU{oj:Oper}(hj:ops[j]? =some oj)(Nk:∀c,oj.op≠ .defer c)(Wz:oi.apart ops oj=true)
  (hsi:∀cs b,oi.op≠ .select cs b) (hsj:∀cs b,oj.op≠ .select cs b)
  (hQ:∀c a w,Q (.panic c) (a.put oi.dst v) w->Q (.panic c) a w) {K:Act->World->Prop} 
  (hy:wP P ops S oi v a) (h:wpOpIn F nn P ops Q j K (a.put oi.dst v) w):
  wpOpIn F nn P ops Q j (fun a' w'=>wP P ops S oi v a'/\K (a'.put oi.dst v) w') a w:=by
 obtain⟨h1,h2,h3⟩:=Oper.apart_spec Wz
 have keep:∀(a:Act),wP P ops S oi v a->∀u,wP P ops S oi v (a.put oj.dst u):=fun a hy u=>
  hy.of_same (execOp_put oi hsi a oj.dst u h3) (wanted_put oi a oj.dst u h3) (fun w=>about_put oi w a oj.dst u h3)
 have aoV:∀d,wP P ops S oi v { a with defers:=d::a.defers }:=fun d=>hy.of_same rfl rfl (fun _=>rfl)
 unfold wpOpIn at*;simp only[hj] at*;rw[wanted_put oj a oi.dst v h1,about_put oj w a oi.dst v h1] at h;split
 ·rename_i hw;simp only[hw,nk] at h;unfold Oper.wpIn at*;rw[about_put oj w a oi.dst v h1] at h;refine⟨h.1,?_⟩;have h:=h.2;rw[Oper.semAt_eq _ _ _ Nk,execOp_put oj hsj a oi.dst v h1] at h;rw[Oper.semAt_eq _ _ _ Nk];generalize(execOp a.eval oj).run P w=r at*
  cases r with
  |ok x w'=>
   cases x<;>simp only[Oper.uponIn] at h⊢
   case value u=>exact⟨keep a hy u,by rw[<-Act.put_comm a v u h2];exact h⟩
   case skip=>exact⟨keep a hy _,by rw[<-Act.put_comm a v undef h2];exact h⟩
   case defer d=>
    refine⟨keep _ (aoV d) _,?_⟩;rw[<-Act.put_comm _ v undef h2,<-Act.put_defers];exact h
   case enter f args=>
    refine⟨h.1,CallsIn.mono h.2 fun e Nl he=> ?_⟩
    cases e with
    |returned u=>exact⟨keep a hy u,by rw[<-Act.put_comm a v u h2];exact he⟩
    |panicked c=>exact hQ _ _ _ he
    |outgrown=>exact he
   case row row args=>exact⟨h.1,RowsIn.mono h.2 fun u Nl he=>⟨keep a hy u,by rw[<-Act.put_comm a v u h2];exact he⟩⟩
   case round l f tmps assign body=>
    refine⟨h.1,RoundIn.mono h.2 fun e Nl he=> ?_⟩
    cases e with
    |returned u=>exact⟨keep a hy u,by rw[<-Act.put_comm a v u h2];exact he⟩
    |panicked c=>exact hQ _ _ _ he
    |outgrown=>exact he
  |halt x w'=>
   cases x<;>simp only[Oper.uponIn] at h⊢
   case panic u=>exact hQ _ _ _ h
 ·rename_i hw;simp only[hw] at h;exact⟨h.1,keep a hy _,by rw[<-Act.put_comm a v undef h2];exact h.2⟩
def Nn (F:Fence)(nn:Nat)(P:Program)(md:Region.Mode)(ops:Array Oper)(Q:Exit->Act->World->Prop)(S:World->Prop)(n:Nat)(L:Array Bool->Act->World->Prop):Nat->Array Bool->Act->World->Prop
 |0,listed,a,w=>L listed a w
 |f+1,listed,a,w=>
  Region.ready md ops listed≠[]/\∀i∈Region.ready md ops listed,i<n/\wpOpIn F nn P ops Q i (fun a' w'=>S w'/\Nn F nn P md ops Q S n L f (listed.setIfInBounds i true) a' w') a w
theorem adO {n g:Nat}{L:Array Bool->Act->World->Prop}(hL:∀listed a w,L listed a w->wpAnyIn F nn P md ops Q g listed a w):
  ∀(f:Nat) (listed:Array Bool) (a:Act) (w:World),Nn F nn P md ops Q S n L f listed a w->wpAnyIn F nn P md ops Q (f+g) listed a w
 |0,listed,a,w,h=>by rw[fu];exact hL _ _ _ h
 |f+1,listed,a,w,h=>by
  rw[show f+1+g=(f+g)+1 by omega];exact⟨fun h0=>absurd h0 h.1,fun i hi=>wpOpIn_mono (fun a' w' h'=>adO hL f _ a' w' h'.2) (h.2 i hi).2⟩
theorem aoW{n i:Nat}{L:Array Bool->Act->World->Prop}(hi:ops[i]? =some oi)(iu:∀(j:Nat) (o:Oper) cs b,ops[j]? =some o->o.op≠ .select cs b)(tC:Nj ops=true)
  (hQ:∀c a w,Q (.panic c) (a.put oi.dst v) w->Q (.panic c) a w) (ht:rU md ops n=true) (dW:i<n)
  (hdone:∀listed a w,L listed a w->∀j∈Region.ready md ops listed,n<=j):
  ∀(f:Nat) (listed:Array Bool) (a:Act) (w:World),HeadInv md ops n listed->
   (∀j oj,ops[j]? =some oj->j≠i->listed.getD j true=false->(∀e∈oj.after,Region.binds md e=true->e.on≠i)->oi.apart ops oj=true)->
   i∈Region.ready md ops listed->wP P ops S oi v a->S w->
   Nn F nn P md ops Q S n L f (listed.setIfInBounds i true) (a.put oi.dst v) w->Nn F nn P md ops Q S n L (f+1) listed a w:=by
 intro f
 induction f with
 |zero=>
  intro listed a w inv _ hr hy hS H;have nT:=(mem_ready.1 hr).1;refine⟨fun h=>(by rw[h] at hr;cases hr),fun j hj=> ?_⟩;have zQ:=Rg ht inv dW nT j hj;refine⟨zQ,?_⟩;by_cases lA:j=i
  ·subst lA;exact hy.wpOpIn hi (Wy tC hi) hS ⟨hS,H⟩
  ·have:=hdone _ _ _ H j (ready_mono hj lA);omega
 |succ f ih=>
  intro listed a w inv Ng hr hy hS H;have nT:=(mem_ready.1 hr).1;refine⟨fun h=>(by rw[h] at hr;cases hr),fun j hj=> ?_⟩;have zQ:=Rg ht inv dW nT j hj;refine⟨zQ,?_⟩;by_cases lA:j=i
  ·subst lA;exact hy.wpOpIn hi (Wy tC hi) hS ⟨hS,H⟩
  ·have h1:=(H.2 j (ready_mono hj lA)).2;obtain⟨Nh,oj,DN,lB⟩:=mem_ready.1 hj
   have Ww:∀e∈oj.after,Region.binds md e=true->e.on≠i:=fun e he hb heq=>by
    have h1:=lB e he hb;rw[heq,getD_both nT] at h1;cases h1
   have h2:=aoU DN (Wy tC DN) (Ng j oj DN lA Nh Ww) (fun cs b=>iu i oi cs b hi) (fun cs b=>iu j oj cs b DN) hQ hy h1
   have Wx:∀k ok,ops[k]? =some ok->k≠i->(listed.setIfInBounds j true).getD k true=false->
     (∀e∈ok.after,Region.binds md e=true->e.on≠i)->oi.apart ops ok=true:=fun k ok hk lC nT hno=>by
    refine Ng k ok hk lC ?_ hno;by_cases ib:j=k
    ·subst ib;exact Nh
    ·rw[getD_set_ne true ib] at nT;exact nT
   refine wpOpIn_mono (fun a' w' h3=>⟨h3.2.1,ih (listed.setIfInBounds j true) a' w' (inv.set hj zQ) Wx (ready_mono hr (Ne.symm lA)) h3.1 h3.2.1 ?_⟩) h2;rw[Array.setIfInBounds_comm _ _ lA];exact h3.2.2
def rY (F:Fence)(nn:Nat)(P:Program)(ops:Array Oper)(Q:Exit->Act->World->Prop)(S:World->Prop)(G:Act->World->Prop):List (Oper×Bool)->Act->World->Prop
 |[],a,w=>G a w
 |(o,true)::r,a,w=>∃v,wP P ops S o v a/\rY F nn P ops Q S G r (a.put o.dst v) w
 |(o,false)::r,a,w=>if Region.wanted o (yielded ops a.tmps)=true then Oper.wpIn F nn P o a w (fun a' w'=>S w'/\rY F nn P ops Q S G r a' w') Q else(∀f,o.about P w a.eval=some f->F.fn f)/\(S w/\rY F nn P ops Q S G r (a.put o.dst undef) w)
theorem Ri {l:List Oper}{n:Nat}{G:Act->World->Prop}(iu:Region.noSelect l.toArray=true)(tC:Nj l.toArray=true)(hQ:∀c a d v w,Q (.panic c) (a.put d v) w->Q (.panic c) a w)(ht:rU md l.toArray n=true):
  ∀(ord:List (Nat×Bool)) (rs:List (Oper×Bool)) (listed:Array Bool) (a:Act) (w:World),pick l ord=some rs->HeadInv md l.toArray n listed->BP md l.toArray n ord listed=true->S w->rY F nn P l.toArray Q S G rs a w->
   Nn F nn P md l.toArray Q S n (fun listed' a' w'=>Region.seqB md l.toArray (l.toArray.size-n) n listed'=true/\G a' w') ord.length listed a w
 |[],rs,listed,a,w,hp,inv,hB,hS,h=>by
  simp only[pick,aA] at hp;subst hp;exact⟨hB,h⟩
 |(i,b)::r,rs,listed,a,w,hp,inv,hB,hS,h=>by
  simp only[pick] at hp;split at hp
  ·rename_i o ym ho hr;simp only[aA] at hp;subst hp
   have rW:l.toArray[i]? =some o:=by simpa using ho
   cases b with
   |true=>
    simp only[BP,bV,dh] at hB;obtain⟨⟨⟨h1,h2⟩,h3⟩,h4⟩:=hB;obtain⟨v,hy,hK⟩:=h
    have np:i∈Region.ready md l.toArray listed:=by simpa using h2
    exact aoW rW (Region.noSelect_spec iu) tC (fun c a w=>hQ c a _ _ w) ht h1 (fun listed' a' w' hL=>seqB_ready hL.1) r.length listed a w inv (Region.free_spec rW h3) np hy hS
     (Ri iu tC hQ ht r ym _ _ _ hr (inv.set np h1) h4 hS hK)
   |false=>
    simp only[BP,bV,dh] at hB;obtain⟨⟨h1,h2⟩,h4⟩:=hB;refine⟨fun h0=>by(rw[h2] at h0;cases h0),fun j hj=> ?_⟩;have np:=hj;rw[h2] at hj
    have lA:j=i:=by simpa using hj
    subst lA;refine⟨h1,?_⟩;unfold wpOpIn;simp only[rW];have h':if Region.wanted o (yielded l.toArray a.tmps)=true then Oper.wpIn F nn P o a w (fun a' w'=>S w'/\rY F nn P l.toArray Q S G ym a' w') Q else(∀f,o.about P w a.eval=some f->F.fn f)/\(S w/\rY F nn P l.toArray Q S G ym (a.put o.dst undef) w):=h;split
    ·rename_i hw;rw[aq hw] at h';exact Oper.wpIn_mono (fun a' w' hh=>⟨hh.1,Ri iu tC hQ ht r ym _ _ _ hr (inv.set np h1) h4 hh.1 hh.2⟩) h'
    ·rename_i hw;rw[af hw] at h';exact⟨h'.1,h'.2.1,Ri iu tC hQ ht r ym _ _ _ hr (inv.set np h1) h4 h'.2.1 h'.2.2⟩
  ·cases hp
theorem adP {Q':Exit->Act->World->Prop}:∀(l:List Oper) (k:Nat) (listed:Array Bool) (a:Act) (w:World),(∀j,l[j]? =ops[k+j]?)->
  Region.seqB md ops l.length k listed=true->wpListIn F nn P ops Q' l a w->wpAnyIn F nn P md ops Q' l.length listed a w
 |[],_,_,_,_,_,hB,h=>⟨by simpa [Region.seqB] using hB,h⟩
 |o::l,k,listed,a,w,hl,hB,h=>by
  have h0:ops[k]? =some o:=by simpa using(hl 0).symm
  simp only[List.length_cons,Region.seqB,bV,dh] at hB;refine⟨fun h1=>(by rw[hB.1] at h1;cases h1),fun i hi=> ?_⟩;rw[hB.1] at hi
  have zR:i=k:=by simpa using hi
  subst zR
  have hw:wpOpIn F nn P ops Q' i (wpListIn F nn P ops Q' l) a w:=by unfold wpOpIn;simp only[h0];exact h
  exact wpOpIn_mono (fun a' w' h'=>adP l (i+1) _ a' w' (fun j=>by have:=hl (j+1);simpa [Nat.add_assoc,DG 1 j] using this) hB.2 h') hw
theorem WA(n:Nat)(ord:List (Nat×Bool))(S:World->Prop)(hm:P.follows .mixedOrders=true)(hp:pick l ord=some rs)(kt:l.drop n=tl)(hB:Kl .any l.toArray n ord=true)(tC:Nj l.toArray=true)
  (hQ:∀c a t w,Q (.panic c) { a with tmps:=t } w->Q (.panic c) a w) (hS:S w.drew)
  (h:rY F nn P l.toArray Q S (wpListIn F nn P l.toArray Q tl) rs a w.drew):(Code.region id l.toArray true).wpIn F nn P Q a w:=by
 subst kt;simp only[Kl,bV,dh] at hB;obtain⟨⟨⟨iu,ht⟩,hlen⟩,DO⟩:=hB
 have hn:n<=l.length:=by
  simp only[rU,uJ,bV,dh,zK] at ht;omega
 have Ni:HeadInv .any l.toArray n (Array.replicate l.toArray.size false):=
  ⟨ai,fun j oj _ hl=>(by rw[getD_replicate_false] at hl;cases hl),fun t _ ht=>getD_in (by simpa using ht) (getD_replicate_false _ _)⟩
 have H:=Ri (md:=.any) iu tC (adN hQ) ht ord rs _ a w.drew hp Ni DO hS h;refine wpIn_region_any hm ?_
 have:=adO (Q:=Q) (g:=l.toArray.size-n) (fun listed a' w' hL=>by
  have:=adP (md:=.any) (Q':=Q) (l.drop n) n listed a' w' (fun j=>by simp[oA]) (by rw[lU];simpa using hL.1) hL.2
  rwa[lU,show l.length-n=l.toArray.size-n by simp] at this) _ _ _ _ H
 rw[hlen,show n+(l.toArray.size-n)=l.toArray.size by simp;omega] at this;exact this
theorem adQ(n:Nat)(ord:List (Nat×Bool))(S:World->Prop)(hm:P.follows .mixedOrders=true)(hp:pick l ord=some rs)(kt:l.drop n=tl)(hB:Kl .any l.toArray n ord=true)(tC:Nj l.toArray=true)(hS:S w.drew)
  (h:rY F nn P l.toArray (NoPanic Q) S (wpListIn F nn P l.toArray (NoPanic Q) tl) rs a w.drew):(Code.region id l.toArray true).wpIn F nn P Q a w:=
 wpIn_mono (WA n ord S hm hp kt hB tC (fun _ _ _ _ h=>h) hS h) NoPanic.imp
theorem Rj(h:G a w):rY F nn P ops Q S G [] a w:=h
theorem aoX(v:Value)(hw:Region.wanted o (yielded ops a.tmps)=true)(eL:∀w,o.about P w a.eval=none)(hy:∀w,S w->(execOp a.eval o).run P w=.ok (.value v) w)
  (h:rY F nn P ops Q S G r (a.put o.dst v) w):rY F nn P ops Q S G ((o,true)::r) a w:=⟨v,⟨.inl ⟨hw,hy⟩,eL⟩,h⟩
theorem aoY(hw:Region.wanted o (yielded ops a.tmps)=false)(eL:∀w,o.about P w a.eval=none)
  (h:rY F nn P ops Q S G r (a.put o.dst undef) w):rY F nn P ops Q S G ((o,true)::r) a w:=⟨undef,⟨.inr ⟨hw,rfl⟩,eL⟩,h⟩
theorem WB 
  (h:∀K':Act->World->Prop,Shut (∀a w,S w->rY F nn P ops Q S G r a w->K' a w)->if Region.wanted o (yielded ops a.tmps)=true then Oper.wpIn F nn P o a w K' Q else(∀f,o.about P w a.eval=some f->F.fn f)/\K' (a.put o.dst undef) w):rY F nn P ops Q S G ((o,false)::r) a w:=
 h _ (fun _ _ hS h=>⟨hS,h⟩)
end
end
section
open Go
inductive OT where
 |nil
 |take (i:Nat) (t:OT)
 |move (i:Nat) (t:OT)
 |fork (i j:Nat) (ti tj:OT)
 |wQ (i j k:Nat) (ti tj tk:OT)
section
variable {P:Program} {ops:Array Oper} {Q:Exit->Act->World->Prop} {md:Region.Mode} {S:World->Prop}
variable {F K:Act->World->Prop} {a:Act} {i:Nat} {l:List Oper} {o:Oper} {t:OT} {w:World}
def pf (md:Region.Mode)(ops:Array Oper)(n:Nat):OT->Nat->Array Bool->Bool
 | .nil,d,listed=>decide (d=0) && Region.seqB md ops (ops.size-n) n listed
 | .take i t,d,listed=>decide (0<d) && decide (i<n) && (Region.ready md ops listed).contains i && Region.free md ops listed i && pf md ops n t (d-1) (listed.setIfInBounds i true)
 | .move i t,d,listed=>decide (0<d) && decide (i<n) && decide (Region.ready md ops listed=[i]) && pf md ops n t (d-1) (listed.setIfInBounds i true)
 | .fork i j ti tj,d,listed=>decide (0<d) && decide (i<n) && decide (j<n) && decide (Region.ready md ops listed=[i,j]) && pf md ops n ti (d-1) (listed.setIfInBounds i true) && pf md ops n tj (d-1) (listed.setIfInBounds j true)
 | .wQ i j k ti tj tk,d,listed=>decide (0<d) && decide (i<n) && decide (j<n) && decide (k<n) && decide (Region.ready md ops listed=[i,j,k]) && pf md ops n ti (d-1) (listed.setIfInBounds i true) && pf md ops n tj (d-1) (listed.setIfInBounds j true) && pf md ops n tk (d-1) (listed.setIfInBounds k true)
def DR (P:Program)(ops:Array Oper)(Q:Exit->Act->World->Prop)(S:World->Prop)(l:List Oper)(i:Nat)(K:Act->World->Prop)(a:Act)(w:World):Prop:=
 ∃o,l[i]? =some o/\if Region.wanted o (yielded ops a.tmps)=true then Oper.wp P o a w (fun a' w'=>S w'/\K a' w') Q else S w/\K (a.put o.dst undef) w
def jH (P:Program)(ops:Array Oper)(Q:Exit->Act->World->Prop)(S:World->Prop)(F:Act->World->Prop)(l:List Oper):OT->Act->World->Prop
 | .nil,a,w=>F a w
 | .take i t,a,w=>∃o v,l[i]? =some o/\YieldsIf P ops S o v a/\jH P ops Q S F l t (a.put o.dst v) w
 | .move i t,a,w=>DR P ops Q S l i (jH P ops Q S F l t) a w
 | .fork i j ti tj,a,w=>DR P ops Q S l i (jH P ops Q S F l ti) a w/\DR P ops Q S l j (jH P ops Q S F l tj) a w
 | .wQ i j k ti tj tk,a,w=>DR P ops Q S l i (jH P ops Q S F l ti) a w/\DR P ops Q S l j (jH P ops Q S F l tj) a w/\DR P ops Q S l k (jH P ops Q S F l tk) a w
theorem Km{K':Act->World->Prop}(h:DR P l.toArray Q S l i K a w)(hK:∀a w,S w->K a w->K' a w):wpOp P l.toArray Q i (fun a' w'=>S w'/\K' a' w') a w:=by
 obtain⟨o,ho,h⟩:=h;unfold wpOp
 have rW:l.toArray[i]? =some o:=by simpa using ho
 simp only[rW];split
 ·rename_i hw;rw[aq hw] at h;exact .inl (Oper.wp_mono (fun a' w' hh=>⟨hh.1,hK a' w' hh.1 hh.2⟩) h)
 ·rename_i hw;rw[af hw] at h;exact⟨h.1,hK _ _ h.1 h.2⟩
theorem DT {l:List Oper}{n:Nat}{F:Act->World->Prop}(iu:Region.noSelect l.toArray=true)(hQ:∀c a d v w,Q (.panic c) (a.put d v) w->Q (.panic c) a w)(ht:rU md l.toArray n=true):
  ∀(t:OT) (d:Nat) (listed:Array Bool) (a:Act) (w:World),HeadInv md l.toArray n listed->pf md l.toArray n t d listed=true->S w->jH P l.toArray Q S F l t a w->
   Kk P md l.toArray Q S n (fun listed' a' w'=>Region.seqB md l.toArray (l.toArray.size-n) n listed'=true/\F a' w') d listed a w
 | .nil,d,listed,a,w,inv,hB,hS,h=>by
  simp only[pf,bV,dh] at hB;obtain⟨rfl,h2⟩:=hB;exact⟨h2,h⟩
 | .take i t,d,listed,a,w,inv,hB,hS,h=>by
  simp only[pf,bV,dh] at hB;obtain⟨⟨⟨⟨h0,h1⟩,h2⟩,h3⟩,h4⟩:=hB
  obtain⟨d,rfl⟩:∃e,d=e+1:=⟨d-1,ab⟩
  obtain⟨o,v,ho,hy,hK⟩:=h
  have rW:l.toArray[i]? =some o:=by simpa using ho
  have np:i∈Region.ready md l.toArray listed:=by simpa using h2
  exact adM rW (Region.noSelect_spec iu) (fun c a w=>hQ c a _ _ w) ht h1 (fun listed' a' w' hL=>seqB_ready hL.1) d listed a w inv (Region.free_spec rW h3) np hy hS
   (DT iu hQ ht t d _ _ _ (inv.set np h1) (by simpa using h4) hS hK)
 | .move i t,d,listed,a,w,inv,hB,hS,h=>by
  simp only[pf,bV,dh] at hB;obtain⟨⟨⟨h0,h1⟩,h2⟩,h4⟩:=hB
  obtain⟨d,rfl⟩:∃e,d=e+1:=⟨d-1,ab⟩
  have np:i∈Region.ready md l.toArray listed:=by rw[h2];simp
  refine⟨fun e=>by(rw[h2] at e;cases e),fun j hj=> ?_⟩;rw[h2] at hj
  have lA:j=i:=by simpa using hj
  subst lA;exact⟨h1,Km h fun a' w' hs hk=>DT iu hQ ht t d _ _ _ (inv.set np h1) (by simpa using h4) hs hk⟩
 | .fork i j ti tj,d,listed,a,w,inv,hB,hS,h=>by
  simp only[pf,bV,dh] at hB;obtain⟨⟨⟨⟨⟨h0,h1⟩,oF⟩,h2⟩,h4⟩,h5⟩:=hB
  obtain⟨d,rfl⟩:∃e,d=e+1:=⟨d-1,ab⟩
  have np:i∈Region.ready md l.toArray listed:=by rw[h2];simp
  have WC:j∈Region.ready md l.toArray listed:=by rw[h2];simp
  refine⟨fun e=>by(rw[h2] at e;cases e),fun x hx=> ?_⟩;rw[h2] at hx
  have WD:x=i\/x=j:=by simpa using hx
  rcases WD with rfl|rfl
  ·exact⟨h1,Km h.1 fun a' w' hs hk=>DT iu hQ ht ti d _ _ _ (inv.set np h1) (by simpa using h4) hs hk⟩
  ·exact⟨oF,Km h.2 fun a' w' hs hk=>DT iu hQ ht tj d _ _ _ (inv.set WC oF) (by simpa using h5) hs hk⟩
 | .wQ i j k ti tj tk,d,listed,a,w,inv,hB,hS,h=>by
  simp only[pf,bV,dh] at hB;obtain⟨⟨⟨⟨⟨⟨⟨h0,h1⟩,oF⟩,adR⟩,h2⟩,h4⟩,h5⟩,h6⟩:=hB
  obtain⟨d,rfl⟩:∃e,d=e+1:=⟨d-1,ab⟩
  have np:i∈Region.ready md l.toArray listed:=by rw[h2];simp
  have WC:j∈Region.ready md l.toArray listed:=by rw[h2];simp
  have iw:k∈Region.ready md l.toArray listed:=by rw[h2];simp
  refine⟨fun e=>by(rw[h2] at e;cases e),fun x hx=> ?_⟩;rw[h2] at hx
  have WD:x=i\/x=j\/x=k:=by simpa using hx
  rcases WD with rfl|rfl|rfl
  ·exact⟨h1,Km h.1 fun a' w' hs hk=>DT iu hQ ht ti d _ _ _ (inv.set np h1) (by simpa using h4) hs hk⟩
  ·exact⟨oF,Km h.2.1 fun a' w' hs hk=>DT iu hQ ht tj d _ _ _ (inv.set WC oF) (by simpa using h5) hs hk⟩
  ·exact⟨adR,Km h.2.2 fun a' w' hs hk=>DT iu hQ ht tk d _ _ _ (inv.set iw adR) (by simpa using h6) hs hk⟩
theorem Rk{id:Nat}(n:Nat)(t:OT)(S:World->Prop){tl:List Oper}(hm:P.follows .mixedOrders=true)(kt:l.drop n=tl)
  (hB:(Region.noSelect l.toArray && rU .any l.toArray n && pf .any l.toArray n t n (Array.replicate l.toArray.size false))=true) (hS:S w.drew)
  (h:jH P l.toArray (NoPanic Q) S (wpList P l.toArray (NoPanic Q) tl) l t a w.drew):(Code.region id l.toArray true).wp P Q a w:=by
 subst kt;refine Code.wp_mono NoPanic.imp ?_;simp only[bV] at hB;obtain⟨⟨iu,ht⟩,DO⟩:=hB
 have hn:n<=l.length:=by
  simp only[rU,uJ,bV,dh,zK] at ht;omega
 have Ni:HeadInv .any l.toArray n (Array.replicate l.toArray.size false):=
  ⟨ai,fun j oj _ hl=>(by rw[getD_replicate_false] at hl;cases hl),fun t _ ht=>getD_in (by simpa using ht) (getD_replicate_false _ _)⟩
 have H:=DT (md:=.any) iu (fun c a d v w h=>h) ht t n _ a w.drew Ni DO hS h;refine wp_region_any hm ?_
 have:=Wv (Q:=NoPanic Q) (g:=l.toArray.size-n) (fun listed a' w' hL=>by
  have:=wpAny_of_seq (md:=.any) (Q':=NoPanic Q) (l.drop n) n listed a' w' (fun j=>by simp[oA]) (by rw[lU];simpa using hL.1) hL.2
  rwa[lU,show l.length-n=l.toArray.size-n by simp] at this) _ _ _ _ H
 rw[show n+(l.toArray.size-n)=l.toArray.size by simp;omega] at this;exact this
theorem DU(h:F a w):jH P ops Q S F l .nil a w:=h
theorem aoZ(ho:l[i]? =some o)(v:Value)(hw:Region.wanted o (yielded ops a.tmps)=true)(hy:∀w,S w->(execOp a.eval o).run P w=.ok (.value v) w)
  (h:jH P ops Q S F l t (a.put o.dst v) w):jH P ops Q S F l (.take i t) a w:=⟨o,v,ho,.inl ⟨hw,hy⟩,h⟩
theorem apa(ho:l[i]? =some o)
  (h:∀K':Act->World->Prop,Shut (∀a w,S w->K a w->K' a w)->if Region.wanted o (yielded ops a.tmps)=true then Oper.wp P o a w K' Q else K' (a.put o.dst undef) w):DR P ops Q S l i K a w:=
 ⟨o,ho,h _ (fun _ _ hS h=>⟨hS,h⟩)⟩
theorem kR(ho:l[i]? =some o)
  (h:∀K':Act->World->Prop,Shut (∀a w,S w->jH P ops Q S F l t a w->K' a w)->if Region.wanted o (yielded ops a.tmps)=true then Oper.wp P o a w K' Q else K' (a.put o.dst undef) w):jH P ops Q S F l (.move i t) a w:=
 apa ho h
theorem Np{j:Nat}{ti tj:OT}(h1:jH P ops Q S F l (.move i ti) a w)(h2:jH P ops Q S F l (.move j tj) a w):jH P ops Q S F l (.fork i j ti tj) a w:=⟨h1,h2⟩
end
end
section
open Go Go.RowKit
variable {A B:Prop}
structure Bz (p:Prop):Prop where
 out:p
theorem bF{B:Nat}{a w:World}(h:Below B a w:=by repeat (first|exact Below.refl _ _|assumption|refine Below.drew ?_|refine below_drewN ?_ _|refine Below.alloc ?_ (by simp<;>omega) _|refine Below.setCell ?_ (by simp<;>omega) _)):Below B a w:=h
theorem gA(h:B)(g:Bz B->A:=by intro hB;(refine aoS ?_ eD ?_ ?_;rotate_left;(intro w Nq;(try dsimp only at Nq);go_simp;try with_reducible rfl);refine cJ ?_);exact hB.out):A:=g ⟨h⟩
theorem BQ(h:B)(g:Bz B->A:=by intro hB;(refine aoT eD ?_;refine cJ ?_);exact hB.out):A:=g ⟨h⟩
theorem Kn(h:B)(g:Bz B->A:=by intro hB;(refine aoX ?_ eD (fun _=>eD) ?_ ?_;rotate_left;(intro w Nq;(try dsimp only at Nq);go_simp;try with_reducible rfl);refine cJ ?_);exact hB.out):A:=g ⟨h⟩
theorem apb(h:B)(g:Bz B->A:=by intro hB;(refine aoY eD (fun _=>eD) ?_;refine cJ ?_);exact hB.out):A:=g ⟨h⟩
theorem qu(h:B)(g:Bz B->A:=by intro hB;(refine aoZ rfl ?_ eD ?_ ?_;rotate_left;(intro w Nq;(try dsimp only at Nq);go_simp;try with_reducible rfl);refine cJ ?_);exact hB.out):A:=g ⟨h⟩
end
section
open Go.RowKit
theorem Below.then {w W w1:World}(h:aw w W)(h1:aw W w1):aw w w1:=h.trans (h1.mono h.size)
theorem nU {W w1:World}(hb:aw W w1):∀b o,b<W.heap.size->w1.cell? ⟨b,o,none⟩=W.cell? ⟨b,o,none⟩:=fun b o h=>hb.cell (p:=⟨b,o,none⟩) h
def cB (a b:ay):Bool:=(b.ev.kind==3||b.ev.kind==5||b.ev.kind==6) &&
 a.sent.any fun m=>m.copy==0 && m.node==b.ev.msg.node && m.handler==b.ev.msg.handler && m.count==b.ev.msg.count && m.index==b.ev.msg.index
def dw (a b:ay):Bool:=a.ev.node==b.ev.node||(a.aJ && b.aJ)||cB a b||cB b a
end
section
open Go.RowKit
def aK:List Int->List Int->Int
 |[],[]=>0
 |[],_::_=> -1
 |_::_,[]=>1
 |a::l,b::m=>if a<b then -1 else if b<a then 1 else aK l m
theorem Nr (l m:List Int)(h:l=[]\/m=[]):aK l m=if l.length<m.length then -1 else if m.length<l.length then 1 else 0:=by
 rcases h with rfl|rfl
 ·cases m<;>simp[aK]
 ·cases l<;>simp[aK]
def Ask.key (a:Ask):List Int:=[a.node,a.handler,a.count,a.kind,a.index,a.n]
def ay.key (s:ay):List Int:=s.ev.ints++s.asks.flatMap Ask.key
end
section
open Go.RowKit
variable {X w w1:World} {cs:Array Value}
theorem pj{B k n:Nat}{e:TypeId}{v:Value}{xs:List Value}(h:w.ownsRow B e k v n xs)(hB:aw w w1):w1.ownsRow B e k v n xs:=
 h.kept (row:=none) ⟨hB.os,hB.tape,hB.output,hB.size,fun k' hk _=>hB.block k' hk⟩ (by cases hv:v.ownBlock<;>simp)
theorem adS{g:Nat}{t:TypeId}(h:w.heap[g]? =some (.cells cs t (0,0))):az w g cs:=⟨t,h⟩
def Kp (w:World)(cs:Array Value)(X:World):Prop:=az X w.heap.size cs/\aw w X/\w.heap.size+1<=X.heap.size
theorem Kp.S(h:Kp w cs X):(∀j,X.cell? ⟨w.heap.size,j,none⟩=cs[j]?)/\(∀b o,b<w.heap.size->X.cell? ⟨b,o,none⟩=w.cell? ⟨b,o,none⟩):=
 ⟨h.1.cell,fun b o hb=>h.2.1.cell (p:=⟨b,o,none⟩) hb⟩
theorem Kp.drew(h:Kp w cs X):Kp w cs X.drew:=⟨h.1,h.2.1.drew,h.2.2⟩
theorem Kp.alloc(h:Kp w cs X)(o:Obj):Kp w cs (X.alloc o):=⟨h.1.alloc o,h.2.1.alloc (by have:=h.2.2;omega) o,by have:=h.2.2;simp;omega⟩
theorem Kp.call(h:Kp w cs X)(hB:aw X w1):Kp w cs w1:=
 ⟨h.1.kept hB (by have:=h.2.2;omega),h.2.1.trans (hB.mono (by have:=h.2.2;omega)),by have:=h.2.2;have:=hB.size;omega⟩
theorem Kp.app(h:Kp w cs X){row:Option Nat}(hg:X.grownBy w1 row)(hne:row≠some w.heap.size)(hB:Below (w.heap.size+1) X w1):Kp w cs w1:=
 ⟨h.1.grown hg hne,h.2.1.trans (hB.mono ab),by have:=h.2.2;have:=hB.size;omega⟩
end
section
open Go.RowKit
variable {X w:World} {cs ds:Array Value}
def ic (a b:Int):Int:=if a<b then -1 else if b<a then 1 else 0
def nr:List Int->Int
 |[]=>0
 |a::l=>if a !=0 then a else nr l
def jI:List Int->Int
 |a::b::l=>if ic a b !=0 then ic a b else jI l
 |_=>0
theorem jJ(a b:Int)(l m:List Int):aK (a::l) (b::m)=if ic a b !=0 then ic a b else aK l m:=by
 simp only[aK,ic];by_cases h1:a<b
 ·simp[h1]
 ·by_cases h2:b<a<;>simp[h1,h2]
theorem Gq:∀(l m l' m':List Int),l.length=m.length->aK (l++l') (m++m')=if aK l m !=0 then aK l m else aK l' m'
 |[],[],l',m',_=>by simp[aK]
 |a::l,b::m,l',m',h=>by
  have ih:=Gq l m l' m' (by simpa using h);rw[List.cons_append,List.cons_append,jJ,jJ,ih];by_cases h1:ic a b=0
  ·simp[h1]
  ·have:(ic a b !=0)=true:=by simpa using h1
   simp[this]
 |[],_::_,_,_,h=>by simp at h
 |_::_,[],_,_,h=>by simp at h
theorem br.of_heap{g n c:Nat}{t:TypeId}{l:List Int}(h:w.heap[g]? =some (.cells cs t (0,0)))(hl:cs.toList=iv l)(hn:n=l.length)(hs:l.length<=1000000):br w (.slice (some ⟨g,0,none⟩) n c) l:=by
 subst hn
 refine Flat.wN (by simp[iv]) ab fun j u hu=> ?_
 rw[fu,zP w g j cs t _ h,<-Array.getElem?_toList,hl];exact hu
theorem isNaN(a:Int)(w:World):Calls Tryz.prog 143 #[I a] w fun e w'=>e=.returned (.bool false)/\w=w':=by
 have h:(a !=a)=false:=ai;go_enter Tryz.func143,Tryz.ntmps143;go_wp2;go_ret;exact⟨rfl,rfl⟩
theorem Rl(a b:Int)(w:World):Calls Tryz.prog 95 #[I a,I b] w fun e w'=>e=.returned (I (ic a b))/\w=w':=by
 by_cases h1:a<b
 ·have p1:decide (a<b)=true:=by simp[h1]
  have hr:=ae (show ic a b= -1 by simp[ic,h1]);clear h1;go_enter Tryz.func95,Tryz.ntmps95
  go_wp2_with (go_at_call 143;refine(isNaN _ _).mono ?_;rintro e w' ⟨rfl,rfl⟩)
  go_ret;exact⟨ly hr.out.symm,rfl⟩
 ·have p1:decide (a<b)=false:=by simp[h1]
  by_cases h2:b<a
  ·have p2:decide (b<a)=true:=by simp[h2]
   have hr:=ae (show ic a b=1 by simp[ic,h1,h2]);clear h1 h2;go_enter Tryz.func95,Tryz.ntmps95
   go_wp2_with (go_at_call 143;refine(isNaN _ _).mono ?_;rintro e w' ⟨rfl,rfl⟩)
   go_ret;exact⟨ly hr.out.symm,rfl⟩
  ·have p2:decide (b<a)=false:=by simp[h2]
   have hr:=ae (show ic a b=0 by simp[ic,h1,h2]);clear h1 h2;go_enter Tryz.func95,Tryz.ntmps95
   go_wp2_with (go_at_call 143;refine(isNaN _ _).mono ?_;rintro e w' ⟨rfl,rfl⟩)
   go_ret;exact⟨ly hr.out.symm,rfl⟩
theorem Ns(l:List Int)(v:Value)(w:World)(hl:br w v l):Calls Tryz.prog 93 #[v] w fun e w'=>e=.returned (I (nr l))/\w=w':=by
 obtain⟨ka,ca,rfl,gz⟩:=hl.open;go_enter Tryz.func93,Tryz.ntmps93;go_wp2;go_loop [8] (fun i=>∃k:Nat,k<=l.length/\i=.int .i64 k/\nr l=nr (l.drop k)) (fun i=>l.length-(intOf i).toNat)
 case atStart=>exact⟨0,ab,rfl,ai⟩
 case round=>
  obtain⟨k,hk,rfl,hE⟩:=hrel;have HE:=ae hE;clear hE;by_cases hlt:k<l.length
  ·obtain⟨b,o,rfl,x0⟩:=hl.at (i:=k) (x:=l[k]) (by simp[hlt]);have Hd:=ae (List.drop_eq_getElem_cons hlt);by_cases hx:l[k]=0
   ·have hq:(l[k] !=0)=false:=by simp[hx]
    have hr:=ae (show nr l=nr (l.drop (k+1)) by rw[HE.out,Hd.out,nr,af (by simp[hx])]);clear hx;go_wp2;go_round
    case rel=>exact⟨k+1,ab,by go_num,hr.out⟩
    case measure=>simp[intOf];omega
   ·have hq:(l[k] !=0)=true:=by simp[hx]
    have hr:=ae (show nr l=l[k] by rw[HE.out,Hd.out,nr,aq (by simp[hx])]);clear hx;go_wp2;go_ret;exact⟨ly hr.out.symm,rfl⟩
  ·have hr:=ae (show nr l=0 by rw[HE.out,uF ab];rfl);go_wp2;go_ret;exact⟨ly hr.out.symm,rfl⟩
def Quiet (w wr:World):Prop:=∃n,wr=w.drewN n
theorem Quiet.refl(w:World):Quiet w w:=⟨0,rfl⟩
theorem Quiet.drewN{wr:World}(h:Quiet w wr)(n:Nat):Quiet w (wr.drewN n):=by
 obtain⟨m,rfl⟩:=h;exact⟨m+n,ai⟩
theorem Quiet.cell{wr:World}(h:Quiet w wr)(a:Addr):wr.cell? a=w.cell? a:=by
 obtain⟨m,rfl⟩:=h;rfl
theorem Quiet.below{wr:World}(h:Quiet w wr)(B:Nat):Below B w wr:=by
 obtain⟨m,rfl⟩:=h;exact below_drewN (Below.refl _ _) m
theorem Ko(l:List Int)(v:Value)(w:World)(hl:br w v l)(hs:l.length<=1000000):Calls Tryz.prog 140 #[v] w fun e w'=>e=.returned (I (jI l))/\Quiet w w':=by
 obtain⟨ka,ca,rfl,gz⟩:=hl.open;go_enter Tryz.func140,Tryz.ntmps140;go_wp2;go_loopw [3] (fun i wr=>∃k:Nat,k<=l.length+1/\i=.int .i64 k/\Quiet w wr/\jI l=jI (l.drop k)) (fun i _=>l.length+2-(intOf i).toNat)
 case atStart=>exact⟨0,ab,rfl,Quiet.refl _,ai⟩
 case round=>
  obtain⟨k,hk,rfl,hQ,hE⟩:=hrel;have HE:=ae hE;clear hE;by_cases hlt:k+1<l.length
  ·have adT:k<l.length:=ab;obtain⟨b,o,rfl,x0⟩:=hl.at (i:=k) (x:=l[k]) (by simp[adT]);obtain⟨b',o',Kq,x1⟩:=hl.at (i:=k+1) (x:=l[k+1]) (by simp[hlt]);simp at Kq;obtain⟨rfl,rfl⟩:=Kq;have y0:=(hQ.cell ⟨b,o+k,none⟩).trans x0;have y1:=(hQ.cell ⟨b,o+(k+1),none⟩).trans x1;have Hd:=ae ((List.drop_eq_getElem_cons adT).trans (aG (l[k]::·) (List.drop_eq_getElem_cons hlt)));by_cases hx:ic l[k] l[k+1]=0
   ·have hq:(ic l[k] l[k+1] !=0)=false:=by simp[hx]
    have hr:=ae (show jI l=jI (l.drop (k+2)) by rw[HE.out,Hd.out,jI,af (by simp[hx])]);clear hx;go_wp2;go_quiet ((go_at_call 95;exact Calls.quiet_of_same ((Rl _ _ _).mono fun _ _ h=>⟨h.1,h.2.symm⟩)));go_wp2;go_roundw
    case rel=>exact⟨k+2,ab,by go_num,hQ.drewN nq,hr.out⟩
    case measure=>simp[intOf];omega
   ·have hq:(ic l[k] l[k+1] !=0)=true:=by simp[hx]
    have hr:=ae (show jI l=ic l[k] l[k+1] by rw[HE.out,Hd.out,jI,aq (by simp[hx])]);clear hx;go_wp2;go_quiet ((go_at_call 95;exact Calls.quiet_of_same ((Rl _ _ _).mono fun _ _ h=>⟨h.1,h.2.symm⟩)));go_wp2;go_ret;exact⟨ly hr.out.symm,hQ.drewN nq⟩
  ·have hr:=ae (show jI l=0 by
    rw[HE.out];have:(l.drop k).length<=1:=bq
    match hd:l.drop k,this with
    |[],_=>rfl
    |[_],_=>rfl)
   go_wp2;go_ret;exact⟨ly hr.out.symm,hQ⟩
theorem Kr(w:World)(A B C:Obj):(((w.alloc A).alloc B).alloc C).heap[w.heap.size+1+1]? =some C:=by
 have h:=dV ((w.alloc A).alloc B) C;simpa only[World.size_alloc] using h
def bL (w:World)(cs ds:Array Value)(X:World):Prop:=az X w.heap.size cs/\az X (w.heap.size+1) ds/\aw w X/\w.heap.size+2<=X.heap.size
theorem bL.S(h:bL w cs ds X):(∀j,X.cell? ⟨w.heap.size,j,none⟩=cs[j]?)/\(∀j,X.cell? ⟨w.heap.size+1,j,none⟩=ds[j]?):=⟨h.1.cell,h.2.1.cell⟩
theorem bL.drew(h:bL w cs ds X):bL w cs ds X.drew:=⟨h.1,h.2.1,h.2.2.1.drew,h.2.2.2⟩
theorem bL.drewN(h:bL w cs ds X)(n:Nat):bL w cs ds (X.drewN n):=⟨h.1,h.2.1,below_drewN h.2.2.1 n,h.2.2.2⟩
theorem bL.alloc(h:bL w cs ds X)(o:Obj):bL w cs ds (X.alloc o):=⟨h.1.alloc o,h.2.1.alloc o,h.2.2.1.alloc (by have:=h.2.2.2;omega) o,by have:=h.2.2.2;simp;omega⟩
theorem bL.call{w1:World}(h:bL w cs ds X)(hB:aw X w1):bL w cs ds w1:=
 ⟨h.1.kept hB (by have:=h.2.2.2;omega),h.2.1.kept hB (by have:=h.2.2.2;omega),h.2.2.1.trans (hB.mono (by have:=h.2.2.2;omega)),by have:=h.2.2.2;have:=hB.size;omega⟩
theorem bL.start(w:World)(cs ds:Array Value)(t:TypeId):bL w cs ds ((w.alloc (.cells cs t)).alloc (.cells ds t)):=
 ⟨(az.new _ _ _).alloc _,⟨t,Kg w _ _⟩,bF,ai⟩
theorem adU(a0 a1 a2 b0 b1 b2:Int)(w:World):Calls Tryz.prog 142 #[.agg #[I a0,I a1,I a2],.agg #[I b0,I b1,I b2]] w fun e w'=>e=.returned (I (aK [a0,a1,a2] [b0,b1,b2]))/\aw w w':=by
 have hr:=ae (show aK [a0,a1,a2] [b0,b1,b2]=jI [a0,b0,a1,b1,a2,b2] by simp only[jI];rw[jJ,jJ,jJ];rfl);go_enter Tryz.func142,Tryz.ntmps142;go_wp2_with fail;refine(Ko [a0,b0,a1,b1,a2,b2] _ _ (br.of_heap (Kr w _ _ _) rfl rfl ai) ai).mono ?_;rintro e w1 ⟨rfl,hQ⟩;have hB:=hQ.below w.heap.size;go_wp2_with fail;go_ret;exact⟨ly hr.out.symm,Below.trans bF hB⟩
end
section
open Go.RowKit
theorem apc (a0 a1 a2 a3 a4 b0 b1 b2 b3 b4:Int)(w:World):Calls Tryz.prog 141 #[.agg #[I a0,I a1,I a2,I a3,I a4],.agg #[I b0,I b1,I b2,I b3,I b4]] w fun e w'=>e=.returned (I (aK [a0,a1,a2,a3,a4] [b0,b1,b2,b3,b4]))/\aw w w':=by
 have hr:=ae (show aK [a0,a1,a2,a3,a4] [b0,b1,b2,b3,b4]=nr [aK [a0,a1,a2] [b0,b1,b2],jI [a3,b3,a4,b4]] by
  rw[show aK [a0,a1,a2,a3,a4] [b0,b1,b2,b3,b4]=aK ([a0,a1,a2]++[a3,a4]) ([b0,b1,b2]++[b3,b4]) from rfl,Gq [a0,a1,a2] [b0,b1,b2] [a3,a4] [b3,b4] rfl,jJ a3,jJ a4];simp only[nr,jI]
  repeat' split
  all_goals simp_all[aK])
 have aY:=bL.start w #[I a0,I a1,I a2,I a3,I a4] #[I b0,I b1,I b2,I b3,I b4] 39;have mH:=aY.1.cell;have Ks:=aY.2.1.cell;go_enter Tryz.func141,Tryz.ntmps141;go_wp2_with fail
 go_region_held3 (fun w'=>(∀j,w'.cell? ⟨w.heap.size,j,none⟩=(#[I a0,I a1,I a2,I a3,I a4]:Array Value)[j]?)/\(∀j,w'.cell? ⟨w.heap.size+1,j,none⟩=(#[I b0,I b1,I b2,I b3,I b4]:Array Value)[j]?))
  ((first|exact bL.S aY|exact bL.S aY.drew|exact bL.S (aY.alloc _).drew|exact bL.S gJ|exact bL.S (gJ.alloc _)|exact bL.S jK|exact bL.S (jK.alloc _)))
  (first
   |(go_at_call 142;refine(adU a0 a1 a2 b0 b1 b2 _).mono ?_;rintro e w1 ⟨rfl,aC⟩
     have gJ:bL w #[I a0,I a1,I a2,I a3,I a4] #[I b0,I b1,I b2,I b3,I b4] w1:=by first|exact bL.call aY.drew aC|exact bL.call (aY.alloc _).drew aC)
   |(go_at_call 140;refine(Ko [a3,b3,a4,b4] _ _ (by first|exact br.of_heap (dV w1 _) rfl rfl ai|exact br.of_heap ((aC.block _ (by simp only[oE,World.size_alloc];omega)).trans (Kr w _ _ _)) rfl rfl ai) ai).mono ?_;rintro e w2 ⟨rfl,DV⟩
     have jK:bL w #[I a0,I a1,I a2,I a3,I a4] #[I b0,I b1,I b2,I b3,I b4] w2:=by first|exact bL.call gJ (DV.below _)|exact bL.call (gJ.alloc _) (DV.below _))
   |(go_at_call 93;refine(Ns [aK [a0,a1,a2] [b0,b1,b2],jI [a3,b3,a4,b4]] _ _ (br.of_heap (dV w2 _) rfl rfl ai)).mono ?_;rintro e w3 ⟨rfl,rfl⟩))
 all_goals
  go_wp2_with fail;go_ret;exact⟨ly hr.out.symm,(jK.alloc _).2.2.1⟩
theorem apd (a0 a1 a2 a3 a4 b0 b1 b2 b3 b4:Int)(w:World):Calls Tryz.prog 94 #[.agg #[I a0,I a1,I a2,I a3,I a4],.agg #[I b0,I b1,I b2,I b3,I b4]] w fun e w'=>e=.returned (I (aK [a0,a1,a2,a3,a4] [b0,b1,b2,b3,b4]))/\aw w w':=by
 have hr:=ae (show aK [a0,a1,a2,a3,a4] [b0,b1,b2,b3,b4]=nr [aK [a0,a1,a2] [b0,b1,b2],jI [a3,b3,a4,b4]] by
  rw[show aK [a0,a1,a2,a3,a4] [b0,b1,b2,b3,b4]=aK ([a0,a1,a2]++[a3,a4]) ([b0,b1,b2]++[b3,b4]) from rfl,Gq [a0,a1,a2] [b0,b1,b2] [a3,a4] [b3,b4] rfl,jJ a3,jJ a4];simp only[nr,jI]
  repeat' split
  all_goals simp_all[aK])
 have aY:=bL.start w #[I a0,I a1,I a2,I a3,I a4] #[I b0,I b1,I b2,I b3,I b4] 76;have mH:=aY.1.cell;have Ks:=aY.2.1.cell;go_enter Tryz.func94,Tryz.ntmps94;go_wp2_with fail
 go_region_held3 (fun w'=>(∀j,w'.cell? ⟨w.heap.size,j,none⟩=(#[I a0,I a1,I a2,I a3,I a4]:Array Value)[j]?)/\(∀j,w'.cell? ⟨w.heap.size+1,j,none⟩=(#[I b0,I b1,I b2,I b3,I b4]:Array Value)[j]?))
  ((first|exact bL.S aY|exact bL.S aY.drew|exact bL.S (aY.alloc _).drew|exact bL.S gJ|exact bL.S (gJ.alloc _)|exact bL.S jK|exact bL.S (jK.alloc _)))
  (first
   |(go_at_call 142;refine(adU a0 a1 a2 b0 b1 b2 _).mono ?_;rintro e w1 ⟨rfl,aC⟩
     have gJ:bL w #[I a0,I a1,I a2,I a3,I a4] #[I b0,I b1,I b2,I b3,I b4] w1:=by first|exact bL.call aY.drew aC|exact bL.call (aY.alloc _).drew aC)
   |(go_at_call 140;refine(Ko [a3,b3,a4,b4] _ _ (by first|exact br.of_heap (dV w1 _) rfl rfl ai|exact br.of_heap ((aC.block _ (by simp only[oE,World.size_alloc];omega)).trans (Kr w _ _ _)) rfl rfl ai) ai).mono ?_;rintro e w2 ⟨rfl,DV⟩
     have jK:bL w #[I a0,I a1,I a2,I a3,I a4] #[I b0,I b1,I b2,I b3,I b4] w2:=by first|exact bL.call gJ (DV.below _)|exact bL.call (gJ.alloc _) (DV.below _))
   |(go_at_call 93;refine(Ns [aK [a0,a1,a2] [b0,b1,b2],jI [a3,b3,a4,b4]] _ _ (br.of_heap (dV w2 _) rfl rfl ai)).mono ?_;rintro e w3 ⟨rfl,rfl⟩))
 all_goals
  go_wp2_with fail;go_ret;exact⟨ly hr.out.symm,(jK.alloc _).2.2.1⟩
theorem adV (a0 a1 a2 a3 a4 a5 a6 a7 b0 b1 b2 b3 b4 b5 b6 b7:Int)(w:World):Calls Tryz.prog 90 #[.agg #[I a0,I a1,I a2,I a3,I a4,I a5,I a6,I a7],.agg #[I b0,I b1,I b2,I b3,I b4,I b5,I b6,I b7]] w fun e w'=>e=.returned (I (aK [a0,a1,a2,a3,a4,a5,a6,a7] [b0,b1,b2,b3,b4,b5,b6,b7]))/\aw w w':=by
 have hr:=ae (show aK [a0,a1,a2,a3,a4,a5,a6,a7] [b0,b1,b2,b3,b4,b5,b6,b7]=nr [jI [a0,b0,a1,b1,a2,b2],aK [a3,a4,a5,a6,a7] [b3,b4,b5,b6,b7]] by
  rw[jJ a0,jJ a1,jJ a2];simp only[nr,jI]
  repeat' split
  all_goals simp_all)
 have aY:=bL.start w #[I a0,I a1,I a2,I a3,I a4,I a5,I a6,I a7] #[I b0,I b1,I b2,I b3,I b4,I b5,I b6,I b7] 41;have mH:=aY.1.cell;have Ks:=aY.2.1.cell;go_enter Tryz.func90,Tryz.ntmps90;go_wp2_with fail
 go_region_held3 (fun w'=>(∀j,w'.cell? ⟨w.heap.size,j,none⟩=(#[I a0,I a1,I a2,I a3,I a4,I a5,I a6,I a7]:Array Value)[j]?)/\(∀j,w'.cell? ⟨w.heap.size+1,j,none⟩=(#[I b0,I b1,I b2,I b3,I b4,I b5,I b6,I b7]:Array Value)[j]?))
  ((first|exact bL.S aY|exact bL.S aY.drew|exact bL.S (aY.alloc _).drew|exact bL.S gJ|exact bL.S (gJ.alloc _)|exact bL.S jK|exact bL.S (jK.alloc _)))
  (first
   |(go_at_call 140;refine(Ko [a0,b0,a1,b1,a2,b2] _ _ (br.of_heap (w:=(((w.alloc _).alloc _).alloc _).drew) (Kr w _ _ _) rfl rfl ai) ai).mono ?_;rintro e w1 ⟨rfl,hQ1⟩
     have gJ:bL w #[I a0,I a1,I a2,I a3,I a4,I a5,I a6,I a7] #[I b0,I b1,I b2,I b3,I b4,I b5,I b6,I b7] w1:=bL.call (aY.alloc _).drew (hQ1.below _))
   |(go_at_call 141;refine(apc a3 a4 a5 a6 a7 b3 b4 b5 b6 b7 _).mono ?_;rintro e w2 ⟨rfl,bg⟩
     have jK:bL w #[I a0,I a1,I a2,I a3,I a4,I a5,I a6,I a7] #[I b0,I b1,I b2,I b3,I b4,I b5,I b6,I b7] w2:=bL.call gJ bg)
   |(go_at_call 93;refine(Ns [jI [a0,b0,a1,b1,a2,b2],aK [a3,a4,a5,a6,a7] [b3,b4,b5,b6,b7]] _ _ (br.of_heap (dV w2 _) rfl rfl ai)).mono ?_;rintro e w3 ⟨rfl,rfl⟩))
 all_goals
  go_wp2_with fail;go_ret;exact⟨ly hr.out.symm,(jK.alloc _).2.2.1⟩
theorem adW (a b:Ask)(w:World):Calls Tryz.prog 92 #[.agg #[I a.node,I a.handler,I a.count,I a.kind,I a.index,I a.arity,I a.n],.agg #[I b.node,I b.handler,I b.count,I b.kind,I b.index,I b.arity,I b.n]] w fun e w'=>e=.returned (I (aK a.key b.key))/\aw w w':=by
 have hr:=ae (show aK a.key b.key=nr [aK [a.node,a.handler,a.count,a.kind,a.index] [b.node,b.handler,b.count,b.kind,b.index],ic a.n b.n] by
  rw[show aK a.key b.key=aK ([a.node,a.handler,a.count,a.kind,a.index]++[a.n]) ([b.node,b.handler,b.count,b.kind,b.index]++[b.n]) from rfl,Gq [a.node,a.handler,a.count,a.kind,a.index] [b.node,b.handler,b.count,b.kind,b.index] [a.n] [b.n] rfl,jJ a.n];simp only[nr]
  repeat' split
  all_goals simp_all[aK])
 have aY:=bL.start w #[I a.node,I a.handler,I a.count,I a.kind,I a.index,I a.arity,I a.n] #[I b.node,I b.handler,I b.count,I b.kind,I b.index,I b.arity,I b.n] 78;have mH:=aY.1.cell;have Ks:=aY.2.1.cell;go_enter Tryz.func92,Tryz.ntmps92;go_wp2_with fail
 go_region_held3 (fun w'=>(∀j,w'.cell? ⟨w.heap.size,j,none⟩=(#[I a.node,I a.handler,I a.count,I a.kind,I a.index,I a.arity,I a.n]:Array Value)[j]?)/\(∀j,w'.cell? ⟨w.heap.size+1,j,none⟩=(#[I b.node,I b.handler,I b.count,I b.kind,I b.index,I b.arity,I b.n]:Array Value)[j]?))
  ((first|exact bL.S aY|exact bL.S aY.drew|exact bL.S (aY.alloc _).drew|exact bL.S gJ|exact bL.S (gJ.alloc _)|exact bL.S jK|exact bL.S (jK.alloc _)))
  (first
   |(go_at_call 94;refine(apd a.node a.handler a.count a.kind a.index b.node b.handler b.count b.kind b.index _).mono ?_;rintro e w1 ⟨rfl,aC⟩
     have gJ:bL w #[I a.node,I a.handler,I a.count,I a.kind,I a.index,I a.arity,I a.n] #[I b.node,I b.handler,I b.count,I b.kind,I b.index,I b.arity,I b.n] w1:=bL.call aY.drew aC)
   |(go_at_call 95;refine(Rl a.n b.n _).mono ?_;rintro e w2 ⟨rfl,rfl⟩)
   |(go_at_call 93;refine(Ns [aK [a.node,a.handler,a.count,a.kind,a.index] [b.node,b.handler,b.count,b.kind,b.index],ic a.n b.n] _ _ (br.of_heap (dV w1 _) rfl rfl ai)).mono ?_;rintro e w3 ⟨rfl,rfl⟩))
 all_goals
  go_wp2_with fail;go_ret;exact⟨ly hr.out.symm,(gJ.alloc _).2.2.1⟩
end
section
open Go.RowKit Go.Maps
variable {B:Nat} {D:DataW Unit} {v:Value} {w w':World}
def bY (n:Int):Prop:= -9223372036854775808<=n/\n<=9223372036854775807
structure Qn where
 node:Int
 handler:Int
 count:Int
 kind:Int
 index:Int
deriving DecidableEq
variable {a b:Qn} {f:Qn->Int}
structure aL where
 q:Qn
 n:Int
deriving DecidableEq
variable {l:List aL}
def Qn.ints (q:Qn):List Int:=[q.node,q.handler,q.count,q.kind,q.index]
def aL.ints (a:aL):List Int:=[a.q.node,a.q.handler,a.q.count,a.q.kind,a.q.index,a.n]
theorem Qn.DL:a.ints=b.ints↔a=b:=by
 constructor
 ·intro h;cases a;cases b;simp[Qn.ints] at h;simp[h]
 ·intro h;rw[h]
def Qn.val (q:Qn):Value:=.agg #[I q.node,I q.handler,I q.count,I q.kind,I q.index]
def Qn.ok (q:Qn):Prop:=∀n∈q.ints,bY n
def aL.ok (a:aL):Prop:=a.q.ok/\bY a.n
def kS (w:World)(v:Value)(l:List aL):Prop:=Flat w 6 v l.length (l.flatMap fun a=>iv a.ints)
theorem kS.kept(h:kS w v l)(hb:Below B w w')(hB:w.heap.size<=B):kS w' v l:=Flat.kept h hb hB
theorem kS.open(h:kS w v l):∃a c,v=.slice a l.length c/\l.length<=9223372036854775807:=Flat.open h
theorem aL.Ki(x:aL):(iv x.ints).length=6:=rfl
theorem kS.at{a:Option Addr}{n c:Nat}(h:kS w (.slice a n c) l){i:Nat}{x:aL}(hi:l[i]? =some x):
  ∃b o,a=some ⟨b,o,none⟩/\w.rangeAt b (o+i*6) [I x.q.node,I x.q.handler,I x.q.count,I x.q.kind,I x.q.index,I x.n]:=by
 obtain⟨b,o,ha,hc⟩:=BN (f:=fun a:aL=>iv a.ints) aL.Ki ab h hi;exact⟨b,o,ha,fun j v hv=>hc j v hv⟩
def oG (w:World)(v:Value)(l:List Ev):Prop:=Flat w 8 v l.length (l.flatMap fun a=>iv a.ints)
theorem oG.kept{l:List Ev}(h:oG w v l)(hb:Below B w w')(hB:w.heap.size<=B):oG w' v l:=Flat.kept h hb hB
theorem oG.open{l:List Ev}(h:oG w v l):∃a c,v=.slice a l.length c/\l.length<=9223372036854775807:=Flat.open h
theorem laidOut:laidOutB Tryz.prog=true:=ah
theorem ape:(76:TypeId)<Tryz.prog.types.size:=ni ah
theorem apf:(match Tryz.prog.underlying 76 with |some (.array _ _)|some (.struct _)=>true|_=>false)=true:=by rw[Tryz.underlying76]
theorem Gr:Keyed Tryz.prog 76:=Keyed.of_law (deep_law_laid laidOut (m:=3) ab ape ah apf)
theorem Kt{n:Int}(h:bY n):(Lit.int .i64 n).wf=true:=WalkArith.wf_i64 h
theorem Rm:Tryz.prog.cellsOf 76=5:=ah
theorem Rn:Tryz.prog.cellsOf 37=3:=ah
theorem Ro:Tryz.prog.cellsOf 3=1:=ah
theorem adX:Tryz.prog.keyType 76=true:=ah
def iy (q:Qn):Lit:=.string (keyBytes [.int .i64 q.node,.int .i64 q.handler,.int .i64 q.count,.int .i64 q.kind,.int .i64 q.index])
theorem Ku(q:Qn)(h:q.ok):keyOf Tryz.prog 76 q.val=some (iy q):=by
 have h0:=Kt (h q.node (by simp[Qn.ints]));have h1:=Kt (h q.handler (by simp[Qn.ints]));have h2:=Kt (h q.count (by simp[Qn.ints]));have h3:=Kt (h q.kind (by simp[Qn.ints]));have h4:=Kt (h q.index (by simp[Qn.ints]))
 obtain⟨m,hm⟩:∃m,Tryz.prog.types.size=m+3:=⟨Tryz.prog.types.size-3,ah⟩
 unfold iy keyOf;simp only[Tryz.underlying76];rw[aq (by simp[adX,Qn.val,Value.formed,Tryz.underlying76,Rm]),hm];unfold Program.keyLits;simp only[Tryz.underlying76,Qn.val,Value.cells];rw[aq ⟨by rw[Rm];rfl,ah⟩]
 have e3:∀(n:Int),(Lit.int .i64 n).wf=true->Tryz.prog.keyLits (m+3) 3 [I n]=some [.int .i64 n]:=fun n hn=>by simp[Program.keyLits,Tryz.underlying3,hn]
 have e52:Tryz.prog.keyLits (m+3) 37 [I q.node,I q.handler,I q.count]=some [.int .i64 q.node,.int .i64 q.handler,.int .i64 q.count]:=by
  unfold Program.keyLits;simp only[Tryz.underlying37];rw[aq ⟨by rw[Rn];rfl,ah⟩];simp[Ro,Program.keyLits,Tryz.underlying3,h0,h1,h2]
 simp[Rn,Ro,e3 _ h3,e3 _ h4,e52]
theorem Nt(ha:a.ok)(hb:b.ok)(h:iy a=iy b):a=b:=by
 have:=Gr.inj (Ku a ha) (h▸Ku b hb);cases a;cases b;simp[Qn.val] at this;simp[this]
theorem WE(q:Qn)(h:q.ok):WideAt.IsKeyLit (iy q):=Gr.key (Ku q h)
def eO (l:List aL)(q:Qn):Int:=l.foldl (fun n a=>if a.q=q then max 0 a.n else n) 0
theorem WG(l:List aL)(a:aL)(q:Qn):eO (l++[a]) q=if a.q=q then max 0 a.n else eO l q:=by simp[eO,zL]
theorem apg(l:List aL)(q:Qn):0<=eO l q:=by
 have key:∀(l:List aL) (n:Int),0<=n->0<=l.foldl (fun n a=>if a.q=q then max 0 a.n else n) n:=by
  intro l
  induction l with
  |nil=>intro n h;exact h
  |cons a l ih=>
   intro n h;rw[zN];refine ih _ ?_;split
   ·omega
   ·exact h
 exact key l 0 (Int.le_refl _)
structure pk (D:DataW Unit)(f:Qn->Int):Prop where
 tidy:Tidy D
 at_:∀q:Qn,q.ok->D.atKey (iy q) (.lit (.int .i64 0))=.lit (.int .i64 (f q))
 Gs:∀q:Qn,q.ok->Maps.has D (iy q)=decide (0<f q)
 sz:∃ys:List Qn,ys.Nodup/\(∀q,q∈ys↔(q.ok/\0<f q))/\Maps.size D=ys.length
theorem pk.empty:pk (.map []) (fun _=>0):=⟨tidy_empty,fun q _=>rfl,fun q _=>by simp[Maps.has],[],List.nodup_nil,fun q=>ai,rfl⟩
theorem pk.del(h:pk D f)(q:Qn)(hq:q.ok):pk (D.del (iy q)) (fun p=>if q=p then 0 else f p):=by
 refine⟨h.tidy.del _,fun p hp=> ?_,fun p hp=> ?_,?_⟩
 ·by_cases e:q=p
  ·subst e;simp[atKey_del_same]
  ·rw[atKey_del_other (fun e2=>e (Nt hp hq e2).symm),h.at_ p hp,af e]
 ·by_cases e:q=p
  ·subst e;simp[has_del_same]
  ·rw[has_del_other (fun e2=>e (Nt hp hq e2).symm),h.Gs p hp,af e]
 ·obtain⟨ys,h1,h2,h3⟩:=h.sz;have hs:=size_del (k:=iy q) h.tidy;rw[h.Gs q hq] at hs;by_cases h0:0<f q
  ·have hm:q∈ys:=(h2 q).2 ⟨hq,h0⟩;refine⟨ys.erase q,h1.erase q,fun p=> ?_,?_⟩
   ·rw[h1.mem_erase_iff,h2 p];by_cases e:q=p
    ·subst e;simp
    ·simp only[af e];exact⟨fun x=>x.2,fun x=>⟨fun e2=>e e2.symm,x⟩⟩
   ·rw[List.length_erase_of_mem hm];simp[h0] at hs;have:=List.length_pos_of_mem hm;omega
  ·refine⟨ys,h1,fun p=> ?_,?_⟩
   ·rw[h2 p];by_cases e:q=p
    ·subst e;simp[h0]
    ·simp only[af e]
   ·simp[h0] at hs;omega
theorem pk.put(h:pk D f)(q:Qn)(hq:q.ok)(n:Int)(hn:0<n):pk (D.put (iy q) (.lit (.int .i64 n))) (fun p=>if q=p then n else f p):=by
 refine⟨h.tidy.put (WE q hq) _,fun p hp=> ?_,fun p hp=> ?_,?_⟩
 ·by_cases e:q=p
  ·subst e;rw[atKey_put_same h.tidy.isMap (WE q hq),aq rfl]
  ·rw[atKey_put_other (fun e2=>e (Nt hp hq e2).symm),h.at_ p hp,af e]
 ·by_cases e:q=p
  ·subst e;rw[has_put_same h.tidy.isMap (WE q hq),aq rfl];simp[hn]
  ·rw[has_put_other (fun e2=>e (Nt hp hq e2).symm),h.Gs p hp,af e]
 ·obtain⟨ys,h1,h2,h3⟩:=h.sz;have hs:=size_put (k:=iy q) h.tidy (DataW.lit (.int .i64 n));rw[h.Gs q hq] at hs;by_cases h0:0<f q
  ·refine⟨ys,h1,fun p=> ?_,?_⟩
   ·rw[h2 p];by_cases e:q=p
    ·subst e;simp[h0,hn]
    ·simp only[af e]
   ·rw[hs];simp[h0,h3]
  ·have hm:q∉ys:=fun hm=>h0 ((h2 q).1 hm).2
   refine⟨q::ys,List.nodup_cons.2 ⟨hm,h1⟩,fun p=> ?_,?_⟩
   ·rw[cz,h2 p];by_cases e:q=p
    ·subst e;simp[hn,hq]
    ·simp only[af e];constructor
     ·rintro(e2|x)
      ·exact absurd e2.symm e
      ·exact x
     ·exact .inr
   ·rw[hs];simp[h0,h3]
theorem pk.congr{g:Qn->Int}(h:pk D f)(e:∀q,f q=g q):pk D g:=by
 have:f=g:=funext e;exact this▸h
end
namespace aD
open mG
def bu (n:Int):Bool:=decide (-2147483647<=n) && decide (n<=2147483647)
def tD (n:Int):Int:=max (-2147483647) (min n 2147483647)
def zS (b:Bool):Int:=if b then 1 else 0
def BR (op y x:Int):Int:=
 if op=6 then tD (y+x) else if op=7 then tD (y-x) else if op=8 then tD (y*x)
 else if op=9 then(if x=0 then 0 else tD (y.tdiv x))
 else if op=11 then zS (decide (y<x)) else if op=12 then zS (decide (y<=x)) else zS (decide (y=x))
structure fW where
 kind:Int
 a:Int
 b:Int
 c:Int
 d:Int
deriving DecidableEq
structure eP where
 vars:List Int
 acts:List fW
 steps:Nat
 spent:Bool
 covered:List Int
 asked:List Int
deriving DecidableEq
def uM (answers:List Int)(i:Nat)(k:Int):Int:=match answers[i]? with
 |none=>0
 |some a=>(a.tmod k+k).tmod k
def nV (l:List Int)(n:Int):List Int:=if n∈l then l else l.takeWhile (fun x=>decide (x<n))++n::l.dropWhile (fun x=>decide (x<n))
def nu (l:List fW):Nat:=l.countP (fun a=>decide (a.kind=3))
inductive zT where
 |go (o:eP) (st:List Int) (pc:Int)
 |stop (o:eP)
def eP.act (o:eP)(a:fW):eP:={ o with acts:=o.acts++[a] }
def kv (dH:Int)(names answers:List Int)(op n:Int)(o:eP)(st:List Int)(pc:Int):Option zT:=
 if op=1 then some (.go o (n::st) pc)
 else if op=2 then(if n<0 then none else o.vars[n.toNat]?.map fun v=> .go o (v::st) pc)
 else if op=4 then(if n<0 then none else names[n.toNat]?.map fun v=> .go o (v::st) pc)
 else if op=3 then match st with
  |x::r=>if n<0\/(o.vars.length:Int)<=n then none else some (.go { o with vars:=o.vars.set n.toNat x,acts:=if n<dH then o.acts++[⟨1,n,x,0,0⟩] else o.acts } r pc)
  |[]=>none
 else if op=5 then match st with
  |x::r=>if 1<max 1 (min x 4) then some (.go { o with asked:=o.asked++[max 1 (min x 4)] } (uM answers o.asked.length (max 1 (min x 4))::r) pc) else some (.go o (0::r) pc)
  |[]=>none
 else if op=6\/op=7\/op=8\/op=9\/op=11\/op=12\/op=13 then match st with
  |x::y::r=>if bu x && bu y then some (.go o (BR op y x::r) pc) else none
  |_=>none
 else if op=10 then match st with
  |x::r=>if bu x then some (.go o (-x::r) pc) else none
  |[]=>none
 else if op=14 then match st with
  |x::r=>some (.go o (zS (decide (x=0))::r) pc)
  |[]=>none
 else if op=15 then some (.go o st n)
 else if op=16 then match st with
  |x::r=>some (.go o r (if x=0 then n else pc))
  |[]=>none
 else if op=17 then match st with
  |x::y::t::r=>some (.go (if 0<=t/\t<names.getD 1 0/\nu o.acts<20 then o.act ⟨3,t,n,y,x⟩ else o) r pc)
  |_=>none
 else if op=18 then some (.go (o.act ⟨4,n,0,0,0⟩) st pc)
 else if op=19 then some (.go (o.act ⟨5,n,0,0,0⟩) st pc)
 else if op=20 then some (.go (o.act ⟨2,0,0,0,0⟩) st pc)
 else if op=21 then match st with
  |x::y::r=>some (.go (o.act ⟨6,y,x,0,0⟩) r pc)
  |_=>none
 else if op=22 then match st with
  |x::r=>some (.go (o.act ⟨7,x,0,0,0⟩) r pc)
  |[]=>none
 else some (.stop o)
def rZ (p:Prog)(names answers:List Int)(o:eP)(st:List Int)(pc:Int):Option zT:=
 if pc<0 then none else
 match p.code[pc.toNat]? with
 |none=>none
 |some (op,n)=>kv p.dH names answers op n { o with covered:=nV o.covered pc,steps:=o.steps+1 } st (pc+1)
def qw (p:Prog)(names answers:List Int):Nat->eP->List Int->Int->Option eP
 |0,o,_,_=>some { o with spent:=true }
 |f+1,o,st,pc=>match rZ p names answers o st pc with
  |none=>none
  |some (.stop o)=>some o
  |some (.go o st pc)=>qw p names answers f o st pc
def yn (p:Prog)(handler:Nat)(vars names answers:List Int):Option eP:=
 match p.entry[handler]? with
 |none=>none
 |some e=>if e<0 then some ⟨vars,[],0,false,[],[]⟩ else qw p names answers 500 ⟨vars,[],0,false,[],[]⟩ [] e
structure jL where
 cells:List Int
 pending:List (Int×Int)
deriving DecidableEq
def ky:List Int->List (Int×Int)->Option (List Int)
 |c,[]=>some c
 |c,(i,v)::l=>if 0<=i/\i<c.length then ky (c.set i.toNat v) l else none
def wR (d:jL):Option (List Int):=ky d.cells d.pending
def yo (d:jL)(cell value:Int):Option jL:=
 if cell<0\/(d.cells.length:Int)<=cell then some d
 else if 4<(d.pending++[(cell,value)]).length then(ky d.cells ((d.pending++[(cell,value)]).take 1)).map fun c=>⟨c,(d.pending++[(cell,value)]).drop 1⟩
 else some ⟨d.cells,d.pending++[(cell,value)]⟩
def zU (d:jL):Option jL:=(wR d).map fun c=>⟨c,[]⟩
def jm:List (Int×Int)->List Bool->List (Int×Int)
 |x::l,k::m=>if k then x::jm l m else jm l m
 |_,_=>[]
def BS (d:jL)(keep:List Bool):Option jL:=(ky d.cells (jm d.pending keep)).map fun c=>⟨c,[]⟩
def wS (d:jL)(n:Nat):Option jL:=(wR d).map fun c=>⟨(c++List.replicate (n-c.length) 0).take n,[]⟩
structure aT where
 node:Int
 handler:Int
 count:Int
deriving DecidableEq
def aT.qn (c:aT)(kind index:Int):Qn:=⟨c.node,c.handler,c.count,kind,index⟩
def ig (q:Qn)(arity n:Int):Ask:=⟨q.node,q.handler,q.count,q.kind,q.index,arity,n⟩
structure Env where
 msg:bQ
 kM:Int
 kind:Int
 a:Int
 b:Int
deriving DecidableEq
structure Node where
 up:Bool
 version:Int
 fb:Int
 clock:Int
 aZ:jL
 fx:List Int
 timers:List Int
 counts:List Int
 waiting:Int
 dropped:Int
 dY:Int
deriving DecidableEq
structure Rr where
 s:Node
 asks:List Ask
 sent:List Env
 sb:Bool
 value:Int
 bC:List Int
 gB:aT
 out:eP
 covered:List Int
deriving DecidableEq
def fX (l:List aL)(q:Qn)(arity:Int):Int:=(eO l q).tmod arity
def lD:Node:=⟨false,-1,0,0,⟨[],[]⟩,[],[],List.replicate 41 0,-1,0,0⟩
def zV (s:Node):Option (List Int):=(wR s.aZ).map fun l=>l++s.fx
def sd (l:List aL)(c:aT):Int:=l.foldl (fun m a=>if(a.q.node=c.node/\a.q.handler=c.handler/\a.q.count=c.count)/\a.q.kind=1 then max m a.q.index else m) (-1)
def uN (l:List aL)(c:aT):List Int:=(List.range (min (sd l c+1).toNat 500)).map fun(i:Nat)=>eO l (c.qn 1 i)
def zW (l:List Int)(k:Int)(set:Bool):List Int:=((List.range 8).map Int.ofNat).filter fun i=>if i=k then set else decide (i∈l)
def uO (r:Rr)(a:fW):Option Rr:=
 if a.kind=1 then(yo r.s.aZ a.a a.b).map fun d=>{ r with s:={ r.s with aZ:=d } }
 else if a.kind=2 then(zU r.s.aZ).map fun d=>{ r with s:={ r.s with aZ:=d } }
 else if a.kind=4 then some { r with s:={ r.s with timers:=zW r.s.timers a.a true } }
 else if a.kind=5 then some { r with s:={ r.s with timers:=zW r.s.timers a.a false } }
 else if a.kind=3 then some { r with sent:=r.sent++[⟨⟨r.gB.node,r.gB.handler,r.gB.count,r.sent.length,0⟩,a.a,a.b,a.c,a.d⟩] }
 else if a.kind=6 then(if 0<=r.s.waiting/\a.a=r.s.waiting then some { r with sb:=true,value:=a.b,s:={ r.s with waiting:= -1 } } else some r)
 else if a.kind=7 then some { r with bC:=r.bC++[a.a] }
 else some r
def uP:Rr->List fW->Option Rr
 |r,[]=>some r
 |r,a::l=>match uO r a with
  |none=>none
  |some r=>uP r l
def kz (l:List aL)(c:aT):Nat->List Int->List Ask
 |_,[]=>[]
 |i,k::m=>ig (c.qn 1 i) k (fX l (c.qn 1 i) k)::kz l c (i+1) m
def yq (names:List Int)(self nodes now:Int):List Int:=((names.set 0 self).set 1 nodes).set 2 now
def po (s:Node)(p:Prog)(handler:Nat)(self nodes drift:Int)(names:List Int)(l:List aL):Option Rr:=
 match s.counts[handler]? with
 |none=>none
 |some k=>
  let c:aT:=⟨self,handler,k⟩
  let n:=if 0<drift then fX l (c.qn 2 0) (drift+1) else 0
  let tick:=if 0<drift then [ig (c.qn 2 0) (drift+1) n] else []
  match zV s with
  |none=>none
  |some vars=>match yn p handler vars (yq names self nodes (s.clock+1+n)) (uN l c) with
   |none=>none
   |some o=>
    if 0<=p.dH/\p.dH<=o.vars.length then
     uP ⟨{ s with clock:=s.clock+1+n,counts:=s.counts.set handler (k+1),fx:=(o.vars.drop p.dH.toNat).take 16 },
      tick++kz l c 0 o.asked,[],false,0,[],c,o,o.covered⟩ o.acts
    else none
def BU (s:Node)(p:Prog)(version self nodes drift:Int)(l:List aL):Option Rr:=
 if p.dH<0\/p.jF<0 then none else
 match(if(s.aZ.cells.length:Int)=p.dH then some s.aZ else wS s.aZ p.dH.toNat) with
 |none=>none
 |some d=>po { s with version:=version,aZ:=d,fx:=List.replicate p.jF.toNat 0,timers:=[],waiting:= -1,up:=true } p 0 self nodes drift (List.replicate 9 0) l
def mI (l:List aL)(c:aT)(n:Nat):List Ask:=(List.range n).map fun(i:Nat)=>ig (c.qn 3 i) 2 (fX l (c.qn 3 i) 2)
def Rp:eP:=⟨[],[],0,false,[],[]⟩
def se (s:Node)(self:Int)(l:List aL):Option Rr:=
 match s.counts[40]? with
 |none=>none
 |some k=>
  let asks:=mI l ⟨self,40,k⟩ s.aZ.pending.length
  (BS s.aZ (asks.map fun a=>decide (a.n=1))).map fun d=>
   ⟨{ s with aZ:=d,counts:=s.counts.set 40 (k+1),fb:=s.fb+1,fx:=List.replicate s.fx.length 0,timers:=[],waiting:= -1,up:=false },
    asks,[],false,0,[],⟨self,40,k⟩,Rp,[]⟩
def wU (l:List Env)(e:Env):List Env:=l.takeWhile (fun x=>decide (aK x.msg.ints e.msg.ints<0))++e::l.dropWhile (fun x=>decide (aK x.msg.ints e.msg.ints<0))
def oH (l:List Env)(m:bQ):Option Env:=l.find? fun x=>decide (x.msg=m)
def kA (l:List Env)(e:Env):List Env:=if(oH l e.msg).isSome then [] else wU l e
def nw (l:List Env)(m:bQ):List Env:=l.filter fun x=>decide (x.msg≠m)
def sf (l:List Env)(m:bQ)(k:Int):List Env:=match oH l m with
 |none=>[]
 |some e=>kA l { e with msg:={ e.msg with copy:=k } }
def iU (l:List Env)(node:Int):List bQ:=(l.filter fun x=>decide (x.kM=node)).map Env.msg
structure qx where
 node:Int
 op:Int
 key:Int
 arg:Int
deriving DecidableEq
structure eQ where
 dR:List Prog
 first:List Int
 qy:List Int
 ek:List qx
 yr:Int
 qz:Int
 tE:Int
 drift:Int
deriving DecidableEq
structure Ob where
 aph:Bool
 request:Int
 node:Int
 fb:Int
 value:Int
deriving DecidableEq
structure pq where
 gB:aT
 code:Int
deriving DecidableEq
structure bG where
 c:eQ
 nodes:List Node
 bE:List Env
 next:List Int
 aJ:List Ob
 bC:List (List pq)
 traces:List (List (List Int))
 covered:List (Int×Int)
 steps:Nat
deriving DecidableEq
def wV (node:Int):Nat->List qx->Int
 |_,[]=> -1
 |k,r::l=>if r.node=node then k else wV node (k+1) l
def after (c:eQ)(node:Int)(i:Int):Int:=wV node (i+1).toNat (c.ek.drop (i+1).toNat)
def ny (c:eQ):bG:=
 ⟨c,c.first.map fun _=>lD,[],(List.range c.first.length).map fun(n:Nat)=>after c n (-1),[],c.first.map fun _=>[],c.first.map fun _=>[],[],0⟩
def bR (l:List Ev)(e:Ev):List Ev:=
 if(l.dropWhile (fun x=>decide (aK x.ints e.ints<0))).head? =some e then l
 else l.takeWhile (fun x=>decide (aK x.ints e.ints<0))++e::l.dropWhile (fun x=>decide (aK x.ints e.ints<0))
def mJ:bQ:=⟨0,0,0,0,0⟩
def lY (w:bG)(n:Nat)(s:Node):List Int:=
 if s.version<0 then [w.c.first.getD n 0] else if w.c.qy.length=0 then [s.version] else w.c.qy
def gU (w:bG)(n:Nat)(s:Node)(out:List Ev)(m:bQ):List Ev:=
 let o1:=if s.up then bR out ⟨3,n,0,m⟩ else out
 let o2:=if s.dropped<w.c.qz then bR o1 ⟨5,n,0,m⟩ else o1
 if s.dY<w.c.tE then bR o2 ⟨6,n,0,m⟩ else o2
def BV (w:bG)(out:List Ev)(n:Nat)(s:Node):List Ev:=
 let o1:=if s.up then out else(lY w n s).foldl (fun o v=>bR o ⟨1,n,v,mJ⟩) out
 let o2:=(iU w.bE n).foldl (gU w n s) o1
 let o3:=if s.up/\s.waiting<0/\0<=w.next.getD n 0 then bR o2 ⟨2,n,w.next.getD n 0,mJ⟩ else o2
 let o4:=if s.up then s.timers.foldl (fun o t=>bR o ⟨4,n,t,mJ⟩) o3 else o3
 if s.up/\s.counts.getD 40 0<w.c.yr then bR o4 ⟨7,n,0,mJ⟩ else o4
def sg (w:bG):Nat->List Ev->List Node->List Ev
 |_,out,[]=>out
 |n,out,s::l=>sg w (n+1) (BV w out n s) l
def enabled (w:bG):List Ev:=sg w 0 [] w.nodes
def yt (x y:Int×Int):Bool:=decide (x.1<y.1\/x.1=y.1/\x.2<y.2)
def si (l:List (Int×Int))(x:Int×Int):List (Int×Int):=
 if(l.dropWhile (fun y=>yt y x)).head? =some x then l
 else l.takeWhile (fun y=>yt y x)++x::l.dropWhile (fun y=>yt y x)
def DW (w:bG)(n:Nat):Option bG:=
 match w.nodes[n]?,w.traces[n]? with
 |some s,some t=>(zV s).map fun v=>{ w with traces:=w.traces.set n (t++[v]) }
 |_,_=>none
def zX (w:bG)(n:Nat)(r:Rr)(waiting:Int):Option bG:=
 if n<w.nodes.length then
  match w.bC[n]? with
  |none=>none
  |some fl=>DW { w with
    nodes:=w.nodes.set n r.s
    bE:=r.sent.foldl kA w.bE
    aJ:=if r.sb then w.aJ++[⟨true,waiting,n,r.s.fb,r.value⟩] else w.aJ
    bC:=w.bC.set n (fl++r.bC.map fun k=>⟨r.gB,k⟩)
    covered:=(r.covered.map fun k=>(r.s.version,k)).foldl si w.covered } n
 else none
def sj:Rr:=⟨⟨false,0,0,0,⟨[],[]⟩,[],[],List.replicate 41 0,0,0,0⟩,[],[],false,0,[],⟨0,0,0⟩,Rp,[]⟩
def uQ (w:bG)(n:Nat)(handler:Int)(names:List Int)(l:List aL):Option (bG×Rr):=
 match w.nodes[n]? with
 |none=>none
 |some s=>
  if s.version<0\/handler<0 then none else
  match w.c.dR[s.version.toNat]? with
  |none=>none
  |some p=>match po s p handler.toNat n w.nodes.length w.c.drift names l with
   |none=>none
   |some r=>(zX w n r s.waiting).map fun w=>(w,r)
def bG.setNode (w:bG)(n:Nat)(s:Node):bG:={ w with nodes:=w.nodes.set n s }
def adY:List Int:=List.replicate 9 0
def yu (w:bG)(e:Ev)(l:List aL):Option (bG×Rr):=
 if e.node<0 then none else
 let n:=e.node.toNat
 match w.nodes[n]? with
 |none=>none
 |some s=>
  if e.kind=1 then
   if e.arg<0 then none else
   match w.c.dR[e.arg.toNat]? with
   |none=>none
   |some p=>match BU s p e.arg n w.nodes.length w.c.drift l with
    |none=>none
    |some r=>(zX w n r (-1)).map fun w=>(w,r)
  else if e.kind=2 then
   if e.arg<0 then none else
   match w.c.ek[e.arg.toNat]? with
   |none=>none
   |some q=>if n<w.next.length then
     uQ (bG.setNode { w with aJ:=w.aJ++[(⟨false,e.arg,n,s.fb,0⟩:Ob)],next:=w.next.set n (after w.c n e.arg) } n { s with waiting:=e.arg }) n 1
      [0,0,0,0,q.arg,0,e.arg,q.op,q.key] l
    else none
  else if e.kind=3 then
   match oH w.bE e.msg with
   |none=>none
   |some m=>uQ { w with bE:=nw w.bE e.msg } n (10+m.kind) [0,0,0,m.msg.node,m.a,m.b,0,0,0] l
  else if e.kind=4 then uQ (w.setNode n { s with timers:=s.timers.filter fun t=>decide (t≠e.arg) }) n (2+e.arg) adY l
  else if e.kind=5 then some (bG.setNode { w with bE:=nw w.bE e.msg } n { s with dropped:=s.dropped+1 },sj)
  else if e.kind=6 then some (bG.setNode { w with bE:=sf w.bE e.msg (s.dY+1) } n { s with dY:=s.dY+1 },sj)
  else match se s n l with
   |none=>none
   |some r=>(DW (w.setNode n r.s) n).map fun w=>(w,r)
def mK (w:bG)(e:Ev)(l:List aL):Option (Option (bG×ay)):=
 if 5000<=w.steps then some none
 else if e∈enabled w then
  (yu w e l).map fun x=>some ({ x.1 with steps:=w.steps+1 },⟨e,x.2.asks,decide (w.aJ.length<x.1.aJ.length),x.2.sent.map Env.msg⟩)
 else some none
def BW (s:ay):List aL:=s.asks.map fun a=>⟨⟨a.node,a.handler,a.count,a.kind,a.index⟩,a.n⟩
def zY (l:List Ask):Option (List aL):=
 match(l.reverse.dropWhile fun a=>decide (a.n+1=a.arity)) with
 |[]=>none
 |a::r=>some ((r.reverse.map fun a=>⟨⟨a.node,a.handler,a.count,a.kind,a.index⟩,a.n⟩)++[⟨⟨a.node,a.handler,a.count,a.kind,a.index⟩,a.n+1⟩])
def Gt (w:bG)(e:Ev):Nat->List ay->ay->Option (List ay)
 |0,_,_=>none
 |f+1,out,s=>match zY s.asks with
  |none=>some (out++[s])
  |some l=>match mK w e l with
   |some (some (_,t))=>Gt w e f (out++[s]) t
   |_=>none
def Gu (fuel:Nat)(w:bG)(e:Ev):Option (List ay):=
 match mK w e [] with
 |none=>none
 |some none=>some []
 |some (some (_,s))=>Gt w e fuel [] s
def around (n:Int)(most:Nat):Nat:=(if n<0 then -(n+1) else n).toNat%most
def zZ (fuel:Nat):List Int->bG->List ay->Option (List ay×bG)
 |[],w,run=>some (run,w)
 |x::l,w,run=>
  let n:=around x 1000000
  match(enabled w)[n%(enabled w).length]? with
  |none=>some (run,w)
  |some e=>match Gu fuel w e with
   |none=>none
   |some cs=>match cs[n/50%cs.length]? with
    |none=>none
    |some s=>match mK w s.ev (BW s) with
     |some (some (w,_))=>zZ fuel l w (run++[s])
     |_=>none
def walk (fuel:Nat)(c:eQ)(l:List Int):Option (List ay×bG):=zZ fuel (l.take 30) (ny c) []
def pick (l:List Int)(i:Nat)(most:Nat):Nat:=match l[i]? with
 |none=>0
 |some x=>around x most
def config (l:List Int):Option eQ:=
 let k:=fun i=>pick l i 1000000
 match build (sources.getD (k 0%12) []) with
 |none=>none
 |some p=>
  match(if k 1%3=0 then(build (sources.getD (k 1/3%12) [])).map fun q=>[p,q] else some [p]) with
  |none=>none
  |some ps=>
   let nodes:=1+(k 2+1)%3
   some ⟨ps,(List.range nodes).map (fun(n:Nat)=>((k 2/3/(n+1)%ps.length:Nat):Int)),if k 3%3=0 then [((k 3/3%ps.length:Nat):Int),0] else [],
    (List.range (k 5%7)).map (fun(i:Nat)=>⟨((k (6+i)%nodes:Nat):Int),[0,1,2,3,4,0,1,3].getD (k (6+i)/3%8) 0,((1+k (6+i)/24%5/4:Nat):Int),((1+i:Nat):Int)⟩),
    ((k 4%3/2:Nat):Int),((k 4/3%4/3:Nat):Int),((k 4/12%4/3:Nat):Int),((k 4/48%5/4:Nat):Int)⟩
end aD
section
open Go.RowKit
variable {Q:Exit->Act->World->Prop} {a:Act} {c c' j k m:Nat} {o:Oper} {ops:Array Oper} {rest:List Oper} {w:World} {xs:List Value}
def ac (a:aL):List Value:=iv a.ints
def ec (e:Ev):List Value:=iv e.ints
theorem WH:(Tryz.prog.info? 161).map (fun i=>(i.zero,i.size,i.bytes))=some (some (.agg #[.int .i64 0,.int .i64 0,.int .i64 0,.int .i64 0,.int .i64 0,.int .i64 0]),6,48):=ah
theorem adZ:(Tryz.prog.info? 41).map (fun i=>(i.zero,i.size,i.bytes))=some (some (.agg #[.int .i64 0,.int .i64 0,.int .i64 0,.int .i64 0,.int .i64 0,.int .i64 0,.int .i64 0,.int .i64 0]),8,64):=ah
theorem api(l:List Int):∀u∈iv l,u.oneCell'=true:=by
 intro u hu;simp[iv] at hu;obtain⟨x,_,rfl⟩:=hu;rfl
theorem apj{α:Type}{f:α->List Value}(hf:∀x,∀u∈f x,u.oneCell'=true)(l:List α):∀u∈l.flatMap f,u.oneCell'=true:=by
 intro u hu;obtain⟨x,_,hx⟩:=BH.1 hu;exact hf x u hx
theorem apk(l:List Ev):∀u∈l.flatMap ec,u.oneCell'=true:=apj (fun _=>api _) l
theorem aea{n:Nat}(h:Flat w k (.slice none m c) n xs):xs=[]:=by
 cases xs with
 |nil=>rfl
 |cons x xs=>
  obtain⟨b,o,e,_⟩:=h.cells ai;cases e
theorem apl(w:World)(base:Nat)(t ty e:TypeId)(i:TypeInfo)(size:Nat)(ht:Tryz.prog.underlying t=some (.slice e))(hi:Tryz.prog.info? e=some i)
  (v:Value) (n c:Nat) (xs:List Value) (aS:w.ownsRow base e size v n xs):
  (Builtin.append_ #[t,t] ty #[v,.slice none 0 c]).run Tryz.prog w=.ok v w:=by
 rcases aS.2 with⟨rfl,rfl⟩|⟨g,cap,cur,rfl,_,_,nW,_⟩
 ·simp[Builtin.append_,lu ht,sizeOf,typeInfo,hi,Builtin.lenOf,Builtin.firstCells]
 ·simp[Builtin.append_,lu ht,sizeOf,typeInfo,hi,Builtin.lenOf,Builtin.firstCells,nW,storeCells]
theorem apm{P:Program}(dp:o.guard=none)(s x:Operand)(t:TypeId)
  (ho:o.op=.call { callee:=.builtin .append,args:=#[s,x],argTypes:=#[t,t] })
  (e:TypeId) (z:Value) (k bytes:Nat) (ht:P.underlying t=some (.slice e)) (lX:(P.info? e).map (fun i=>(i.zero,i.size,i.bytes))=some (some z,k,bytes)) (nS:z.cells.size=k) (hk:0<k) (ks:bytes<=1000)
  (B:Nat) (v:Value) (n:Nat) (xs:List Value) (hs:a.eval s=v) (aS:w.ownsRow B e k v n xs)
  (ad:Addr) (m c:Nat) (news:List Value) (hx:a.eval x=.slice (some ad) m c) (cM:Flat w k (.slice (some ad) m c) m news) (h1:∀u∈news,u.oneCell'=true)
  (jl:n+m<=100000000) (lz:B<=w.heap.size)
  (h:∀u w',w'.ownsRow B e k u (n+m) (xs++news)->w.grownBy w' v.ownBlock->Below B w w'->wpList P ops Q rest (a.put o.dst u) w'):wpList P ops Q (o::rest) a w:=by
 obtain⟨i0,hi,eZ,cL,fj⟩:=wL lX
 refine wpList_append_own_at w dp s x t ho B e i0 z k bytes ht hi eZ cL fj nS hk v n xs hs aS ad m c news hx cM.1 (fun j u hu=> ?_) h1 (by unfold maxLen;omega)
  (bj (nR jl ks) ab) lz ?_
 ·obtain⟨b,of,e1,Gn⟩:=cM.cells (by have:=(bK.1 hu).1;omega);simp at e1;subst e1
  have lv:(⟨b,of,none⟩:Addr).add j=⟨b,of+j,none⟩:=by unfold Addr.add;split<;>simp_all
  rw[lv];exact Gn j u hu
 ·intro u w' h2 h3 _ _;exact h u w' h2 h3 ((Below.refl B w).grown h3 lz (fun k' tA=>(aS.lt k' tA).1))
theorem aeb(dp:o.guard=none)(s x:Operand)(t:TypeId)
  (ho:o.op=.call { callee:=.builtin .append,args:=#[s,x],argTypes:=#[t,t] })
  (e:TypeId) (z:Value) (k bytes:Nat) (ht:Tryz.prog.underlying t=some (.slice e)) (lX:(Tryz.prog.info? e).map (fun i=>(i.zero,i.size,i.bytes))=some (some z,k,bytes)) (nS:z.cells.size=k) (hk:0<k) (ks:bytes<=1000)
  (B:Nat) (v:Value) (n:Nat) (xs:List Value) (hs:a.eval s=v) (aS:w.ownsRow B e k v n xs)
  (y:Value) (hx:a.eval x=y) (m:Nat) (news:List Value) (cM:Flat w k y m news) (h1:∀u∈news,u.oneCell'=true)
  (jl:n+m<=100000000) (lz:B<=w.heap.size)
  (h:∀u w',w'.ownsRow B e k u (n+m) (xs++news)->w.grownBy w' v.ownBlock->Below B w w'->wpList Tryz.prog ops Q rest (a.put o.dst u) w'):wpList Tryz.prog ops Q (o::rest) a w:=by
 obtain⟨ka,ca,rfl,_⟩:=cM.open
 cases ka with
 |some ad=>exact apm dp s x t ho e z k bytes ht lX nS hk ks B v n xs hs aS ad m ca news hx cM h1 jl lz h
 |none=>
  have e':=aea cM
  have e0:m=0:=by
   have:=cM.1;rw[e'] at this
   rcases Nat.mul_eq_zero.1 this.symm with h|h
   ·exact h
   ·omega
  subst e0 e';obtain⟨i0,hi,_⟩:=wL lX
  refine wpList_plain dp fun K hK=> ?_
  have hrun:=apl w B t o.type e i0 k ht hi v n ca xs aS;unfold Oper.wp;simp[execOp,ho,resolve,invoke,builtin,hs,hx,hrun,Result.andThen];exact hK _ _ (h v w (by simpa using aS) (World.grownBy.refl _ _) (Below.refl _ _))
theorem Flat.take{a:Option Addr}{n:Nat}(h:Flat w k (.slice a m c) n xs)(hj:j<=n):Flat w k (.slice a j c') j (xs.take (j*k)):=by
 obtain⟨hl,hm,a',c2,hv,hr⟩:=h;simp at hv;obtain⟨rfl,rfl,rfl⟩:=hv;refine⟨?_,ab,_,_,rfl,fun i u hu=>hr i u ?_⟩
 ·rw[dN,hl];have:=uG k hj;omega
 ·rw[wI] at hu;split at hu
  ·exact hu
  ·cases hu
theorem Flat.drop{b o n:Nat}(h:Flat w k (.slice (some ⟨b,o,none⟩) m c) n xs)(hj:j<=n):Flat w k (.slice (some ⟨b,o+j*k,none⟩) (n-j) c') (n-j) (xs.drop (j*k)):=by
 obtain⟨hl,hm,a',c2,hv,hr⟩:=h;simp at hv;obtain⟨rfl,rfl,rfl⟩:=hv
 refine Flat.wN ?_ ab fun i u hu=> ?_
 ·rw[lU,hl,Nat.sub_mul]
 ·rw[oA] at hu;obtain⟨b',o',e,hc⟩:=hr _ u hu;simp at e;obtain⟨rfl,rfl⟩:=e;rw[Nat.add_assoc];exact hc
end
section
open Go.RowKit
open aD (tD zS BR uM bu)
theorem aec {y x:Int}(hy: -2147483647<=y/\y<=2147483647)(hx: -2147483647<=x/\x<=2147483647): -9223372036854775808<=y*x/\y*x<=9223372036854775807:=by
 have h:(y*x).natAbs<=2147483647*2147483647:=by
  rw[Int.natAbs_mul];exact nR ab ab
 omega
theorem aed {y x:Int}(hy: -2147483647<=y/\y<=2147483647): -9223372036854775808<=y.tdiv x/\y.tdiv x<=9223372036854775807:=by
 have h:(y.tdiv x).natAbs<=2147483647:=by
  rw[Int.natAbs_tdiv];exact bj (Nat.div_le_self _ _) ab
 omega
end
section
open Go.RowKit
open aD (fW nu nV)
def vc (a:fW):List Value:=iv [a.kind,a.a,a.b,a.c,a.d]
theorem apn (a:fW):(vc a).length=5:=rfl
def aee (w:World)(v:Value)(l:List fW):Prop:=Flat w 5 v l.length (l.flatMap vc)
theorem aee.at {w:World}{a:Option Addr}{n c:Nat}{l:List fW}(h:aee w (.slice a n c) l){i:Nat}{x:fW}(hi:l[i]? =some x):
  ∃b o,a=some ⟨b,o,none⟩/\w.cell? ⟨b,o+i*5,none⟩=some (I x.kind)/\w.cell? ⟨b,o+i*5+1,none⟩=some (I x.a)/\w.cell? ⟨b,o+i*5+2,none⟩=some (I x.b)/\
   w.cell? ⟨b,o+i*5+3,none⟩=some (I x.c)/\w.cell? ⟨b,o+i*5+4,none⟩=some (I x.d):=by
 obtain⟨b,o,ha,hc⟩:=BN apn ab h hi;exact⟨b,o,ha,hc 0 _ rfl,hc 1 _ rfl,hc 2 _ rfl,hc 3 _ rfl,hc 4 _ rfl⟩
theorem Nu {α:Type}{p:α->Bool}:∀{l:List α} {k:Nat} (_:k<=l.length),(∀j (h:j<l.length),j<k->p l[j]=true)->(∀(h:k<l.length),p l[k]=false)->l.takeWhile p=l.take k/\l.dropWhile p=l.drop k
 |[],k,hk,_,_=>by simp at hk;subst hk;simp
 |x::l,0,_,_,h=>by
  have:=h ai;simp at this;simp[this]
 |x::l,k+1,hk,h1,h2=>by
  have h0:=h1 0 ai ab;simp at h0;have ih:=Nu (p:=p) (l:=l) (k:=k) (by simpa using hk) (fun j h hj=>by have:=h1 (j+1) (by simpa using h) ab;simpa using this) (fun h=>by have:=h2 (by simpa using h);simpa using this);simp[h0,ih.1,ih.2]
end
section
open Go.RowKit
open aD (ky wR)
def wc (p:Int×Int):List Value:=iv [p.1,p.2]
theorem apo (p:Int×Int):(wc p).length=2:=rfl
def aef (w:World)(v:Value)(l:List (Int×Int)):Prop:=Flat w 2 v l.length (l.flatMap wc)
theorem aef.at {w:World}{a:Option Addr}{n c:Nat}{l:List (Int×Int)}(h:aef w (.slice a n c) l){i:Nat}{x:Int×Int}(hi:l[i]? =some x):
  ∃b o,a=some ⟨b,o,none⟩/\w.cell? ⟨b,o+i*2,none⟩=some (I x.1)/\w.cell? ⟨b,o+i*2+1,none⟩=some (I x.2):=by
 obtain⟨b,o,ha,hc⟩:=BN apo ab h hi;exact⟨b,o,ha,hc 0 _ rfl,hc 1 _ rfl⟩
end
section
open Go.RowKit
theorem apq {W:World}{g o n:Nat}{cs:Array Value}(h:az W g cs)(ho:o+n<=cs.size):W.there g o n:=fun j hj=>⟨by rw[h.cell];simp;omega,h.frozen _⟩
def DX (cs:Array Value)(o:Nat):List Value->Array Value
 |[]=>cs
 |v::l=>DX (cs.setIfInBounds o v) (o+1) l
theorem aeg {g:Nat}:∀(l:List Value) {W:World} {cs:Array Value} (o:Nat),az W g cs->az (W.setCells g o l) g (DX cs o l)/\W.grownBy (W.setCells g o l) (some g)/\(W.setCells g o l).heap.size=W.heap.size
 |[],W,cs,o,h=>⟨h,⟨rfl,rfl,rfl,cK _,fun _ _ _=>rfl⟩,rfl⟩
 |v::l,W,cs,o,h=>by
  obtain⟨h1,h2,h3⟩:=aeg l (o+1) (h.set o v);refine⟨h1,?_,by rw[World.setCells,h3];simp⟩
  have hg:W.grownBy (W.setCell ⟨g,o,none⟩ v) (some g):=⟨rfl,rfl,rfl,ai,fun k _ hne=>uI W _ _ _ (fun e=>hne (by rw[e]))⟩
  exact hg.trans h2
theorem apr (l:List Value):∀(cs:Array Value) (o:Nat),o+l.length<=cs.size->∀j,(DX cs o l)[j]? =if o<=j/\j<o+l.length then l[j-o]? else cs[j]? :=by
 induction l with
 |nil=>intro cs o _ j;rw[af (by simp only[List.length_nil];omega)];rfl
 |cons v l ih=>
  intro cs o ho j;simp only[List.length_cons] at ho⊢;rw[DX,ih _ _ bq];by_cases h1:o+1<=j/\j<o+1+l.length
  ·rw[aq h1,aq ab,show j-o=(j-(o+1))+1 by omega,FW]
  ·rw[af h1];by_cases h2:j=o
   ·subst h2;rw[aq ab,Nat.sub_self,wG,oz ab]
   ·rw[af ab,nf ab]
theorem aeh (w:World)(o:Obj)(row:Option Nat):w.grownBy (w.alloc o) row:=⟨rfl,rfl,rfl,ai,fun k hk _=>Ke w o k hk⟩
section
variable {P:Program} {ops:Array Oper} {Q:Exit->Act->World->Prop}
end
theorem below_grown {B:Nat}{a w w':World}{g:Nat}(h:Below B a w)(hg:w.grownBy w' (some g))(hB:B<=w.heap.size)(hr:B<=g):Below B a w':=h.grown hg hB (fun k e=>by cases e;exact hr)
theorem Flat.off {w w':World}{k:Nat}{v:Value}{n:Nat}{xs:List Value}{g:Nat}(h:Flat w k v n xs)(hg:w.grownBy w' (some g))(hv:v.ownBlock≠some g):Flat w' k v n xs:=by
 obtain⟨hl,hm,a,c,rfl,hr⟩:=h;refine⟨hl,hm,a,c,rfl,fun j u hu=> ?_⟩;obtain⟨b,o,rfl,hc⟩:=hr j u hu;refine⟨b,o,rfl,?_⟩;have h2:=iT _ _ hc;rw[FY (hg.block b h2 (fun e=>hv (by simpa [Value.ownBlock] using e)))];exact hc
end
end Go.Proofs.YtkanpepkdcmpmaaGreatDoor
