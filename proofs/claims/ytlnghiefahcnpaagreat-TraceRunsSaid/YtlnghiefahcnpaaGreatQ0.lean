import Derived.Test.YtlnghiefahcnpaaGreatQA
import Derived.WalkSpells
import Derived.Deep.QuietTactic
import Derived.Deep.AppendLies
import Derived.Test.YtlnghiefahcnpaaGreatProg
import Derived.WalkLawsBesides
import Derived.BigQuiet
import Derived.StillTailTactics
import Derived.OrdersHeld
import Derived.StillTail
import Derived.Deep.RegionHeld3
import Derived.OrdersIn
import Derived.TacticsIn
import Derived.Maps.OwnSet
import Derived.Maps.RangeWalk
import Derived.DeepKeys4
import Derived.Deep.MidRow
set_option maxHeartbeats 40000000
set_option maxRecDepth 100000
set_option linter.all false
namespace Go.Proofs.YtlnghiefahcnpaaGreat
namespace dL
abbrev eH:=List UInt8
structure ym where
 kind:Nat
 pos:Nat
 text:eH
 val:Nat
deriving DecidableEq,Repr
instance:Inhabited ym:=⟨⟨0,0,[],0⟩⟩
def letter (c:UInt8):Bool:=decide (97<=c) && decide (c<=122)
def digit (c:UInt8):Bool:=decide (48<=c) && decide (c<=57)
def skip:Bool->eH->Nat
 |_,[]=>0
 |true,c::r=>if c=10 then skip false r+1 else skip true r+1
 |false,c::r=>if c=35 then skip true r+1 else if c=32\/c=9\/c=10 then skip false r+1 else 0
def Xv:eH->Nat->Option Nat
 |[],n=>some n
 |c::r,n=>if 10*n+c.toNat-48>2147483647 then none else Xv r (10*n+c.toNat-48)
def alj:List eH:=[[124,124],[38,38],[60,61],[62,61],[61,61],[33,61]]
def alk:List eH:=[[123],[125],[91],[93],[40],[41],[61],[59],[44],[60],[62],[43],[45],[42],[47],[33]]
def alm (pos:Nat):eH->Option ym
 |[]=>none
 |c::r=>
  if letter c then
   if(c::r.takeWhile (fun x=>letter x||digit x)).length>10 then none else some ⟨1,pos,c::r.takeWhile (fun x=>letter x||digit x),0⟩
  else if digit c then(Xv (c::r.takeWhile digit) 0).map (fun n=>⟨2,pos,c::r.takeWhile digit,n⟩)
  else if(c::r).take 2∈alj then some ⟨3,pos,(c::r).take 2,0⟩
  else if [c]∈alk then some ⟨3,pos,[c],0⟩
  else none
def Xw:Nat->eH->Nat->List ym->Option (List ym)
 |0,_,_,_=>none
 |_+1,[],pos,acc=>some (acc++[⟨0,pos,[],0⟩])
 |f+1,c::r,pos,acc=>
  match alm pos (c::r) with
  |none=>none
  |some t=>
   let r1:=(c::r).drop t.text.length
   Xw f (r1.drop (skip false r1)) (pos+t.text.length+skip false r1) (acc++[t])
def tokens (s:eH):Option (List ym):=Xw 3002 (s.drop (skip false s)) (skip false s) []
inductive Nd where
 |mk (kind:Nat) (n:Nat) (s:eH) (kids:List Nd)
deriving Repr
def Nd.kind:Nd->Nat| .mk k _ _ _=>k
def Nd.n:Nd->Nat| .mk _ n _ _=>n
def Nd.s:Nd->eH| .mk _ _ s _=>s
def Nd.kids:Nd->List Nd| .mk _ _ _ l=>l
instance:Inhabited Nd:=⟨.mk 0 0 [] []⟩
def Mu:List eH:=[[115,101,108,102],[110,111,100,101,115],[110,111,119],[102,114,111,109],[97],[98],[105,100],[111,112],[107,101,121]]
def aln:List eH:=[[100,117,114,97,98,108,101],[118,111,108,97,116,105,108,101],[111,110],[115,116,97,114,116],[114,101,113,117,101,115,116],[116,105,109,101,114],[109,101,115,115,97,103,101],[105,102],[101,108,115,101],[119,104,105,108,101],[115,101,110,100],[99,97,110,99,101,108],[115,121,110,99],[114,101,112,108,121],[102,97,105,108],[115,116,111,112],[116,114,117,101],[102,97,108,115,101],[100,114,97,119]]
def alo (s:eH):Bool:=decide (s∈Mu)||decide (s∈aln)
section
variable (T:List ym)
def tk (i:Nat):ym:=T.getD i default
def tx (i:Nat):eH:=(tk T i).text
def isName (i:Nat):Bool:=decide ((tk T i).kind=1) && !alo (tx T i)
def eI (i:Nat):Nat:=if i+1<T.length then i+1 else i
def expect (s:eH)(i:Nat):Option Nat:=if tx T i=s then some (eI T i) else none
def Mw (s:eH)(level i:Nat):Option Nat:=if tx T i=s/\level<=20 then some (eI T i) else none
def number (most i:Nat):Option (Nat×Nat):=if(tk T i).kind=2/\(tk T i).val<=most then some ((tk T i).val,eI T i) else none
def opsOf:Nat->List eH
 |1=>[[124,124]]
 |2=>[[38,38]]
 |4=>[[60],[60,61],[62],[62,61],[61,61],[33,61]]
 |5=>[[43],[45]]
 |6=>[[42],[47]]
 |_=>[]
mutual
def expr:Nat->Nat->Nat->Nat->Option (Nd×Nat)
 |0,_,_,_=>none
 |f+1,level,prec,i=>
  if prec=3/\tx T i=[33] then unary f [33] level 3 i
  else if prec=3 then binary f level 4 i
  else if prec=7/\tx T i=[45] then unary f [45] level 7 i
  else if prec=7 then alp f level i
  else binary f level prec i
def unary:Nat->eH->Nat->Nat->Nat->Option (Nd×Nat)
 |0,_,_,_,_=>none
 |f+1,s,level,prec,i=>do
  let i<-Mw T s (level+1) i
  let(ED,i)<-expr f (level+1) prec i
  some (.mk 17 0 s [ED],i)
def binary:Nat->Nat->Nat->Nat->Option (Nd×Nat)
 |0,_,_,_=>none
 |f+1,level,prec,i=>do
  let(left,i)<-expr f level (prec+1) i
  more f level prec left i
def more:Nat->Nat->Nat->Nd->Nat->Option (Nd×Nat)
 |0,_,_,_,_=>none
 |f+1,level,prec,left,i=>
  if tx T i∈opsOf prec then do
   let(right,j)<-expr f level (prec+1) (eI T i)
   if prec=4 then some (.mk 18 0 (tx T i) [left,right],j) else more f level prec (.mk 18 0 (tx T i) [left,right]) j
  else some (left,i)
def nested:Nat->Nat->Nat->Option (Nd×Nat)
 |0,_,_=>none
 |f+1,level,i=>do
  let i<-Mw T [40] (level+1) i
  let(ED,i)<-expr f (level+1) 1 i
  let i<-expect T [41] i
  some (ED,i)
def alp:Nat->Nat->Nat->Option (Nd×Nat)
 |0,_,_=>none
 |f+1,level,i=>
  if tx T i=[40] then nested f level i
  else if tx T i=[100,114,97,119] then do
   let(ED,j)<-nested f level (eI T i)
   some (.mk 16 0 [] [ED],j)
  else if(tk T i).kind=2 then some (.mk 12 (tk T i).val [] [],eI T i)
  else if tx T i=[116,114,117,101] then some (.mk 13 1 [] [],eI T i)
  else if tx T i=[102,97,108,115,101] then some (.mk 13 0 [] [],eI T i)
  else if tx T i∈Mu then some (.mk 15 0 (tx T i) [],eI T i)
  else if isName T i then some (.mk 14 0 (tx T i) [],eI T i)
  else none
end
mutual
def statement:Nat->Nat->Nat->Option (Nd×Nat)
 |0,_,_=>none
 |f+1,level,i=>
  if isName T i then do
   let j<-expect T [61] (eI T i)
   let(e,j)<-expr T f level 1 j
   let j<-expect T [59] j
   some (.mk 1 0 (tx T i) [e],j)
  else if tx T i=[105,102] then do
   let(c,j)<-expr T f level 1 (eI T i)
   let(a,j)<-block f (level+1) j
   if tx T j=[101,108,115,101] then
    let(b,j)<-block f (level+1) (eI T j)
    some (.mk 2 0 [] [c,a,b],j)
   else some (.mk 2 0 [] [c,a,.mk 11 0 [] []],j)
  else if tx T i=[119,104,105,108,101] then do
   let(c,j)<-expr T f level 1 (eI T i)
   let(a,j)<-block f (level+1) j
   some (.mk 3 0 [] [c,a],j)
  else if tx T i=[115,101,110,100] then do
   let(eO,j)<-expr T f level 1 (eI T i)
   let j<-expect T [44] j
   let(k,j)<-number T 29 j
   let j<-expect T [44] j
   let(a,j)<-expr T f level 1 j
   let j<-expect T [44] j
   let(b,j)<-expr T f level 1 j
   let j<-expect T [59] j
   some (.mk 4 k [] [eO,a,b],j)
  else if tx T i=[116,105,109,101,114] then do
   let(k,j)<-number T 7 (eI T i)
   let j<-expect T [59] j
   some (.mk 5 k [] [],j)
  else if tx T i=[99,97,110,99,101,108] then do
   let(k,j)<-number T 7 (eI T i)
   let j<-expect T [59] j
   some (.mk 6 k [] [],j)
  else if tx T i=[115,121,110,99] then do
   let j<-expect T [59] (eI T i)
   some (.mk 7 0 [] [],j)
  else if tx T i=[114,101,112,108,121] then do
   let(a,j)<-expr T f level 1 (eI T i)
   let j<-expect T [44] j
   let(b,j)<-expr T f level 1 j
   let j<-expect T [59] j
   some (.mk 8 0 [] [a,b],j)
  else if tx T i=[102,97,105,108] then do
   let(a,j)<-expr T f level 1 (eI T i)
   let j<-expect T [59] j
   some (.mk 9 0 [] [a],j)
  else if tx T i=[115,116,111,112] then do
   let j<-expect T [59] (eI T i)
   some (.mk 10 0 [] [],j)
  else none
def block:Nat->Nat->Nat->Option (Nd×Nat)
 |0,_,_=>none
 |f+1,level,i=>do
  let i<-Mw T [123] level i
  stmts f level [] i
def stmts:Nat->Nat->List Nd->Nat->Option (Nd×Nat)
 |0,_,_,_=>none
 |f+1,level,acc,i=>
  if tx T i=[125] then some (.mk 11 0 [] acc,eI T i)
  else do
   let(s,j)<-statement f level i
   stmts f level (acc++[s]) j
end
def decl:Nat->List eH->List eH->Nat->Option (List eH×List eH×Nat)
 |0,_,_,_=>none
 |f+1,ns,out,i=>
  if isName T i/\tx T i∉ns/\ns.length<16 then
   if tx T (eI T i)=[44] then decl f (ns++[tx T i]) (out++[tx T i]) (eI T (eI T i))
   else do
    let j<-expect T [59] (eI T i)
    some (ns++[tx T i],out++[tx T i],j)
  else none
structure qQ where
 cC:List eH
 gG:List eH
 on:List (Nat×Nd)
deriving Repr
def decls:Nat->List eH->qQ->Nat->Option (qQ×Nat)
 |0,_,_,_=>none
 |f+1,ns,u,i=>
  if tx T i=[100,117,114,97,98,108,101] then do
   let(ns,l,j)<-decl T f ns [] (eI T i)
   decls f ns { u with cC:=u.cC++l } j
  else if tx T i=[118,111,108,97,116,105,108,101] then do
   let(ns,l,j)<-decl T f ns [] (eI T i)
   decls f ns { u with gG:=u.gG++l } j
  else some (u,i)
def alq (l:List (Nat×Nd))(i:Nat):Option (Nat×Nat):=do
 let(n,j)<-
  if tx T i=[115,116,97,114,116] then some (0,eI T i)
  else if tx T i=[114,101,113,117,101,115,116] then some (1,eI T i)
  else if tx T i=[116,105,109,101,114] then(number T 7 (eI T i)).map (fun x=>(2+x.1,x.2))
  else if tx T i=[109,101,115,115,97,103,101] then(number T 29 (eI T i)).map (fun x=>(10+x.1,x.2))
  else none
 if n∈l.map Prod.fst then none else some (n,j)
def Xx (h:Nat×Nd):List (Nat×Nd)->List (Nat×Nd)
 |[]=>[h]
 |x::l=>if x.1<h.1 then x::Xx h l else h::x::l
def handlers:Nat->qQ->Nat->Option qQ
 |0,_,_=>none
 |f+1,u,i=>
  if(tk T i).kind=0 then some u
  else do
   let j<-expect T [111,110] i
   let(n,j)<-alq T u.on j
   let(b,j)<-block T f 1 j
   handlers f { u with on:=Xx (n,b) u.on } j
end
def parse (s:eH):Option qQ:=
 if s.length>3000 then none
 else do
  let T<-tokens s
  let(u,i)<-decls T 1000 [] ⟨[],[],[]⟩ 0
  handlers T 1000 u i
def alr:List eH:=[[60],[60,61],[62],[62,61],[61,61],[33,61]]
def typeOf:Nat->Nd->Option Nat
 |0,_=>none
 |f+1,.mk k _ s kids=>
  if k=12\/k=14\/k=15 then some 1
  else if k=13 then some 2
  else if k≠16/\k≠17/\k≠18 then some 0
  else
   let lg:=decide (k=17/\s=[33])||decide (k=18/\s∈[[38,38],[124,124]])
   let operand:=if lg then 2 else 1
   let result:=if k=18/\s∈alr then 2 else operand
   if kids.all (fun x=>typeOf f x==some operand) then some result else none
def Mx:Nat->Nd->Bool
 |0,_=>false
 |f+1,.mk k _ _ kids=>
  if k=11 then kids.all (Mx f)
  else if k=2\/k=3 then kids.tail.all (Mx f) && (kids.head?.bind (typeOf f)==some 2)
  else kids.all (fun x=>typeOf f x==some 1)
def indexOf (u:qQ)(s:eH):Option Nat:=(u.cC++u.gG).findIdx? (fun x=>decide (x=s))
def Xy (u:qQ):Nat->Nd->Bool
 |0,_=>false
 |f+1,.mk k _ s kids=>(if k=1\/k=14 then(indexOf u s).isSome else true) && kids.all (Xy u f)
def als (u:qQ):Bool:=u.on.all (fun h=>Mx 60 h.2 && Xy u 60 h.2)
abbrev sk:=Nat×Nat
structure Prog where
 code:List (Int×Int)
 entry:List Int
 cC:Int
 gG:Int
deriving DecidableEq,Repr
def alu (s:eH):List sk:=
 if s=[43] then [(6,0)] else if s=[45] then [(7,0)] else if s=[42] then [(8,0)] else if s=[47] then [(9,0)]
 else if s=[60] then [(11,0)] else if s=[60,61] then [(12,0)] else if s=[61,61] then [(13,0)]
 else if s=[62] then [(12,0),(14,0)] else if s=[62,61] then [(11,0),(14,0)] else [(13,0),(14,0)]
def idx (u:qQ)(s:eH):Nat:=(indexOf u s).getD 0
def alt (c:Nd->Nat->Option (List sk))(l:List Nd)(n at_:Nat):Option (List sk):=
 match l with
 |[]=>some [(1,n)]
 |x::_=>c x at_
def branch (c:Nd->Nat->Option (List sk))(cond:Nd)(yes no:List Nd)(n at_:Nat):Option (List sk):=do
 let out<-c cond at_
 let a<-alt c yes n (at_+out.length+1)
 let b<-alt c no n (at_+out.length+1+a.length+1)
 let f:=at_+out.length+1+a.length+1
 some (out++[(16,f)]++a++[(15,f+b.length)]++b)
def Xz (c:Nd->Nat->Option (List sk)):List Nd->List sk->Nat->Option (List sk)
 |[],out,_=>some out
 |x::l,out,at_=>do
  let y<-c x (at_+out.length)
  Xz c l (out++y) at_
def code (u:qQ):Nat->Nd->Nat->Option (List sk)
 |0,_,_=>none
 |f+1,.mk k n s kids,at_=>
  let c:=code u f
  let k0:=kids.getD 0 default
  let k1:=kids.getD 1 default
  if k=12\/k=13 then some [(1,n)]
  else if k=14 then some [(2,idx u s)]
  else if k=15 then some [(4,(Mu.findIdx? (fun x=>decide (x=s))).getD 0)]
  else if k=2 then branch c k0 ((kids.drop 1).take 1) ((kids.drop 2).take 1) 0 at_
  else if k=5 then some [(18,n)]
  else if k=6 then some [(19,n)]
  else if k=7 then some [(20,0)]
  else if k=10 then some [(23,0)]
  else if k=3 then do
   let cond<-c k0 at_
   let body<-c k1 (at_+cond.length+1)
   some (cond++[(16,at_+cond.length+body.length+2)]++body++[(15,at_)])
  else if k=18/\s=[38,38] then branch c k0 ((kids.drop 1).take 1) [] 0 at_
  else if k=18/\s=[124,124] then branch c k0 [] ((kids.drop 1).take 1) 1 at_
  else do
   let out<-Xz c kids [] at_
   some (out++(if k=18 then alu s else if k=16 then [(5,0)] else if k=17 then(if s=[45] then [(10,0)] else [(14,0)])
    else if k=1 then [(3,idx u s)] else if k=4 then [(17,n)] else if k=8 then [(21,0)] else if k=9 then [(22,0)] else []))
def XA (u:qQ):List (Nat×Nd)->List sk->List Int->Option (List sk×List Int)
 |[],cd,en=>some (cd,en)
 |(h,b)::l,cd,en=>do
  let x<-code u 60 b cd.length
  XA u l (cd++x++[(23,0)]) (en.set (h%40) cd.length)
def compile (u:qQ):Option Prog:=do
 let(cd,en)<-XA u u.on [] (List.replicate 40 (-1))
 if cd.length>400 then none
 else some ⟨cd.map (fun x=>(Int.ofNat x.1,Int.ofNat x.2)),en,u.cC.length,u.gG.length⟩
def dE (op:Int):Int:=
 if op∈[1,2,4,15,18,19,20,23] then 0 else if op∈[5,10,14,3,16,22] then 1 else if op∈[6,7,8,9,11,12,13,21] then 2 else if op=17 then 3 else -1
def gU (op:Int):Int:=if op∈[1,2,4,5,10,14,6,7,8,9,11,12,13] then 1 else 0
def mi (p:Prog)(i:Nat):List Int:=
 let x:=p.code.getD i (0,0)
 if x.1=23 then [] else if x.1=15 then [x.2] else if x.1=16 then [(i:Int)+1,x.2] else [(i:Int)+1]
def Prog.opAt (p:Prog)(i:Nat):Int:=(p.code.getD i (0,0)).1
abbrev yn:=List Int×Bool×Bool
def alv (d:Int)(st:yn)(t:Int):yn:=
 if t<0\/(st.1.length:Int)<=t then st
 else if st.1.getD t.toNat 0<0 then(st.1.set t.toNat d,st.2.1,true)
 else if st.1.getD t.toNat 0≠d then(st.1,false,st.2.2) else st
def ow (p:Prog)(st:yn)(i:Nat):yn:=
 let o:=st.1.getD i 0
 if o<0 then st
 else
  let d0:=o-dE (p.opAt i)
  (mi p i).foldl (alv ((if d0<0 then 0 else d0)+gU (p.opAt i))) (if d0<0 then(st.1,false,st.2.2) else st)
def My (p:Prog)(st:yn):yn:=(List.range p.code.length).foldl (ow p) (st.1,st.2.1,false)
def XB (p:Prog):Nat->yn->yn
 |0,st=>st
 |f+1,st=>if(My p st).2.2 then XB p f (My p st) else My p st
def Mz (p:Prog)(entry:Int):List Int×Bool:=
 if entry<0\/(p.code.length:Int)<=entry then(List.replicate p.code.length (-1),true)
 else
  let s:=XB p (p.code.length+1) ((List.replicate p.code.length (-1)).set entry.toNat 0,true,true)
  (s.1,s.2.1)
def depth (p:Prog)(entry:Int):Int:=
 (List.range p.code.length).foldl (fun m i=>
  let d:=(Mz p entry).1.getD i 0
  if d>=0 then max m (max d (d-dE (p.opAt i)+gU (p.opAt i))) else m) 0
def MA (p:Prog)(x:Int×Int):Bool:=
 if x.1=1 then decide (-2147483647<=x.2) && decide (x.2<=2147483647)
 else
  let most:Int:=if x.1=2\/x.1=3 then p.cC+p.gG-1 else if x.1=4 then 8 else if x.1=17 then 29 else if x.1=18\/x.1=19 then 7 else if x.1=15\/x.1=16 then p.code.length-1 else 0
  decide (0<=dE x.1) && decide (0<=x.2) && decide (x.2<=most)
def XC (p:Prog)(e:Int):Int:=
 if e<0 then 0
 else if(Mz p e).1.getD (p.code.length-1) 0>=0/\(p.code.length:Int)∈mi p (p.code.length-1) then 12
 else if(Mz p e).2=false\/depth p e>16 then 13 else 0
def verify (p:Prog):Int:=
 if p.code.length>400 then 2
 else if p.cC<0\/p.gG<0\/p.cC>16\/p.gG>16-p.cC then 12
 else if p.code.any (fun x=> !MA p x) then 12
 else if p.entry.any (fun e=>decide (e< -1)||decide ((p.code.length:Int)<=e)) then 12
 else if p.entry.any (fun e=>XC p e=12) then 12
 else if p.entry.any (fun e=>XC p e=13) then 13 else 0
def build (s:eH):Option Prog:=do
 let u<-parse s
 if als u then
  let p<-compile u
  if p.entry.all (fun e=>decide (depth p e<=16)) then some p else none
 else none
def sources:List eH:=[
 [100,117,114,97,98,108,101,32,118,59,32,111,110,32,114,101,113,117,101,115,116,32,123,32,105,102,32,111,112,32,61,61,32,48,32,123,32,114,101,112,108,121,32,105,100,44,32,118,59,32,125,32,101,108,115,101,32,123,32,105,102,32,111,112,32,61,61,32,50,32,123,32,114,101,112,108,121,32,105,100,44,32,118,59,32,118,32,61,32,97,59,32,125,32,101,108,115,101,32,123,32,118,32,61,32,97,59,32,114,101,112,108,121,32,105,100,44,32,48,59,32,125,32,125,32,125],
 [100,117,114,97,98,108,101,32,118,59,32,111,110,32,114,101,113,117,101,115,116,32,123,32,105,102,32,111,112,32,61,61,32,48,32,123,32,114,101,112,108,121,32,105,100,44,32,118,59,32,125,32,101,108,115,101,32,123,32,105,102,32,111,112,32,61,61,32,50,32,123,32,114,101,112,108,121,32,105,100,44,32,118,59,32,118,32,61,32,97,59,32,115,121,110,99,59,32,125,32,101,108,115,101,32,123,32,118,32,61,32,97,59,32,115,121,110,99,59,32,114,101,112,108,121,32,105,100,44,32,48,59,32,125,32,125,32,125],
 [100,117,114,97,98,108,101,32,118,59,32,111,110,32,114,101,113,117,101,115,116,32,123,32,105,102,32,115,101,108,102,32,61,61,32,48,32,123,32,105,102,32,111,112,32,61,61,32,48,32,123,32,114,101,112,108,121,32,105,100,44,32,118,59,32,125,32,101,108,115,101,32,123,32,118,32,61,32,97,59,32,115,121,110,99,59,32,114,101,112,108,121,32,105,100,44,32,48,59,32,125,32,125,32,101,108,115,101,32,123,32,115,101,110,100,32,48,44,32,49,32,44,32,105,100,44,32,48,32,45,32,111,112,59,32,105,102,32,111,112,32,33,61,32,48,32,123,32,115,101,110,100,32,48,44,32,50,44,32,105,100,44,32,97,59,32,125,32,125,32,125,32,111,110,32,109,101,115,115,97,103,101,32,49,32,123,32,105,102,32,98,32,61,61,32,48,32,123,32,115,101,110,100,32,102,114,111,109,44,32,51,44,32,97,44,32,118,59,32,125,32,125,32,111,110,32,109,101,115,115,97,103,101,32,50,32,123,32,118,32,61,32,98,59,32,115,121,110,99,59,32,115,101,110,100,32,102,114,111,109,44,32,51,44,32,97,44,32,48,59,32,125,32,111,110,32,109,101,115,115,97,103,101,32,51,32,123,32,114,101,112,108,121,32,97,44,32,98,59,32,125],
 [118,111,108,97,116,105,108,101,32,118,59,32,111,110,32,114,101,113,117,101,115,116,32,123,32,105,102,32,111,112,32,61,61,32,48,32,123,32,114,101,112,108,121,32,105,100,44,32,118,59,32,125,32,101,108,115,101,32,123,32,118,32,61,32,97,59,32,114,101,112,108,121,32,105,100,44,32,48,59,32,115,101,110,100,32,49,32,45,32,115,101,108,102,44,32,52,44,32,97,44,32,48,59,32,125,32,125,32,111,110,32,109,101,115,115,97,103,101,32,52,32,123,32,118,32,61,32,97,59,32,125],
 [118,111,108,97,116,105,108,101,32,120,44,32,121,59,32,111,110,32,114,101,113,117,101,115,116,32,123,32,105,102,32,111,112,32,61,61,32,51,32,123,32,115,101,110,100,32,49,32,45,32,115,101,108,102,44,32,53,44,32,105,100,44,32,97,59,32,114,101,112,108,121,32,105,100,44,32,48,59,32,125,32,101,108,115,101,32,123,32,114,101,112,108,121,32,105,100,44,32,120,59,32,120,32,61,32,121,59,32,121,32,61,32,48,59,32,125,32,125,32,111,110,32,109,101,115,115,97,103,101,32,53,32,123,32,105,102,32,120,32,61,61,32,48,32,123,32,120,32,61,32,98,59,32,125,32,101,108,115,101,32,123,32,121,32,61,32,98,59,32,125,32,125],
 [118,111,108,97,116,105,108,101,32,116,59,32,111,110,32,115,116,97,114,116,32,123,32,105,102,32,115,101,108,102,32,61,61,32,48,32,123,32,116,32,61,32,49,59,32,115,101,110,100,32,110,111,100,101,115,32,45,32,49,44,32,54,44,32,49,44,32,48,59,32,125,32,125,32,111,110,32,109,101,115,115,97,103,101,32,54,32,123,32,116,32,61,32,97,32,43,32,49,59,32,105,102,32,116,32,60,32,52,32,123,32,115,101,110,100,32,102,114,111,109,44,32,54,44,32,116,44,32,48,59,32,125,32,101,108,115,101,32,123,32,102,97,105,108,32,116,59,32,125,32,125],
 [118,111,108,97,116,105,108,101,32,99,59,32,111,110,32,115,116,97,114,116,32,123,32,116,105,109,101,114,32,49,59,32,125,32,111,110,32,116,105,109,101,114,32,49,32,123,32,99,32,61,32,99,32,43,32,100,114,97,119,40,51,41,59,32,105,102,32,99,32,62,32,52,32,123,32,102,97,105,108,32,55,59,32,125,32,105,102,32,99,32,60,32,51,32,123,32,116,105,109,101,114,32,49,59,32,125,32,125],
 [118,111,108,97,116,105,108,101,32,108,97,115,116,59,32,111,110,32,114,101,113,117,101,115,116,32,123,32,115,101,110,100,32,49,32,45,32,115,101,108,102,44,32,55,44,32,49,44,32,48,59,32,115,101,110,100,32,49,32,45,32,115,101,108,102,44,32,55,44,32,50,44,32,48,59,32,114,101,112,108,121,32,105,100,44,32,48,59,32,125,32,111,110,32,109,101,115,115,97,103,101,32,55,32,123,32,105,102,32,97,32,60,32,108,97,115,116,32,123,32,102,97,105,108,32,51,59,32,125,32,108,97,115,116,32,61,32,97,59,32,125],
 [100,117,114,97,98,108,101,32,101,59,32,118,111,108,97,116,105,108,101,32,103,59,32,111,110,32,115,116,97,114,116,32,123,32,101,32,61,32,101,32,43,32,49,59,32,105,102,32,100,114,97,119,40,50,41,32,61,61,32,49,32,123,32,115,121,110,99,59,32,125,32,103,32,61,32,110,111,119,59,32,125,32,111,110,32,114,101,113,117,101,115,116,32,123,32,105,102,32,103,32,62,32,110,111,119,32,123,32,102,97,105,108,32,49,59,32,125,32,114,101,112,108,121,32,105,100,44,32,101,59,32,125],
 [118,111,108,97,116,105,108,101,32,105,44,32,115,59,32,111,110,32,114,101,113,117,101,115,116,32,123,32,105,32,61,32,48,59,32,115,32,61,32,48,59,32,119,104,105,108,101,32,105,32,60,32,51,32,123,32,115,32,61,32,115,32,43,32,105,32,42,32,97,59,32,105,32,61,32,105,32,43,32,49,59,32,125,32,114,101,112,108,121,32,105,100,44,32,115,59,32,125],
 [111,110,32,116,105,109,101,114,32,48,32,123,32,119,104,105,108,101,32,116,114,117,101,32,123,32,125,32,125,32,111,110,32,115,116,97,114,116,32,123,32,116,105,109,101,114,32,48,59,32,99,97,110,99,101,108,32,49,59,32,125],
 []]
end dL
section
open Go.RowKit
structure bm where
 node:Int
 handler:Int
 count:Int
 index:Int
 copy:Int
deriving DecidableEq
structure Ev where
 kind:Int
 node:Int
 arg:Int
 msg:bm
deriving DecidableEq
structure Ask where
 node:Int
 handler:Int
 count:Int
 kind:Int
 index:Int
 arity:Int
 n:Int
deriving DecidableEq
structure af where
 ev:Ev
 asks:List Ask
 ax:Bool
 sent:List bm
deriving DecidableEq
abbrev I (n:Int):Value:=.int .i64 n
def bm.ints (m:bm):List Int:=[m.node,m.handler,m.count,m.index,m.copy]
def Ev.ints (e:Ev):List Int:=[e.kind,e.node,e.arg,e.msg.node,e.msg.handler,e.msg.count,e.msg.index,e.msg.copy]
def Ask.ints (a:Ask):List Int:=[a.node,a.handler,a.count,a.kind,a.index,a.arity,a.n]
theorem Ask.rJ {a b:Ask}:a.ints=b.ints↔a=b:=by
 constructor
 ·intro h;cases a;cases b;simp[Ask.ints] at h;simp[h]
 ·intro h;rw[h]
theorem bm.rJ {a b:bm}:a.ints=b.ints↔a=b:=by
 constructor
 ·intro h;cases a;cases b;simp[bm.ints] at h;simp[h]
 ·intro h;rw[h]
theorem Ev.rJ {a b:Ev}:a.ints=b.ints↔a=b:=by
 constructor
 ·intro h;obtain⟨_,_,_,⟨_,_,_,_,_⟩⟩:=a;obtain⟨_,_,_,⟨_,_,_,_,_⟩⟩:=b;simp[Ev.ints] at h;simp[h]
 ·intro h;rw[h]
def iv (l:List Int):List Value:=l.map I
def bm.cells (m:bm):List Value:=iv m.ints
def Ask.cells (m:Ask):List Value:=iv m.ints
theorem HI {α β:Type}(f:α->List β)(k:Nat)(hk:∀x,(f x).length=k):∀(l:List α) (i j:Nat) (x:α),l[i]? =some x->j<k->(l.flatMap f)[i*k+j]? =(f x)[j]?
 |[],i,j,x,h,_=>by simp at h
 |y::l,0,j,x,h,hj=>by
  simp at h;subst h;simp only[zp,Nat.zero_mul,fK];rw[kj (by rw[hk];exact hj)]
 |y::l,i+1,j,x,h,hj=>by
  have h':l[i]? =some x:=by simpa using h
  have ih:=HI f k hk l i j x h' hj;simp only[zp]
  have e:(i+1)*k+j=k+(i*k+j):=by rw[tu];omega
  rw[cD (by rw[hk,e];omega),hk,e,Nat.add_sub_cancel_left];exact ih
theorem Bq {α β:Type}(f:α->List β)(k:Nat)(hk:∀x,(f x).length=k)(l:List α):(l.flatMap f).length=l.length*k:=by
 induction l with
 |nil=>simp
 |cons y l ih=>simp[zp,hk,tu,ih];omega
def Flat (w:World)(k:Nat)(v:Value)(n:Nat)(xs:List Value):Prop:=
 xs.length=n*k/\n<=9223372036854775807/\∃(a:Option Addr) (c:Nat),v=.slice a n c/\∀j u,xs[j]? =some u->∃b o,a=some ⟨b,o,none⟩/\w.cell? ⟨b,o+j,none⟩=some u
theorem Flat.kept {w w':World}{k:Nat}{v:Value}{n:Nat}{xs:List Value}(h:Flat w k v n xs){B:Nat}(hb:Below B w w')(hB:w.heap.size<=B):Flat w' k v n xs:=by
 obtain⟨hl,hm,a,c,hv,hr⟩:=h;refine⟨hl,hm,a,c,hv,fun j u hu=> ?_⟩;obtain⟨b,o,ha,hc⟩:=hr j u hu;refine⟨b,o,ha,?_⟩;have h2:=ic _ _ hc;rw[hb.cell (p:=⟨b,o+j,none⟩) (by simp at h2⊢;omega)];exact hc
theorem Flat.open {w:World}{k:Nat}{v:Value}{n:Nat}{xs:List Value}(h:Flat w k v n xs):∃a c,v=.slice a n c/\n<=9223372036854775807:=by
 obtain⟨_,hm,a,c,hv,_⟩:=h;exact⟨a,c,hv,hm⟩
theorem Flat.cells {w:World}{k:Nat}{a:Option Addr}{m c n:Nat}{xs:List Value}(h:Flat w k (.slice a m c) n xs)(Br:0<xs.length):
  ∃b o,a=some ⟨b,o,none⟩/\∀j u,xs[j]? =some u->w.cell? ⟨b,o+j,none⟩=some u:=by
 obtain⟨_,_,a',c',hv,hr⟩:=h;simp at hv;obtain⟨b,o,ha,_⟩:=hr 0 xs[0] (by simp[Br]);refine⟨b,o,hv.1.trans ha,fun j u hu=> ?_⟩;obtain⟨b',o',ha',hc⟩:=hr j u hu;rw[ha] at ha';simp at ha';rw[ha'.1,ha'.2];exact hc
theorem Flat.nil (w:World)(k:Nat)(a:Option Addr)(c:Nat):Flat w k (.slice a 0 c) 0 []:=⟨ae,aa,a,c,rfl,fun j u h=>by simp at h⟩
theorem Flat.Bs {w:World}{k n c b o:Nat}{xs:List Value}(hl:xs.length=n*k)(hn:n<=9223372036854775807)(h:∀j u,xs[j]? =some u->w.cell? ⟨b,o+j,none⟩=some u):Flat w k (.slice (some ⟨b,o,none⟩) n c) n xs:=
 ⟨hl,hn,_,_,rfl,fun j u hu=>⟨b,o,rfl,h j u hu⟩⟩
theorem Flat.iU {w:World}{B:Nat}{e:TypeId}{k:Nat}{v:Value}{n:Nat}{xs:List Value}(h:w.ownsRow B e k v n xs):Flat w k v n xs:=by
 refine⟨h.1,?_⟩
 rcases h.2 with⟨rfl,rfl⟩|⟨g,cap,cur,rfl,_,hg,hn,hc,_,_⟩
 ·exact⟨aa,none,0,rfl,fun j u hu=>by have:=h.1;simp at this;subst this;simp at hu⟩
 ·refine⟨Nat.le_trans hn (by simpa [maxLen] using hc),_,_,rfl,fun j u hu=>⟨g,0,rfl,?_⟩⟩;have:=h.cells (g:=g) rfl j u hu
  have lq:(⟨g,0,none⟩:Addr).add j=⟨g,0+j,none⟩:=by unfold Addr.add;split<;>simp_all
  rw[lq] at this;exact this
def dZ (w:World)(v:Value)(l:List Int):Prop:=Flat w 1 v l.length (iv l)
def fk (w:World)(v:Value)(l:List Ask):Prop:=Flat w 7 v l.length (l.flatMap Ask.cells)
def fm (w:World)(v:Value)(l:List bm):Prop:=Flat w 5 v l.length (l.flatMap bm.cells)
theorem dZ.kept {w w':World}{v:Value}{l:List Int}(h:dZ w v l){B:Nat}(hb:Below B w w')(hB:w.heap.size<=B):dZ w' v l:=Flat.kept h hb hB
theorem fk.kept {w w':World}{v:Value}{l:List Ask}(h:fk w v l){B:Nat}(hb:Below B w w')(hB:w.heap.size<=B):fk w' v l:=Flat.kept h hb hB
theorem fm.kept {w w':World}{v:Value}{l:List bm}(h:fm w v l){B:Nat}(hb:Below B w w')(hB:w.heap.size<=B):fm w' v l:=Flat.kept h hb hB
theorem dZ.open {w:World}{v:Value}{l:List Int}(h:dZ w v l):∃a c,v=.slice a l.length c/\l.length<=9223372036854775807:=Flat.open h
theorem fk.open {w:World}{v:Value}{l:List Ask}(h:fk w v l):∃a c,v=.slice a l.length c/\l.length<=9223372036854775807:=Flat.open h
theorem fm.open {w:World}{v:Value}{l:List bm}(h:fm w v l):∃a c,v=.slice a l.length c/\l.length<=9223372036854775807:=Flat.open h
theorem Bt {w:World}{α:Type}{f:α->List Value}{k:Nat}(hk:∀x,(f x).length=k)(bF:0<k){a:Option Addr}{m n c:Nat}{l:List α}(h:Flat w k (.slice a m c) n (l.flatMap f)){i:Nat}{x:α}(hi:l[i]? =some x):
  ∃b o,a=some ⟨b,o,none⟩/\∀j u,(f x)[j]? =some u->w.cell? ⟨b,o+i*k+j,none⟩=some u:=by
 have hlt:=(bk.1 hi).1;obtain⟨b,o,ha,hc⟩:=h.cells (by rw[Bq f k hk];exact Nat.mul_pos aa bF);refine⟨b,o,ha,fun j u hu=> ?_⟩
 have hj:j<k:=by have:=(bk.1 hu).1;rw[hk] at this;exact this
 have:=hc (i*k+j) u (by rw[HI f k hk l i j x hi hj];exact hu);rwa[<-Nat.add_assoc] at this
theorem Ask.DW (x:Ask):x.cells.length=7:=rfl
theorem bm.DW (x:bm):x.cells.length=5:=rfl
theorem fk.at {w:World}{a:Option Addr}{n c:Nat}{l:List Ask}(h:fk w (.slice a n c) l){i:Nat}{x:Ask}(hi:l[i]? =some x):
  ∃b o,a=some ⟨b,o,none⟩/\w.cell? ⟨b,o+i*7,none⟩=some (I x.node)/\w.cell? ⟨b,o+i*7+1,none⟩=some (I x.handler)/\w.cell? ⟨b,o+i*7+2,none⟩=some (I x.count)/\
   w.cell? ⟨b,o+i*7+3,none⟩=some (I x.kind)/\w.cell? ⟨b,o+i*7+4,none⟩=some (I x.index)/\w.cell? ⟨b,o+i*7+5,none⟩=some (I x.arity)/\w.cell? ⟨b,o+i*7+6,none⟩=some (I x.n):=by
 obtain⟨b,o,ha,hc⟩:=Bt Ask.DW aa h hi;exact⟨b,o,ha,hc 0 _ rfl,hc 1 _ rfl,hc 2 _ rfl,hc 3 _ rfl,hc 4 _ rfl,hc 5 _ rfl,hc 6 _ rfl⟩
theorem fm.at {w:World}{a:Option Addr}{n c:Nat}{l:List bm}(h:fm w (.slice a n c) l){i:Nat}{x:bm}(hi:l[i]? =some x):
  ∃b o,a=some ⟨b,o,none⟩/\w.cell? ⟨b,o+i*5,none⟩=some (I x.node)/\w.cell? ⟨b,o+i*5+1,none⟩=some (I x.handler)/\w.cell? ⟨b,o+i*5+2,none⟩=some (I x.count)/\
   w.cell? ⟨b,o+i*5+3,none⟩=some (I x.index)/\w.cell? ⟨b,o+i*5+4,none⟩=some (I x.copy):=by
 obtain⟨b,o,ha,hc⟩:=Bt bm.DW aa h hi;exact⟨b,o,ha,hc 0 _ rfl,hc 1 _ rfl,hc 2 _ rfl,hc 3 _ rfl,hc 4 _ rfl⟩
theorem dZ.at {w:World}{a:Option Addr}{n c:Nat}{l:List Int}(h:dZ w (.slice a n c) l){i:Nat}{x:Int}(hi:l[i]? =some x):
  ∃b o,a=some ⟨b,o,none⟩/\w.cell? ⟨b,o+i,none⟩=some (I x):=by
 have hlt:=(bk.1 hi).1;obtain⟨b,o,ha,hc⟩:=Flat.cells h (by simp[iv];omega);exact⟨b,o,ha,hc i _ (by simp[iv,hi])⟩
def af.row (s:af)(va vs:Value):List Value:=
 [I s.ev.kind,I s.ev.node,I s.ev.arg,I s.ev.msg.node,I s.ev.msg.handler,I s.ev.msg.count,I s.ev.msg.index,I s.ev.msg.copy,va,.bool s.ax,vs]
def af.val (s:af)(va vs:Value):Value:=.agg (s.row va vs).toArray
def af.In (w:World)(s:af)(v:Value):Prop:=∃va vs,v=s.val va vs/\fk w va s.asks/\fm w vs s.sent
theorem af.In.kept {w w':World}{s:af}{v:Value}(h:s.In w v){B:Nat}(hb:Below B w w')(hB:w.heap.size<=B):s.In w' v:=by
 obtain⟨va,vs,hv,h1,h2⟩:=h;exact⟨va,vs,hv,h1.kept hb hB,h2.kept hb hB⟩
def eb (w:World):List af->List Value->Prop
 |[],xs=>xs=[]
 |s::l,xs=>∃va vs ys,xs=s.row va vs++ys/\fk w va s.asks/\fm w vs s.sent/\eb w l ys
theorem eb.kept {w w':World}{B:Nat}(hb:Below B w w')(hB:w.heap.size<=B):∀{l:List af} {xs:List Value},eb w l xs->eb w' l xs
 |[],_,h=>h
 |_::_,_,⟨va,vs,ys,hx,h1,h2,h3⟩=>⟨va,vs,ys,hx,h1.kept hb hB,h2.kept hb hB,h3.kept hb hB⟩
theorem eb.append {w:World}:∀{l m:List af} {xs ys:List Value},eb w l xs->eb w m ys->eb w (l++m) (xs++ys)
 |[],_,xs,ys,h,h'=>by
  have:xs=[]:=h;subst this;exact h'
 |s::l,m,xs,ys,⟨va,vs,zs,hx,h1,h2,h3⟩,h'=>⟨va,vs,zs++ys,by rw[hx,List.append_assoc],h1,h2,h3.append h'⟩
theorem eb.one {w:World}{s:af}{va vs:Value}(h1:fk w va s.asks)(h2:fm w vs s.sent):eb w [s] (s.row va vs):=⟨va,vs,[],ae,h1,h2,rfl⟩
theorem eb.length {w:World}:∀{l:List af} {xs:List Value},eb w l xs->xs.length=l.length*11
 |[],xs,h=>by
  have:xs=[]:=h;subst this;rfl
 |s::l,xs,⟨va,vs,zs,hx,_,_,h3⟩=>by
  have:=h3.length;rw[hx,List.length_append,this];simp[af.row];omega
theorem eb.at {w:World}:∀{l:List af} {xs:List Value} {i:Nat} {s:af},eb w l xs->l[i]? =some s->
  ∃va vs,fk w va s.asks/\fm w vs s.sent/\∀j u,(s.row va vs)[j]? =some u->xs[i*11+j]? =some u
 |[],_,_,_,_,h=>by simp at h
 |t::l,xs,0,s,⟨va,vs,zs,hx,h1,h2,h3⟩,h=>by
  simp at h;subst h;refine⟨va,vs,h1,h2,fun j u hu=> ?_⟩;have hj:=(bk.1 hu).1;rw[hx,Nat.zero_mul,fK,kj hj];exact hu
 |t::l,xs,i+1,s,⟨va,vs,zs,hx,h1,h2,h3⟩,h=>by
  have h':l[i]? =some s:=by simpa using h
  obtain⟨iV,xF,g1,g2,g3⟩:=h3.at h';refine⟨iV,xF,g1,g2,fun j u hu=> ?_⟩;have:=g3 j u hu;have e:(i+1)*11+j=11+(i*11+j):=aa;have hl:(t.row va vs).length=11:=rfl;rw[hx,e,cD aa,hl,Nat.add_sub_cancel_left];exact this
def bU (w:World)(v:Value)(l:List af):Prop:=∃xs,eb w l xs/\Flat w 11 v l.length xs
theorem bU.kept {w w':World}{v:Value}{l:List af}(h:bU w v l){B:Nat}(hb:Below B w w')(hB:w.heap.size<=B):bU w' v l:=by
 obtain⟨xs,h1,h2⟩:=h;exact⟨xs,h1.kept hb hB,h2.kept hb hB⟩
theorem bU.open {w:World}{v:Value}{l:List af}(h:bU w v l):∃a c,v=.slice a l.length c/\l.length<=9223372036854775807:=by
 obtain⟨xs,h1,h2⟩:=h;exact h2.open
theorem bU.nil (w:World)(a:Option Addr)(c:Nat):bU w (.slice a 0 c) []:=⟨[],rfl,Flat.nil _ _ _ _⟩
theorem bU.at {w:World}{a:Option Addr}{n c:Nat}{l:List af}(h:bU w (.slice a n c) l){i:Nat}{s:af}(hi:l[i]? =some s):
  ∃b o va vs,a=some ⟨b,o,none⟩/\fk w va s.asks/\fm w vs s.sent/\
   w.cell? ⟨b,o+i*11,none⟩=some (I s.ev.kind)/\w.cell? ⟨b,o+i*11+1,none⟩=some (I s.ev.node)/\w.cell? ⟨b,o+i*11+2,none⟩=some (I s.ev.arg)/\
   w.cell? ⟨b,o+i*11+3,none⟩=some (I s.ev.msg.node)/\w.cell? ⟨b,o+i*11+4,none⟩=some (I s.ev.msg.handler)/\w.cell? ⟨b,o+i*11+5,none⟩=some (I s.ev.msg.count)/\
   w.cell? ⟨b,o+i*11+6,none⟩=some (I s.ev.msg.index)/\w.cell? ⟨b,o+i*11+7,none⟩=some (I s.ev.msg.copy)/\w.cell? ⟨b,o+i*11+8,none⟩=some va/\
   w.cell? ⟨b,o+i*11+9,none⟩=some (.bool s.ax)/\w.cell? ⟨b,o+i*11+10,none⟩=some vs:=by
 obtain⟨xs,h1,h2⟩:=h;obtain⟨va,vs,g1,g2,g3⟩:=h1.at hi;have hlt:=(bk.1 hi).1;obtain⟨b,o,ha,hc⟩:=h2.cells (by rw[h1.length];omega)
 have key:∀j u,(s.row va vs)[j]? =some u->w.cell? ⟨b,o+i*11+j,none⟩=some u:=fun j u hu=>by
  have:=hc _ u (g3 j u hu);rwa[<-Nat.add_assoc] at this
 exact⟨b,o,va,vs,ha,g1,g2,key 0 _ rfl,key 1 _ rfl,key 2 _ rfl,key 3 _ rfl,key 4 _ rfl,key 5 _ rfl,key 6 _ rfl,key 7 _ rfl,key 8 _ rfl,key 9 _ rfl,key 10 _ rfl⟩
theorem bU.iU {w W:World}{B0 B:Nat}{e:TypeId}{v:Value}{l:List af}{n:Nat}{xs:List Value}(h:w.ownsRow B e 11 v n xs)(hn:n=l.length)(hc:eb W l xs)(hb:Below B0 W w)(hB:W.heap.size<=B0):bU w v l:=by
 subst hn;exact⟨xs,hc.kept hb hB,Flat.iU h⟩
def az (w:World)(g:Nat)(cs:Array Value):Prop:=∃t,w.heap[g]? =some (.cells cs t (0,0))
theorem az.cell {w:World}{g:Nat}{cs:Array Value}(h:az w g cs)(j:Nat):w.cell? ⟨g,j,none⟩=cs[j]? :=by
 obtain⟨t,h⟩:=h;exact cell_of_row w g j cs t _ h
theorem az.frozen {w:World}{g:Nat}{cs:Array Value}(h:az w g cs)(j:Nat):w.frozen? ⟨g,j,none⟩=false:=by
 obtain⟨t,h⟩:=h;exact frozen_of_row w g j cs t h
theorem az.kept {w w':World}{g:Nat}{cs:Array Value}(h:az w g cs){B:Nat}(hb:Below B w w')(hB:g<B):az w' g cs:=by
 obtain⟨t,h⟩:=h;exact⟨t,(hb.block g hB).trans h⟩
theorem az.new (w:World)(cs:Array Value)(t:TypeId):az (w.alloc (.cells cs t)) w.heap.size cs:=⟨t,jH w _⟩
theorem az.lt {w:World}{g:Nat}{cs:Array Value}(h:az w g cs):g<w.heap.size:=by
 obtain⟨t,h⟩:=h;exact(vM.1 h).1
theorem az.alloc {w:World}{g:Nat}{cs:Array Value}(h:az w g cs)(o:Obj):az (w.alloc o) g cs:=by
 have hl:=h.lt;obtain⟨t,h⟩:=h;exact⟨t,(Below.heap_alloc w o g hl).trans h⟩
theorem az.drewN {w:World}{g:Nat}{cs:Array Value}(h:az w g cs)(n:Nat):az (w.drewN n) g cs:=h
theorem az.drew {w:World}{g:Nat}{cs:Array Value}(h:az w g cs):az w.drew g cs:=h
theorem az.grown {w w':World}{g:Nat}{cs:Array Value}(h:az w g cs){row:Option Nat}(hg:w.grownBy w' row)(hne:row≠some g):az w' g cs:=by
 have hl:=h.lt;obtain⟨t,h⟩:=h;exact⟨t,(hg.block g hl (fun e=>hne e.symm)).trans h⟩
theorem az.pk {w:World}{g:Nat}{cs:Array Value}(h:az w g cs)(a:Addr)(v:Value)(hne:a.block≠g):az (w.setCell a v) g cs:=by
 obtain⟨t,h⟩:=h;exact⟨t,(Bk w a g v (fun e=>hne e.symm)).trans h⟩
theorem az.set {w:World}{g:Nat}{cs:Array Value}(h:az w g cs)(i:Nat)(v:Value):az (w.setCell ⟨g,i,none⟩ v) g (cs.setIfInBounds i v):=by
 obtain⟨t,h⟩:=h;exact⟨t,heap_setCell_same w g i cs t v h⟩
theorem below_drewN {B:Nat}{a w:World}(h:Below B a w)(n:Nat):Below B a (w.drewN n):=⟨h.os,h.tape,h.output,h.size,h.block⟩
theorem cB {a b:Bool}(h:a=b):Ending.returned (.bool a)=.returned (.bool b):=by rw[h]
theorem kD {a b:Int}(h:a=b):Ending.returned (I a)=.returned (I b):=by rw[h]
theorem zy {α:Type}{l m:List α}(hl:l.length=m.length)(h:∀j<l.length,l[j]? =m[j]?):l=m:=by
 apply rH;intro j;by_cases hj:j<l.length
 ·exact h j hj
 ·rw[List.getElem?_eq_none aa,List.getElem?_eq_none aa]
theorem aiq {P:Program}{w:World}{ops:Array Oper}{rest:List Oper}{o:Oper}{a:Act}{Q:Exit->Act->World->Prop}(ez:o.guard=none)(s x:Operand)(t:TypeId)
  (ho:o.op=.call { callee:=.builtin .append,args:=#[s,x],argTypes:=#[t,t] })
  (e:TypeId) (z:Value) (k bytes:Nat) (ht:P.underlying t=some (.slice e)) (mO:(P.info? e).map (fun i=>(i.zero,i.size,i.bytes))=some (some z,k,bytes)) (po:z.cells.size=k) (hk:0<k) (kq:bytes<=1000)
  (B:Nat) (v:Value) (n:Nat) (xs:List Value) (hs:a.eval s=v) (bE:w.ownsRow B e k v n xs)
  (b of m c:Nat) (news:List Value) (hx:a.eval x=.slice (some ⟨b,of,none⟩) m c) (hl:news.length=m*k) (DX:∀j u,news[j]? =some u->w.cell? ⟨b,of+j,none⟩=some u) (h1:∀u∈news,u.oneCell'=true)
  (hm:0<m) (kE:n+m<=100000000) (lY:B<=w.heap.size)
  (h:∀g cap w',B<=g->g<w'.heap.size->(v.ownBlock=some g\/g=w.heap.size)->w'.ownsRow B e k (.slice (some ⟨g,0,none⟩) (n+m) cap) (n+m) (xs++news)->w.grownBy w' v.ownBlock->Below B w w'->
   wpList P ops Q rest (a.put o.dst (.slice (some ⟨g,0,none⟩) (n+m) cap)) w'):wpList P ops Q (o::rest) a w:=by
 obtain⟨i0,hi,jn,ij,kF⟩:=info_parts mO
 refine wpList_append_lies w ez s x t ho B e i0 z k bytes ht hi jn ij kF po hk v n xs hs bE ⟨b,of,none⟩ m c news hx hl (fun j u hu=> ?_) h1 hm (by unfold maxLen;omega)
  (Nat.le_trans (Nat.mul_le_mul kE kq) aa) lY w.heap.size rfl ?_
 ·have lq:(⟨b,of,none⟩:Addr).add j=⟨b,of+j,none⟩:=by unfold Addr.add;split<;>simp_all
  rw[lq];exact DX j u hu
 ·intro g cap w' h2 h3 h4 h5;have hB:Below B w w':=(Below.refl B w).grown h3 lY (fun k' tw=>(bE.lt k' tw).1);refine h g cap w' ?_ h5 h4 h2 h3 hB
  rcases h4 with h4|h4
  ·exact(bE.lt g h4).1
  ·omega
theorem Bu {P:Program}{w:World}{ops:Array Oper}{rest:List Oper}{o:Oper}{a:Act}{Q:Exit->Act->World->Prop}(ez:o.guard=none)(s x:Operand)(t:TypeId)
  (ho:o.op=.call { callee:=.builtin .append,args:=#[s,x],argTypes:=#[t,t] })
  (e:TypeId) (z:Value) (k bytes:Nat) (ht:P.underlying t=some (.slice e)) (mO:(P.info? e).map (fun i=>(i.zero,i.size,i.bytes))=some (some z,k,bytes)) (po:z.cells.size=k) (hk:0<k) (kq:bytes<=1000)
  (B:Nat) (v:Value) (n:Nat) (xs:List Value) (hs:a.eval s=v) (bE:w.ownsRow B e k v n xs)
  (b m c:Nat) (cs:Array Value) (t':TypeId) (hx:a.eval x=.slice (some ⟨b,0,none⟩) m c) (eN:w.heap[b]? =some (.cells cs t' (0,0))) (hl:cs.size=m*k) (h1:cs.toList.all Value.oneCell'=true)
  (hm:0<m) (kE:n+m<=100000000) (lY:B<=w.heap.size)
  (h:∀g cap w',B<=g->g<w'.heap.size->(v.ownBlock=some g\/g=w.heap.size)->w'.ownsRow B e k (.slice (some ⟨g,0,none⟩) (n+m) cap) (n+m) (xs++cs.toList)->w.grownBy w' v.ownBlock->Below B w w'->
   wpList P ops Q rest (a.put o.dst (.slice (some ⟨g,0,none⟩) (n+m) cap)) w'):wpList P ops Q (o::rest) a w:=
 aiq ez s x t ho e z k bytes ht mO po hk kq B v n xs hs bE b 0 m c cs.toList hx (by simpa using hl)
  (fun j u hu=>by rw[fK,cell_of_row w b j cs t' _ eN];simpa using hu) (dY.1 h1) hm kE lY h
theorem air {P:Program}{w:World}{ops:Array Oper}{o:Oper}{a:Act}{K:Act->World->Prop}{Q:Exit->Act->World->Prop}{E:Prop}(ez:o.guard=none)(s x:Operand)(t:TypeId)
  (ho:o.op=.call { callee:=.builtin .append,args:=#[s,x],argTypes:=#[t,t] })
  (e:TypeId) (z:Value) (k bytes:Nat) (ht:P.underlying t=some (.slice e)) (mO:(P.info? e).map (fun i=>(i.zero,i.size,i.bytes))=some (some z,k,bytes)) (po:z.cells.size=k) (hk:0<k) (kq:bytes<=1000)
  (B:Nat) (v:Value) (n:Nat) (xs:List Value) (hs:a.eval s=v) (bE:w.ownsRow B e k v n xs)
  (b of m c:Nat) (news:List Value) (hx:a.eval x=.slice (some ⟨b,of,none⟩) m c) (hl:news.length=m*k) (DX:∀j u,news[j]? =some u->w.cell? ⟨b,of+j,none⟩=some u) (h1:∀u∈news,u.oneCell'=true)
  (hm:0<m) (kE:n+m<=100000000) (lY:B<=w.heap.size)
  (h:∀g cap w',B<=g->g<w'.heap.size->(v.ownBlock=some g\/g=w.heap.size)->w'.ownsRow B e k (.slice (some ⟨g,0,none⟩) (n+m) cap) (n+m) (xs++news)->w.grownBy w' v.ownBlock->Below B w w'->
   K (a.put o.dst (.slice (some ⟨g,0,none⟩) (n+m) cap)) w'):if Region.wanted o (yielded ops a.tmps)=true then Oper.wp P o a w K Q else E:=by
 obtain⟨i0,hi,jn,ij,kF⟩:=info_parts mO
 refine step_append_lies w ez s x t ho B e i0 z k bytes ht hi jn ij kF po hk v n xs hs bE ⟨b,of,none⟩ m c news hx hl (fun j u hu=> ?_) h1 hm (by unfold maxLen;omega)
  (Nat.le_trans (Nat.mul_le_mul kE kq) aa) lY w.heap.size rfl ?_
 ·have lq:(⟨b,of,none⟩:Addr).add j=⟨b,of+j,none⟩:=by unfold Addr.add;split<;>simp_all
  rw[lq];exact DX j u hu
 ·intro g cap w' h2 h3 h4 h5;have hB:Below B w w':=(Below.refl B w).grown h3 lY (fun k' tw=>(bE.lt k' tw).1);refine h g cap w' ?_ h5 h4 h2 h3 hB
  rcases h4 with h4|h4
  ·exact(bE.lt g h4).1
  ·omega
theorem ais {P:Program}{w:World}{ops:Array Oper}{o:Oper}{a:Act}{K:Act->World->Prop}{Q:Exit->Act->World->Prop}{E:Prop}(ez:o.guard=none)(s x:Operand)(t:TypeId)
  (ho:o.op=.call { callee:=.builtin .append,args:=#[s,x],argTypes:=#[t,t] })
  (e:TypeId) (z:Value) (k bytes:Nat) (ht:P.underlying t=some (.slice e)) (mO:(P.info? e).map (fun i=>(i.zero,i.size,i.bytes))=some (some z,k,bytes)) (po:z.cells.size=k) (hk:0<k) (kq:bytes<=1000)
  (B:Nat) (v:Value) (n:Nat) (xs:List Value) (hs:a.eval s=v) (bE:w.ownsRow B e k v n xs)
  (b m c:Nat) (cs:Array Value) (t':TypeId) (hx:a.eval x=.slice (some ⟨b,0,none⟩) m c) (eN:w.heap[b]? =some (.cells cs t' (0,0))) (hl:cs.size=m*k) (h1:cs.toList.all Value.oneCell'=true)
  (hm:0<m) (kE:n+m<=100000000) (lY:B<=w.heap.size)
  (h:∀g cap w',B<=g->g<w'.heap.size->(v.ownBlock=some g\/g=w.heap.size)->w'.ownsRow B e k (.slice (some ⟨g,0,none⟩) (n+m) cap) (n+m) (xs++cs.toList)->w.grownBy w' v.ownBlock->Below B w w'->
   K (a.put o.dst (.slice (some ⟨g,0,none⟩) (n+m) cap)) w'):if Region.wanted o (yielded ops a.tmps)=true then Oper.wp P o a w K Q else E:=
 air ez s x t ho e z k bytes ht mO po hk kq B v n xs hs bE b 0 m c cs.toList hx (by simpa using hl)
  (fun j u hu=>by rw[fK,cell_of_row w b j cs t' _ eN];simpa using hu) (dY.1 h1) hm kE lY h
theorem HJ {w:World}{B g n k:Nat}{e:TypeId}{cs:Array Value}(h:w.heap[g]? =some (.cells cs e (0,0)))(hB:B<=g)(hs:cs.size=n*k)(hn:n<=1000000):w.ownsRow B e k (.slice (some ⟨g,0,none⟩) n n) n cs.toList:=
 ⟨by simpa using hs,.inr ⟨g,n,cs,rfl,hB,h,di _,by unfold maxLen;omega,hs,by rw[List.take_of_length_le (by simp[hs])]⟩⟩
end
section
open Go.RowKit
def cP (a b:List Int):Bool:=decide (a=b)
theorem xG {a b:List Int}(h:a=b):cP a b=true:=by simp[cP,h]
theorem zz {a b:List Int}(h:a≠b):cP a b=false:=by simp[cP,h]
theorem ait (a0 a1 a2 b0 b1 b2:Int)(w:World):(binOp .eql 59 (.agg #[I a0,I a1,I a2]) (.agg #[I b0,I b1,I b2])).run Tryz.prog w=.ok (.bool (cP [a0,a1,a2] [b0,b1,b2])) w:=by
 simp[go_sem,cP]
 repeat' split
 all_goals simp_all
attribute [go_sem high] ait
theorem aiu (a0 a1 a2 b0 b1 b2:Int)(w:World):(binOp .neq 59 (.agg #[I a0,I a1,I a2]) (.agg #[I b0,I b1,I b2])).run Tryz.prog w=.ok (.bool (!cP [a0,a1,a2] [b0,b1,b2])) w:=by
 simp[go_sem,cP]
 repeat' split
 all_goals simp_all
attribute [go_sem high] aiu
theorem aiv (a0 a1 a2 a3 a4 b0 b1 b2 b3 b4:Int)(w:World):(binOp .eql 61 (.agg #[I a0,I a1,I a2,I a3,I a4]) (.agg #[I b0,I b1,I b2,I b3,I b4])).run Tryz.prog w=.ok (.bool (cP [a0,a1,a2,a3,a4] [b0,b1,b2,b3,b4])) w:=by
 simp[go_sem,cP]
 repeat' split
 all_goals simp_all
attribute [go_sem high] aiv
theorem aiw (a0 a1 a2 a3 a4 b0 b1 b2 b3 b4:Int)(w:World):(binOp .neq 61 (.agg #[I a0,I a1,I a2,I a3,I a4]) (.agg #[I b0,I b1,I b2,I b3,I b4])).run Tryz.prog w=.ok (.bool (!cP [a0,a1,a2,a3,a4] [b0,b1,b2,b3,b4])) w:=by
 simp[go_sem,cP]
 repeat' split
 all_goals simp_all
attribute [go_sem high] aiw
theorem aix (a0 a1 a2 a3 a4 a5 a6 a7 b0 b1 b2 b3 b4 b5 b6 b7:Int)(w:World):(binOp .eql 63 (.agg #[I a0,I a1,I a2,I a3,I a4,I a5,I a6,I a7]) (.agg #[I b0,I b1,I b2,I b3,I b4,I b5,I b6,I b7])).run Tryz.prog w=.ok (.bool (cP [a0,a1,a2,a3,a4,a5,a6,a7] [b0,b1,b2,b3,b4,b5,b6,b7])) w:=by
 simp[go_sem,cP]
 repeat' split
 all_goals simp_all
attribute [go_sem high] aix
theorem aiy (a0 a1 a2 a3 a4 a5 a6 a7 b0 b1 b2 b3 b4 b5 b6 b7:Int)(w:World):(binOp .neq 63 (.agg #[I a0,I a1,I a2,I a3,I a4,I a5,I a6,I a7]) (.agg #[I b0,I b1,I b2,I b3,I b4,I b5,I b6,I b7])).run Tryz.prog w=.ok (.bool (!cP [a0,a1,a2,a3,a4,a5,a6,a7] [b0,b1,b2,b3,b4,b5,b6,b7])) w:=by
 simp[go_sem,cP]
 repeat' split
 all_goals simp_all
attribute [go_sem high] aiy
theorem aiz (a0 a1 a2 a3 a4 b0 b1 b2 b3 b4:Int)(w:World):(binOp .eql 98 (.agg #[I a0,I a1,I a2,I a3,I a4]) (.agg #[I b0,I b1,I b2,I b3,I b4])).run Tryz.prog w=.ok (.bool (cP [a0,a1,a2,a3,a4] [b0,b1,b2,b3,b4])) w:=by
 simp[go_sem,cP]
 repeat' split
 all_goals simp_all
attribute [go_sem high] aiz
theorem aiA (a0 a1 a2 a3 a4 b0 b1 b2 b3 b4:Int)(w:World):(binOp .neq 98 (.agg #[I a0,I a1,I a2,I a3,I a4]) (.agg #[I b0,I b1,I b2,I b3,I b4])).run Tryz.prog w=.ok (.bool (!cP [a0,a1,a2,a3,a4] [b0,b1,b2,b3,b4])) w:=by
 simp[go_sem,cP]
 repeat' split
 all_goals simp_all
attribute [go_sem high] aiA
theorem aiB (a0 a1 a2 a3 a4 a5 a6 b0 b1 b2 b3 b4 b5 b6:Int)(w:World):(binOp .eql 100 (.agg #[I a0,I a1,I a2,I a3,I a4,I a5,I a6]) (.agg #[I b0,I b1,I b2,I b3,I b4,I b5,I b6])).run Tryz.prog w=.ok (.bool (cP [a0,a1,a2,a3,a4,a5,a6] [b0,b1,b2,b3,b4,b5,b6])) w:=by
 simp[go_sem,cP]
 repeat' split
 all_goals simp_all
attribute [go_sem high] aiB
theorem aiC (a0 a1 a2 a3 a4 a5 a6 b0 b1 b2 b3 b4 b5 b6:Int)(w:World):(binOp .neq 100 (.agg #[I a0,I a1,I a2,I a3,I a4,I a5,I a6]) (.agg #[I b0,I b1,I b2,I b3,I b4,I b5,I b6])).run Tryz.prog w=.ok (.bool (!cP [a0,a1,a2,a3,a4,a5,a6] [b0,b1,b2,b3,b4,b5,b6])) w:=by
 simp[go_sem,cP]
 repeat' split
 all_goals simp_all
attribute [go_sem high] aiC
theorem DZ:(Tryz.prog.info? 3).map (fun i=>(i.zero,i.size,i.bytes))=some (some (.int .i64 0),1,8):=ah
theorem aiD:(Tryz.prog.info? 61).map (fun i=>(i.zero,i.size,i.bytes))=some (some (.agg #[.int .i64 0,.int .i64 0,.int .i64 0,.int .i64 0,.int .i64 0]),5,40):=ah
theorem aiE:(Tryz.prog.info? 100).map (fun i=>(i.zero,i.size,i.bytes))=some (some (.agg #[.int .i64 0,.int .i64 0,.int .i64 0,.int .i64 0,.int .i64 0,.int .i64 0,.int .i64 0]),7,56):=ah
theorem Bv:(Tryz.prog.info? 67).map (fun i=>(i.zero,i.size,i.bytes))=some (some (.agg #[.int .i64 0,.int .i64 0,.int .i64 0,.int .i64 0,.int .i64 0,.int .i64 0,.int .i64 0,.int .i64 0,.slice none 0 0,.bool false,.slice none 0 0]),11,120):=ah
end
section
open Go.RowKit
theorem aiF (s t:af)(v u:Value)(w:World)(hs:s.In w v)(ht:t.In w u)(he:s.ev=t.ev)(ho:s.ax=t.ax)(mS:s.asks.length=t.asks.length)(HK:s.sent.length=t.sent.length):
  Calls Tryz.prog 45 #[v,u] w fun e w'=>e=.returned (.bool (decide (s=t)))/\Below w.heap.size w w':=by
 obtain⟨va,vs,rfl,eZ,fB⟩:=hs;obtain⟨ua,us,rfl,fL,gm⟩:=ht;obtain⟨ka,ca,rfl,xH⟩:=eZ.open;obtain⟨kb,cb,rfl,_⟩:=fL.open;obtain⟨qa,da,rfl,xI⟩:=fB.open;obtain⟨qb,db,rfl,_⟩:=gm.open;obtain⟨se,sa,so,ss⟩:=s;obtain⟨te,ta,eO,ts⟩:=t;dsimp only at he ho mS HK eZ fB fL gm xH xI;subst he ho;obtain⟨k0,k1,k2,⟨k3,k4,k5,k6,k7⟩⟩:=se;have TW:=ab mS;have TX:=ab HK;simp only[<-mS,<-HK,af.val,af.row] at fL gm⊢;clear mS HK;have ev:=xG (rfl:[k0,k1,k2,k3,k4,k5,k6,k7]=[k0,k1,k2,k3,k4,k5,k6,k7]);go_enter Tryz.func45,Tryz.ntmps45;go_wp2
 go_loopw [5] (fun i wr=>∃k:Nat,k<=sa.length/\i=.int .i64 k/\Below w.heap.size w wr/\(∀j<k,sa[j]? =ta[j]?)/\
   az wr w.heap.size #[I k0,I k1,I k2,I k3,I k4,I k5,I k6,I k7,.slice ka sa.length ca,.bool so,.slice qa ss.length da]/\
   az wr (w.heap.size+1) #[I k0,I k1,I k2,I k3,I k4,I k5,I k6,I k7,.slice kb sa.length cb,.bool so,.slice qb ss.length db]) (fun i _=>sa.length-(intOf i).toNat)
 case atStart=>
  refine⟨0,aa,rfl,((Below.refl _ _).alloc av _).alloc ae _,fun j hj=>absurd hj aa,(az.new _ _ _).alloc _,?_⟩;have:=az.new (w.alloc (.cells #[I k0,I k1,I k2,I k3,I k4,I k5,I k6,I k7,.slice ka sa.length ca,.bool so,.slice qa ss.length da] 67)) #[I k0,I k1,I k2,I k3,I k4,I k5,I k6,I k7,.slice kb sa.length cb,.bool so,.slice qb ss.length db] 67;simpa using this
 case round=>
  obtain⟨k,hk,rfl,hB,hE,bH,fq⟩:=hrel;have HE:=ab hE;clear hE;have iI:=bH.cell;have ma:=fq.cell;by_cases hlt:k<sa.length
  ·have cH:k<ta.length:=by have:=TW.out;omega
   obtain⟨b,o,rfl,x0,x1,x2,x3,x4,x5,x6⟩:=(eZ.kept hB av).at (i:=k) (x:=sa[k]) (by simp[hlt]);obtain⟨b',o',rfl,y0,y1,y2,y3,y4,y5,y6⟩:=(fL.kept hB av).at (i:=k) (x:=ta[k]) (by simp[cH]);by_cases hx:sa[k].ints=ta[k].ints
   ·have Hx:=ab hx;have hq:=xG hx;clear hx;unfold Ask.ints at hq;go_wp2;go_quiet (fail);go_wp2;go_roundw
    case rel=>
     refine⟨k+1,aa,by go_num,below_drewN hB nq,?_,bH.drewN nq,fq.drewN nq⟩;intro j hj;by_cases dx:j=k
     ·subst dx;simp[hlt,cH,Ask.rJ.1 Hx.out]
     ·exact HE.out j aa
    case measure=>simp[intOf];omega
   ·have Hx:=ab hx;have hq:=zz hx;clear hx;unfold Ask.ints at hq;go_wp2;go_quiet (fail);go_wp2;go_ret;refine⟨cB ?_,below_drewN hB nq⟩;symm;rw[lV];intro h
    have h2:sa=ta:=by injection h
    exact Hx.out (by subst h2;rfl)
  ·have HA:=ab (zy TW.out (fun j hj=>HE.out j aa));go_wp2
   go_loopw [6] (fun i w2=>∃m:Nat,m<=ss.length/\i=.int .i64 m/\Below w.heap.size w w2/\(∀j<m,ss[j]? =ts[j]?)/\
    az w2 w.heap.size #[I k0,I k1,I k2,I k3,I k4,I k5,I k6,I k7,.slice ka sa.length ca,.bool so,.slice qa ss.length da]/\
    az w2 (w.heap.size+1) #[I k0,I k1,I k2,I k3,I k4,I k5,I k6,I k7,.slice kb sa.length cb,.bool so,.slice qb ss.length db]) (fun i _=>ss.length-(intOf i).toNat)
   case atStart=>exact⟨0,aa,rfl,hB,fun j hj=>absurd hj aa,bH,fq⟩
   case round=>
    clear iI ma bH fq hB HE;obtain⟨m,hm,rfl,hB,hE,bH,fq⟩:=hrel;have HE:=ab hE;clear hE;have iI:=bH.cell;have ma:=fq.cell;by_cases hlt:m<ss.length
    ·have cH:m<ts.length:=by have:=TX.out;omega
     obtain⟨b,o,rfl,x0,x1,x2,x3,x4⟩:=(fB.kept hB av).at (i:=m) (x:=ss[m]) (by simp[hlt]);obtain⟨b',o',rfl,y0,y1,y2,y3,y4⟩:=(gm.kept hB av).at (i:=m) (x:=ts[m]) (by simp[cH]);by_cases hx:ss[m].ints=ts[m].ints
     ·have Hx:=ab hx;have hq:=xG hx;clear hx;unfold bm.ints at hq;go_wp2;go_quiet (fail);go_wp2;go_roundw
      case rel=>
       refine⟨m+1,aa,by go_num,below_drewN hB nq,?_,bH.drewN nq,fq.drewN nq⟩;intro j hj;by_cases dx:j=m
       ·subst dx;simp[hlt,cH,bm.rJ.1 Hx.out]
       ·exact HE.out j aa
      case measure=>simp[intOf];omega
     ·have Hx:=ab hx;have hq:=zz hx;clear hx;unfold bm.ints at hq;go_wp2;go_quiet (fail);go_wp2;go_ret;refine⟨cB ?_,below_drewN hB nq⟩;symm;rw[lV];intro h
      have h2:ss=ts:=by injection h
      exact Hx.out (by subst h2;rfl)
    ·have HS:=ab (zy TX.out (fun j hj=>HE.out j aa));go_wp2;go_ret;refine⟨cB ?_,hB⟩;symm;rw[Bl,HA.out,HS.out]
theorem aiG (s t:af)(v u:Value)(w:World)(hs:s.In w v)(ht:t.In w u)(hn:¬(s.ev=t.ev/\s.ax=t.ax/\s.asks.length=t.asks.length/\s.sent.length=t.sent.length)):
  Calls Tryz.prog 45 #[v,u] w fun e w'=>e=.returned (.bool false)/\Below w.heap.size w w':=by
 obtain⟨va,vs,rfl,eZ,fB⟩:=hs;obtain⟨ua,us,rfl,fL,gm⟩:=ht;obtain⟨ka,ca,rfl,xH⟩:=eZ.open;obtain⟨kb,cb,rfl,_⟩:=fL.open;obtain⟨qa,da,rfl,xI⟩:=fB.open;obtain⟨qb,db,rfl,_⟩:=gm.open;obtain⟨se,sa,so,ss⟩:=s;obtain⟨te,ta,eO,ts⟩:=t;dsimp only at hn eZ fB fL gm xH xI;simp only[af.val,af.row]
 have jo:∀X Y:Obj,Below w.heap.size w ((w.alloc X).alloc Y):=fun X Y=>((Below.refl _ _).alloc av _).alloc ae _
 have HB:=ab jo;clear jo;by_cases h1:se.ints=te.ints
 ·have e1:=xG h1;have H1:=ab h1;clear h1;obtain⟨k0,k1,k2,⟨k3,k4,k5,k6,k7⟩⟩:=se;obtain⟨j0,j1,j2,⟨j3,j4,j5,j6,j7⟩⟩:=te;simp only[Ev.ints] at e1;by_cases h2:so=eO
  ·subst h2;by_cases h3:sa.length=ta.length
   ·have e3:((sa.length:Int) !=(ta.length:Int))=false:=by rw[h3];simp
    have e4:((ss.length:Int) !=(ts.length:Int))=true:=by
     rw[bne_iff_ne];intro h4;exact hn ⟨Ev.rJ.1 H1.out,rfl,h3,aa⟩
    clear h3;go_enter Tryz.func45,Tryz.ntmps45;go_wp2;go_ret;exact⟨rfl,HB.out _ _⟩
   ·have e3:((sa.length:Int) !=(ta.length:Int))=true:=by rw[bne_iff_ne];omega
    clear h3;go_enter Tryz.func45,Tryz.ntmps45;go_wp2;go_ret;exact⟨rfl,HB.out _ _⟩
  ·have e2:(so==eO)=false:=by simpa using h2
   go_enter Tryz.func45,Tryz.ntmps45;go_wp2;go_ret;exact⟨rfl,HB.out _ _⟩
 ·have e1:=zz h1;clear h1;obtain⟨k0,k1,k2,⟨k3,k4,k5,k6,k7⟩⟩:=se;obtain⟨j0,j1,j2,⟨j3,j4,j5,j6,j7⟩⟩:=te;simp only[Ev.ints] at e1;go_enter Tryz.func45,Tryz.ntmps45;go_wp2;go_ret;exact⟨rfl,HB.out _ _⟩
theorem TY (s t:af)(v u:Value)(w:World)(hs:s.In w v)(ht:t.In w u):
  Calls Tryz.prog 45 #[v,u] w fun e w'=>e=.returned (.bool (decide (s=t)))/\Below w.heap.size w w':=by
 by_cases h:s.ev=t.ev/\s.ax=t.ax/\s.asks.length=t.asks.length/\s.sent.length=t.sent.length
 ·exact aiF s t v u w hs ht h.1 h.2.1 h.2.2.1 h.2.2.2
 ·refine(aiG s t v u w hs ht h).mono fun e w' ⟨h1,h2⟩=>⟨?_,h2⟩
  rw[h1];refine cB ?_;symm;rw[lV];intro e;exact h (by rw[e];exact⟨rfl,rfl,rfl,rfl⟩)
theorem aiH {s t:af}{v u:Value}{w:World}(hs:s.In w v)(ht:t.In w u)(h:s=t):
  Calls Tryz.prog 45 #[v,u] w fun e w'=>e=.returned (.bool true)/\Below w.heap.size w w':=by
 have:=TY s t v u w hs ht;rwa[ll h] at this
theorem aiI {s t:af}{v u:Value}{w:World}(hs:s.In w v)(ht:t.In w u)(h:s≠t):
  Calls Tryz.prog 45 #[v,u] w fun e w'=>e=.returned (.bool false)/\Below w.heap.size w w':=by
 have:=TY s t v u w hs ht;rwa[pg h] at this
def around (n most:Int):Int:=(if n<0 then -(n+1) else n)%most
theorem aiJ (n most:Int)(h:1<=most):0<=around n most/\around n most<most:=by
 unfold around;exact⟨Int.emod_nonneg _ aa,Int.emod_lt_of_pos _ aa⟩
theorem aiK (n most:Int)(w:World)(h1:1<=most)(ha: -9223372036854775808<=n)(hb:n<=9223372036854775807):Calls Tryz.prog 14 #[I n,I most] w fun e w'=>e=.returned (I (around n most))/\w=w':=by
 have hz:(most==0)=false:=by rw[Bj];omega
 by_cases kG:n<0
 ·go_enter Tryz.func14,Tryz.ntmps14;go_wp2;go_ret;refine⟨kD ?_,rfl⟩;unfold around;rw[if_pos kG,<-Int.neg_tmod,Int.tmod_eq_emod_of_nonneg aa]
 ·go_enter Tryz.func14,Tryz.ntmps14;go_wp2;go_ret;refine⟨kD ?_,rfl⟩;unfold around;rw[if_neg aa]
theorem TZ (l m:List af)(v u:Value)(w:World)(hl:bU w v l)(hm:bU w u m):
  Calls Tryz.prog 23 #[v,u] w fun e w'=>e=.returned (.bool (decide (l=m)))/\Below w.heap.size w w':=by
 obtain⟨ka,ca,rfl,ft⟩:=hl.open;obtain⟨kb,cb,rfl,gr⟩:=hm.open;by_cases hlen:l.length=m.length
 ·have ks:=ab hlen;simp only[<-hlen] at hm⊢;clear hlen gr;have e0:((l.length:Int) !=(l.length:Int))=false:=ae;go_enter Tryz.func23,Tryz.ntmps23;go_wp2;go_loopw [5] (fun i wr=>∃k:Nat,k<=l.length/\i=.int .i64 k/\Below w.heap.size w wr/\(∀j<k,l[j]? =m[j]?)) (fun i _=>l.length-(intOf i).toNat)
  case atStart=>exact⟨0,aa,rfl,Below.refl _ _,fun j hj=>absurd hj aa⟩
  case round=>
   obtain⟨k,hk,rfl,hB,hE⟩:=hrel;have HE:=ab hE;clear hE;by_cases hlt:k<l.length
   ·have cH:k<m.length:=by have:=ks.out;omega
    obtain⟨b,o,va,vs,rfl,dy,dk,x0,x1,x2,x3,x4,x5,x6,x7,x8,x9,x10⟩:=(hl.kept hB av).at (i:=k) (s:=l[k]) (by simp[hlt]);obtain⟨b',o',ua,us,rfl,oh,om,y0,y1,y2,y3,y4,y5,y6,y7,y8,y9,y10⟩:=(hm.kept hB av).at (i:=k) (s:=m[k]) (by simp[cH]);by_cases hx:l[k]=m[k]
    ·have c:=aiH (w:=wr.drew) (v:=l[k].val va vs) (u:=m[k].val ua us) ⟨va,vs,rfl,dy,dk⟩ ⟨ua,us,rfl,oh,om⟩ hx;have Hx:=ab hx;clear hx;simp only[af.val,af.row] at c;have C:=ab c;clear c;go_wp2;go_still_tail 8,ah;change wpList _ _ _ _ _ wr.drew
     go_wp2_with (go_at_call 45;refine C.out.mono ?_;rintro e w1 ⟨rfl,ay⟩)
     go_roundw
     case rel=>
      refine⟨k+1,aa,by go_num,hB.drew.trans (ay.mono hB.size),?_⟩;intro j hj;by_cases dx:j=k
      ·subst dx;simp[hlt,cH,Hx.out]
      ·exact HE.out j aa
     case measure=>simp[intOf];omega
    ·have c:=aiI (w:=wr.drew) (v:=l[k].val va vs) (u:=m[k].val ua us) ⟨va,vs,rfl,dy,dk⟩ ⟨ua,us,rfl,oh,om⟩ hx;have Hx:=ab hx;clear hx;simp only[af.val,af.row] at c;have C:=ab c;clear c;go_wp2;go_still_tail 8,ah;change wpList _ _ _ _ _ wr.drew
     go_wp2_with (go_at_call 45;refine C.out.mono ?_;rintro e w1 ⟨rfl,ay⟩)
     go_ret;refine⟨cB ?_,hB.drew.trans (ay.mono hB.size)⟩;symm;rw[lV];intro h;exact Hx.out (by subst h;rfl)
   ·have HA:=ab (zy ks.out (fun j hj=>HE.out j aa));go_wp2;go_ret;refine⟨cB ?_,hB⟩;symm;rw[Bl,HA.out]
 ·have e0:((l.length:Int) !=(m.length:Int))=true:=by rw[bne_iff_ne];omega
  have ks:=ab hlen;clear hlen;go_enter Tryz.func23,Tryz.ntmps23;go_wp2;go_ret;refine⟨cB ?_,Below.refl _ _⟩;symm;rw[lV];intro h;exact ks.out (by rw[h])
end
section
open Go
section
variable {P:Program} {ops:Array Oper} {Q:Exit->Act->World->Prop} {md:Region.Mode} {S:World->Prop}
def Bw (P:Program)(md:Region.Mode)(ops:Array Oper)(Q:Exit->Act->World->Prop)(S:World->Prop)(n:Nat)(L:Array Bool->Act->World->Prop):Nat->Array Bool->Act->World->Prop
 |0,listed,a,w=>L listed a w
 |f+1,listed,a,w=>
  Region.ready md ops listed≠[]/\∀i∈Region.ready md ops listed,i<n/\wpOp P ops Q i (fun a' w'=>S w'/\Bw P md ops Q S n L f (listed.setIfInBounds i true) a' w') a w
theorem Lb {n g:Nat}{L:Array Bool->Act->World->Prop}(hL:∀listed a w,L listed a w->wpAny P md ops Q g listed a w):
  ∀(f:Nat) (listed:Array Bool) (a:Act) (w:World),Bw P md ops Q S n L f listed a w->wpAny P md ops Q (f+g) listed a w
 |0,listed,a,w,h=>by rw[fK];exact hL _ _ _ h
 |f+1,listed,a,w,h=>by
  rw[show f+1+g=(f+g)+1 by omega];exact⟨fun h0=>absurd h0 h.1,fun i hi=>wpOp_mono (fun a' w' h'=>Lb hL f _ a' w' h'.2) (h.2 i hi).2⟩
def mU (md:Region.Mode)(ops:Array Oper)(n:Nat):Bool:=decide (n=ops.size)||(decide (n<ops.size) && Region.sinkB md ops n && Region.chainB md ops n)
theorem HL {n i:Nat}{listed:Array Bool}(ht:mU md ops n=true)(inv:HeadInv md ops n listed)(bg:i<n)(lr:listed.getD i true=false):∀j∈Region.ready md ops listed,j<n:=by
 intro j hj;simp only[mU,og,bN,dv] at ht
 rcases ht with rfl|⟨⟨h1,h2⟩,h3⟩
 ·obtain⟨_,o,ho,_⟩:=mem_ready.1 hj;exact(vM.1 ho).1
 ·rcases Nat.lt_or_ge j n with h|h
  ·exact h
  ·exact absurd hj (tail_waits h2 h3 h1 inv _ i rfl bg lr j h)
theorem Ua {n i:Nat}{oi:Oper}{v:Value}{L:Array Bool->Act->World->Prop}(hi:ops[i]? =some oi)(fc:∀(j:Nat) (o:Oper) cs b,ops[j]? =some o->o.op≠ .select cs b)
  (hQ:∀c a w,Q (.panic c) (a.put oi.dst v) w->Q (.panic c) a w) (ht:mU md ops n=true) (bg:i<n)
  (hdone:∀listed a w,L listed a w->∀j∈Region.ready md ops listed,n<=j):
  ∀(f:Nat) (listed:Array Bool) (a:Act) (w:World),HeadInv md ops n listed->
   (∀j oj,ops[j]? =some oj->j≠i->listed.getD j true=false->(∀e∈oj.after,Region.binds md e=true->e.on≠i)->oi.apart ops oj=true)->
   i∈Region.ready md ops listed->YieldsIf P ops S oi v a->S w->
   Bw P md ops Q S n L f (listed.setIfInBounds i true) (a.put oi.dst v) w->Bw P md ops Q S n L (f+1) listed a w:=by
 intro f
 induction f with
 |zero=>
  intro listed a w inv _ hr hy hS H;have lr:=(mem_ready.1 hr).1;refine⟨fun h=>(by rw[h] at hr;cases hr),fun j hj=> ?_⟩;have tz:=HL ht inv bg lr j hj;refine⟨tz,?_⟩;by_cases iJ:j=i
  ·subst iJ;exact hy.wpOp hi hS ⟨hS,H⟩
  ·have:=hdone _ _ _ H j (ready_mono hj iJ);omega
 |succ f ih=>
  intro listed a w inv Ea hr hy hS H;have lr:=(mem_ready.1 hr).1;refine⟨fun h=>(by rw[h] at hr;cases hr),fun j hj=> ?_⟩;have tz:=HL ht inv bg lr j hj;refine⟨tz,?_⟩;by_cases iJ:j=i
  ·subst iJ;exact hy.wpOp hi hS ⟨hS,H⟩
  ·have h1:=(H.2 j (ready_mono hj iJ)).2;obtain⟨Eb,oj,xJ,gu⟩:=mem_ready.1 hj
   have Lc:∀e∈oj.after,Region.binds md e=true->e.on≠i:=fun e he hb heq=>by
    have h1:=gu e he hb;rw[heq,getD_both lr] at h1;cases h1
   have h2:=wpOp_putIf xJ (Ea j oj xJ iJ Eb Lc) (fun cs b=>fc i oi cs b hi) (fun cs b=>fc j oj cs b xJ) hQ hy h1
   have Ld:∀k ok,ops[k]? =some ok->k≠i->(listed.setIfInBounds j true).getD k true=false->
     (∀e∈ok.after,Region.binds md e=true->e.on≠i)->oi.apart ops ok=true:=fun k ok hk vV lr hno=>by
    refine Ea k ok hk vV ?_ hno;by_cases dx:j=k
    ·subst dx;exact Eb
    ·rw[getD_set_ne true dx] at lr;exact lr
   refine wpOp_mono (fun a' w' h3=>⟨h3.2.1,ih (listed.setIfInBounds j true) a' w' (inv.set hj tz) Ld (ready_mono hr (Ne.symm iJ)) h3.1 h3.2.1 ?_⟩) h2;rw[Array.setIfInBounds_comm _ _ iJ];exact h3.2.2
def vW (md:Region.Mode)(ops:Array Oper)(n:Nat):List (Nat×Bool)->Array Bool->Bool
 |[],listed=>Region.seqB md ops (ops.size-n) n listed
 |(i,true)::r,listed=>decide (i<n) && (Region.ready md ops listed).contains i && Region.free md ops listed i && vW md ops n r (listed.setIfInBounds i true)
 |(i,false)::r,listed=>decide (i<n) && decide (Region.ready md ops listed=[i]) && vW md ops n r (listed.setIfInBounds i true)
def mV (P:Program)(ops:Array Oper)(Q:Exit->Act->World->Prop)(S:World->Prop)(F:Act->World->Prop):List (Oper×Bool)->Act->World->Prop
 |[],a,w=>F a w
 |(o,true)::r,a,w=>∃v,YieldsIf P ops S o v a/\mV P ops Q S F r (a.put o.dst v) w
 |(o,false)::r,a,w=>if Region.wanted o (yielded ops a.tmps)=true then Oper.wp P o a w (fun a' w'=>S w'/\mV P ops Q S F r a' w') Q else S w/\mV P ops Q S F r (a.put o.dst undef) w
def pick (l:List Oper):List (Nat×Bool)->Option (List (Oper×Bool))
 |[]=>some []
 |(i,b)::r=>match l[i]?,pick l r with
  |some o,some rs=>some ((o,b)::rs)
  |_,_=>none
theorem HM {l:List Oper}{n:Nat}{F:Act->World->Prop}(fc:Region.noSelect l.toArray=true)(hQ:∀c a d v w,Q (.panic c) (a.put d v) w->Q (.panic c) a w)(ht:mU md l.toArray n=true):
  ∀(ord:List (Nat×Bool)) (rs:List (Oper×Bool)) (listed:Array Bool) (a:Act) (w:World),pick l ord=some rs->HeadInv md l.toArray n listed->vW md l.toArray n ord listed=true->S w->mV P l.toArray Q S F rs a w->
   Bw P md l.toArray Q S n (fun listed' a' w'=>Region.seqB md l.toArray (l.toArray.size-n) n listed'=true/\F a' w') ord.length listed a w
 |[],rs,listed,a,w,hp,inv,hB,hS,h=>by
  simp only[pick,ar] at hp;subst hp;exact⟨hB,h⟩
 |(i,b)::r,rs,listed,a,w,hp,inv,hB,hS,h=>by
  simp only[pick] at hp;split at hp
  ·rename_i o rK ho hr;simp only[ar] at hp;subst hp
   have mW:l.toArray[i]? =some o:=by simpa using ho
   cases b with
   |true=>
    simp only[vW,bN,dv] at hB;obtain⟨⟨⟨h1,h2⟩,h3⟩,h4⟩:=hB;obtain⟨v,hy,hK⟩:=h
    have jJ:i∈Region.ready md l.toArray listed:=by simpa using h2
    exact Ua mW (Region.noSelect_spec fc) (fun c a w=>hQ c a _ _ w) ht h1 (fun listed' a' w' hL=>seqB_ready hL.1) r.length listed a w inv (Region.free_spec mW h3) jJ hy hS
     (HM fc hQ ht r rK _ _ _ hr (inv.set jJ h1) h4 hS hK)
   |false=>
    simp only[vW,bN,dv] at hB;obtain⟨⟨h1,h2⟩,h4⟩:=hB;refine⟨fun h0=>by(rw[h2] at h0;cases h0),fun j hj=> ?_⟩;have jJ:=hj;rw[h2] at hj
    have iJ:j=i:=by simpa using hj
    subst iJ;refine⟨h1,?_⟩;unfold wpOp;simp only[mW];have h':if Region.wanted o (yielded l.toArray a.tmps)=true then Oper.wp P o a w (fun a' w'=>S w'/\mV P l.toArray Q S F rK a' w') Q else S w/\mV P l.toArray Q S F rK (a.put o.dst undef) w:=h;split
    ·rename_i hw;rw[if_pos hw] at h';exact .inl (Oper.wp_mono (fun a' w' hh=>⟨hh.1,HM fc hQ ht r rK _ _ _ hr (inv.set jJ h1) h4 hh.1 hh.2⟩) h')
    ·rename_i hw;rw[if_neg hw] at h';exact⟨h'.1,HM fc hQ ht r rK _ _ _ hr (inv.set jJ h1) h4 h'.1 h'.2⟩
  ·cases hp
def BA (md:Region.Mode)(ops:Array Oper)(n:Nat)(ord:List (Nat×Bool)):Bool:=
 Region.noSelect ops && mU md ops n && decide (ord.length=n) && vW md ops n ord (Array.replicate ops.size false)
theorem Ub {Q:Exit->Act->World->Prop}(hQ:∀c a t w,Q (.panic c) { a with tmps:=t } w->Q (.panic c) a w):∀c (a:Act) d v w,Q (.panic c) (a.put d v) w->Q (.panic c) a w:=by
 intro c a d v w h
 cases d with
 |none=>exact h
 |some d=>exact hQ c a _ w h
theorem aiL {id:Nat}{a:Act}{w:World}{l:List Oper}(n:Nat)(ord:List (Nat×Bool))(S:World->Prop){rs:List (Oper×Bool)}{tl:List Oper}(hm:P.follows .mixedOrders=true)(hp:pick l ord=some rs)(kt:l.drop n=tl)(hB:BA .any l.toArray n ord=true)
  (hQ:∀c a t w,Q (.panic c) { a with tmps:=t } w->Q (.panic c) a w) (hS:S w.drew)
  (h:mV P l.toArray Q S (wpList P l.toArray Q tl) rs a w.drew):(Code.region id l.toArray true).wp P Q a w:=by
 subst kt;simp only[BA,bN,dv] at hB;obtain⟨⟨⟨fc,ht⟩,hlen⟩,Ec⟩:=hB
 have hn:n<=l.length:=by
  simp only[mU,og,bN,dv,zr] at ht;omega
 have Ed:HeadInv .any l.toArray n (Array.replicate l.toArray.size false):=
  ⟨ae,fun j oj _ hl=>(by rw[getD_replicate_false] at hl;cases hl),fun t _ ht=>getD_in (by simpa using ht) (getD_replicate_false _ _)⟩
 have H:=HM (md:=.any) fc (Ub hQ) ht ord rs _ a w.drew hp Ed Ec hS h;refine wp_region_any hm ?_
 have:=Lb (Q:=Q) (g:=l.toArray.size-n) (fun listed a' w' hL=>by
  have:=wpAny_of_seq (md:=.any) (Q':=Q) (l.drop n) n listed a' w' (fun j=>by simp[lW]) (by rw[lj];simpa using hL.1) hL.2
  rwa[lj,show l.length-n=l.toArray.size-n by simp] at this) _ _ _ _ H
 rw[hlen,show n+(l.toArray.size-n)=l.toArray.size by simp;omega] at this;exact this
theorem xK {id:Nat}{a:Act}{w:World}{l:List Oper}(n:Nat)(ord:List (Nat×Bool))(S:World->Prop){rs:List (Oper×Bool)}{tl:List Oper}(hm:P.follows .mixedOrders=true)(hp:pick l ord=some rs)(kt:l.drop n=tl)(hB:BA .any l.toArray n ord=true)(hS:S w.drew)
  (h:mV P l.toArray (NoPanic Q) S (wpList P l.toArray (NoPanic Q) tl) rs a w.drew):(Code.region id l.toArray true).wp P Q a w:=
 Code.wp_mono NoPanic.imp (aiL n ord S hm hp kt hB (fun _ _ _ _ h=>h) hS h)
theorem xM {F:Act->World->Prop}{a:Act}{w:World}(h:F a w):mV P ops Q S F [] a w:=h
theorem aiM {F:Act->World->Prop}{a:Act}{w:World}{o:Oper}{r:List (Oper×Bool)}(v:Value)(hw:Region.wanted o (yielded ops a.tmps)=true)(hy:∀w,S w->(execOp a.eval o).run P w=.ok (.value v) w)
  (h:mV P ops Q S F r (a.put o.dst v) w):mV P ops Q S F ((o,true)::r) a w:=⟨v,.inl ⟨hw,hy⟩,h⟩
theorem aiN {F:Act->World->Prop}{a:Act}{w:World}{o:Oper}{r:List (Oper×Bool)}(hw:Region.wanted o (yielded ops a.tmps)=false)
  (h:mV P ops Q S F r (a.put o.dst undef) w):mV P ops Q S F ((o,true)::r) a w:=⟨undef,.inr ⟨hw,rfl⟩,h⟩
theorem Uc {F:Act->World->Prop}{a:Act}{w:World}{o:Oper}{r:List (Oper×Bool)}
  (h:∀K':Act->World->Prop,Shut (∀a w,S w->mV P ops Q S F r a w->K' a w)->if Region.wanted o (yielded ops a.tmps)=true then Oper.wp P o a w K' Q else K' (a.put o.dst undef) w):mV P ops Q S F ((o,false)::r) a w:=
 h _ (fun _ _ hS h=>⟨hS,h⟩)
end
end
section
open Go
section
variable {F:Fence} {nn:Nat} {P:Program} {ops:Array Oper} {Q:Exit->Act->World->Prop} {md:Region.Mode} {S:World->Prop}
def Ee (ops:Array Oper):Bool:=ops.all fun o=>match o.op with
 | .defer _=>false
 |_=>true
theorem Le (h:Ee ops=true){j:Nat}{o:Oper}(ho:ops[j]? =some o):∀c,o.op≠ .defer c:=by
 intro c hc;have h1:=Array.all_eq_true.1 h j (vM.1 ho).1;have:ops[j]'(vM.1 ho).1=o:=(vM.1 ho).2;rw[this,hc] at h1;cases h1
def qG (P:Program)(ops:Array Oper)(S:World->Prop)(o:Oper)(v:Value)(a:Act):Prop:=YieldsIf P ops S o v a/\∀w,o.about P w a.eval=none
theorem qG.wpOpIn {i:Nat}{o:Oper}{v:Value}{a:Act}(hi:ops[i]? =some o)(hd:∀c,o.op≠ .defer c)(hy:qG P ops S o v a)
  {K:Act->World->Prop} {w:World} (hS:S w) (h:K (a.put o.dst v) w):wpOpIn F nn P ops Q i K a w:=by
 unfold Go.wpOpIn;simp only[hi]
 have ed:∀f,o.about P w a.eval=some f->F.fn f:=fun f hf=>by rw[hy.2 w] at hf;cases hf
 rcases hy.1 with⟨hw,hv⟩|⟨hw,rfl⟩
 ·simp only[hw,lX,Oper.wpIn,Oper.semAt_eq _ _ _ hd,hv w hS,Oper.uponIn];exact⟨ed,h⟩
 ·simp only[hw,tg,pj];exact⟨ed,h⟩
theorem qG.of_same {o:Oper}{v:Value}{a a':Act}(hy:qG P ops S o v a)(he:execOp a'.eval o=execOp a.eval o)
  (hw:Region.wanted o (yielded ops a'.tmps)=Region.wanted o (yielded ops a.tmps)) (hb:∀w,o.about P w a'.eval=o.about P w a.eval):qG P ops S o v a':=
 ⟨hy.1.of_same he hw,fun w=>by rw[hb w];exact hy.2 w⟩
theorem aiO {j:Nat}{oi oj:Oper}{v:Value}(hj:ops[j]? =some oj)(Ud:∀c,oj.op≠ .defer c)(TC:oi.apart ops oj=true)
  (TD:∀cs b,oi.op≠ .select cs b) (TE:∀cs b,oj.op≠ .select cs b)
  (hQ:∀c a w,Q (.panic c) (a.put oi.dst v) w->Q (.panic c) a w) {K:Act->World->Prop} {a:Act} {w:World}
  (hy:qG P ops S oi v a) (h:wpOpIn F nn P ops Q j K (a.put oi.dst v) w):
  wpOpIn F nn P ops Q j (fun a' w'=>qG P ops S oi v a'/\K (a'.put oi.dst v) w') a w:=by
 obtain⟨h1,h2,h3⟩:=Oper.apart_spec TC
 have keep:∀(a:Act),qG P ops S oi v a->∀u,qG P ops S oi v (a.put oj.dst u):=fun a hy u=>
  hy.of_same (execOp_put oi TD a oj.dst u h3) (wanted_put oi a oj.dst u h3) (fun w=>about_put oi w a oj.dst u h3)
 have aiP:∀d,qG P ops S oi v { a with defers:=d::a.defers }:=fun d=>hy.of_same rfl rfl (fun _=>rfl)
 unfold wpOpIn at*;simp only[hj] at*;rw[wanted_put oj a oi.dst v h1,about_put oj w a oi.dst v h1] at h;split
 ·rename_i hw;simp only[hw,lX] at h;unfold Oper.wpIn at*;rw[about_put oj w a oi.dst v h1] at h;refine⟨h.1,?_⟩;have h:=h.2;rw[Oper.semAt_eq _ _ _ Ud,execOp_put oj TE a oi.dst v h1] at h;rw[Oper.semAt_eq _ _ _ Ud];generalize(execOp a.eval oj).run P w=r at*
  cases r with
  |ok x w'=>
   cases x<;>simp only[Oper.uponIn] at h⊢
   case value u=>exact⟨keep a hy u,by rw[<-Act.put_comm a v u h2];exact h⟩
   case skip=>exact⟨keep a hy _,by rw[<-Act.put_comm a v undef h2];exact h⟩
   case defer d=>
    refine⟨keep _ (aiP d) _,?_⟩;rw[<-Act.put_comm _ v undef h2,<-Act.put_defers];exact h
   case enter f args=>
    refine⟨h.1,CallsIn.mono h.2 fun e Ue he=> ?_⟩
    cases e with
    |returned u=>exact⟨keep a hy u,by rw[<-Act.put_comm a v u h2];exact he⟩
    |panicked c=>exact hQ _ _ _ he
    |outgrown=>exact he
   case row row args=>exact⟨h.1,RowsIn.mono h.2 fun u Ue he=>⟨keep a hy u,by rw[<-Act.put_comm a v u h2];exact he⟩⟩
   case round l f tmps assign body=>
    refine⟨h.1,RoundIn.mono h.2 fun e Ue he=> ?_⟩
    cases e with
    |returned u=>exact⟨keep a hy u,by rw[<-Act.put_comm a v u h2];exact he⟩
    |panicked c=>exact hQ _ _ _ he
    |outgrown=>exact he
  |halt x w'=>
   cases x<;>simp only[Oper.uponIn] at h⊢
   case panic u=>exact hQ _ _ _ h
 ·rename_i hw;simp only[hw] at h;exact⟨h.1,keep a hy _,by rw[<-Act.put_comm a v undef h2];exact h.2⟩
def Ef (F:Fence)(nn:Nat)(P:Program)(md:Region.Mode)(ops:Array Oper)(Q:Exit->Act->World->Prop)(S:World->Prop)(n:Nat)(L:Array Bool->Act->World->Prop):Nat->Array Bool->Act->World->Prop
 |0,listed,a,w=>L listed a w
 |f+1,listed,a,w=>
  Region.ready md ops listed≠[]/\∀i∈Region.ready md ops listed,i<n/\wpOpIn F nn P ops Q i (fun a' w'=>S w'/\Ef F nn P md ops Q S n L f (listed.setIfInBounds i true) a' w') a w
theorem Uf {n g:Nat}{L:Array Bool->Act->World->Prop}(hL:∀listed a w,L listed a w->wpAnyIn F nn P md ops Q g listed a w):
  ∀(f:Nat) (listed:Array Bool) (a:Act) (w:World),Ef F nn P md ops Q S n L f listed a w->wpAnyIn F nn P md ops Q (f+g) listed a w
 |0,listed,a,w,h=>by rw[fK];exact hL _ _ _ h
 |f+1,listed,a,w,h=>by
  rw[show f+1+g=(f+g)+1 by omega];exact⟨fun h0=>absurd h0 h.1,fun i hi=>wpOpIn_mono (fun a' w' h'=>Uf hL f _ a' w' h'.2) (h.2 i hi).2⟩
theorem aiQ {n i:Nat}{oi:Oper}{v:Value}{L:Array Bool->Act->World->Prop}(hi:ops[i]? =some oi)(fc:∀(j:Nat) (o:Oper) cs b,ops[j]? =some o->o.op≠ .select cs b)(oq:Ee ops=true)
  (hQ:∀c a w,Q (.panic c) (a.put oi.dst v) w->Q (.panic c) a w) (ht:mU md ops n=true) (bg:i<n)
  (hdone:∀listed a w,L listed a w->∀j∈Region.ready md ops listed,n<=j):
  ∀(f:Nat) (listed:Array Bool) (a:Act) (w:World),HeadInv md ops n listed->
   (∀j oj,ops[j]? =some oj->j≠i->listed.getD j true=false->(∀e∈oj.after,Region.binds md e=true->e.on≠i)->oi.apart ops oj=true)->
   i∈Region.ready md ops listed->qG P ops S oi v a->S w->
   Ef F nn P md ops Q S n L f (listed.setIfInBounds i true) (a.put oi.dst v) w->Ef F nn P md ops Q S n L (f+1) listed a w:=by
 intro f
 induction f with
 |zero=>
  intro listed a w inv _ hr hy hS H;have lr:=(mem_ready.1 hr).1;refine⟨fun h=>(by rw[h] at hr;cases hr),fun j hj=> ?_⟩;have tz:=HL ht inv bg lr j hj;refine⟨tz,?_⟩;by_cases iJ:j=i
  ·subst iJ;exact hy.wpOpIn hi (Le oq hi) hS ⟨hS,H⟩
  ·have:=hdone _ _ _ H j (ready_mono hj iJ);omega
 |succ f ih=>
  intro listed a w inv Ea hr hy hS H;have lr:=(mem_ready.1 hr).1;refine⟨fun h=>(by rw[h] at hr;cases hr),fun j hj=> ?_⟩;have tz:=HL ht inv bg lr j hj;refine⟨tz,?_⟩;by_cases iJ:j=i
  ·subst iJ;exact hy.wpOpIn hi (Le oq hi) hS ⟨hS,H⟩
  ·have h1:=(H.2 j (ready_mono hj iJ)).2;obtain⟨Eb,oj,xJ,gu⟩:=mem_ready.1 hj
   have Lc:∀e∈oj.after,Region.binds md e=true->e.on≠i:=fun e he hb heq=>by
    have h1:=gu e he hb;rw[heq,getD_both lr] at h1;cases h1
   have h2:=aiO xJ (Le oq xJ) (Ea j oj xJ iJ Eb Lc) (fun cs b=>fc i oi cs b hi) (fun cs b=>fc j oj cs b xJ) hQ hy h1
   have Ld:∀k ok,ops[k]? =some ok->k≠i->(listed.setIfInBounds j true).getD k true=false->
     (∀e∈ok.after,Region.binds md e=true->e.on≠i)->oi.apart ops ok=true:=fun k ok hk vV lr hno=>by
    refine Ea k ok hk vV ?_ hno;by_cases dx:j=k
    ·subst dx;exact Eb
    ·rw[getD_set_ne true dx] at lr;exact lr
   refine wpOpIn_mono (fun a' w' h3=>⟨h3.2.1,ih (listed.setIfInBounds j true) a' w' (inv.set hj tz) Ld (ready_mono hr (Ne.symm iJ)) h3.1 h3.2.1 ?_⟩) h2;rw[Array.setIfInBounds_comm _ _ iJ];exact h3.2.2
def mX (F:Fence)(nn:Nat)(P:Program)(ops:Array Oper)(Q:Exit->Act->World->Prop)(S:World->Prop)(G:Act->World->Prop):List (Oper×Bool)->Act->World->Prop
 |[],a,w=>G a w
 |(o,true)::r,a,w=>∃v,qG P ops S o v a/\mX F nn P ops Q S G r (a.put o.dst v) w
 |(o,false)::r,a,w=>if Region.wanted o (yielded ops a.tmps)=true then Oper.wpIn F nn P o a w (fun a' w'=>S w'/\mX F nn P ops Q S G r a' w') Q else(∀f,o.about P w a.eval=some f->F.fn f)/\(S w/\mX F nn P ops Q S G r (a.put o.dst undef) w)
theorem HO {l:List Oper}{n:Nat}{G:Act->World->Prop}(fc:Region.noSelect l.toArray=true)(oq:Ee l.toArray=true)(hQ:∀c a d v w,Q (.panic c) (a.put d v) w->Q (.panic c) a w)(ht:mU md l.toArray n=true):
  ∀(ord:List (Nat×Bool)) (rs:List (Oper×Bool)) (listed:Array Bool) (a:Act) (w:World),pick l ord=some rs->HeadInv md l.toArray n listed->vW md l.toArray n ord listed=true->S w->mX F nn P l.toArray Q S G rs a w->
   Ef F nn P md l.toArray Q S n (fun listed' a' w'=>Region.seqB md l.toArray (l.toArray.size-n) n listed'=true/\G a' w') ord.length listed a w
 |[],rs,listed,a,w,hp,inv,hB,hS,h=>by
  simp only[pick,ar] at hp;subst hp;exact⟨hB,h⟩
 |(i,b)::r,rs,listed,a,w,hp,inv,hB,hS,h=>by
  simp only[pick] at hp;split at hp
  ·rename_i o rK ho hr;simp only[ar] at hp;subst hp
   have mW:l.toArray[i]? =some o:=by simpa using ho
   cases b with
   |true=>
    simp only[vW,bN,dv] at hB;obtain⟨⟨⟨h1,h2⟩,h3⟩,h4⟩:=hB;obtain⟨v,hy,hK⟩:=h
    have jJ:i∈Region.ready md l.toArray listed:=by simpa using h2
    exact aiQ mW (Region.noSelect_spec fc) oq (fun c a w=>hQ c a _ _ w) ht h1 (fun listed' a' w' hL=>seqB_ready hL.1) r.length listed a w inv (Region.free_spec mW h3) jJ hy hS
     (HO fc oq hQ ht r rK _ _ _ hr (inv.set jJ h1) h4 hS hK)
   |false=>
    simp only[vW,bN,dv] at hB;obtain⟨⟨h1,h2⟩,h4⟩:=hB;refine⟨fun h0=>by(rw[h2] at h0;cases h0),fun j hj=> ?_⟩;have jJ:=hj;rw[h2] at hj
    have iJ:j=i:=by simpa using hj
    subst iJ;refine⟨h1,?_⟩;unfold wpOpIn;simp only[mW];have h':if Region.wanted o (yielded l.toArray a.tmps)=true then Oper.wpIn F nn P o a w (fun a' w'=>S w'/\mX F nn P l.toArray Q S G rK a' w') Q else(∀f,o.about P w a.eval=some f->F.fn f)/\(S w/\mX F nn P l.toArray Q S G rK (a.put o.dst undef) w):=h;split
    ·rename_i hw;rw[if_pos hw] at h';exact Oper.wpIn_mono (fun a' w' hh=>⟨hh.1,HO fc oq hQ ht r rK _ _ _ hr (inv.set jJ h1) h4 hh.1 hh.2⟩) h'
    ·rename_i hw;rw[if_neg hw] at h';exact⟨h'.1,h'.2.1,HO fc oq hQ ht r rK _ _ _ hr (inv.set jJ h1) h4 h'.2.1 h'.2.2⟩
  ·cases hp
theorem Ug {Q':Exit->Act->World->Prop}:∀(l:List Oper) (k:Nat) (listed:Array Bool) (a:Act) (w:World),(∀j,l[j]? =ops[k+j]?)->
  Region.seqB md ops l.length k listed=true->wpListIn F nn P ops Q' l a w->wpAnyIn F nn P md ops Q' l.length listed a w
 |[],_,_,_,_,_,hB,h=>⟨by simpa [Region.seqB] using hB,h⟩
 |o::l,k,listed,a,w,hl,hB,h=>by
  have h0:ops[k]? =some o:=by simpa using(hl 0).symm
  simp only[List.length_cons,Region.seqB,bN,dv] at hB;refine⟨fun h1=>(by rw[hB.1] at h1;cases h1),fun i hi=> ?_⟩;rw[hB.1] at hi
  have Eg:i=k:=by simpa using hi
  subst Eg
  have hw:wpOpIn F nn P ops Q' i (wpListIn F nn P ops Q' l) a w:=by unfold wpOpIn;simp only[h0];exact h
  exact wpOpIn_mono (fun a' w' h'=>Ug l (i+1) _ a' w' (fun j=>by have:=hl (j+1);simpa [Nat.add_assoc,zx 1 j] using this) hB.2 h') hw
theorem Lf {id:Nat}{a:Act}{w:World}{l:List Oper}(n:Nat)(ord:List (Nat×Bool))(S:World->Prop){rs:List (Oper×Bool)}{tl:List Oper}(hm:P.follows .mixedOrders=true)(hp:pick l ord=some rs)(kt:l.drop n=tl)(hB:BA .any l.toArray n ord=true)(oq:Ee l.toArray=true)
  (hQ:∀c a t w,Q (.panic c) { a with tmps:=t } w->Q (.panic c) a w) (hS:S w.drew)
  (h:mX F nn P l.toArray Q S (wpListIn F nn P l.toArray Q tl) rs a w.drew):(Code.region id l.toArray true).wpIn F nn P Q a w:=by
 subst kt;simp only[BA,bN,dv] at hB;obtain⟨⟨⟨fc,ht⟩,hlen⟩,Ec⟩:=hB
 have hn:n<=l.length:=by
  simp only[mU,og,bN,dv,zr] at ht;omega
 have Ed:HeadInv .any l.toArray n (Array.replicate l.toArray.size false):=
  ⟨ae,fun j oj _ hl=>(by rw[getD_replicate_false] at hl;cases hl),fun t _ ht=>getD_in (by simpa using ht) (getD_replicate_false _ _)⟩
 have H:=HO (md:=.any) fc oq (Ub hQ) ht ord rs _ a w.drew hp Ed Ec hS h;refine wpIn_region_any hm ?_
 have:=Uf (Q:=Q) (g:=l.toArray.size-n) (fun listed a' w' hL=>by
  have:=Ug (md:=.any) (Q':=Q) (l.drop n) n listed a' w' (fun j=>by simp[lW]) (by rw[lj];simpa using hL.1) hL.2
  rwa[lj,show l.length-n=l.toArray.size-n by simp] at this) _ _ _ _ H
 rw[hlen,show n+(l.toArray.size-n)=l.toArray.size by simp;omega] at this;exact this
theorem Uh {id:Nat}{a:Act}{w:World}{l:List Oper}(n:Nat)(ord:List (Nat×Bool))(S:World->Prop){rs:List (Oper×Bool)}{tl:List Oper}(hm:P.follows .mixedOrders=true)(hp:pick l ord=some rs)(kt:l.drop n=tl)(hB:BA .any l.toArray n ord=true)(oq:Ee l.toArray=true)(hS:S w.drew)
  (h:mX F nn P l.toArray (NoPanic Q) S (wpListIn F nn P l.toArray (NoPanic Q) tl) rs a w.drew):(Code.region id l.toArray true).wpIn F nn P Q a w:=
 wpIn_mono (Lf n ord S hm hp kt hB oq (fun _ _ _ _ h=>h) hS h) NoPanic.imp
theorem HP {G:Act->World->Prop}{a:Act}{w:World}(h:G a w):mX F nn P ops Q S G [] a w:=h
theorem aiR {G:Act->World->Prop}{a:Act}{w:World}{o:Oper}{r:List (Oper×Bool)}(v:Value)(hw:Region.wanted o (yielded ops a.tmps)=true)(ed:∀w,o.about P w a.eval=none)(hy:∀w,S w->(execOp a.eval o).run P w=.ok (.value v) w)
  (h:mX F nn P ops Q S G r (a.put o.dst v) w):mX F nn P ops Q S G ((o,true)::r) a w:=⟨v,⟨.inl ⟨hw,hy⟩,ed⟩,h⟩
theorem aiS {G:Act->World->Prop}{a:Act}{w:World}{o:Oper}{r:List (Oper×Bool)}(hw:Region.wanted o (yielded ops a.tmps)=false)(ed:∀w,o.about P w a.eval=none)
  (h:mX F nn P ops Q S G r (a.put o.dst undef) w):mX F nn P ops Q S G ((o,true)::r) a w:=⟨undef,⟨.inr ⟨hw,rfl⟩,ed⟩,h⟩
theorem Lg {G:Act->World->Prop}{a:Act}{w:World}{o:Oper}{r:List (Oper×Bool)}
  (h:∀K':Act->World->Prop,Shut (∀a w,S w->mX F nn P ops Q S G r a w->K' a w)->if Region.wanted o (yielded ops a.tmps)=true then Oper.wpIn F nn P o a w K' Q else(∀f,o.about P w a.eval=some f->F.fn f)/\K' (a.put o.dst undef) w):mX F nn P ops Q S G ((o,false)::r) a w:=
 h _ (fun _ _ hS h=>⟨hS,h⟩)
end
end
section
open Go
inductive OT where
 |nil
 |take (i:Nat) (t:OT)
 |move (i:Nat) (t:OT)
 |fork (i j:Nat) (ti tj:OT)
 |qH (i j k:Nat) (ti tj tk:OT)
section
variable {P:Program} {ops:Array Oper} {Q:Exit->Act->World->Prop} {md:Region.Mode} {S:World->Prop}
def lu (md:Region.Mode)(ops:Array Oper)(n:Nat):OT->Nat->Array Bool->Bool
 | .nil,d,listed=>decide (d=0) && Region.seqB md ops (ops.size-n) n listed
 | .take i t,d,listed=>decide (0<d) && decide (i<n) && (Region.ready md ops listed).contains i && Region.free md ops listed i && lu md ops n t (d-1) (listed.setIfInBounds i true)
 | .move i t,d,listed=>decide (0<d) && decide (i<n) && decide (Region.ready md ops listed=[i]) && lu md ops n t (d-1) (listed.setIfInBounds i true)
 | .fork i j ti tj,d,listed=>decide (0<d) && decide (i<n) && decide (j<n) && decide (Region.ready md ops listed=[i,j]) && lu md ops n ti (d-1) (listed.setIfInBounds i true) && lu md ops n tj (d-1) (listed.setIfInBounds j true)
 | .qH i j k ti tj tk,d,listed=>decide (0<d) && decide (i<n) && decide (j<n) && decide (k<n) && decide (Region.ready md ops listed=[i,j,k]) && lu md ops n ti (d-1) (listed.setIfInBounds i true) && lu md ops n tj (d-1) (listed.setIfInBounds j true) && lu md ops n tk (d-1) (listed.setIfInBounds k true)
def xN (P:Program)(ops:Array Oper)(Q:Exit->Act->World->Prop)(S:World->Prop)(l:List Oper)(i:Nat)(K:Act->World->Prop)(a:Act)(w:World):Prop:=
 ∃o,l[i]? =some o/\if Region.wanted o (yielded ops a.tmps)=true then Oper.wp P o a w (fun a' w'=>S w'/\K a' w') Q else S w/\K (a.put o.dst undef) w
def gy (P:Program)(ops:Array Oper)(Q:Exit->Act->World->Prop)(S:World->Prop)(F:Act->World->Prop)(l:List Oper):OT->Act->World->Prop
 | .nil,a,w=>F a w
 | .take i t,a,w=>∃o v,l[i]? =some o/\YieldsIf P ops S o v a/\gy P ops Q S F l t (a.put o.dst v) w
 | .move i t,a,w=>xN P ops Q S l i (gy P ops Q S F l t) a w
 | .fork i j ti tj,a,w=>xN P ops Q S l i (gy P ops Q S F l ti) a w/\xN P ops Q S l j (gy P ops Q S F l tj) a w
 | .qH i j k ti tj tk,a,w=>xN P ops Q S l i (gy P ops Q S F l ti) a w/\xN P ops Q S l j (gy P ops Q S F l tj) a w/\xN P ops Q S l k (gy P ops Q S F l tk) a w
theorem BB {l:List Oper}{i:Nat}{K K':Act->World->Prop}{a:Act}{w:World}(h:xN P l.toArray Q S l i K a w)(hK:∀a w,S w->K a w->K' a w):wpOp P l.toArray Q i (fun a' w'=>S w'/\K' a' w') a w:=by
 obtain⟨o,ho,h⟩:=h;unfold wpOp
 have mW:l.toArray[i]? =some o:=by simpa using ho
 simp only[mW];split
 ·rename_i hw;rw[if_pos hw] at h;exact .inl (Oper.wp_mono (fun a' w' hh=>⟨hh.1,hK a' w' hh.1 hh.2⟩) h)
 ·rename_i hw;rw[if_neg hw] at h;exact⟨h.1,hK _ _ h.1 h.2⟩
theorem xQ {l:List Oper}{n:Nat}{F:Act->World->Prop}(fc:Region.noSelect l.toArray=true)(hQ:∀c a d v w,Q (.panic c) (a.put d v) w->Q (.panic c) a w)(ht:mU md l.toArray n=true):
  ∀(t:OT) (d:Nat) (listed:Array Bool) (a:Act) (w:World),HeadInv md l.toArray n listed->lu md l.toArray n t d listed=true->S w->gy P l.toArray Q S F l t a w->
   Bw P md l.toArray Q S n (fun listed' a' w'=>Region.seqB md l.toArray (l.toArray.size-n) n listed'=true/\F a' w') d listed a w
 | .nil,d,listed,a,w,inv,hB,hS,h=>by
  simp only[lu,bN,dv] at hB;obtain⟨rfl,h2⟩:=hB;exact⟨h2,h⟩
 | .take i t,d,listed,a,w,inv,hB,hS,h=>by
  simp only[lu,bN,dv] at hB;obtain⟨⟨⟨⟨h0,h1⟩,h2⟩,h3⟩,h4⟩:=hB
  obtain⟨d,rfl⟩:∃e,d=e+1:=⟨d-1,aa⟩
  obtain⟨o,v,ho,hy,hK⟩:=h
  have mW:l.toArray[i]? =some o:=by simpa using ho
  have jJ:i∈Region.ready md l.toArray listed:=by simpa using h2
  exact Ua mW (Region.noSelect_spec fc) (fun c a w=>hQ c a _ _ w) ht h1 (fun listed' a' w' hL=>seqB_ready hL.1) d listed a w inv (Region.free_spec mW h3) jJ hy hS
   (xQ fc hQ ht t d _ _ _ (inv.set jJ h1) (by simpa using h4) hS hK)
 | .move i t,d,listed,a,w,inv,hB,hS,h=>by
  simp only[lu,bN,dv] at hB;obtain⟨⟨⟨h0,h1⟩,h2⟩,h4⟩:=hB
  obtain⟨d,rfl⟩:∃e,d=e+1:=⟨d-1,aa⟩
  have jJ:i∈Region.ready md l.toArray listed:=by rw[h2];simp
  refine⟨fun e=>by(rw[h2] at e;cases e),fun j hj=> ?_⟩;rw[h2] at hj
  have iJ:j=i:=by simpa using hj
  subst iJ;exact⟨h1,BB h fun a' w' hs hk=>xQ fc hQ ht t d _ _ _ (inv.set jJ h1) (by simpa using h4) hs hk⟩
 | .fork i j ti tj,d,listed,a,w,inv,hB,hS,h=>by
  simp only[lu,bN,dv] at hB;obtain⟨⟨⟨⟨⟨h0,h1⟩,rL⟩,h2⟩,h4⟩,h5⟩:=hB
  obtain⟨d,rfl⟩:∃e,d=e+1:=⟨d-1,aa⟩
  have jJ:i∈Region.ready md l.toArray listed:=by rw[h2];simp
  have Lh:j∈Region.ready md l.toArray listed:=by rw[h2];simp
  refine⟨fun e=>by(rw[h2] at e;cases e),fun x hx=> ?_⟩;rw[h2] at hx
  have Li:x=i\/x=j:=by simpa using hx
  rcases Li with rfl|rfl
  ·exact⟨h1,BB h.1 fun a' w' hs hk=>xQ fc hQ ht ti d _ _ _ (inv.set jJ h1) (by simpa using h4) hs hk⟩
  ·exact⟨rL,BB h.2 fun a' w' hs hk=>xQ fc hQ ht tj d _ _ _ (inv.set Lh rL) (by simpa using h5) hs hk⟩
 | .qH i j k ti tj tk,d,listed,a,w,inv,hB,hS,h=>by
  simp only[lu,bN,dv] at hB;obtain⟨⟨⟨⟨⟨⟨⟨h0,h1⟩,rL⟩,Ui⟩,h2⟩,h4⟩,h5⟩,h6⟩:=hB
  obtain⟨d,rfl⟩:∃e,d=e+1:=⟨d-1,aa⟩
  have jJ:i∈Region.ready md l.toArray listed:=by rw[h2];simp
  have Lh:j∈Region.ready md l.toArray listed:=by rw[h2];simp
  have tA:k∈Region.ready md l.toArray listed:=by rw[h2];simp
  refine⟨fun e=>by(rw[h2] at e;cases e),fun x hx=> ?_⟩;rw[h2] at hx
  have Li:x=i\/x=j\/x=k:=by simpa using hx
  rcases Li with rfl|rfl|rfl
  ·exact⟨h1,BB h.1 fun a' w' hs hk=>xQ fc hQ ht ti d _ _ _ (inv.set jJ h1) (by simpa using h4) hs hk⟩
  ·exact⟨rL,BB h.2.1 fun a' w' hs hk=>xQ fc hQ ht tj d _ _ _ (inv.set Lh rL) (by simpa using h5) hs hk⟩
  ·exact⟨Ui,BB h.2.2 fun a' w' hs hk=>xQ fc hQ ht tk d _ _ _ (inv.set tA Ui) (by simpa using h6) hs hk⟩
theorem Uj {id:Nat}{a:Act}{w:World}{l:List Oper}(n:Nat)(t:OT)(S:World->Prop){tl:List Oper}(hm:P.follows .mixedOrders=true)(kt:l.drop n=tl)
  (hB:(Region.noSelect l.toArray && mU .any l.toArray n && lu .any l.toArray n t n (Array.replicate l.toArray.size false))=true) (hS:S w.drew)
  (h:gy P l.toArray (NoPanic Q) S (wpList P l.toArray (NoPanic Q) tl) l t a w.drew):(Code.region id l.toArray true).wp P Q a w:=by
 subst kt;refine Code.wp_mono NoPanic.imp ?_;simp only[bN] at hB;obtain⟨⟨fc,ht⟩,Ec⟩:=hB
 have hn:n<=l.length:=by
  simp only[mU,og,bN,dv,zr] at ht;omega
 have Ed:HeadInv .any l.toArray n (Array.replicate l.toArray.size false):=
  ⟨ae,fun j oj _ hl=>(by rw[getD_replicate_false] at hl;cases hl),fun t _ ht=>getD_in (by simpa using ht) (getD_replicate_false _ _)⟩
 have H:=xQ (md:=.any) fc (fun c a d v w h=>h) ht t n _ a w.drew Ed Ec hS h;refine wp_region_any hm ?_
 have:=Lb (Q:=NoPanic Q) (g:=l.toArray.size-n) (fun listed a' w' hL=>by
  have:=wpAny_of_seq (md:=.any) (Q':=NoPanic Q) (l.drop n) n listed a' w' (fun j=>by simp[lW]) (by rw[lj];simpa using hL.1) hL.2
  rwa[lj,show l.length-n=l.toArray.size-n by simp] at this) _ _ _ _ H
 rw[show n+(l.toArray.size-n)=l.toArray.size by simp;omega] at this;exact this
theorem HQ {F:Act->World->Prop}{l:List Oper}{a:Act}{w:World}(h:F a w):gy P ops Q S F l .nil a w:=h
theorem aiT {F:Act->World->Prop}{l:List Oper}{i:Nat}{t:OT}{a:Act}{w:World}{o:Oper}(ho:l[i]? =some o)(v:Value)(hw:Region.wanted o (yielded ops a.tmps)=true)(hy:∀w,S w->(execOp a.eval o).run P w=.ok (.value v) w)
  (h:gy P ops Q S F l t (a.put o.dst v) w):gy P ops Q S F l (.take i t) a w:=⟨o,v,ho,.inl ⟨hw,hy⟩,h⟩
theorem aiU {l:List Oper}{i:Nat}{K:Act->World->Prop}{a:Act}{w:World}{o:Oper}(ho:l[i]? =some o)
  (h:∀K':Act->World->Prop,Shut (∀a w,S w->K a w->K' a w)->if Region.wanted o (yielded ops a.tmps)=true then Oper.wp P o a w K' Q else K' (a.put o.dst undef) w):xN P ops Q S l i K a w:=
 ⟨o,ho,h _ (fun _ _ hS h=>⟨hS,h⟩)⟩
theorem ot {F:Act->World->Prop}{l:List Oper}{i:Nat}{t:OT}{a:Act}{w:World}{o:Oper}(ho:l[i]? =some o)
  (h:∀K':Act->World->Prop,Shut (∀a w,S w->gy P ops Q S F l t a w->K' a w)->if Region.wanted o (yielded ops a.tmps)=true then Oper.wp P o a w K' Q else K' (a.put o.dst undef) w):gy P ops Q S F l (.move i t) a w:=
 aiU ho h
theorem Lj {F:Act->World->Prop}{l:List Oper}{i j:Nat}{ti tj:OT}{a:Act}{w:World}(h1:gy P ops Q S F l (.move i ti) a w)(h2:gy P ops Q S F l (.move j tj) a w):gy P ops Q S F l (.fork i j ti tj) a w:=⟨h1,h2⟩
end
end
section
open Go Go.RowKit
structure Bz (p:Prop):Prop where
 out:p
theorem bc {B:Nat}{a w:World}(h:Below B a w:=by repeat (first|exact Below.refl _ _|assumption|refine Below.drew ?_|refine below_drewN ?_ _|refine Below.alloc ?_ (by simp<;>omega) _|refine Below.setCell ?_ (by simp<;>omega) _)):Below B a w:=h
theorem xR {A B:Prop}(h:B)(g:Bz B->A:=by intro hB;(refine aiM ?_ kZ ?_ ?_;rotate_left;(intro w Eh;(try dsimp only at Eh);go_simp;try with_reducible rfl);(try simp only[Act.put,List.setIfInBounds_toArray,List.set_cons_zero,List.set_cons_succ]));exact hB.out):A:=g ⟨h⟩
theorem Ei {A B:Prop}(h:B)(g:Bz B->A:=by intro hB;(refine aiN kZ ?_;(try simp only[Act.put,List.setIfInBounds_toArray,List.set_cons_zero,List.set_cons_succ]));exact hB.out):A:=g ⟨h⟩
theorem BC {A B:Prop}(h:B)(g:Bz B->A:=by intro hB;(refine aiR ?_ kZ (fun _=>kZ) ?_ ?_;rotate_left;(intro w Eh;(try dsimp only at Eh);go_simp;try with_reducible rfl);(try simp only[Act.put,List.setIfInBounds_toArray,List.set_cons_zero,List.set_cons_succ]));exact hB.out):A:=g ⟨h⟩
theorem aiV {A B:Prop}(h:B)(g:Bz B->A:=by intro hB;(refine aiS kZ (fun _=>kZ) ?_;(try simp only[Act.put,List.setIfInBounds_toArray,List.set_cons_zero,List.set_cons_succ]));exact hB.out):A:=g ⟨h⟩
theorem HR {A B:Prop}(h:B)(g:Bz B->A:=by intro hB;(refine aiT rfl ?_ kZ ?_ ?_;rotate_left;(intro w Eh;(try dsimp only at Eh);go_simp;try with_reducible rfl);(try simp only[Act.put,List.setIfInBounds_toArray,List.set_cons_zero,List.set_cons_succ]));exact hB.out):A:=g ⟨h⟩
end
section
open Go.RowKit
theorem Below.then {w W w1:World}(h:Below w.heap.size w W)(h1:Below W.heap.size W w1):Below w.heap.size w w1:=h.trans (h1.mono h.size)
theorem iW {W w1:World}(hb:Below W.heap.size W w1):∀b o,b<W.heap.size->w1.cell? ⟨b,o,none⟩=W.cell? ⟨b,o,none⟩:=fun b o h=>hb.cell (p:=⟨b,o,none⟩) h
def bI (a b:af):Bool:=(b.ev.kind==3||b.ev.kind==5||b.ev.kind==6) &&
 a.sent.any fun m=>m.copy==0 && m.node==b.ev.msg.node && m.handler==b.ev.msg.handler && m.count==b.ev.msg.count && m.index==b.ev.msg.index
def bP (a b:af):Bool:=a.ev.node==b.ev.node||(a.ax && b.ax)||bI a b||bI b a
theorem Uk (l:List af)(n:Int)(v:Value)(w:World)(hl:bU w v l)(hs:l.length<=1000000):
  Calls Tryz.prog 24 #[v,I n] w fun e w'=>∃u,e=.returned u/\bU w' u (l.filter fun s=>s.ev.node==n)/\Below w.heap.size w w':=by
 obtain⟨ka,ca,rfl,ft⟩:=hl.open;go_enter Tryz.func24,Tryz.ntmps24;go_wp2
 go_loopw [5,6] (fun v i wr=>∃(k m:Nat) (xs:List Value),k<=l.length/\i=.int .i64 k/\m<=k/\wr.ownsRow w.heap.size 67 11 v m xs/\m=((l.take k).filter fun s=>s.ev.node==n).length/\
   eb w ((l.take k).filter fun s=>s.ev.node==n) xs/\Below w.heap.size w wr) (fun _ i _=>l.length-(intOf i).toNat)
 case atStart=>exact⟨0,0,[],aa,rfl,aa,lf _ _ _ _,rfl,rfl,Below.refl _ _⟩
 case round=>
  obtain⟨k,m,xs,hk,rfl,xS,bE,hm,hcs,hB⟩:=hrel;have Hm:=ab hm;clear hm;by_cases hlt:k<l.length
  ·obtain⟨b,o,va,vs,rfl,dy,dk,x0,x1,x2,x3,x4,x5,x6,x7,x8,x9,x10⟩:=hl.at (i:=k) (s:=l[k]) (by simp[hlt]);obtain⟨qa,da,rfl,_⟩:=dy.open;obtain⟨qs,ds,rfl,_⟩:=dk.open;have hcc:=iW hB;have vX:=hB.size
   have fC:b<w.heap.size:=by simpa using ic _ _ x0
   have cm:l.take (k+1)=l.take k++[l[k]]:=by rw[ki hlt]
   by_cases hx:l[k].ev.node=n
   ·have hq:(l[k].ev.node==n)=true:=by simp[hx]
    have Hx:=ab hx;have Ht:=ab cm;clear hx cm
    go_wp2_with (at_builtin;refine Bu rfl _ _ 28 rfl 67 _ 11 120 Tryz.underlying28 Bv rfl aa aa w.heap.size _ m xs rfl (bE.alloc _) wr.heap.size 1 1 _ 67 rfl (jH _ _) rfl rfl aa aa (by simp;omega) ?_;intro g cap w1 eP qI xU xV jq ay)
    go_roundw
    case rel=>
     refine⟨k+1,m+1,_,aa,by go_num,aa,xV,?_,?_,(hB.alloc vX _).trans ay⟩
     ·rw[Ht.out,fY,List.length_append,<-Hm.out];simp[Hx.out]
     ·rw[Ht.out,fY];refine eb.append hcs ?_;simp only[oe,Hx.out,beq_self_eq_true,lX,List.filter_nil];have h1:=eb.one dy dk;unfold af.row at h1;rw[Hx.out] at h1;exact h1
    case measure=>simp[intOf];omega
   ·have hq:(l[k].ev.node==n)=false:=by simp[hx]
    have Ht:=ab cm;clear hx cm;go_wp2;go_roundw
    case rel=>
     refine⟨k+1,m,xs,aa,by go_num,aa,bE,?_,?_,hB⟩
     ·rw[Ht.out,fY,List.length_append,<-Hm.out];simp[hq]
     ·rw[Ht.out,fY];simpa [oe,hq] using hcs
    case measure=>simp[intOf];omega
  ·go_wp2;go_ret;refine⟨_,rfl,?_,hB⟩;rw[List.take_of_length_le aa] at hcs Hm;exact bU.iU bE Hm.out hcs hB av
theorem Ul (l:List af)(v:Value)(w:World)(hl:bU w v l)(hs:l.length<=1000000):
  Calls Tryz.prog 25 #[v] w fun e w'=>∃u,e=.returned u/\bU w' u (l.filter fun s=>s.ax)/\Below w.heap.size w w':=by
 obtain⟨ka,ca,rfl,ft⟩:=hl.open;go_enter Tryz.func25,Tryz.ntmps25;go_wp2
 go_loopw [3,4] (fun v i wr=>∃(k m:Nat) (xs:List Value),k<=l.length/\i=.int .i64 k/\m<=k/\wr.ownsRow w.heap.size 67 11 v m xs/\m=((l.take k).filter fun s=>s.ax).length/\
   eb w ((l.take k).filter fun s=>s.ax) xs/\Below w.heap.size w wr) (fun _ i _=>l.length-(intOf i).toNat)
 case atStart=>exact⟨0,0,[],aa,rfl,aa,lf _ _ _ _,rfl,rfl,Below.refl _ _⟩
 case round=>
  obtain⟨k,m,xs,hk,rfl,xS,bE,hm,hcs,hB⟩:=hrel;have Hm:=ab hm;clear hm;by_cases hlt:k<l.length
  ·obtain⟨b,o,va,vs,rfl,dy,dk,x0,x1,x2,x3,x4,x5,x6,x7,x8,x9,x10⟩:=hl.at (i:=k) (s:=l[k]) (by simp[hlt]);obtain⟨qa,da,rfl,_⟩:=dy.open;obtain⟨qs,ds,rfl,_⟩:=dk.open;have hcc:=iW hB;have vX:=hB.size
   have fC:b<w.heap.size:=by simpa using ic _ _ x0
   have cm:l.take (k+1)=l.take k++[l[k]]:=by rw[ki hlt]
   by_cases hx:l[k].ax=true
   ·have hq:l[k].ax=true:=hx;have Hx:=ab hx;have Ht:=ab cm;clear hx cm
    go_wp2_with (at_builtin;refine Bu rfl _ _ 28 rfl 67 _ 11 120 Tryz.underlying28 Bv rfl aa aa w.heap.size _ m xs rfl (bE.alloc _) wr.heap.size 1 1 _ 67 rfl (jH _ _) rfl rfl aa aa (by simp;omega) ?_;intro g cap w1 eP qI xU xV jq ay)
    go_roundw
    case rel=>
     refine⟨k+1,m+1,_,aa,by go_num,aa,xV,?_,?_,(hB.alloc vX _).trans ay⟩
     ·rw[Ht.out,fY,List.length_append,<-Hm.out];simp[Hx.out]
     ·rw[Ht.out,fY];refine eb.append hcs ?_;simp only[oe,Hx.out,lX,List.filter_nil];have h1:=eb.one dy dk;unfold af.row at h1;rw[Hx.out] at h1;exact h1
    case measure=>simp[intOf];omega
   ·have hq:l[k].ax=false:=by simpa using hx
    have Ht:=ab cm;clear hx cm;go_wp2;go_roundw
    case rel=>
     refine⟨k+1,m,xs,aa,by go_num,aa,bE,?_,?_,hB⟩
     ·rw[Ht.out,fY,List.length_append,<-Hm.out];simp[hq]
     ·rw[Ht.out,fY];simpa [oe,hq] using hcs
    case measure=>simp[intOf];omega
  ·go_wp2;go_ret;refine⟨_,rfl,?_,hB⟩;rw[List.take_of_length_le aa] at hcs Hm;exact bU.iU bE Hm.out hcs hB av
end
section
open Go.RowKit
def aQ:List Int->List Int->Int
 |[],[]=>0
 |[],_::_=> -1
 |_::_,[]=>1
 |a::l,b::m=>if a<b then -1 else if b<a then 1 else aQ l m
theorem Um (l m:List Int)(h:l=[]\/m=[]):aQ l m=if l.length<m.length then -1 else if m.length<l.length then 1 else 0:=by
 rcases h with rfl|rfl
 ·cases m<;>simp[aQ]
 ·cases l<;>simp[aQ]
def Ask.key (a:Ask):List Int:=[a.node,a.handler,a.count,a.kind,a.index,a.n]
def af.key (s:af):List Int:=s.ev.ints++s.asks.flatMap Ask.key
end
section
open Go.RowKit
theorem zA {w w1:World}{B k n:Nat}{e:TypeId}{v:Value}{xs:List Value}(h:w.ownsRow B e k v n xs)(hB:Below w.heap.size w w1):w1.ownsRow B e k v n xs:=
 h.kept (row:=none) ⟨hB.os,hB.tape,hB.output,hB.size,fun k' hk _=>hB.block k' hk⟩ (by cases hv:v.ownBlock<;>simp)
theorem aiW {w:World}{g:Nat}{cs:Array Value}{t:TypeId}(h:w.heap[g]? =some (.cells cs t (0,0))):az w g cs:=⟨t,h⟩
def Kp (w:World)(cs:Array Value)(X:World):Prop:=az X w.heap.size cs/\Below w.heap.size w X/\w.heap.size+1<=X.heap.size
theorem Kp.S {w X:World}{cs:Array Value}(h:Kp w cs X):(∀j,X.cell? ⟨w.heap.size,j,none⟩=cs[j]?)/\(∀b o,b<w.heap.size->X.cell? ⟨b,o,none⟩=w.cell? ⟨b,o,none⟩):=
 ⟨h.1.cell,fun b o hb=>h.2.1.cell (p:=⟨b,o,none⟩) hb⟩
theorem Kp.drew {w X:World}{cs:Array Value}(h:Kp w cs X):Kp w cs X.drew:=⟨h.1,h.2.1.drew,h.2.2⟩
theorem Kp.alloc {w X:World}{cs:Array Value}(h:Kp w cs X)(o:Obj):Kp w cs (X.alloc o):=⟨h.1.alloc o,h.2.1.alloc (by have:=h.2.2;omega) o,by have:=h.2.2;simp;omega⟩
theorem Kp.call {w X w1:World}{cs:Array Value}(h:Kp w cs X)(hB:Below X.heap.size X w1):Kp w cs w1:=
 ⟨h.1.kept hB (by have:=h.2.2;omega),h.2.1.trans (hB.mono (by have:=h.2.2;omega)),by have:=h.2.2;have:=hB.size;omega⟩
theorem Kp.app {w X w1:World}{cs:Array Value}(h:Kp w cs X){row:Option Nat}(hg:X.grownBy w1 row)(hne:row≠some w.heap.size)(hB:Below (w.heap.size+1) X w1):Kp w cs w1:=
 ⟨h.1.grown hg hne,h.2.1.trans (hB.mono aa),by have:=h.2.2;have:=hB.size;omega⟩
end
section
open Go.RowKit
def fD (a b:Int):Int:=if a<b then -1 else if b<a then 1 else 0
def kH:List Int->Int
 |[]=>0
 |a::l=>if a !=0 then a else kH l
def jr:List Int->Int
 |a::b::l=>if fD a b !=0 then fD a b else jr l
 |_=>0
theorem lv (a b:Int)(l m:List Int):aQ (a::l) (b::m)=if fD a b !=0 then fD a b else aQ l m:=by
 simp only[aQ,fD];by_cases h1:a<b
 ·simp[h1]
 ·by_cases h2:b<a<;>simp[h1,h2]
theorem BD:∀(l m l' m':List Int),l.length=m.length->aQ (l++l') (m++m')=if aQ l m !=0 then aQ l m else aQ l' m'
 |[],[],l',m',_=>by simp[aQ]
 |a::l,b::m,l',m',h=>by
  have ih:=BD l m l' m' (by simpa using h);rw[List.cons_append,List.cons_append,lv,lv,ih];by_cases h1:fD a b=0
  ·simp[h1]
  ·have:(fD a b !=0)=true:=by simpa using h1
   simp[this]
 |[],_::_,_,_,h=>by simp at h
 |_::_,[],_,_,h=>by simp at h
theorem dZ.of_heap {w:World}{g n c:Nat}{cs:Array Value}{t:TypeId}{l:List Int}(h:w.heap[g]? =some (.cells cs t (0,0)))(hl:cs.toList=iv l)(hn:n=l.length)(hs:l.length<=1000000):dZ w (.slice (some ⟨g,0,none⟩) n c) l:=by
 subst hn
 refine Flat.Bs (by simp[iv]) aa fun j u hu=> ?_
 rw[fK,cell_of_row w g j cs t _ h,<-Array.getElem?_toList,hl];exact hu
theorem isNaN (a:Int)(w:World):Calls Tryz.prog 123 #[I a] w fun e w'=>e=.returned (.bool false)/\w=w':=by
 have h:(a !=a)=false:=ae;go_enter Tryz.func123,Tryz.ntmps123;go_wp2;go_ret;exact⟨rfl,rfl⟩
theorem HU (a b:Int)(w:World):Calls Tryz.prog 83 #[I a,I b] w fun e w'=>e=.returned (I (fD a b))/\w=w':=by
 by_cases h1:a<b
 ·have p1:decide (a<b)=true:=by simp[h1]
  have hr:=ab (show fD a b= -1 by simp[fD,h1]);clear h1;go_enter Tryz.func83,Tryz.ntmps83
  go_wp2_with (go_at_call 123;refine(isNaN _ _).mono ?_;rintro e w' ⟨rfl,rfl⟩)
  go_ret;exact⟨kD hr.out.symm,rfl⟩
 ·have p1:decide (a<b)=false:=by simp[h1]
  by_cases h2:b<a
  ·have p2:decide (b<a)=true:=by simp[h2]
   have hr:=ab (show fD a b=1 by simp[fD,h1,h2]);clear h1 h2;go_enter Tryz.func83,Tryz.ntmps83
   go_wp2_with (go_at_call 123;refine(isNaN _ _).mono ?_;rintro e w' ⟨rfl,rfl⟩)
   go_ret;exact⟨kD hr.out.symm,rfl⟩
  ·have p2:decide (b<a)=false:=by simp[h2]
   have hr:=ab (show fD a b=0 by simp[fD,h1,h2]);clear h1 h2;go_enter Tryz.func83,Tryz.ntmps83
   go_wp2_with (go_at_call 123;refine(isNaN _ _).mono ?_;rintro e w' ⟨rfl,rfl⟩)
   go_ret;exact⟨kD hr.out.symm,rfl⟩
theorem HV (l:List Int)(v:Value)(w:World)(hl:dZ w v l):Calls Tryz.prog 81 #[v] w fun e w'=>e=.returned (I (kH l))/\w=w':=by
 obtain⟨ka,ca,rfl,ft⟩:=hl.open;go_enter Tryz.func81,Tryz.ntmps81;go_wp2;go_loop [8] (fun i=>∃k:Nat,k<=l.length/\i=.int .i64 k/\kH l=kH (l.drop k)) (fun i=>l.length-(intOf i).toNat)
 case atStart=>exact⟨0,aa,rfl,ae⟩
 case round=>
  obtain⟨k,hk,rfl,hE⟩:=hrel;have HE:=ab hE;clear hE;by_cases hlt:k<l.length
  ·obtain⟨b,o,rfl,x0⟩:=hl.at (i:=k) (x:=l[k]) (by simp[hlt]);have Hd:=ab (List.drop_eq_getElem_cons hlt);by_cases hx:l[k]=0
   ·have hq:(l[k] !=0)=false:=by simp[hx]
    have hr:=ab (show kH l=kH (l.drop (k+1)) by rw[HE.out,Hd.out,kH,if_neg (by simp[hx])]);clear hx;go_wp2;go_round
    case rel=>exact⟨k+1,aa,by go_num,hr.out⟩
    case measure=>simp[intOf];omega
   ·have hq:(l[k] !=0)=true:=by simp[hx]
    have hr:=ab (show kH l=l[k] by rw[HE.out,Hd.out,kH,if_pos (by simp[hx])]);clear hx;go_wp2;go_ret;exact⟨kD hr.out.symm,rfl⟩
  ·have hr:=ab (show kH l=0 by rw[HE.out,oZ aa];rfl);go_wp2;go_ret;exact⟨kD hr.out.symm,rfl⟩
def Quiet (w wr:World):Prop:=∃n,wr=w.drewN n
theorem Quiet.refl (w:World):Quiet w w:=⟨0,rfl⟩
theorem Quiet.drewN {w wr:World}(h:Quiet w wr)(n:Nat):Quiet w (wr.drewN n):=by
 obtain⟨m,rfl⟩:=h;exact⟨m+n,ae⟩
theorem Quiet.cell {w wr:World}(h:Quiet w wr)(a:Addr):wr.cell? a=w.cell? a:=by
 obtain⟨m,rfl⟩:=h;rfl
theorem Quiet.below {w wr:World}(h:Quiet w wr)(B:Nat):Below B w wr:=by
 obtain⟨m,rfl⟩:=h;exact below_drewN (Below.refl _ _) m
theorem HW (l:List Int)(v:Value)(w:World)(hl:dZ w v l)(hs:l.length<=1000000):Calls Tryz.prog 120 #[v] w fun e w'=>e=.returned (I (jr l))/\Quiet w w':=by
 obtain⟨ka,ca,rfl,ft⟩:=hl.open;go_enter Tryz.func120,Tryz.ntmps120;go_wp2;go_loopw [3] (fun i wr=>∃k:Nat,k<=l.length+1/\i=.int .i64 k/\Quiet w wr/\jr l=jr (l.drop k)) (fun i _=>l.length+2-(intOf i).toNat)
 case atStart=>exact⟨0,aa,rfl,Quiet.refl _,ae⟩
 case round=>
  obtain⟨k,hk,rfl,hQ,hE⟩:=hrel;have HE:=ab hE;clear hE;by_cases hlt:k+1<l.length
  ·have Un:k<l.length:=aa;obtain⟨b,o,rfl,x0⟩:=hl.at (i:=k) (x:=l[k]) (by simp[Un]);obtain⟨b',o',BF,x1⟩:=hl.at (i:=k+1) (x:=l[k+1]) (by simp[hlt]);simp at BF;obtain⟨rfl,rfl⟩:=BF;have y0:=(hQ.cell ⟨b,o+k,none⟩).trans x0;have y1:=(hQ.cell ⟨b,o+(k+1),none⟩).trans x1;have Hd:=ab ((List.drop_eq_getElem_cons Un).trans (kp (l[k]::·) (List.drop_eq_getElem_cons hlt)));by_cases hx:fD l[k] l[k+1]=0
   ·have hq:(fD l[k] l[k+1] !=0)=false:=by simp[hx]
    have hr:=ab (show jr l=jr (l.drop (k+2)) by rw[HE.out,Hd.out,jr,if_neg (by simp[hx])]);clear hx;go_wp2;go_quiet ((go_at_call 83;exact Calls.quiet_of_same ((HU _ _ _).mono fun _ _ h=>⟨h.1,h.2.symm⟩)));go_wp2;go_roundw
    case rel=>exact⟨k+2,aa,by go_num,hQ.drewN nq,hr.out⟩
    case measure=>simp[intOf];omega
   ·have hq:(fD l[k] l[k+1] !=0)=true:=by simp[hx]
    have hr:=ab (show jr l=fD l[k] l[k+1] by rw[HE.out,Hd.out,jr,if_pos (by simp[hx])]);clear hx;go_wp2;go_quiet ((go_at_call 83;exact Calls.quiet_of_same ((HU _ _ _).mono fun _ _ h=>⟨h.1,h.2.symm⟩)));go_wp2;go_ret;exact⟨kD hr.out.symm,hQ.drewN nq⟩
  ·have hr:=ab (show jr l=0 by
    rw[HE.out]
    have:(l.drop k).length<=1:=by simp;omega
    match hd:l.drop k,this with
    |[],_=>rfl
    |[_],_=>rfl)
   go_wp2;go_ret;exact⟨kD hr.out.symm,hQ⟩
theorem HZ (w:World)(A B C:Obj):(((w.alloc A).alloc B).alloc C).heap[w.heap.size+1+1]? =some C:=by
 have h:=jH ((w.alloc A).alloc B) C;simpa only[rI] using h
def bJ (w:World)(cs ds:Array Value)(X:World):Prop:=az X w.heap.size cs/\az X (w.heap.size+1) ds/\Below w.heap.size w X/\w.heap.size+2<=X.heap.size
theorem bJ.S {w X:World}{cs ds:Array Value}(h:bJ w cs ds X):(∀j,X.cell? ⟨w.heap.size,j,none⟩=cs[j]?)/\(∀j,X.cell? ⟨w.heap.size+1,j,none⟩=ds[j]?):=⟨h.1.cell,h.2.1.cell⟩
theorem bJ.drew {w X:World}{cs ds:Array Value}(h:bJ w cs ds X):bJ w cs ds X.drew:=⟨h.1,h.2.1,h.2.2.1.drew,h.2.2.2⟩
theorem bJ.drewN {w X:World}{cs ds:Array Value}(h:bJ w cs ds X)(n:Nat):bJ w cs ds (X.drewN n):=⟨h.1,h.2.1,below_drewN h.2.2.1 n,h.2.2.2⟩
theorem bJ.alloc {w X:World}{cs ds:Array Value}(h:bJ w cs ds X)(o:Obj):bJ w cs ds (X.alloc o):=⟨h.1.alloc o,h.2.1.alloc o,h.2.2.1.alloc (by have:=h.2.2.2;omega) o,by have:=h.2.2.2;simp;omega⟩
theorem bJ.call {w X w1:World}{cs ds:Array Value}(h:bJ w cs ds X)(hB:Below X.heap.size X w1):bJ w cs ds w1:=
 ⟨h.1.kept hB (by have:=h.2.2.2;omega),h.2.1.kept hB (by have:=h.2.2.2;omega),h.2.2.1.trans (hB.mono (by have:=h.2.2.2;omega)),by have:=h.2.2.2;have:=hB.size;omega⟩
theorem bJ.start (w:World)(cs ds:Array Value)(t:TypeId):bJ w cs ds ((w.alloc (.cells cs t)).alloc (.cells ds t)):=
 ⟨(az.new _ _ _).alloc _,⟨t,heap_alloc2_new w _ _⟩,bc,ae⟩
theorem Uo (a0 a1 a2 b0 b1 b2:Int)(w:World):Calls Tryz.prog 122 #[.agg #[I a0,I a1,I a2],.agg #[I b0,I b1,I b2]] w fun e w'=>e=.returned (I (aQ [a0,a1,a2] [b0,b1,b2]))/\Below w.heap.size w w':=by
 have hr:=ab (show aQ [a0,a1,a2] [b0,b1,b2]=jr [a0,b0,a1,b1,a2,b2] by simp only[jr];rw[lv,lv,lv];rfl);go_enter Tryz.func122,Tryz.ntmps122;go_wp2_with fail;refine(HW [a0,b0,a1,b1,a2,b2] _ _ (dZ.of_heap (HZ w _ _ _) rfl rfl ae) ae).mono ?_;rintro e w1 ⟨rfl,hQ⟩;have hB:=hQ.below w.heap.size;go_wp2_with fail;go_ret;exact⟨kD hr.out.symm,Below.trans bc hB⟩
end
section
open Go.RowKit
theorem aiX (a0 a1 a2 a3 a4 b0 b1 b2 b3 b4:Int)(w:World):Calls Tryz.prog 121 #[.agg #[I a0,I a1,I a2,I a3,I a4],.agg #[I b0,I b1,I b2,I b3,I b4]] w fun e w'=>e=.returned (I (aQ [a0,a1,a2,a3,a4] [b0,b1,b2,b3,b4]))/\Below w.heap.size w w':=by
 have hr:=ab (show aQ [a0,a1,a2,a3,a4] [b0,b1,b2,b3,b4]=kH [aQ [a0,a1,a2] [b0,b1,b2],jr [a3,b3,a4,b4]] by
  rw[show aQ [a0,a1,a2,a3,a4] [b0,b1,b2,b3,b4]=aQ ([a0,a1,a2]++[a3,a4]) ([b0,b1,b2]++[b3,b4]) from rfl,BD [a0,a1,a2] [b0,b1,b2] [a3,a4] [b3,b4] rfl,lv a3,lv a4];simp only[kH,jr]
  repeat' split
  all_goals simp_all[aQ])
 have bF:=bJ.start w #[I a0,I a1,I a2,I a3,I a4] #[I b0,I b1,I b2,I b3,I b4] 61;have vY:=bF.1.cell;have Lk:=bF.2.1.cell;go_enter Tryz.func121,Tryz.ntmps121;go_wp2_with fail
 go_region_held3 (fun w'=>(∀j,w'.cell? ⟨w.heap.size,j,none⟩=(#[I a0,I a1,I a2,I a3,I a4]:Array Value)[j]?)/\(∀j,w'.cell? ⟨w.heap.size+1,j,none⟩=(#[I b0,I b1,I b2,I b3,I b4]:Array Value)[j]?))
  ((first|exact bJ.S bF|exact bJ.S bF.drew|exact bJ.S (bF.alloc _).drew|exact bJ.S lx|exact bJ.S (lx.alloc _)|exact bJ.S pq|exact bJ.S (pq.alloc _)))
  (first
   |(go_at_call 122;refine(Uo a0 a1 a2 b0 b1 b2 _).mono ?_;rintro e w1 ⟨rfl,ay⟩
     have lx:bJ w #[I a0,I a1,I a2,I a3,I a4] #[I b0,I b1,I b2,I b3,I b4] w1:=by first|exact bJ.call bF.drew ay|exact bJ.call (bF.alloc _).drew ay)
   |(go_at_call 120;refine(HW [a3,b3,a4,b4] _ _ (by first|exact dZ.of_heap (jH w1 _) rfl rfl ae|exact dZ.of_heap ((ay.block _ (by simp only[heap_drew,rI];omega)).trans (HZ w _ _ _)) rfl rfl ae) ae).mono ?_;rintro e w2 ⟨rfl,Ej⟩
     have pq:bJ w #[I a0,I a1,I a2,I a3,I a4] #[I b0,I b1,I b2,I b3,I b4] w2:=by first|exact bJ.call lx (Ej.below _)|exact bJ.call (lx.alloc _) (Ej.below _))
   |(go_at_call 81;refine(HV [aQ [a0,a1,a2] [b0,b1,b2],jr [a3,b3,a4,b4]] _ _ (dZ.of_heap (jH w2 _) rfl rfl ae)).mono ?_;rintro e w3 ⟨rfl,rfl⟩))
 all_goals
  go_wp2_with fail;go_ret;exact⟨kD hr.out.symm,(pq.alloc _).2.2.1⟩
theorem aiY (a0 a1 a2 a3 a4 b0 b1 b2 b3 b4:Int)(w:World):Calls Tryz.prog 82 #[.agg #[I a0,I a1,I a2,I a3,I a4],.agg #[I b0,I b1,I b2,I b3,I b4]] w fun e w'=>e=.returned (I (aQ [a0,a1,a2,a3,a4] [b0,b1,b2,b3,b4]))/\Below w.heap.size w w':=by
 have hr:=ab (show aQ [a0,a1,a2,a3,a4] [b0,b1,b2,b3,b4]=kH [aQ [a0,a1,a2] [b0,b1,b2],jr [a3,b3,a4,b4]] by
  rw[show aQ [a0,a1,a2,a3,a4] [b0,b1,b2,b3,b4]=aQ ([a0,a1,a2]++[a3,a4]) ([b0,b1,b2]++[b3,b4]) from rfl,BD [a0,a1,a2] [b0,b1,b2] [a3,a4] [b3,b4] rfl,lv a3,lv a4];simp only[kH,jr]
  repeat' split
  all_goals simp_all[aQ])
 have bF:=bJ.start w #[I a0,I a1,I a2,I a3,I a4] #[I b0,I b1,I b2,I b3,I b4] 98;have vY:=bF.1.cell;have Lk:=bF.2.1.cell;go_enter Tryz.func82,Tryz.ntmps82;go_wp2_with fail
 go_region_held3 (fun w'=>(∀j,w'.cell? ⟨w.heap.size,j,none⟩=(#[I a0,I a1,I a2,I a3,I a4]:Array Value)[j]?)/\(∀j,w'.cell? ⟨w.heap.size+1,j,none⟩=(#[I b0,I b1,I b2,I b3,I b4]:Array Value)[j]?))
  ((first|exact bJ.S bF|exact bJ.S bF.drew|exact bJ.S (bF.alloc _).drew|exact bJ.S lx|exact bJ.S (lx.alloc _)|exact bJ.S pq|exact bJ.S (pq.alloc _)))
  (first
   |(go_at_call 122;refine(Uo a0 a1 a2 b0 b1 b2 _).mono ?_;rintro e w1 ⟨rfl,ay⟩
     have lx:bJ w #[I a0,I a1,I a2,I a3,I a4] #[I b0,I b1,I b2,I b3,I b4] w1:=by first|exact bJ.call bF.drew ay|exact bJ.call (bF.alloc _).drew ay)
   |(go_at_call 120;refine(HW [a3,b3,a4,b4] _ _ (by first|exact dZ.of_heap (jH w1 _) rfl rfl ae|exact dZ.of_heap ((ay.block _ (by simp only[heap_drew,rI];omega)).trans (HZ w _ _ _)) rfl rfl ae) ae).mono ?_;rintro e w2 ⟨rfl,Ej⟩
     have pq:bJ w #[I a0,I a1,I a2,I a3,I a4] #[I b0,I b1,I b2,I b3,I b4] w2:=by first|exact bJ.call lx (Ej.below _)|exact bJ.call (lx.alloc _) (Ej.below _))
   |(go_at_call 81;refine(HV [aQ [a0,a1,a2] [b0,b1,b2],jr [a3,b3,a4,b4]] _ _ (dZ.of_heap (jH w2 _) rfl rfl ae)).mono ?_;rintro e w3 ⟨rfl,rfl⟩))
 all_goals
  go_wp2_with fail;go_ret;exact⟨kD hr.out.symm,(pq.alloc _).2.2.1⟩
theorem Up (a0 a1 a2 a3 a4 a5 a6 a7 b0 b1 b2 b3 b4 b5 b6 b7:Int)(w:World):Calls Tryz.prog 78 #[.agg #[I a0,I a1,I a2,I a3,I a4,I a5,I a6,I a7],.agg #[I b0,I b1,I b2,I b3,I b4,I b5,I b6,I b7]] w fun e w'=>e=.returned (I (aQ [a0,a1,a2,a3,a4,a5,a6,a7] [b0,b1,b2,b3,b4,b5,b6,b7]))/\Below w.heap.size w w':=by
 have hr:=ab (show aQ [a0,a1,a2,a3,a4,a5,a6,a7] [b0,b1,b2,b3,b4,b5,b6,b7]=kH [jr [a0,b0,a1,b1,a2,b2],aQ [a3,a4,a5,a6,a7] [b3,b4,b5,b6,b7]] by
  rw[lv a0,lv a1,lv a2];simp only[kH,jr]
  repeat' split
  all_goals simp_all)
 have bF:=bJ.start w #[I a0,I a1,I a2,I a3,I a4,I a5,I a6,I a7] #[I b0,I b1,I b2,I b3,I b4,I b5,I b6,I b7] 63;have vY:=bF.1.cell;have Lk:=bF.2.1.cell;go_enter Tryz.func78,Tryz.ntmps78;go_wp2_with fail
 go_region_held3 (fun w'=>(∀j,w'.cell? ⟨w.heap.size,j,none⟩=(#[I a0,I a1,I a2,I a3,I a4,I a5,I a6,I a7]:Array Value)[j]?)/\(∀j,w'.cell? ⟨w.heap.size+1,j,none⟩=(#[I b0,I b1,I b2,I b3,I b4,I b5,I b6,I b7]:Array Value)[j]?))
  ((first|exact bJ.S bF|exact bJ.S bF.drew|exact bJ.S (bF.alloc _).drew|exact bJ.S lx|exact bJ.S (lx.alloc _)|exact bJ.S pq|exact bJ.S (pq.alloc _)))
  (first
   |(go_at_call 120;refine(HW [a0,b0,a1,b1,a2,b2] _ _ (dZ.of_heap (w:=(((w.alloc _).alloc _).alloc _).drew) (HZ w _ _ _) rfl rfl ae) ae).mono ?_;rintro e w1 ⟨rfl,UD⟩
     have lx:bJ w #[I a0,I a1,I a2,I a3,I a4,I a5,I a6,I a7] #[I b0,I b1,I b2,I b3,I b4,I b5,I b6,I b7] w1:=bJ.call (bF.alloc _).drew (UD.below _))
   |(go_at_call 121;refine(aiX a3 a4 a5 a6 a7 b3 b4 b5 b6 b7 _).mono ?_;rintro e w2 ⟨rfl,bO⟩
     have pq:bJ w #[I a0,I a1,I a2,I a3,I a4,I a5,I a6,I a7] #[I b0,I b1,I b2,I b3,I b4,I b5,I b6,I b7] w2:=bJ.call lx bO)
   |(go_at_call 81;refine(HV [jr [a0,b0,a1,b1,a2,b2],aQ [a3,a4,a5,a6,a7] [b3,b4,b5,b6,b7]] _ _ (dZ.of_heap (jH w2 _) rfl rfl ae)).mono ?_;rintro e w3 ⟨rfl,rfl⟩))
 all_goals
  go_wp2_with fail;go_ret;exact⟨kD hr.out.symm,(pq.alloc _).2.2.1⟩
theorem Uq (a b:Ask)(w:World):Calls Tryz.prog 80 #[.agg #[I a.node,I a.handler,I a.count,I a.kind,I a.index,I a.arity,I a.n],.agg #[I b.node,I b.handler,I b.count,I b.kind,I b.index,I b.arity,I b.n]] w fun e w'=>e=.returned (I (aQ a.key b.key))/\Below w.heap.size w w':=by
 have hr:=ab (show aQ a.key b.key=kH [aQ [a.node,a.handler,a.count,a.kind,a.index] [b.node,b.handler,b.count,b.kind,b.index],fD a.n b.n] by
  rw[show aQ a.key b.key=aQ ([a.node,a.handler,a.count,a.kind,a.index]++[a.n]) ([b.node,b.handler,b.count,b.kind,b.index]++[b.n]) from rfl,BD [a.node,a.handler,a.count,a.kind,a.index] [b.node,b.handler,b.count,b.kind,b.index] [a.n] [b.n] rfl,lv a.n];simp only[kH]
  repeat' split
  all_goals simp_all[aQ])
 have bF:=bJ.start w #[I a.node,I a.handler,I a.count,I a.kind,I a.index,I a.arity,I a.n] #[I b.node,I b.handler,I b.count,I b.kind,I b.index,I b.arity,I b.n] 100;have vY:=bF.1.cell;have Lk:=bF.2.1.cell;go_enter Tryz.func80,Tryz.ntmps80;go_wp2_with fail
 go_region_held3 (fun w'=>(∀j,w'.cell? ⟨w.heap.size,j,none⟩=(#[I a.node,I a.handler,I a.count,I a.kind,I a.index,I a.arity,I a.n]:Array Value)[j]?)/\(∀j,w'.cell? ⟨w.heap.size+1,j,none⟩=(#[I b.node,I b.handler,I b.count,I b.kind,I b.index,I b.arity,I b.n]:Array Value)[j]?))
  ((first|exact bJ.S bF|exact bJ.S bF.drew|exact bJ.S (bF.alloc _).drew|exact bJ.S lx|exact bJ.S (lx.alloc _)|exact bJ.S pq|exact bJ.S (pq.alloc _)))
  (first
   |(go_at_call 82;refine(aiY a.node a.handler a.count a.kind a.index b.node b.handler b.count b.kind b.index _).mono ?_;rintro e w1 ⟨rfl,ay⟩
     have lx:bJ w #[I a.node,I a.handler,I a.count,I a.kind,I a.index,I a.arity,I a.n] #[I b.node,I b.handler,I b.count,I b.kind,I b.index,I b.arity,I b.n] w1:=bJ.call bF.drew ay)
   |(go_at_call 83;refine(HU a.n b.n _).mono ?_;rintro e w2 ⟨rfl,rfl⟩)
   |(go_at_call 81;refine(HV [aQ [a.node,a.handler,a.count,a.kind,a.index] [b.node,b.handler,b.count,b.kind,b.index],fD a.n b.n] _ _ (dZ.of_heap (jH w1 _) rfl rfl ae)).mono ?_;rintro e w3 ⟨rfl,rfl⟩))
 all_goals
  go_wp2_with fail;go_ret;exact⟨kD hr.out.symm,(lx.alloc _).2.2.1⟩
end
section
open Go.RowKit Go.Maps
def MB (n:Int):Prop:= -9223372036854775808<=n/\n<=9223372036854775807
structure Qn where
 node:Int
 handler:Int
 count:Int
 kind:Int
 index:Int
deriving DecidableEq
structure bf where
 q:Qn
 n:Int
deriving DecidableEq
def Qn.ints (q:Qn):List Int:=[q.node,q.handler,q.count,q.kind,q.index]
def bf.ints (a:bf):List Int:=[a.q.node,a.q.handler,a.q.count,a.q.kind,a.q.index,a.n]
theorem Qn.rJ {a b:Qn}:a.ints=b.ints↔a=b:=by
 constructor
 ·intro h;cases a;cases b;simp[Qn.ints] at h;simp[h]
 ·intro h;rw[h]
def Qn.val (q:Qn):Value:=.agg #[I q.node,I q.handler,I q.count,I q.kind,I q.index]
def Qn.ok (q:Qn):Prop:=∀n∈q.ints,MB n
def bf.ok (a:bf):Prop:=a.q.ok/\MB a.n
def zL (w:World)(v:Value)(l:List bf):Prop:=Flat w 6 v l.length (l.flatMap fun a=>iv a.ints)
theorem zL.kept {w w':World}{v:Value}{l:List bf}(h:zL w v l){B:Nat}(hb:Below B w w')(hB:w.heap.size<=B):zL w' v l:=Flat.kept h hb hB
theorem zL.open {w:World}{v:Value}{l:List bf}(h:zL w v l):∃a c,v=.slice a l.length c/\l.length<=9223372036854775807:=Flat.open h
theorem bf.DW (x:bf):(iv x.ints).length=6:=rfl
theorem zL.at {w:World}{a:Option Addr}{n c:Nat}{l:List bf}(h:zL w (.slice a n c) l){i:Nat}{x:bf}(hi:l[i]? =some x):
  ∃b o,a=some ⟨b,o,none⟩/\w.rangeAt b (o+i*6) [I x.q.node,I x.q.handler,I x.q.count,I x.q.kind,I x.q.index,I x.n]:=by
 obtain⟨b,o,ha,hc⟩:=Bt (f:=fun a:bf=>iv a.ints) bf.DW aa h hi;exact⟨b,o,ha,fun j v hv=>hc j v hv⟩
def EE (w:World)(v:Value)(l:List Ev):Prop:=Flat w 8 v l.length (l.flatMap fun a=>iv a.ints)
theorem EE.kept {w w':World}{v:Value}{l:List Ev}(h:EE w v l){B:Nat}(hb:Below B w w')(hB:w.heap.size<=B):EE w' v l:=Flat.kept h hb hB
theorem EE.open {w:World}{v:Value}{l:List Ev}(h:EE w v l):∃a c,v=.slice a l.length c/\l.length<=9223372036854775807:=Flat.open h
theorem laidOut:laidOutB Tryz.prog=true:=ah
theorem alw:(98:TypeId)<Tryz.prog.types.size:=Bn ah
theorem alx:(match Tryz.prog.underlying 98 with |some (.array _ _)|some (.struct _)=>true|_=>false)=true:=by rw[Tryz.underlying98]
theorem XD:Keyed Tryz.prog 98:=Keyed.of_law (deep_law_laid laidOut (m:=3) aa alw ah alx)
theorem EF {n:Int}(h:MB n):(Lit.int .i64 n).wf=true:=WalkArith.wf_i64 h
theorem XE:Tryz.prog.cellsOf 98=5:=ah
theorem XF:Tryz.prog.cellsOf 59=3:=ah
theorem XG:Tryz.prog.cellsOf 3=1:=ah
theorem aly:Tryz.prog.keyType 98=true:=ah
def wF (q:Qn):Lit:=.string (keyBytes [.int .i64 q.node,.int .i64 q.handler,.int .i64 q.count,.int .i64 q.kind,.int .i64 q.index])
theorem MC (q:Qn)(h:q.ok):keyOf Tryz.prog 98 q.val=some (wF q):=by
 have h0:=EF (h q.node (by simp[Qn.ints]));have h1:=EF (h q.handler (by simp[Qn.ints]));have h2:=EF (h q.count (by simp[Qn.ints]));have h3:=EF (h q.kind (by simp[Qn.ints]));have h4:=EF (h q.index (by simp[Qn.ints]))
 obtain⟨m,hm⟩:∃m,Tryz.prog.types.size=m+3:=⟨Tryz.prog.types.size-3,ah⟩
 unfold wF keyOf;simp only[Tryz.underlying98];rw[if_pos (by simp[aly,Qn.val,Value.formed,Tryz.underlying98,XE]),hm];unfold Program.keyLits;simp only[Tryz.underlying98,Qn.val,Value.cells];rw[if_pos ⟨by rw[XE];rfl,ah⟩]
 have e3:∀(n:Int),(Lit.int .i64 n).wf=true->Tryz.prog.keyLits (m+3) 3 [I n]=some [.int .i64 n]:=fun n hn=>by simp[Program.keyLits,Tryz.underlying3,hn]
 have e52:Tryz.prog.keyLits (m+3) 59 [I q.node,I q.handler,I q.count]=some [.int .i64 q.node,.int .i64 q.handler,.int .i64 q.count]:=by
  unfold Program.keyLits;simp only[Tryz.underlying59];rw[if_pos ⟨by rw[XF];rfl,ah⟩];simp[XG,Program.keyLits,Tryz.underlying3,h0,h1,h2]
 simp[XF,XG,e3 _ h3,e3 _ h4,e52]
theorem XH {a b:Qn}(ha:a.ok)(hb:b.ok)(h:wF a=wF b):a=b:=by
 have:=XD.inj (MC a ha) (h▸MC b hb);cases a;cases b;simp[Qn.val] at this;simp[this]
theorem MD (q:Qn)(h:q.ok):WideAt.IsKeyLit (wF q):=XD.key (MC q h)
def nk (l:List bf)(q:Qn):Int:=l.foldl (fun n a=>if a.q=q then max 0 a.n else n) 0
theorem alz (l:List bf)(a:bf)(q:Qn):nk (l++[a]) q=if a.q=q then max 0 a.n else nk l q:=by simp[nk,DR]
theorem alA (l:List bf)(q:Qn):0<=nk l q:=by
 have key:∀(l:List bf) (n:Int),0<=n->0<=l.foldl (fun n a=>if a.q=q then max 0 a.n else n) n:=by
  intro l
  induction l with
  |nil=>intro n h;exact h
  |cons a l ih=>
   intro n h;rw[xD];refine ih _ ?_;split
   ·omega
   ·exact h
 exact key l 0 (Int.le_refl _)
structure Ck (D:DataW Unit)(f:Qn->Int):Prop where
 tidy:Tidy D
 at_:∀q:Qn,q.ok->D.atKey (wF q) (.lit (.int .i64 0))=.lit (.int .i64 (f q))
 XI:∀q:Qn,q.ok->Maps.has D (wF q)=decide (0<f q)
 sz:∃ys:List Qn,ys.Nodup/\(∀q,q∈ys↔(q.ok/\0<f q))/\Maps.size D=ys.length
theorem Ck.put {D:DataW Unit}{f:Qn->Int}(h:Ck D f)(q:Qn)(hq:q.ok)(n:Int)(hn:0<n):Ck (D.put (wF q) (.lit (.int .i64 n))) (fun p=>if q=p then n else f p):=by
 refine⟨h.tidy.put (MD q hq) _,fun p hp=> ?_,fun p hp=> ?_,?_⟩
 ·by_cases e:q=p
  ·subst e;rw[atKey_put_same h.tidy.isMap (MD q hq),if_pos rfl]
  ·rw[atKey_put_other (fun e2=>e (XH hp hq e2).symm),h.at_ p hp,if_neg e]
 ·by_cases e:q=p
  ·subst e;rw[has_put_same h.tidy.isMap (MD q hq),if_pos rfl];simp[hn]
  ·rw[has_put_other (fun e2=>e (XH hp hq e2).symm),h.XI p hp,if_neg e]
 ·obtain⟨ys,h1,h2,h3⟩:=h.sz;have hs:=size_put (k:=wF q) h.tidy (DataW.lit (.int .i64 n));rw[h.XI q hq] at hs;by_cases h0:0<f q
  ·refine⟨ys,h1,fun p=> ?_,?_⟩
   ·rw[h2 p];by_cases e:q=p
    ·subst e;simp[h0,hn]
    ·simp only[if_neg e]
   ·rw[hs];simp[h0,h3]
  ·have hm:q∉ys:=fun hm=>h0 ((h2 q).1 hm).2
   refine⟨q::ys,List.nodup_cons.2 ⟨hm,h1⟩,fun p=> ?_,?_⟩
   ·rw[eM,h2 p];by_cases e:q=p
    ·subst e;simp[hn,hq]
    ·simp only[if_neg e];constructor
     ·rintro(e2|x)
      ·exact absurd e2.symm e
      ·exact x
     ·exact .inr
   ·rw[hs];simp[h0,h3]
theorem Ck.congr {D:DataW Unit}{f g:Qn->Int}(h:Ck D f)(e:∀q,f q=g q):Ck D g:=by
 have:f=g:=funext e;exact this▸h
end
namespace aq
open dL
def bp (n:Int):Bool:=decide (-2147483647<=n) && decide (n<=2147483647)
def tJ (n:Int):Int:=max (-2147483647) (min n 2147483647)
def tK (b:Bool):Int:=if b then 1 else 0
def np (op y x:Int):Int:=
 if op=6 then tJ (y+x) else if op=7 then tJ (y-x) else if op=8 then tJ (y*x)
 else if op=9 then(if x=0 then 0 else tJ (y.tdiv x))
 else if op=11 then tK (decide (y<x)) else if op=12 then tK (decide (y<=x)) else tK (decide (y=x))
structure dF where
 kind:Int
 a:Int
 b:Int
 c:Int
 d:Int
deriving DecidableEq
structure de where
 vars:List Int
 acts:List dF
 steps:Nat
 spent:Bool
 covered:List Int
 asked:List Int
deriving DecidableEq
def pN (answers:List Int)(i:Nat)(k:Int):Int:=match answers[i]? with
 |none=>0
 |some a=>(a.tmod k+k).tmod k
def kv (l:List Int)(n:Int):List Int:=if n∈l then l else l.takeWhile (fun x=>decide (x<n))++n::l.dropWhile (fun x=>decide (x<n))
def jO (l:List dF):Nat:=l.countP (fun a=>decide (a.kind=3))
inductive tM where
 |go (o:de) (st:List Int) (pc:Int)
 |stop (o:de)
def de.act (o:de)(a:dF):de:={ o with acts:=o.acts++[a] }
def eS (cC:Int)(names answers:List Int)(op n:Int)(o:de)(st:List Int)(pc:Int):Option tM:=
 if op=1 then some (.go o (n::st) pc)
 else if op=2 then(if n<0 then none else o.vars[n.toNat]?.map fun v=> .go o (v::st) pc)
 else if op=4 then(if n<0 then none else names[n.toNat]?.map fun v=> .go o (v::st) pc)
 else if op=3 then match st with
  |x::r=>if n<0\/(o.vars.length:Int)<=n then none else some (.go { o with vars:=o.vars.set n.toNat x,acts:=if n<cC then o.acts++[⟨1,n,x,0,0⟩] else o.acts } r pc)
  |[]=>none
 else if op=5 then match st with
  |x::r=>if 1<max 1 (min x 4) then some (.go { o with asked:=o.asked++[max 1 (min x 4)] } (pN answers o.asked.length (max 1 (min x 4))::r) pc) else some (.go o (0::r) pc)
  |[]=>none
 else if op=6\/op=7\/op=8\/op=9\/op=11\/op=12\/op=13 then match st with
  |x::y::r=>if bp x && bp y then some (.go o (np op y x::r) pc) else none
  |_=>none
 else if op=10 then match st with
  |x::r=>if bp x then some (.go o (-x::r) pc) else none
  |[]=>none
 else if op=14 then match st with
  |x::r=>some (.go o (tK (decide (x=0))::r) pc)
  |[]=>none
 else if op=15 then some (.go o st n)
 else if op=16 then match st with
  |x::r=>some (.go o r (if x=0 then n else pc))
  |[]=>none
 else if op=17 then match st with
  |x::y::t::r=>some (.go (if 0<=t/\t<names.getD 1 0/\jO o.acts<20 then o.act ⟨3,t,n,y,x⟩ else o) r pc)
  |_=>none
 else if op=18 then some (.go (o.act ⟨4,n,0,0,0⟩) st pc)
 else if op=19 then some (.go (o.act ⟨5,n,0,0,0⟩) st pc)
 else if op=20 then some (.go (o.act ⟨2,0,0,0,0⟩) st pc)
 else if op=21 then match st with
  |x::y::r=>some (.go (o.act ⟨6,y,x,0,0⟩) r pc)
  |_=>none
 else if op=22 then match st with
  |x::r=>some (.go (o.act ⟨7,x,0,0,0⟩) r pc)
  |[]=>none
 else some (.stop o)
def nr (p:Prog)(names answers:List Int)(o:de)(st:List Int)(pc:Int):Option tM:=
 if pc<0 then none else
 match p.code[pc.toNat]? with
 |none=>none
 |some (op,n)=>eS p.cC names answers op n { o with covered:=kv o.covered pc,steps:=o.steps+1 } st (pc+1)
def mj (p:Prog)(names answers:List Int):Nat->de->List Int->Int->Option de
 |0,o,_,_=>some { o with spent:=true }
 |f+1,o,st,pc=>match nr p names answers o st pc with
  |none=>none
  |some (.stop o)=>some o
  |some (.go o st pc)=>mj p names answers f o st pc
def sq (p:Prog)(handler:Nat)(vars names answers:List Int):Option de:=
 match p.entry[handler]? with
 |none=>none
 |some e=>if e<0 then some ⟨vars,[],0,false,[],[]⟩ else mj p names answers 500 ⟨vars,[],0,false,[],[]⟩ [] e
structure fg where
 cells:List Int
 pending:List (Int×Int)
deriving DecidableEq
def gV:List Int->List (Int×Int)->Option (List Int)
 |c,[]=>some c
 |c,(i,v)::l=>if 0<=i/\i<c.length then gV (c.set i.toNat v) l else none
def qR (d:fg):Option (List Int):=gV d.cells d.pending
def sr (d:fg)(cell value:Int):Option fg:=
 if cell<0\/(d.cells.length:Int)<=cell then some d
 else if 4<(d.pending++[(cell,value)]).length then(gV d.cells ((d.pending++[(cell,value)]).take 1)).map fun c=>⟨c,(d.pending++[(cell,value)]).drop 1⟩
 else some ⟨d.cells,d.pending++[(cell,value)]⟩
def tN (d:fg):Option fg:=(qR d).map fun c=>⟨c,[]⟩
def fO:List (Int×Int)->List Bool->List (Int×Int)
 |x::l,k::m=>if k then x::fO l m else fO l m
 |_,_=>[]
def wG (d:fg)(keep:List Bool):Option fg:=(gV d.cells (fO d.pending keep)).map fun c=>⟨c,[]⟩
def qU (d:fg)(n:Nat):Option fg:=(qR d).map fun c=>⟨(c++List.replicate (n-c.length) 0).take n,[]⟩
structure aL where
 node:Int
 handler:Int
 count:Int
deriving DecidableEq
def aL.qn (c:aL)(kind index:Int):Qn:=⟨c.node,c.handler,c.count,kind,index⟩
def eU (q:Qn)(arity n:Int):Ask:=⟨q.node,q.handler,q.count,q.kind,q.index,arity,n⟩
structure Env where
 msg:bm
 eO:Int
 kind:Int
 a:Int
 b:Int
deriving DecidableEq
structure Node where
 up:Bool
 version:Int
 dH:Int
 clock:Int
 aS:fg
 dO:List Int
 timers:List Int
 counts:List Int
 waiting:Int
 dropped:Int
 cI:Int
deriving DecidableEq
structure Rr where
 s:Node
 asks:List Ask
 sent:List Env
 nu:Bool
 value:Int
 br:List Int
 dA:aL
 out:de
 covered:List Int
deriving DecidableEq
def eh (l:List bf)(q:Qn)(arity:Int):Int:=(nk l q).tmod arity
def iN:Node:=⟨false,-1,0,0,⟨[],[]⟩,[],[],List.replicate 41 0,-1,0,0⟩
def tO (s:Node):Option (List Int):=(qR s.aS).map fun l=>l++s.dO
def nw (l:List bf)(c:aL):Int:=l.foldl (fun m a=>if(a.q.node=c.node/\a.q.handler=c.handler/\a.q.count=c.count)/\a.q.kind=1 then max m a.q.index else m) (-1)
def pO (l:List bf)(c:aL):List Int:=(List.range (min (nw l c+1).toNat 500)).map fun(i:Nat)=>nk l (c.qn 1 i)
def tP (l:List Int)(k:Int)(set:Bool):List Int:=((List.range 8).map Int.ofNat).filter fun i=>if i=k then set else decide (i∈l)
def mn (r:Rr)(a:dF):Option Rr:=
 if a.kind=1 then(sr r.s.aS a.a a.b).map fun d=>{ r with s:={ r.s with aS:=d } }
 else if a.kind=2 then(tN r.s.aS).map fun d=>{ r with s:={ r.s with aS:=d } }
 else if a.kind=4 then some { r with s:={ r.s with timers:=tP r.s.timers a.a true } }
 else if a.kind=5 then some { r with s:={ r.s with timers:=tP r.s.timers a.a false } }
 else if a.kind=3 then some { r with sent:=r.sent++[⟨⟨r.dA.node,r.dA.handler,r.dA.count,r.sent.length,0⟩,a.a,a.b,a.c,a.d⟩] }
 else if a.kind=6 then(if 0<=r.s.waiting/\a.a=r.s.waiting then some { r with nu:=true,value:=a.b,s:={ r.s with waiting:= -1 } } else some r)
 else if a.kind=7 then some { r with br:=r.br++[a.a] }
 else some r
def ny:Rr->List dF->Option Rr
 |r,[]=>some r
 |r,a::l=>match mn r a with
  |none=>none
  |some r=>ny r l
def gW (l:List bf)(c:aL):Nat->List Int->List Ask
 |_,[]=>[]
 |i,k::m=>eU (c.qn 1 i) k (eh l (c.qn 1 i) k)::gW l c (i+1) m
def su (names:List Int)(self nodes now:Int):List Int:=((names.set 0 self).set 1 nodes).set 2 now
def ky (s:Node)(p:Prog)(handler:Nat)(self nodes drift:Int)(names:List Int)(l:List bf):Option Rr:=
 match s.counts[handler]? with
 |none=>none
 |some k=>
  let c:aL:=⟨self,handler,k⟩
  let n:=if 0<drift then eh l (c.qn 2 0) (drift+1) else 0
  let tick:=if 0<drift then [eU (c.qn 2 0) (drift+1) n] else []
  match tO s with
  |none=>none
  |some vars=>match sq p handler vars (su names self nodes (s.clock+1+n)) (pO l c) with
   |none=>none
   |some o=>
    if 0<=p.cC/\p.cC<=o.vars.length then
     ny ⟨{ s with clock:=s.clock+1+n,counts:=s.counts.set handler (k+1),dO:=(o.vars.drop p.cC.toNat).take 16 },
      tick++gW l c 0 o.asked,[],false,0,[],c,o,o.covered⟩ o.acts
    else none
def sv (s:Node)(p:Prog)(version self nodes drift:Int)(l:List bf):Option Rr:=
 if p.cC<0\/p.gG<0 then none else
 match(if(s.aS.cells.length:Int)=p.cC then some s.aS else qU s.aS p.cC.toNat) with
 |none=>none
 |some d=>ky { s with version:=version,aS:=d,dO:=List.replicate p.gG.toNat 0,timers:=[],waiting:= -1,up:=true } p 0 self nodes drift (List.replicate 9 0) l
def jy (l:List bf)(c:aL)(n:Nat):List Ask:=(List.range n).map fun(i:Nat)=>eU (c.qn 3 i) 2 (eh l (c.qn 3 i) 2)
def IQ:de:=⟨[],[],0,false,[],[]⟩
def lC (s:Node)(self:Int)(l:List bf):Option Rr:=
 match s.counts[40]? with
 |none=>none
 |some k=>
  let asks:=jy l ⟨self,40,k⟩ s.aS.pending.length
  (wG s.aS (asks.map fun a=>decide (a.n=1))).map fun d=>
   ⟨{ s with aS:=d,counts:=s.counts.set 40 (k+1),dH:=s.dH+1,dO:=List.replicate s.dO.length 0,timers:=[],waiting:= -1,up:=false },
    asks,[],false,0,[],⟨self,40,k⟩,IQ,[]⟩
def qV (l:List Env)(e:Env):List Env:=l.takeWhile (fun x=>decide (aQ x.msg.ints e.msg.ints<0))++e::l.dropWhile (fun x=>decide (aQ x.msg.ints e.msg.ints<0))
def kN (l:List Env)(m:bm):Option Env:=l.find? fun x=>decide (x.msg=m)
def gH (l:List Env)(e:Env):List Env:=if(kN l e.msg).isSome then [] else qV l e
def jz (l:List Env)(m:bm):List Env:=l.filter fun x=>decide (x.msg≠m)
def lD (l:List Env)(m:bm)(k:Int):List Env:=match kN l m with
 |none=>[]
 |some e=>gH l { e with msg:={ e.msg with copy:=k } }
def fH (l:List Env)(node:Int):List bm:=(l.filter fun x=>decide (x.eO=node)).map Env.msg
structure mo where
 node:Int
 op:Int
 key:Int
 arg:Int
deriving DecidableEq
structure bR where
 cQ:List Prog
 first:List Int
 mq:List Int
 dg:List mo
 mr:Int
 jA:Int
 kz:Int
 drift:Int
deriving DecidableEq
structure Ob where
 alB:Bool
 request:Int
 node:Int
 dH:Int
 value:Int
deriving DecidableEq
structure lE where
 dA:aL
 code:Int
deriving DecidableEq
structure aE where
 c:bR
 nodes:List Node
 aX:List Env
 next:List Int
 ax:List Ob
 br:List (List lE)
 traces:List (List (List Int))
 covered:List (Int×Int)
 steps:Nat
deriving DecidableEq
def qW (node:Int):Nat->List mo->Int
 |_,[]=> -1
 |k,r::l=>if r.node=node then k else qW node (k+1) l
def after (c:bR)(node:Int)(i:Int):Int:=qW node (i+1).toNat (c.dg.drop (i+1).toNat)
def iO (c:bR):aE:=
 ⟨c,c.first.map fun _=>iN,[],(List.range c.first.length).map fun(n:Nat)=>after c n (-1),[],c.first.map fun _=>[],c.first.map fun _=>[],[],0⟩
def bl (l:List Ev)(e:Ev):List Ev:=
 if(l.dropWhile (fun x=>decide (aQ x.ints e.ints<0))).head? =some e then l
 else l.takeWhile (fun x=>decide (aQ x.ints e.ints<0))++e::l.dropWhile (fun x=>decide (aQ x.ints e.ints<0))
def jB:bm:=⟨0,0,0,0,0⟩
def ja (w:aE)(n:Nat)(s:Node):List Int:=
 if s.version<0 then [w.c.first.getD n 0] else if w.c.mq.length=0 then [s.version] else w.c.mq
def eJ (w:aE)(n:Nat)(s:Node)(out:List Ev)(m:bm):List Ev:=
 let o1:=if s.up then bl out ⟨3,n,0,m⟩ else out
 let o2:=if s.dropped<w.c.jA then bl o1 ⟨5,n,0,m⟩ else o1
 if s.cI<w.c.kz then bl o2 ⟨6,n,0,m⟩ else o2
def wH (w:aE)(out:List Ev)(n:Nat)(s:Node):List Ev:=
 let o1:=if s.up then out else(ja w n s).foldl (fun o v=>bl o ⟨1,n,v,jB⟩) out
 let o2:=(fH w.aX n).foldl (eJ w n s) o1
 let o3:=if s.up/\s.waiting<0/\0<=w.next.getD n 0 then bl o2 ⟨2,n,w.next.getD n 0,jB⟩ else o2
 let o4:=if s.up then s.timers.foldl (fun o t=>bl o ⟨4,n,t,jB⟩) o3 else o3
 if s.up/\s.counts.getD 40 0<w.c.mr then bl o4 ⟨7,n,0,jB⟩ else o4
def nz (w:aE):Nat->List Ev->List Node->List Ev
 |_,out,[]=>out
 |n,out,s::l=>nz w (n+1) (wH w out n s) l
def enabled (w:aE):List Ev:=nz w 0 [] w.nodes
def sx (x y:Int×Int):Bool:=decide (x.1<y.1\/x.1=y.1/\x.2<y.2)
def nA (l:List (Int×Int))(x:Int×Int):List (Int×Int):=
 if(l.dropWhile (fun y=>sx y x)).head? =some x then l
 else l.takeWhile (fun y=>sx y x)++x::l.dropWhile (fun y=>sx y x)
def tQ (w:aE)(n:Nat):Option aE:=
 match w.nodes[n]?,w.traces[n]? with
 |some s,some t=>(tO s).map fun v=>{ w with traces:=w.traces.set n (t++[v]) }
 |_,_=>none
def qX (w:aE)(n:Nat)(r:Rr)(waiting:Int):Option aE:=
 if n<w.nodes.length then
  match w.br[n]? with
  |none=>none
  |some fl=>tQ { w with
    nodes:=w.nodes.set n r.s
    aX:=r.sent.foldl gH w.aX
    ax:=if r.nu then w.ax++[⟨true,waiting,n,r.s.dH,r.value⟩] else w.ax
    br:=w.br.set n (fl++r.br.map fun k=>⟨r.dA,k⟩)
    covered:=(r.covered.map fun k=>(r.s.version,k)).foldl nA w.covered } n
 else none
def nB:Rr:=⟨⟨false,0,0,0,⟨[],[]⟩,[],[],List.replicate 41 0,0,0,0⟩,[],[],false,0,[],⟨0,0,0⟩,IQ,[]⟩
def nC (w:aE)(n:Nat)(handler:Int)(names:List Int)(l:List bf):Option (aE×Rr):=
 match w.nodes[n]? with
 |none=>none
 |some s=>
  if s.version<0\/handler<0 then none else
  match w.c.cQ[s.version.toNat]? with
  |none=>none
  |some p=>match ky s p handler.toNat n w.nodes.length w.c.drift names l with
   |none=>none
   |some r=>(qX w n r s.waiting).map fun w=>(w,r)
def aE.setNode (w:aE)(n:Nat)(s:Node):aE:={ w with nodes:=w.nodes.set n s }
def XJ:List Int:=List.replicate 9 0
def oH (w:aE)(e:Ev)(l:List bf):Option (aE×Rr):=
 if e.node<0 then none else
 let n:=e.node.toNat
 match w.nodes[n]? with
 |none=>none
 |some s=>
  if e.kind=1 then
   if e.arg<0 then none else
   match w.c.cQ[e.arg.toNat]? with
   |none=>none
   |some p=>match sv s p e.arg n w.nodes.length w.c.drift l with
    |none=>none
    |some r=>(qX w n r (-1)).map fun w=>(w,r)
  else if e.kind=2 then
   if e.arg<0 then none else
   match w.c.dg[e.arg.toNat]? with
   |none=>none
   |some q=>if n<w.next.length then
     nC (aE.setNode { w with ax:=w.ax++[(⟨false,e.arg,n,s.dH,0⟩:Ob)],next:=w.next.set n (after w.c n e.arg) } n { s with waiting:=e.arg }) n 1
      [0,0,0,0,q.arg,0,e.arg,q.op,q.key] l
    else none
  else if e.kind=3 then
   match kN w.aX e.msg with
   |none=>none
   |some m=>nC { w with aX:=jz w.aX e.msg } n (10+m.kind) [0,0,0,m.msg.node,m.a,m.b,0,0,0] l
  else if e.kind=4 then nC (w.setNode n { s with timers:=s.timers.filter fun t=>decide (t≠e.arg) }) n (2+e.arg) XJ l
  else if e.kind=5 then some (aE.setNode { w with aX:=jz w.aX e.msg } n { s with dropped:=s.dropped+1 },nB)
  else if e.kind=6 then some (aE.setNode { w with aX:=lD w.aX e.msg (s.cI+1) } n { s with cI:=s.cI+1 },nB)
  else match lC s n l with
   |none=>none
   |some r=>(tQ (w.setNode n r.s) n).map fun w=>(w,r)
def gA (w:aE)(e:Ev)(l:List bf):Option (Option (aE×af)):=
 if 5000<=w.steps then some none
 else if e∈enabled w then
  (oH w e l).map fun x=>some ({ x.1 with steps:=w.steps+1 },⟨e,x.2.asks,decide (w.ax.length<x.1.ax.length),x.2.sent.map Env.msg⟩)
 else some none
def wI (s:af):List bf:=s.asks.map fun a=>⟨⟨a.node,a.handler,a.count,a.kind,a.index⟩,a.n⟩
def tR (l:List Ask):Option (List bf):=
 match(l.reverse.dropWhile fun a=>decide (a.n+1=a.arity)) with
 |[]=>none
 |a::r=>some ((r.reverse.map fun a=>⟨⟨a.node,a.handler,a.count,a.kind,a.index⟩,a.n⟩)++[⟨⟨a.node,a.handler,a.count,a.kind,a.index⟩,a.n+1⟩])
def wJ (w:aE)(e:Ev):Nat->List af->af->Option (List af)
 |0,_,_=>none
 |f+1,out,s=>match tR s.asks with
  |none=>some (out++[s])
  |some l=>match gA w e l with
   |some (some (_,t))=>wJ w e f (out++[s]) t
   |_=>none
def wK (fuel:Nat)(w:aE)(e:Ev):Option (List af):=
 match gA w e [] with
 |none=>none
 |some none=>some []
 |some (some (_,s))=>wJ w e fuel [] s
def around (n:Int)(most:Nat):Nat:=(if n<0 then -(n+1) else n).toNat%most
def pP (fuel:Nat):List Int->aE->List af->Option (List af×aE)
 |[],w,run=>some (run,w)
 |x::l,w,run=>
  let n:=around x 1000000
  match(enabled w)[n%(enabled w).length]? with
  |none=>some (run,w)
  |some e=>match wK fuel w e with
   |none=>none
   |some cs=>match cs[n/50%cs.length]? with
    |none=>none
    |some s=>match gA w s.ev (wI s) with
     |some (some (w,_))=>pP fuel l w (run++[s])
     |_=>none
def walk (fuel:Nat)(c:bR)(l:List Int):Option (List af×aE):=pP fuel (l.take 30) (iO c) []
def pick (l:List Int)(i:Nat)(most:Nat):Nat:=match l[i]? with
 |none=>0
 |some x=>around x most
def config (l:List Int):Option bR:=
 let k:=fun i=>pick l i 1000000
 match build (sources.getD (k 0%12) []) with
 |none=>none
 |some p=>
  match(if k 1%3=0 then(build (sources.getD (k 1/3%12) [])).map fun q=>[p,q] else some [p]) with
  |none=>none
  |some ps=>
   let nodes:=1+(k 2+1)%3
   some ⟨ps,(List.range nodes).map (fun(n:Nat)=>((k 2/3/(n+1)%ps.length:Nat):Int)),if k 3%3=0 then [((k 3/3%ps.length:Nat):Int),0] else [],
    (List.range (k 5%7)).map (fun(i:Nat)=>⟨((k (6+i)%nodes:Nat):Int),[0,1,2,3,4,0,1,3].getD (k (6+i)/3%8) 0,((1+k (6+i)/24%5/4:Nat):Int),((1+i:Nat):Int)⟩),
    ((k 4%3/2:Nat):Int),((k 4/3%4/3:Nat):Int),((k 4/12%4/3:Nat):Int),((k 4/48%5/4:Nat):Int)⟩
end aq
end Go.Proofs.YtlnghiefahcnpaaGreat
