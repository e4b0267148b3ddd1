import Derived.Test.YtkanpepkdcmpmaaGreatDoorW19
set_option maxHeartbeats 40000000
set_option maxRecDepth 100000
set_option linter.all false
namespace Go.Proofs.YtkanpepkdcmpmaaGreatDoor
section
def aas {α:Type}(p:Nat->Bool):Nat->List α->List α
 |_,[]=>[]
 |i,a::l=>if p i then aas p (i+1) l else a::aas p (i+1) l
end
section
open Go.RowKit
variable {B N:Nat} {v:Value} {w:World} {xs:List Int}
def Bytes (w:World)(B:Nat)(v:Value)(xs:List Int):Prop:=w.ownsRow B 5 1 v xs.length (bv xs)
theorem Bytes.join{M:Nat}{ys:List Int}{u:Value}(hN:N=xs.length)(hM:M=ys.length)(h:w.ownsRow B 5 1 u (N+M) (bv xs++bv ys)):Bytes w B u (xs++ys):=by
 subst hN hM;unfold Bytes;rw[List.length_append,awJ];exact h
theorem Bytes.below{w':World}(h:Bytes w B v xs)(hb:aw w w'):Bytes w' B v xs:=pB h hb
theorem Bytes.open(h:Bytes w B v xs):∃k c,v=.slice k xs.length c:=by
 obtain⟨k,c,e,_⟩:=(Flat.eB h).open;exact⟨k,c,e⟩
theorem Bytes.own(h:Bytes w B v xs)(hN:Hid (N=xs.length)):w.ownsRow B 5 1 v N (bv xs):=by
 rw[hN.out];exact h
theorem Bytes.nil(w:World)(B:Nat):Bytes w B (.slice none 0 0) []:=kz _ _ _ _
end
section
def aiV {α:Type}(mI:List Int)(k s:Nat)(l:List α):List α:=aas (fun j=>decide ((j:Int)∈mI) && decide (k<=j)) s l
def aiW (P k:Nat):List Int:=(List.range (P-k)).map fun x=>((P-1-x:Nat):Int)
end
section
open Go.RowKit
structure PSt (mI:List Int)(evs:List Ev)(r:List aL)(gu:Nat)(wg wr:World)(kk:Nat)(v:Value)(k:Option Addr)(c:Nat)(k2:Option Addr)(c2:Nat)(E:List Ev)(A:List aL):Prop where
 own:wr.ownsRow (gu+1) 3 1 v (aiW (evs.length+r.length) kk).length (iv (aiW (evs.length+r.length) kk))
 du:ay wr gu #[.slice k E.length c,.slice k2 A.length c2]
 sep:∀w',wr.grownBy w' v.ownBlock->lz w' k c k2 c2 E A
 below:Below gu wg wr
 ev:E=aiV mI kk 0 evs
 an:lx A=aiV mI kk evs.length r
 ok:∀a∈A,a.ok
 len:A.length<=100
 aGE:E.length<=100
theorem PSt.same {mI:List Int}{evs:List Ev}{r:List aL}{gu:Nat}{wg wr:World}{kk:Nat}{v:Value}{k:Option Addr}{c:Nat}{k2:Option Addr}{c2:Nat}{E:List Ev}{A:List aL}(h:PSt mI evs r gu wg wr kk v k c k2 c2 E A):lz wr k c k2 c2 E A:=h.sep wr (World.grownBy.refl _ _)
end
section
open Go.RowKit
structure aat (W:World)(ga i:Nat)(k:Option Addr)(c:Nat)(k2:Option Addr)(c2:Nat)(evs:List Ev)(l:List aL):Prop where
 cell:W.cell? ⟨ga,i*2,none⟩=some (.slice k evs.length c)/\W.cell? ⟨ga,i*2+1,none⟩=some (.slice k2 l.length c2)
 tape:lz W k c k2 c2 evs l
 ok:(∀e∈evs,e.ok)/\∀a∈l,a.ok
 len:evs.length<=10/\l.length<=10
theorem aat.kept {W W':World}{ga i:Nat}{k:Option Addr}{c:Nat}{k2:Option Addr}{c2:Nat}{evs:List Ev}{l:List aL}(h:aat W ga i k c k2 c2 evs l)(hb:aw W W'):aat W' ga i k c k2 c2 evs l:=by
 have h0:=ez _ _ h.cell.1;exact⟨⟨by rw[hb.cell (by simpa using h0)];exact h.cell.1,by rw[hb.cell (by simpa using h0)];exact h.cell.2⟩,h.tape.kept hb,h.ok,h.len⟩
theorem axH (e1 e2:List Ev)(l1 l2:List aL)(k:Option Addr)(c:Nat)(k2:Option Addr)(c2:Nat)(k3:Option Addr)(c3:Nat)(k4:Option Addr)(c4:Nat)(w:World)(h1:lz w k c k2 c2 e1 l1)(h2:lz w k3 c3 k4 c4 e2 l2)(b:Bool)(hb:b=(decide (e1=e2) && decide (l1=l2))):
  Calls Tryz.prog 39 #[tv k c k2 c2 e1 l1,tv k3 c3 k4 c4 e2 l2] w fun e w'=>e=.returned (.bool b)/\aw w w':=by
 subst hb;exact axF e1 e2 l1 l2 k c k2 c2 k3 c3 k4 c4 w h1 h2
structure aau (W:World)(gk i:Nat)(q:Qn):Prop where
 c0:W.cell? ⟨gk,i*5,none⟩=some (I q.node)
 c1:W.cell? ⟨gk,i*5+1,none⟩=some (I q.handler)
 c2:W.cell? ⟨gk,i*5+2,none⟩=some (I q.count)
 c3:W.cell? ⟨gk,i*5+3,none⟩=some (I q.kind)
 c4:W.cell? ⟨gk,i*5+4,none⟩=some (I q.index)
theorem aau.kept {W W':World}{gk i:Nat}{q:Qn}(h:aau W gk i q)(hb:aw W W'):aau W' gk i q:=by
 have h0:=ez _ _ h.c0
 have key:∀o,W'.cell? ⟨gk,o,none⟩=W.cell? ⟨gk,o,none⟩:=fun o=>hb.cell (by simpa using h0)
 exact⟨(key _).trans h.c0,(key _).trans h.c1,(key _).trans h.c2,(key _).trans h.c3,(key _).trans h.c4⟩
end
end Go.Proofs.YtkanpepkdcmpmaaGreatDoor
