import Derived.Test.YtkanpepkdcmpmaaGreatDoorY4
set_option maxHeartbeats 40000000
set_option maxRecDepth 100000
set_option linter.all false
namespace Go.Proofs.YtkanpepkdcmpmaaGreatDoor
namespace Ab
open Go Go.RowKit mG
def nth (l:List Int)(n:Nat):List AC:=(List.range n).map fun i=>iA (l.getD i 0)
@[simp] theorem aGC (l:List Int)(n:Nat):(nth l n).length=n:=by simp[nth]
theorem TN (l:List Int)(n i:Nat)(h:i<n):(nth l n)[i]? =some (iA (l.getD i 0)):=by simp[nth,h]
@[simp] theorem aGD (l:List Int)(n:Nat):(nth l n).all inl=true:=by simp[nth]
abbrev aiN (c:List (Int×Int)):AC:=.sl (c.map fun p=>[iA p.1,iA p.2])
@[irreducible] def cI (p:Prog):List AC:=aiN p.code::(nth p.entry 40++[iA p.dH,iA p.jF])
@[simp] theorem aGE (p:Prog):(cI p).length=43:=by simp[cI]
@[simp] theorem aGF (p:Prog):(cI p).take 1=[aiN p.code]:=by simp[cI]
@[simp] theorem axB (p:Prog):((cI p).drop 41).take 1=[iA p.dH]:=by
 unfold cI;rw[qj,BA ai,uF ai];rfl
@[simp] theorem aGG (p:Prog):((cI p).drop 42).take 1=[iA p.jF]:=by
 unfold cI;rw[qj,show(41:Nat)=(nth p.entry 40).length+1 by simp,<-List.drop_drop,lW];rfl
theorem axC (p:Prog){i:Nat}(h:i<40):((cI p).drop (1+i)).take 1=[iA (p.entry.getD i 0)]:=by
 unfold cI;rw[DG,qj,BA bq]
 have h1:(nth p.entry 40).drop i=iA (p.entry.getD i 0)::(nth p.entry 40).drop (i+1):=by
  rw[List.drop_eq_getElem_cons (by simpa using h)];congr 1;have:=TN p.entry 40 i h;rw[cw (by simpa using h)] at this;exact dX this
 rw[h1];rfl
@[simp] theorem aGH (p:Prog):(cI p).take 43=cI p:=nh ai
@[simp] theorem aGI (p:Prog):(cI p).all inl=true:=by simp[cI]
@[simp] theorem aGJ (p:Prog)(s g:Nat)(es:List (List AC)):(cI p).map (mf s g es)=cI p:=by
 simp only[cI,nth,dF,de,List.map_map,mF];rfl
end Ab
namespace Ab
open Go Go.RowKit
noncomputable def known (f:FuncId)(ws:List AW)(x:AV)(c:C1):C1:=fun g args=>match Nat.beq g f && cS (fun a b=>Ol a b) args ws with
 |true=>some x
 |false=>c g args
theorem xI {P:Program}{f:FuncId}{ws:List AW}{x:AV}{c:C1}(h:aU P f ws (fun y=>y=x))(hc:iD P c):iD P (known f ws x c):=by
 intro g args y hy;unfold known at hy;split at hy
 ·rename_i hb;cases hy;rw[bV] at hb;have h1:=ej hb.1;have h2:args=ws:=Au (fun a b=>Yt) hb.2;subst h1;subst h2;exact h
 ·exact hc g args y hy
end Ab
namespace Ab
open Go Go.RowKit mG
abbrev axD (t:Tok):List AC:=[iA t.kind,iA t.pos,.v (.string ⟨t.text.toArray⟩),iA t.val]
noncomputable def jf (k:Nat):AV:=.bD [.c (.sl (((mG.tokens (sources.getD k [])).getD []).map axD)),.c (iA 0),.c (iA 0)]
end Ab
namespace Ab
open Go Go.RowKit
theorem aas (l:List Int)(n i:Nat)(h:i<n):((nth l n).drop i).take 1=[iA (l.getD i 0)]:=by
 rw[List.drop_eq_getElem_cons (by simpa using h)];have:=TN l n i h;rw[cw (by simpa using h)] at this;rw[dX this];rfl
end Ab
end Go.Proofs.YtkanpepkdcmpmaaGreatDoor
