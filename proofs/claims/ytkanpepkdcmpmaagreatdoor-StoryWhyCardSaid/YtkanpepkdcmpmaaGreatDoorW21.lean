import Derived.Test.YtkanpepkdcmpmaaGreatDoorW4
set_option maxHeartbeats 40000000
set_option maxRecDepth 100000
set_option linter.all false
namespace Go.Proofs.YtkanpepkdcmpmaaGreatDoor
namespace Ab
open Go Go.RowKit mQ
def nth (l:List Int)(n:Nat):List AC:=(List.range n).map fun i=>iA (l.getD i 0)
@[simp] theorem aGF (l:List Int)(n:Nat):(nth l n).length=n:=by simp[nth]
theorem TY (l:List Int)(n i:Nat)(h:i<n):(nth l n)[i]? =some (iA (l.getD i 0)):=by simp[nth,h]
@[simp] theorem aGG (l:List Int)(n:Nat):(nth l n).all inl=true:=by simp[nth]
abbrev aiX (c:List (Int×Int)):AC:=.sl (c.map fun p=>[iA p.1,iA p.2])
@[irreducible] def cM (p:Prog):List AC:=aiX p.code::(nth p.entry 40++[iA p.dK,iA p.jN])
@[simp] theorem aGH (p:Prog):(cM p).length=43:=by simp[cM]
@[simp] theorem aGI (p:Prog):(cM p).take 1=[aiX p.code]:=by simp[cM]
@[simp] theorem axI (p:Prog):((cM p).drop 41).take 1=[iA p.dK]:=by
 unfold cM;rw[qy,BI ai,uG ai];rfl
@[simp] theorem aGJ (p:Prog):((cM p).drop 42).take 1=[iA p.jN]:=by
 unfold cM;rw[qy,show(41:Nat)=(nth p.entry 40).length+1 by simp,<-List.drop_drop,mo];rfl
theorem axJ (p:Prog){i:Nat}(h:i<40):((cM p).drop (1+i)).take 1=[iA (p.entry.getD i 0)]:=by
 unfold cM;rw[DO,qy,BI bz]
 have h1:(nth p.entry 40).drop i=iA (p.entry.getD i 0)::(nth p.entry 40).drop (i+1):=by
  rw[List.drop_eq_getElem_cons (by simpa using h)];congr 1;have:=TY p.entry 40 i h;rw[cz (by simpa using h)] at this;exact eA this
 rw[h1];rfl
@[simp] theorem aGK (p:Prog):(cM p).take 43=cM p:=nB ai
@[simp] theorem aGL (p:Prog):(cM p).all inl=true:=by simp[cM]
@[simp] theorem aGM (p:Prog)(s g:Nat)(es:List (List AC)):(cM p).map (mA s g es)=cM p:=by
 simp only[cM,nth,dJ,dm,List.map_map,mP];rfl
end Ab
namespace Ab
open Go Go.RowKit
noncomputable def known (f:FuncId)(ws:List AW)(x:AV)(c:C1):C1:=fun g args=>match Nat.beq g f && cL (fun a b=>Oz a b) args ws with
 |true=>some x
 |false=>c g args
theorem xz {P:Program}{f:FuncId}{ws:List AW}{x:AV}{c:C1}(h:bj P f ws (fun y=>y=x))(hc:iM P c):iM P (known f ws x c):=by
 intro g args y hy;unfold known at hy;split at hy
 ·rename_i hb;cases hy;rw[bZ] at hb;have h1:=et hb.1;have h2:args=ws:=AG (fun a b=>YB) hb.2;subst h1;subst h2;exact h
 ·exact hc g args y hy
end Ab
namespace Ab
open Go Go.RowKit mQ
abbrev axK (t:Tok):List AC:=[iA t.kind,iA t.pos,.v (.string ⟨t.text.toArray⟩),iA t.val]
noncomputable def jq (k:Nat):AV:=.bP [.c (.sl (((mQ.tokens (sources.getD k [])).getD []).map axK)),.c (iA 0),.c (iA 0)]
end Ab
namespace Ab
open Go Go.RowKit
theorem aav (l:List Int)(n i:Nat)(h:i<n):((nth l n).drop i).take 1=[iA (l.getD i 0)]:=by
 rw[List.drop_eq_getElem_cons (by simpa using h)];have:=TY l n i h;rw[cz (by simpa using h)] at this;rw[eA this];rfl
end Ab
end Go.Proofs.YtkanpepkdcmpmaaGreatDoor
