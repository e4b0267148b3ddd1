import Derived.Test.YtngblilamkkikaaGreatDoorW4
set_option maxHeartbeats 40000000
set_option maxRecDepth 100000
set_option linter.all false
namespace Go.Proofs.YtngblilamkkikaaGreatDoor
namespace Ab
open Go Go.RowKit jc
def nth (l:List Int)(n:Nat):List AC:=(List.range n).map fun i=>iA (l.getD i 0)
@[simp] theorem aDc (l:List Int)(n:Nat):(nth l n).length=n:=by simp[nth]
theorem QZ (l:List Int)(n i:Nat)(h:i<n):(nth l n)[i]? =some (iA (l.getD i 0)):=by simp[nth,h]
@[simp] theorem aDd (l:List Int)(n:Nat):(nth l n).all inl=true:=by simp[nth]
abbrev aeX (c:List (Int×Int)):AC:=.sl (c.map fun p=>[iA p.1,iA p.2])
@[irreducible] def cz (p:Prog):List AC:=aeX p.code::(nth p.entry 40++[iA p.cZ,iA p.jd])
@[simp] theorem aDe (p:Prog):(cz p).length=43:=by simp[cz]
@[simp] theorem aDf (p:Prog):(cz p).take 1=[aeX p.code]:=by simp[cz]
@[simp] theorem art (p:Prog):((cz p).drop 41).take 1=[iA p.cZ]:=by
 unfold cz;rw[oX,zU ai,sV ai];rfl
@[simp] theorem aDg (p:Prog):((cz p).drop 42).take 1=[iA p.jd]:=by
 unfold cz;rw[oX,show(41:Nat)=(nth p.entry 40).length+1 by simp,<-List.drop_drop,lM];rfl
theorem aru (p:Prog){i:Nat}(h:i<40):((cz p).drop (1+i)).take 1=[iA (p.entry.getD i 0)]:=by
 unfold cz;rw[Ck,oX,zU bC]
 have h1:(nth p.entry 40).drop i=iA (p.entry.getD i 0)::(nth p.entry 40).drop (i+1):=by
  rw[List.drop_eq_getElem_cons (by simpa using h)];congr 1;have:=QZ p.entry 40 i h;rw[cy (by simpa using h)] at this;exact ei this
 rw[h1];rfl
@[simp] theorem aDh (p:Prog):(cz p).take 43=cz p:=lK ai
@[simp] theorem aDi (p:Prog):(cz p).all inl=true:=by simp[cz]
@[simp] theorem aDj (p:Prog)(s g:Nat)(es:List (List AC)):(cz p).map (lx s g es)=cz p:=by
 simp only[cz,nth,cY,cU,List.map_map,lN];rfl
end Ab
namespace Ab
open Go Go.RowKit
noncomputable def known (f:FuncId)(ws:List AW)(x:AV)(c:C1):C1:=fun g args=>match Nat.beq g f && cF (fun a b=>MA a b) args ws with
 |true=>some x
 |false=>c g args
theorem xg {P:Program}{f:FuncId}{ws:List AW}{x:AV}{c:C1}(h:bu P f ws (fun y=>y=x))(hc:iL P c):iL P (known f ws x c):=by
 intro g args y hy;unfold known at hy;split at hy
 ·rename_i hb;cases hy;rw[bO] at hb;have h1:=fH hb.1;have h2:args=ws:=yU (fun a b=>WV) hb.2;subst h1;subst h2;exact h
 ·exact hc g args y hy
end Ab
namespace Ab
open Go Go.RowKit jc
abbrev arv (t:Tok):List AC:=[iA t.kind,iA t.pos,.v (.string ⟨t.text.toArray⟩),iA t.val]
noncomputable def il (k:Nat):AV:=.cg [.c (.sl (((jc.tokens (sources.getD k [])).getD []).map arv)),.c (iA 0),.c (iA 0)]
end Ab
namespace Ab
open Go Go.RowKit
theorem Xg (l:List Int)(n i:Nat)(h:i<n):((nth l n).drop i).take 1=[iA (l.getD i 0)]:=by
 rw[List.drop_eq_getElem_cons (by simpa using h)];have:=QZ l n i h;rw[cy (by simpa using h)] at this;rw[ei this];rfl
end Ab
end Go.Proofs.YtngblilamkkikaaGreatDoor
