import Derived.Test.YtlnghiefahcnpaaGreatQ32
set_option maxHeartbeats 40000000
set_option maxRecDepth 100000
set_option linter.all false
namespace Go.Proofs.YtlnghiefahcnpaaGreat
namespace Ab
open Go Go.RowKit
attribute [local irreducible] aC bo aU
theorem aul (n:Nat):rowsOf 1 n (cp 1 n [iA 0])=bB (List.replicate n 0):=by
 apply rH;intro i;unfold rowsOf;rw[ek];by_cases hi:i<n
 ·rw[zo hi,ek,List.getElem?_replicate,if_pos hi];simp only[DV,ar,cp,Nat.mul_one,Nat.mod_one];apply rH;intro j;rw[th,lW,ek]
  cases j with
  |zero=>simp[hi]
  |succ j=>simp
 ·rw[List.getElem?_eq_none (by simpa using hi),List.getElem?_eq_none (by simpa using hi)];rfl
theorem aum (n:Nat):(cp 1 n [iA 0]).all inl=true:=by
 rw[dY];intro x hx;unfold cp at hx;obtain⟨j,_,rfl⟩:=fZ.1 hx;simp[Nat.mod_one]
theorem Tb (rows:List (List AC))(cs:List AC)(e:Int)(h0:cs.take 1=[.sl rows])(hl:cs.length=43)(hi:cs.all inl=true)(hr:rows.length<=400)(he:e<0):bt Tryz.prog 100 [.agg cs,.c (iA e)] (fun x=>x=.bQ [.c (ints (List.replicate rows.length (-1))),.c (bA true)]):=by
 have hr6:(rows.length:Int)<=1000000:=aa;refine bZ aG Tryz.func100 rfl Sh [.t 4,.t 5] ah _ rfl [2,4,5,6,7,8,9,10,11,12,13,17] [2,17] ?_;refine bG Sh ?_;dsimp only[V0,uV,S0];have FF:=jk @h0 @hl
 try refine aj ?_
 (refine aZ (by simp[aul,aum,hr6];try rfl) ?_)
 have FF:=trivial
 try refine aj ?_
 refine cF (fun n V S=>∃(k:Nat) (d:List Int),k<=rows.length/\n=rows.length-k/\d.length=rows.length/\(∀j (hj:j<d.length),j<k->d[j]= -1)/\
  V=[(0,.w (.agg cs)),(1,.w (.c (iA e))),(2,.pb 2 1 0),(4,.w (.c (.sl []))),(5,.w (.c (bA false))),(6,.w (.c (.own 17 1))),(7,.w (.c (iA k))),(8,.u),(9,.u),(10,.u),(11,.u),(12,.u),(13,.u),(17,.w (.c (.own 17 1)))]/\S=[(2,.box 1 cs),(17,.row 3 1 1 (bB d))]) (n:=rows.length) ⟨0,List.replicate rows.length 0,aa,aa,ae,fun j _ h=>aa,rfl,ae⟩ ?_
 rintro n V L S ⟨k,d,hk,rfl,mf,hd,rfl,rfl⟩;by_cases hlt:k<rows.length
 ·have cg:k<=1000000000:=aa;have sg:k<d.length:=aa;have FF:=dW @sg @mf @hlt (bL cg)
  try refine aj ?_
  refine⟨rows.length-(k+1),aa,k+1,d.set k (-1),aa,aa,by simp[mf],fun j hj dx=> ?_,rfl,by simp[bB,List.map_set]⟩;rw[List.getElem_set];split
  ·rfl
  ·exact hd j (by simpa using hj) aa
 ·have jE:k=rows.length:=aa
  have nN:d=List.replicate rows.length (-1):=by
   apply List.ext_getElem (by simp[mf]);intro j h1 h2;rw[hd j h1 aa];simp
  have FF:=dW @mf @hlt @he @jE
  try refine aj ?_
  (try dsimp only[aM,aJ])
  exact bd (by simp;try rfl) (by rw[nN];rfl)
theorem aun (rows:List (List AC))(cs:List AC)(h:Nat)(e:Int)(h0:cs.take 1=[.sl rows])(hl:cs.length=43)(hi:cs.all inl=true)(hr:rows.length<=400)(hh:h<40)(h1:(cs.drop (1+h)).take 1=[iA e])(he:e<0):bt Tryz.prog 59 [.agg cs,.c (iA h)] (fun x=>x=.w (.c (iA 0))):=by
 have fP:(h:Int)<40:=aa;have auo:1+h<=42:=aa;have JC:1+h+1<=43:=aa;have ht:cs.take 43=cs:=List.take_of_length_le aa;refine bZ aG Tryz.func59 rfl Sk [.t 4] ah _ rfl [2,4,5,7,8,9] [2] ?_;refine bG Sk ?_;dsimp only[V0,uV,S0];have FF:=GY @h0 @hl @ht @hi @h1 @hh @fP @auo @JC
 repeat first|refine aN (Tb rows cs e h0 hl hi hr he) ?_|refine aO (Tb rows cs e h0 hl hi hr he) ?_|refine aP (Tb rows cs e h0 hl hi hr he) ?_|refine aj ?_
 refine sK ?_ ?_
 all_goals
  have FF:=trivial
  try refine aj ?_
  refine cF (fun n V S=>∃k:Nat,k<=rows.length/\n=rows.length-k/\
   V=[(0,.w (.agg cs)),(1,.w (.c (iA h))),(2,.pb 2 1 0),(4,.w (.c (iA 0))),(5,.w (.c (ints (List.replicate rows.length (-1))))),(7,.w (.c (iA 0))),(8,.w (.c (iA k))),(9,.u)]/\S=[(2,.box 1 cs)]) (n:=rows.length) ⟨0,aa,aa,rfl,rfl⟩ ?_
  rintro n V L S ⟨k,hk,rfl,rfl,rfl⟩;by_cases hlt:k<rows.length
  ·have cg:k<=1000000000:=aa;have FF:=jk @hlt (bL cg)
   try refine aj ?_
   exact⟨rows.length-(k+1),aa,k+1,aa,aa,rfl,rfl⟩
  ·have FF:=@hlt
   try refine aj ?_
   (try dsimp only[aM,aJ])
   exact bd (by simp;try rfl) (rfl)
end Ab
namespace Ab
open Go Go.RowKit
def Gx (c:C1):C1:=fun f args=>match Nat.beq f 59 with
 |true=>match args with
  |[.agg cs,.c (.v (.int .i64 (.ofNat h)))]=>match cs with
   | .sl rows::r=>match r.drop h with
    | .v (.int .i64 (.negSucc _))::_=>match Nat.ble rows.length 400 && (Nat.ble (h+1) 40 && (Nat.beq r.length 42 && r.all inl)) with
     |true=>some (.w (.c (.v (.int .i64 0))))
     |false=>c f args
    |_=>c f args
   |_=>c f args
  |_=>c f args
 |false=>c f args
theorem Tc {c:C1}(hc:gO Tryz.prog c):gO Tryz.prog (Gx c):=by
 intro f args x h;unfold Gx at h;split at h
 case h_2=>exact hc f args x h
 rename_i hf;split at h
 case h_2=>exact hc f _ x h
 rename_i cs n;split at h
 case h_2=>exact hc f _ x h
 rename_i rows r;split at h
 case h_2=>exact hc f _ x h
 rename_i e t hd;split at h
 case h_2=>exact hc f _ x h
 rename_i hb;cases h;simp only[bN] at hb;have hn:=vO hb.2.1;rw[ew hf];refine aun rows (.sl rows::r) n (.negSucc e) rfl (by simp[ew hb.2.2.1]) (by simpa using hb.2.2.2) (vO hb.1) aa ?_ aa;rw[zx,xy,hd];rfl
end Ab
namespace Ab
open Go Go.RowKit dL
theorem aup:gO Tryz.prog (known 27 [.c (sA (sources.getD 2 []))] Ta dU):=sV (iD iG auj 1000 60 (iE auk)) iF
theorem auq:gP ((xP ib (Gx (known 27 [.c (sA (sources.getD 2 []))] Ta dU)) 1000 60).1 11 [.c (sA (sources.getD 2 []))]) (.bQ [.agg (bW ((build (sources.getD 2 [])).getD ⟨[],[],0,0⟩)),.c (iA 0)])=true:=ah
end Ab
end Go.Proofs.YtlnghiefahcnpaaGreat
