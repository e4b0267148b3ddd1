import Derived.Test.YtkanpepkdcmpmaaGreatDoorY17
set_option maxHeartbeats 40000000
set_option maxRecDepth 100000
set_option linter.all false
namespace Go.Proofs.YtkanpepkdcmpmaaGreatDoor
namespace Ab
open Go Go.RowKit
attribute [local irreducible] aM bt aX
theorem axH (n:Nat):rowsOf 1 n (dt 1 n [iA 0])=bH (List.replicate n 0):=by
 apply yj;intro i;unfold rowsOf;rw[fh];by_cases hi:i<n
 ·rw[Gc hi,fh,List.getElem?_replicate,aq hi];simp only[yl,aA,dt,Nat.mul_one,Nat.mod_one];apply yj;intro j;rw[wI,oA,fh]
  cases j with
  |zero=>simp[hi]
  |succ j=>simp
 ·rw[qh (by simpa using hi),qh (by simpa using hi)];rfl
theorem axI (n:Nat):(dt 1 n [iA 0]).all inl=true:=by
 rw[fq];intro x hx;unfold dt at hx;obtain⟨j,_,rfl⟩:=dm.1 hx;simp[Nat.mod_one]
theorem axJ (rows:List (List AC))(cs:List AC)(e:Int)(h0:cs.take 1=[.sl rows])(hl:cs.length=43)(hi:cs.all inl=true)(hr:rows.length<=400)(he:e<0):aU Tryz.prog 223 [.agg cs,.c (iA e)] (fun x=>x=.bD [.c (ints (List.replicate rows.length (-1))),.c (bA true)]):=by
 have hr6:(rows.length:Int)<=1000000:=ab;refine cC Tryz.func223 (aO [17]) [tm 17 10] [.t 4,.t 5] [2,4,5,6,7,8,9,10,11,12,13,17] [2,17] ?_;have FF:=eV @h0 @hl
 try refine aF ?_
 (refine bh (by simp[axH,axI,hr6];try rfl) ?_)
 have FF:=trivial
 try refine aF ?_
 refine dv (fun n V S=>∃(k:Nat) (d:List Int),k<=rows.length/\n=rows.length-k/\d.length=rows.length/\(∀j (hj:j<d.length),j<k->d[j]= -1)/\
  V=[(0,.w (.agg cs)),(1,.w (.c (iA e))),(2,.pb 2 1 0),(4,.w (.c (.sl []))),(5,.w (.c (bA false))),(6,.w (.c (.own 17 1))),(7,.w (.c (iA k))),(8,.u),(9,.u),(10,.u),(11,.u),(12,.u),(13,.u),(17,.w (.c (.own 17 1)))]/\S=[(2,.box 1 cs),(17,.row 3 1 1 (bH d))]) (n:=rows.length) ⟨0,List.replicate rows.length 0,ab,ab,ai,fun j _ h=>ab,rfl,ai⟩ ?_
 rintro n V L S ⟨k,d,hk,rfl,ez,hd,rfl,rfl⟩;by_cases hlt:k<rows.length
 ·have cD:k<=1000000000:=ab;have nK:k<d.length:=ab;have FF:=eW @nK @ez @hlt (bN cD)
  try refine aF ?_
  refine⟨rows.length-(k+1),ab,k+1,d.set k (-1),ab,ab,by simp[ez],fun j hj ib=> ?_,rfl,by simp[bH,List.map_set]⟩;rw[List.getElem_set];split
  ·rfl
  ·exact hd j (by simpa using hj) ab
 ·have kF:k=rows.length:=ab
  have mq:d=List.replicate rows.length (-1):=by
   apply Nb (by simp[ez]);intro j h1 h2;rw[hd j h1 ab];simp
  have FF:=eW @ez @hlt @he @kF
  try refine aF ?_
  refine zE ?_;exact(by rw[mq];rfl)
theorem axK (rows:List (List AC))(cs:List AC)(h:Nat)(e:Int)(h0:cs.take 1=[.sl rows])(hl:cs.length=43)(hi:cs.all inl=true)(hr:rows.length<=400)(hh:h<40)(h1:(cs.drop (1+h)).take 1=[iA e])(he:e<0):aU Tryz.prog 175 [.agg cs,.c (iA h)] (fun x=>x=.w (.c (iA 0))):=by
 have jn:(h:Int)<40:=ab;have axL:1+h<=42:=ab;have TP:1+h+1<=43:=ab;have ht:cs.take 43=cs:=nh ab;refine cC Tryz.func175 aN [(1,10,tk 0 5 (.move 5 (tk 6 1 (.fork 7 8 (tk 9 1 (.move 8 .nil)) (.move 7 (tk 9 1 .nil))))),[]),(8,15,tk 0 10 (tk 12 1 (.move 10 (tk 11 1 (.move 13 (tk 14 1 .nil))))),[])] [.t 4] [2,4,5,7,8,9] [2] ?_;have FF:=oy @h0 @hl @ht @hi @h1 @hh @jn @axL @TP;refine bJ (axJ rows cs e h0 hl hi hr he) ?_;refine vm ?_ ?_
 all_goals
  have FF:=trivial
  try refine aF ?_
  refine dv (fun n V S=>∃k:Nat,k<=rows.length/\n=rows.length-k/\
   V=[(0,.w (.agg cs)),(1,.w (.c (iA h))),(2,.pb 2 1 0),(4,.w (.c (iA 0))),(5,.w (.c (ints (List.replicate rows.length (-1))))),(7,.w (.c (iA 0))),(8,.w (.c (iA k))),(9,.u)]/\S=[(2,.box 1 cs)]) (n:=rows.length) ⟨0,ab,ab,rfl,rfl⟩ ?_
  rintro n V L S ⟨k,hk,rfl,rfl,rfl⟩;by_cases hlt:k<rows.length
  ·have cD:k<=1000000000:=ab;have FF:=eV @hlt (bN cD)
   try refine aF ?_
   exact⟨rows.length-(k+1),ab,k+1,ab,ab,rfl,rfl⟩
  ·have FF:=@hlt
   try refine aF ?_
   refine zE ?_;exact(rfl)
def Pb (c:C1):C1:=fun f args=>match Nat.beq f 175 with
 |true=>match args with
  |[.agg cs,.c (.v (.int .i64 (.ofNat h)))]=>match cs with
   | .sl rows::r=>match r.drop h with
    | .v (.int .i64 (.negSucc _))::_=>match Nat.ble rows.length 400 && (Nat.ble (h+1) 40 && (Nat.beq r.length 42 && r.all inl)) with
     |true=>some (.w (.c (.v (.int .i64 0))))
     |false=>c f args
    |_=>c f args
   |_=>c f args
  |_=>c f args
 |false=>c f args
theorem aav {c:C1}(hc:iD Tryz.prog c):iD Tryz.prog (Pb c):=by
 intro f args x h;unfold Pb at h;split at h
 case h_2=>exact hc f args x h
 rename_i hf;split at h
 case h_2=>exact hc f _ x h
 rename_i cs n;split at h
 case h_2=>exact hc f _ x h
 rename_i rows r;split at h
 case h_2=>exact hc f _ x h
 rename_i e t hd;split at h
 case h_2=>exact hc f _ x h
 rename_i hb;cases h;simp only[bV] at hb;have hn:=tr hb.2.1;rw[ej hf];refine axK rows (.sl rows::r) n (.negSucc e) rfl (by simp[ej hb.2.2.1]) (by simpa using hb.2.2.2) (tr hb.1) ab ?_ ab;rw[DG,qj,hd];rfl
end Ab
namespace Ab
open Go Go.RowKit mG
theorem axM:iD Tryz.prog (known 122 [.c (sA (sources.getD 2 []))] aau fA):=xI (jS kW axF 1000 60 (jT axG)) kV
theorem axN:iY ((xP kG (Pb (known 122 [.c (sA (sources.getD 2 []))] aau fA)) 1000 60).1 65 [.c (sA (sources.getD 2 []))]) (.bD [.agg (cI ((build (sources.getD 2 [])).getD ⟨[],[],0,0⟩)),.c (iA 0)])=true:=ah
end Ab
end Go.Proofs.YtkanpepkdcmpmaaGreatDoor
