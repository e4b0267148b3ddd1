import Derived.Test.YtlnghiefahcnpaaGreatQ13
import Derived.Test.YtlnghiefahcnpaaGreatQ17
set_option maxHeartbeats 40000000
set_option maxRecDepth 100000
set_option linter.all false
namespace Go.Proofs.YtlnghiefahcnpaaGreat
namespace Ab
open Go Go.RowKit
open aq (bR mo Ob lE aE Env aL Rr)
abbrev rX (r:Rr):List AC:=rC r.s (asks r.asks) (gM r.sent) r.nu r.value (ints r.br) r.dA (sO r.out) (ints r.covered)
abbrev wX (w:aE)(g1 g2 g3 g4:Nat):List AC:=wO w.c (gM w.aX) (ax w.ax) (sP w.covered) w.steps g1 g2 g3 g4
abbrev wT (w:aE)(g1 g2 g3 g4:Nat):List (Nat×Slot):=apJ w.nodes w.next w.br w.traces g1 g2 g3 g4
theorem uB (r:Rr):(rX r).length=67:=JO _ _ _ _ _ _ _ _ _ rfl
theorem adR {D:List Nat}:∀{cs:List AC},cs.all inl=true->cs.all (iP D)=true
 |[],_=>rfl
 |c::cs,h=>by
  simp only[vT,bN] at h;rw[vT,adR h.2,Bool.and_true]
  cases c with
  |own s g=>cases h.1
  |ct s g=>cases h.1
  |part s g i=>cases h.1
  |cls f bK=>cases h.1
  |dX f bK=>rfl
  |v x=>rfl
  |sl es=>rfl
theorem Kj (r:Rr):(rX r).all inl=true:=by
 unfold rX;rw[dt];simp
theorem adS (st:St)(r:Rr):st.gK (rX r)=some (rX r):=CU (Kj r)
theorem FX (r:Rr):(rX r).take 67=rX r:=List.take_of_length_le (by rw[uB];exact di _)
theorem FY (r:Rr):(rX r).drop 67=[]:=oZ (by rw[uB];exact di _)
theorem adT (r:Rr)(s g:Nat)(es:List (List AC)):(rX r).map (je s g es)=rX r:=pZ (Kj r)
theorem Pt (D:List Nat)(r:Rr):(rX r).all (iP D)=true:=adR (Kj r)
end Ab
end Go.Proofs.YtlnghiefahcnpaaGreat
