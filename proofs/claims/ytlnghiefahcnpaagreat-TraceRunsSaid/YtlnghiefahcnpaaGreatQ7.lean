import Derived.Test.YtlnghiefahcnpaaGreatQ6
set_option maxHeartbeats 40000000
set_option maxRecDepth 100000
set_option linter.all false
namespace Go.Proofs.YtlnghiefahcnpaaGreat
namespace Ab
open Go Go.RowKit
theorem Od (l:List Int)(n i:Nat)(h:i<n):((nth l n).drop i).take 1=[iA (l.getD i 0)]:=by
 rw[List.drop_eq_getElem_cons (by simpa using h)];have:=Jz l n i h;rw[List.getElem?_eq_getElem (by simpa using h)] at this;rw[tq this];rfl
end Ab
namespace Ab
open Go Go.RowKit
attribute [local irreducible] aC bo aU
open aq (fg qR tO iN)
@[irreducible] def aK (s:aq.Node):List AC:=bA s.up::iA s.version::iA s.dH::iA s.clock::ints s.aS.cells::oO s.aS.pending::ints s.dO::ints s.timers::(nth s.counts 41++[iA s.waiting,iA s.dropped,iA s.cI])
@[simp] theorem JJ (s:aq.Node):(aK s).length=52:=by simp[aK]
@[simp] theorem axu (s:aq.Node):(aK s).take 1=[bA s.up]:=by simp[aK]
@[simp] theorem abA (s:aq.Node):(aK s).tail.take 1=[iA s.version]:=by simp[aK]
@[simp] theorem aor (s:aq.Node):((aK s).drop 2).take 1=[iA s.dH]:=by simp[aK]
@[simp] theorem aot (s:aq.Node):((aK s).drop 3).take 1=[iA s.clock]:=by simp[aK]
@[simp] theorem aou (s:aq.Node):((aK s).drop 4).take 2=kT s.aS:=by simp[aK]
@[simp] theorem axv (s:aq.Node):((aK s).drop 6).take 1=[ints s.dO]:=by simp[aK]
@[simp] theorem aov (s:aq.Node):((aK s).drop 7).take 1=[ints s.timers]:=by simp[aK]
theorem Ot (s:aq.Node){i:Nat}(h:i<41):((aK s).drop (8+i)).take 1=[iA (s.counts.getD i 0)]:=by
 unfold aK;rw[zx];simp only[xy];rw[Hg (by simp;omega),iH (by simp;omega)];exact Od s.counts 41 i h
theorem Ou (s:aq.Node)(k:Nat):(aK s).drop (49+k)=[iA s.waiting,iA s.dropped,iA s.cI].drop k:=by
 unfold aK;rw[zx];simp only[xy];rw[show k+41=(nth s.counts 41).length+k by simp;omega,<-List.drop_drop,Bp]
@[simp] theorem abB (s:aq.Node):((aK s).drop 49).take 1=[iA s.waiting]:=by rw[Ou s 0];rfl
@[simp] theorem axw (s:aq.Node):((aK s).drop 50).take 1=[iA s.dropped]:=by rw[Ou s 1];rfl
@[simp] theorem aow (s:aq.Node):((aK s).drop 51).take 1=[iA s.cI]:=by rw[Ou s 2];rfl
@[simp] theorem abC (s:aq.Node):(aK s).take 52=aK s:=List.take_of_length_le ae
@[simp] theorem JK (s:aq.Node):(aK s).all inl=true:=by simp[aK]
theorem JL (s:aq.Node)(r:List Int)(h:tO s=some r)(hm:s.aS.cells.length<=1000000)(hp:s.aS.pending.length<=1000000)(hv:s.dO.length<=1000000):bt Tryz.prog 113 [.agg (aK s)] (fun x=>x=.w (.c (ints r))):=by
 unfold tO at h;rw[bz] at h;obtain⟨c,h1,rfl⟩:=h
 have dc:c.length<=1000000:=by
  have key:∀(l:List (Int×Int)) (c r:List Int),aq.gV c l=some r->r.length=c.length:=by
   intro l
   induction l with
   |nil=>intro c r h;simp only[aq.gV,ar] at h;rw[h]
   |cons x l ih=>
    intro c r h;obtain⟨_,_,h3⟩:=Fl (i:=x.1) (v:=x.2) h;have:=ih _ _ h3;simpa using this
  have:=key _ _ _ h1;omega
 have hlen:c.length+s.dO.length<=100000000:=aa;refine bZ aG Tryz.func113 rfl aan [.t 2] ah _ rfl [1,2] [1,107] ?_;refine bG aan ?_;dsimp only[V0,uV,S0];have FF:=@hlen
 repeat first|refine jS (CA s.aS c _ ae h1 hm hp) ?_|refine jT (CA s.aS c _ ae h1 hm hp) ?_|refine nM rfl (CA s.aS c _ ae h1 hm hp) ?_|refine aj ?_
 (try dsimp only[aM,aJ])
 exact bd (by simp;try rfl) (by simp[cZ])
theorem Ov:bt Tryz.prog 31 [] (fun x=>x=.w (.agg (aK iN))):=by
 refine bZ aG Tryz.func31 rfl ZY [.cell 0 52] ah _ rfl [0] [0] ?_;refine bG ZY ?_;dsimp only[V0,uV,S0];have FF:=trivial
 try refine aj ?_
 (try dsimp only[aM,aJ])
 exact bd (by simp;try rfl) (by unfold aK;rfl)
end Ab
end Go.Proofs.YtlnghiefahcnpaaGreat
