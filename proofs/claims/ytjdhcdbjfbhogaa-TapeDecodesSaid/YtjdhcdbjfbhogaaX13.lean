/- What a decoder holds: its reader, and a tape whose rows grow. -/
import Derived.Test.YtjdhcdbjfbhogaaY1
import Derived.Test.YtjdhcdbjfbhogaaW4
namespace Go.Proofs.Ytjdhcdbjfbhogaa
open Go.RowKit

structure DSt (p gt : Nat) (W0 W : World) (s : Rd) (ve va : Value) (evs : List Ev) (l : List Ans) : Prop where
  pg : p < gt
  rd : InAt W p s
  blk : Blk W gt #[ve, va]
  oe : W.ownsRow (gt + 1) 56 8 ve evs.length (evs.flatMap ec)
  oa : W.ownsRow (gt + 1) 75 6 va l.length (l.flatMap ac)
  ne : ∀ j, ve.ownBlock = some j → va.ownBlock ≠ some j
  below : Below p W0 W
section
variable {p gt : Nat} {W0 W X : World} {s s' : Rd} {ve va : Value} {evs : List Ev} {l : List Ans}
theorem DSt.later (h : DSt p gt W0 W s ve va evs l) (hb : Below W.heap.size W X) : DSt p gt W0 X s ve va evs l :=
  ⟨h.pg, h.rd.below hb, h.blk.kept hb h.blk.lt, owns_below h.oe hb, owns_below h.oa hb, h.ne, h.below.trans (hb.mono (by have := h.rd.lt; omega))⟩
theorem DSt.read (h : DSt p gt W0 W s ve va evs l) (h1 : InAt X p s') (h2 : W.grownBy X (some p)) : DSt p gt W0 X s' ve va evs l :=
  ⟨h.pg, h1, h.blk.grown h2 (by have := h.pg; simp; omega), h.oe.kept h2 (own_ne h.oe (by have := h.pg; omega)), h.oa.kept h2 (own_ne h.oa (by have := h.pg; omega)), h.ne, h.below.grown h2 (by have := h.rd.lt; omega) (fun j hj => by cases hj; omega)⟩
theorem DSt.appE (h : DSt p gt W0 X s ve va evs l) (e : Ev) {w6 : World} {g6 cap6 n : Nat} (h2 : ve.ownBlock = some g6 ∨ g6 = X.heap.size)
    (h3 : w6.ownsRow (gt + 1) 56 8 (.slice (some ⟨g6, 0, none⟩) (n + 1) cap6) (n + 1) (evs.flatMap ec ++ ec e)) (hn : n = evs.length) (h4 : X.grownBy w6 ve.ownBlock) :
    DSt p gt W0 (w6.setCell ⟨gt, 0, none⟩ (.slice (some ⟨g6, 0, none⟩) (n + 1) cap6)) s (.slice (some ⟨g6, 0, none⟩) (n + 1) cap6) va (evs ++ [e]) l := by
  subst hn
  have hpg := h.pg
  have hge : gt + 1 ≤ g6 := (h3.lt g6 rfl).1
  have hb6 : Blk w6 gt #[ve, va] := h.blk.grown h4 (fun e => by have := (h.oe.lt gt e).1; omega)
  refine ⟨h.pg, ?_, hb6.set 0 _, ?_, ?_, ?_, ?_⟩
  · exact (h.rd.grown h4 (fun j hj => by have := (h.oe.lt j hj).1; omega)).grown (grown_set w6 ⟨gt, 0, none⟩ _) (fun j hj => by cases hj; exact hpg)
  · rw [List.length_append, List.flatMap_append]
    simp only [List.flatMap_cons, List.flatMap_nil, List.append_nil]
    exact h3.kept (grown_set w6 ⟨gt, 0, none⟩ _) (own_ne h3 (by show gt < gt + 1; omega))
  · refine (h.oa.kept h4 ?_).kept (grown_set w6 ⟨gt, 0, none⟩ _) (own_ne h.oa (by show gt < gt + 1; omega))
    cases hv : va.ownBlock with
    | none => exact .inl rfl
    | some j => exact .inr (fun e => h.ne j e.symm hv)
  · intro j hj hv
    simp [Value.ownBlock] at hj
    subst hj
    rcases h2 with h2 | h2
    · exact h.ne _ h2 hv
    · have := (h.oa.lt _ hv).2
      omega
  · exact (h.below.grown h4 (by have := h.rd.lt; omega) (fun j hj => by have := (h.oe.lt j hj).1; omega)).setCell (by show p ≤ gt; omega) _
theorem DSt.appA (h : DSt p gt W0 X s ve va evs l) (a : Ans) {w6 : World} {g6 cap6 n : Nat} (h2 : va.ownBlock = some g6 ∨ g6 = X.heap.size)
    (h3 : w6.ownsRow (gt + 1) 75 6 (.slice (some ⟨g6, 0, none⟩) (n + 1) cap6) (n + 1) (l.flatMap ac ++ ac a)) (hn : n = l.length) (h4 : X.grownBy w6 va.ownBlock) :
    DSt p gt W0 (w6.setCell ⟨gt, 1, none⟩ (.slice (some ⟨g6, 0, none⟩) (n + 1) cap6)) s ve (.slice (some ⟨g6, 0, none⟩) (n + 1) cap6) evs (l ++ [a]) := by
  subst hn
  have hpg := h.pg
  have hge : gt + 1 ≤ g6 := (h3.lt g6 rfl).1
  have hb6 : Blk w6 gt #[ve, va] := h.blk.grown h4 (fun e => by have := (h.oa.lt gt e).1; omega)
  refine ⟨h.pg, ?_, hb6.set 1 _, ?_, ?_, ?_, ?_⟩
  · exact (h.rd.grown h4 (fun j hj => by have := (h.oa.lt j hj).1; omega)).grown (grown_set w6 ⟨gt, 1, none⟩ _) (fun j hj => by cases hj; exact hpg)
  · refine (h.oe.kept h4 ?_).kept (grown_set w6 ⟨gt, 1, none⟩ _) (own_ne h.oe (by show gt < gt + 1; omega))
    cases hv : ve.ownBlock with
    | none => exact .inl rfl
    | some j => exact .inr (fun e => h.ne j hv e.symm)
  · rw [List.length_append, List.flatMap_append]
    simp only [List.flatMap_cons, List.flatMap_nil, List.append_nil]
    exact h3.kept (grown_set w6 ⟨gt, 1, none⟩ _) (own_ne h3 (by show gt < gt + 1; omega))
  · intro j hj hv
    simp [Value.ownBlock] at hv
    subst hv
    rcases h2 with h2 | h2
    · exact h.ne _ hj h2
    · have := (h.oe.lt _ hj).2
      omega
  · exact (h.below.grown h4 (by have := h.rd.lt; omega) (fun j hj => by have := (h.oa.lt j hj).1; omega)).setCell (by show p ≤ gt; omega) _
end
theorem owns_len {W : World} {B n m k : Nat} {e : TypeId} {v : Value} {xs : List Value} (h : W.ownsRow B e k v n xs) (hn : m = n) : W.ownsRow B e k v m xs := by
  subst hn
  exact h
theorem owns_ints {W : World} {B n : Nat} {v : Value} {xs : List Int} (h : W.ownsRow B 3 1 v n (iv xs)) (hn : 0 < n) : ∃ r c, v = .slice (some ⟨r, 0, none⟩) n c ∧ B ≤ r ∧ r < W.heap.size ∧ ∀ j x, xs[j]? = some x → W.cell? ⟨r, j, none⟩ = some (I x) := by
  have h2 := h.2
  rcases h2 with ⟨_, h0⟩ | ⟨r, cap, cur, rfl, h1, hg, _⟩
  · omega
  · refine ⟨r, cap, rfl, h1, (Array.getElem?_eq_some_iff.1 hg).1, fun j x hx => ?_⟩
    have := h.cells (g := r) rfl j (I x) (by simp [iv, hx])
    have hadd : (⟨r, 0, none⟩ : Addr).add j = ⟨r, j, none⟩ := by unfold Addr.add; split <;> simp_all
    rw [hadd] at this
    exact this
end Go.Proofs.Ytjdhcdbjfbhogaa
