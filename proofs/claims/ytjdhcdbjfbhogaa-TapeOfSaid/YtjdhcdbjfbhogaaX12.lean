/- Two rows of one tape that grow side by side. -/
import Derived.Test.YtjdhcdbjfbhogaaY1
namespace Go.Proofs.Ytjdhcdbjfbhogaa
open Go.RowKit

/-- What one ask gives: the answer. -/
def Ask.ans (a : Ask) : Ans := ⟨⟨a.node, a.handler, a.count, a.kind, a.index⟩, a.n⟩
def runEv (l : List Stp) : List Ev := l.map Stp.ev
def runAns (l : List Stp) : List Ans := l.flatMap fun s => s.asks.map Ask.ans
/-- The tape at gt: its rows are the call's own, each in a block of its own. -/
structure Two (W0 W : World) (gt : Nat) (ve va : Value) (evs : List Ev) (l : List Ans) : Prop where
  blk : Blk W gt #[ve, va]
  oe : W.ownsRow (gt + 1) 56 8 ve evs.length (evs.flatMap ec)
  oa : W.ownsRow (gt + 1) 75 6 va l.length (l.flatMap ac)
  ne : ∀ j, ve.ownBlock = some j → va.ownBlock ≠ some j
  below : Below gt W0 W
theorem Two.later {W0 W X : World} {gt : Nat} {ve va : Value} {evs : List Ev} {l : List Ans} (h : Two W0 W gt ve va evs l) (hb : Below W.heap.size W X) : Two W0 X gt ve va evs l :=
  ⟨h.blk.kept hb h.blk.lt, owns_below h.oe hb, owns_below h.oa hb, h.ne, h.below.trans (hb.mono (by have := h.blk.lt; omega))⟩
theorem Two.appE {W0 X w6 : World} {gt : Nat} {ve va : Value} {evs : List Ev} {l : List Ans} (h : Two W0 X gt ve va evs l) (e : Ev) {g6 cap6 n : Nat} (h2 : ve.ownBlock = some g6 ∨ g6 = X.heap.size)
    (h3 : w6.ownsRow (gt + 1) 56 8 (.slice (some ⟨g6, 0, none⟩) (n + 1) cap6) (n + 1) (evs.flatMap ec ++ ec e)) (hn : n = evs.length) (h4 : X.grownBy w6 ve.ownBlock) :
    Two W0 (w6.setCell ⟨gt, 0, none⟩ (.slice (some ⟨g6, 0, none⟩) (n + 1) cap6)) gt (.slice (some ⟨g6, 0, none⟩) (n + 1) cap6) va (evs ++ [e]) l := by
  subst hn
  have hge : gt + 1 ≤ g6 := (h3.lt g6 rfl).1
  have hb6 : Blk w6 gt #[ve, va] := h.blk.grown h4 (fun e => by have := (h.oe.lt gt e).1; omega)
  refine ⟨hb6.set 0 _, ?_, ?_, ?_, ?_⟩
  · rw [List.length_append, List.flatMap_append]
    simp only [List.flatMap_cons, List.flatMap_nil, List.append_nil]
    exact h3.kept (grown_set w6 ⟨gt, 0, none⟩ _) (own_ne h3 (by show gt < gt + 1; omega))
  · refine (h.oa.kept h4 ?_).kept (grown_set w6 ⟨gt, 0, none⟩ _) (own_ne h.oa (by show gt < gt + 1; omega))
    cases hv : va.ownBlock with
    | none => exact .inl rfl
    | some j => exact .inr (fun e => h.ne j e.symm hv)
  · intro j hj hv
    simp [Value.ownBlock] at hj
    subst hj
    rcases h2 with h2 | h2
    · exact h.ne _ h2 hv
    · have := (h.oa.lt _ hv).2
      omega
  · refine (h.below.grown h4 (by have := h.blk.lt; omega) (fun j hj => by have := (h.oe.lt j hj).1; omega)).setCell (by simp) _
theorem Two.appA {W0 X w6 : World} {gt : Nat} {ve va : Value} {evs : List Ev} {l : List Ans} (h : Two W0 X gt ve va evs l) (a : Ans) {g6 cap6 n : Nat} (h2 : va.ownBlock = some g6 ∨ g6 = X.heap.size)
    (h3 : w6.ownsRow (gt + 1) 75 6 (.slice (some ⟨g6, 0, none⟩) (n + 1) cap6) (n + 1) (l.flatMap ac ++ ac a)) (hn : n = l.length) (h4 : X.grownBy w6 va.ownBlock) :
    Two W0 (w6.setCell ⟨gt, 1, none⟩ (.slice (some ⟨g6, 0, none⟩) (n + 1) cap6)) gt ve (.slice (some ⟨g6, 0, none⟩) (n + 1) cap6) evs (l ++ [a]) := by
  subst hn
  have hge : gt + 1 ≤ g6 := (h3.lt g6 rfl).1
  have hb6 : Blk w6 gt #[ve, va] := h.blk.grown h4 (fun e => by have := (h.oa.lt gt e).1; omega)
  refine ⟨hb6.set 1 _, ?_, ?_, ?_, ?_⟩
  · refine (h.oe.kept h4 ?_).kept (grown_set w6 ⟨gt, 1, none⟩ _) (own_ne h.oe (by show gt < gt + 1; omega))
    cases hv : ve.ownBlock with
    | none => exact .inl rfl
    | some j => exact .inr (fun e => h.ne j hv e.symm)
  · rw [List.length_append, List.flatMap_append]
    simp only [List.flatMap_cons, List.flatMap_nil, List.append_nil]
    exact h3.kept (grown_set w6 ⟨gt, 1, none⟩ _) (own_ne h3 (by show gt < gt + 1; omega))
  · intro j hj hv
    simp [Value.ownBlock] at hv
    subst hv
    rcases h2 with h2 | h2
    · exact h.ne _ hj h2
    · have := (h.oe.lt _ hj).2
      omega
  · refine (h.below.grown h4 (by have := h.blk.lt; omega) (fun j hj => by have := (h.oa.lt j hj).1; omega)).setCell (by simp) _
theorem runEv_snoc {l : List Stp} {k : Nat} (h : k < l.length) : runEv (l.take (k + 1)) = runEv (l.take k) ++ [l[k].ev] := by
  unfold runEv
  rw [List.take_succ_eq_append_getElem h, List.map_append]
  rfl
theorem runAns_snoc {l : List Stp} {k : Nat} (h : k < l.length) : runAns (l.take (k + 1)) = runAns (l.take k) ++ l[k].asks.map Ask.ans := by
  unfold runAns
  rw [List.take_succ_eq_append_getElem h, List.flatMap_append]
  simp
theorem runEv_length (l : List Stp) : (runEv l).length = l.length := by simp [runEv]
theorem runAns_length : ∀ (l : List Stp) (m : Nat), (∀ s ∈ l, s.asks.length ≤ m) → (runAns l).length ≤ l.length * m
  | [], _, _ => by simp [runAns]
  | s :: l, m, h => by
    have ih := runAns_length l m (fun t ht => h t (by simp [ht]))
    have h0 := h s (by simp)
    simp only [runAns, List.flatMap_cons, List.length_append, List.length_map, List.length_cons] at ih ⊢
    rw [Nat.add_mul]
    omega
theorem asks_snoc {l : List Ask} {j : Nat} (h : j < l.length) (r : List Ans) : r ++ (l.take (j + 1)).map Ask.ans = (r ++ (l.take j).map Ask.ans) ++ [l[j].ans] := by
  rw [List.take_succ_eq_append_getElem h, List.map_append, List.append_assoc]
  rfl
end Go.Proofs.Ytjdhcdbjfbhogaa
