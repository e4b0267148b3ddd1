/- Two tapes in a row; equal tapes compared. -/
import Derived.Test.YtjdhcdbjfbhogaaX10
namespace Go.Proofs.Ytjdhcdbjfbhogaa
open Go.RowKit

/-- One of two tapes in a row. -/
structure TapeEl (W : World) (ga i : Nat) (k : Option Addr) (c : Nat) (k2 : Option Addr) (c2 : Nat) (evs : List Ev) (l : List Ans) : Prop where
  cell : W.cell? ⟨ga, i * 2, none⟩ = some (.slice k evs.length c) ∧ W.cell? ⟨ga, i * 2 + 1, none⟩ = some (.slice k2 l.length c2)
  tape : TapeIn W k c k2 c2 evs l
  ok : (∀ e ∈ evs, e.ok) ∧ ∀ a ∈ l, a.ok
  len : evs.length ≤ 10 ∧ l.length ≤ 10
theorem TapeEl.kept {W W' : World} {ga i : Nat} {k : Option Addr} {c : Nat} {k2 : Option Addr} {c2 : Nat} {evs : List Ev} {l : List Ans} (h : TapeEl W ga i k c k2 c2 evs l) (hb : Below W.heap.size W W') : TapeEl W' ga i k c k2 c2 evs l := by
  have h0 := World.block_lt_of_cell? _ _ h.cell.1
  exact ⟨⟨by rw [hb.cell (by simpa using h0)]; exact h.cell.1, by rw [hb.cell (by simpa using h0)]; exact h.cell.2⟩, h.tape.kept hb, h.ok, h.len⟩

theorem sameTT (e1 : List Ev) (l1 : List Ans) (k : Option Addr) (c : Nat) (k2 : Option Addr) (c2 : Nat) (k3 : Option Addr) (c3 : Nat) (k4 : Option Addr) (c4 : Nat) (w : World) (h1 : TapeIn w k c k2 c2 e1 l1) (h2 : TapeIn w k3 c3 k4 c4 e1 l1) :
    Calls Try.prog 22 #[tv k c k2 c2 e1 l1, tv k3 c3 k4 c4 e1 l1] w fun e w' => e = .returned (.bool true) ∧ Below w.heap.size w w' := by
  refine (sameT e1 e1 l1 l1 k c k2 c2 k3 c3 k4 c4 w h1 h2).mono ?_
  rintro e w' ⟨rfl, h⟩
  exact ⟨by simp, h⟩
theorem equalTT (e1 : List Ev) (l1 l2 : List Ans) (k : Option Addr) (c : Nat) (k2 : Option Addr) (c2 : Nat) (k3 : Option Addr) (c3 : Nat) (k4 : Option Addr) (c4 : Nat) (w : World) (h1 : TapeIn w k c k2 c2 e1 l1) (h2 : TapeIn w k3 c3 k4 c4 e1 l2)
    (ok1 : ∀ a ∈ l1, a.ok) (ok2 : ∀ a ∈ l2, a.ok) (n1 : l1.length ≤ 1000000) (n2 : l2.length ≤ 1000000) (he : normA l1 = normA l2) :
    Calls Try.prog 34 #[tv k c k2 c2 e1 l1, tv k3 c3 k4 c4 e1 l2] w fun e w' => e = .returned (.bool true) ∧ Below w.heap.size w w' := by
  refine (equalT e1 e1 l1 l2 k c k2 c2 k3 c3 k4 c4 w h1 h2 ok1 ok2 n1 n2).mono ?_
  rintro e w' ⟨rfl, h⟩
  exact ⟨by simp [he], h⟩

/-- Compared: what both comparisons say, under one name. -/
theorem equalB (e1 e2 : List Ev) (l1 l2 : List Ans) (k : Option Addr) (c : Nat) (k2 : Option Addr) (c2 : Nat) (k3 : Option Addr) (c3 : Nat) (k4 : Option Addr) (c4 : Nat) (w : World) (h1 : TapeIn w k c k2 c2 e1 l1) (h2 : TapeIn w k3 c3 k4 c4 e2 l2)
    (ok1 : ∀ a ∈ l1, a.ok) (ok2 : ∀ a ∈ l2, a.ok) (n1 : l1.length ≤ 1000000) (n2 : l2.length ≤ 1000000) (b : Bool) (hb : b = (decide (e1 = e2) && decide (normA l1 = normA l2))) :
    Calls Try.prog 34 #[tv k c k2 c2 e1 l1, tv k3 c3 k4 c4 e2 l2] w fun e w' => e = .returned (.bool b) ∧ Below w.heap.size w w' := by
  subst hb
  exact equalT e1 e2 l1 l2 k c k2 c2 k3 c3 k4 c4 w h1 h2 ok1 ok2 n1 n2
theorem sameB (e1 e2 : List Ev) (l1 l2 : List Ans) (k : Option Addr) (c : Nat) (k2 : Option Addr) (c2 : Nat) (k3 : Option Addr) (c3 : Nat) (k4 : Option Addr) (c4 : Nat) (w : World) (h1 : TapeIn w k c k2 c2 e1 l1) (h2 : TapeIn w k3 c3 k4 c4 e2 l2) (b : Bool) (hb : b = (decide (e1 = e2) && decide (l1 = l2))) :
    Calls Try.prog 22 #[tv k c k2 c2 e1 l1, tv k3 c3 k4 c4 e2 l2] w fun e w' => e = .returned (.bool b) ∧ Below w.heap.size w w' := by
  subst hb
  exact sameT e1 e2 l1 l2 k c k2 c2 k3 c3 k4 c4 w h1 h2
/-- The reference's Normal, its result opened. -/
theorem refNormT (evs : List Ev) (l : List Ans) (k : Option Addr) (c : Nat) (k2 : Option Addr) (c2 : Nat) (w : World) (h : TapeIn w k c k2 c2 evs l) (hle : evs.length ≤ 1000000) (hl : l.length ≤ 1000000) :
    Calls Try.prog 32 #[tv k c k2 c2 evs l] w fun e w' => ∃ k c k2 c2, e = .returned (tv k c k2 c2 evs (normA l)) ∧ TapeIn w' k c k2 c2 evs (normA l) ∧ Below w.heap.size w w' := by
  refine (refNormalF evs l _ _ w h.1 h.2 hle hl).mono ?_
  rintro e w' ⟨ue, ua, rfl, h1, h2, h3⟩
  obtain ⟨k, c, k2, c2, rfl, rfl, h⟩ := TapeIn.of h1 h2
  exact ⟨k, c, k2, c2, rfl, h, h3⟩
/-- One of two questions in a row. -/
structure QuEl (W : World) (gk i : Nat) (q : Qn) : Prop where
  c0 : W.cell? ⟨gk, i * 5, none⟩ = some (I q.node)
  c1 : W.cell? ⟨gk, i * 5 + 1, none⟩ = some (I q.handler)
  c2 : W.cell? ⟨gk, i * 5 + 2, none⟩ = some (I q.count)
  c3 : W.cell? ⟨gk, i * 5 + 3, none⟩ = some (I q.kind)
  c4 : W.cell? ⟨gk, i * 5 + 4, none⟩ = some (I q.index)
theorem QuEl.kept {W W' : World} {gk i : Nat} {q : Qn} (h : QuEl W gk i q) (hb : Below W.heap.size W W') : QuEl W' gk i q := by
  have h0 := World.block_lt_of_cell? _ _ h.c0
  have key : ∀ o, W'.cell? ⟨gk, o, none⟩ = W.cell? ⟨gk, o, none⟩ := fun o => hb.cell (by simpa using h0)
  exact ⟨(key _).trans h.c0, (key _).trans h.c1, (key _).trans h.c2, (key _).trans h.c3, (key _).trans h.c4⟩

end Go.Proofs.Ytjdhcdbjfbhogaa
