import Derived.Test.YtljmonfobefiiaaGreatDoorQTG6
/- PLAIN LAW of leaving parts out. -/
namespace Go.Proofs.YtljmonfobefiiaaGreatDoor

/-- The list without the members at the places i, i + 1, .. that p names. -/
def dropP {α : Type} (p : Nat → Bool) : Nat → List α → List α
  | _, [] => []
  | i, a :: l => if p i then dropP p (i + 1) l else a :: dropP p (i + 1) l
/-- The list without the parts ps. -/
def dropAt {α : Type} (ps : List Int) (i : Nat) (l : List α) : List α := dropP (fun j => decide ((j : Int) ∈ ps)) i l
theorem dropP_snoc {α : Type} (p : Nat → Bool) (x : α) : ∀ (l : List α) (i : Nat), dropP p i (l ++ [x]) = dropP p i l ++ if p (i + l.length) then [] else [x]
  | [], i => by simp [dropP]
  | a :: l, i => by
    simp only [List.cons_append, dropP, dropP_snoc p x l, List.length_cons]
    rw [show i + 1 + l.length = i + (l.length + 1) by omega]
    split <;> simp
theorem dropP_take {α : Type} (p : Nat → Bool) (l : List α) (i k : Nat) (h : k < l.length) : dropP p i (l.take (k + 1)) = dropP p i (l.take k) ++ if p (i + k) then [] else [l[k]] := by
  rw [List.take_succ_eq_append_getElem h, dropP_snoc, List.length_take, Nat.min_eq_left (by omega)]
theorem dropP_congr {α : Type} {p q : Nat → Bool} : ∀ (l : List α) (i : Nat), (∀ j, i ≤ j → p j = q j) → dropP p i l = dropP q i l
  | [], _, _ => rfl
  | a :: l, i, h => by
    simp only [dropP]
    rw [h i (Nat.le_refl _), dropP_congr l (i + 1) (fun j hj => h j (by omega))]
theorem dropP_none {α : Type} {p : Nat → Bool} : ∀ (l : List α) (i : Nat), (∀ j, i ≤ j → j < i + l.length → p j = false) → dropP p i l = l
  | [], _, _ => rfl
  | a :: l, i, h => by
    simp only [dropP]
    rw [h i (Nat.le_refl _) (by simp), dropP_none l (i + 1) (fun j hj hl => h j (by omega) (by simp; omega))]
    simp
theorem dropP_all {α : Type} {p : Nat → Bool} : ∀ (l : List α) (i : Nat), (∀ j, i ≤ j → j < i + l.length → p j = true) → dropP p i l = []
  | [], _, _ => rfl
  | a :: l, i, h => by
    simp only [dropP]
    rw [h i (Nat.le_refl _) (by simp), dropP_all l (i + 1) (fun j hj hl => h j (by omega) (by simp; omega))]
    simp
theorem dropP_sub {α : Type} (p : Nat → Bool) : ∀ (l : List α) (i : Nat), (dropP p i l).Sublist l
  | [], _ => List.Sublist.refl _
  | a :: l, i => by
    simp only [dropP]
    split
    · exact (dropP_sub p l (i + 1)).cons _
    · exact (dropP_sub p l (i + 1)).cons_cons _
theorem dropP_length {α : Type} (p : Nat → Bool) (l : List α) (i : Nat) : (dropP p i l).length ≤ l.length := (dropP_sub p l i).length_le
/-- One part more, from the last to the first. -/
theorem dropP_one {α : Type} (f : Nat → Bool) (k : Nat) (hf : f k = true) : ∀ (l : List α) (i : Nat), i ≤ k →
    dropP (fun j => decide (j = k)) i (dropP (fun j => f j && decide (k < j)) i l) = dropP (fun j => f j && decide (k ≤ j)) i l
  | [], _, _ => rfl
  | a :: l, i, h => by
    by_cases e : i = k
    · subst e
      have e1 : dropP (fun j => decide (j = i)) (i + 1) (dropP (fun j => f j && decide (i < j)) (i + 1) l) = dropP (fun j => f j && decide (i < j)) (i + 1) l :=
        dropP_none _ _ (fun j hj _ => by simp; omega)
      have e2 : dropP (fun j => f j && decide (i < j)) (i + 1) l = dropP (fun j => f j && decide (i ≤ j)) (i + 1) l :=
        dropP_congr _ _ (fun j hj => by
          rw [show decide (i < j) = true by simp; omega, show decide (i ≤ j) = true by simp; omega])
      simp [dropP, hf]
      rw [e1, e2]
    · have := dropP_one f k hf l (i + 1) (by omega)
      have h1 : ¬ k < i := by omega
      have h2 : ¬ k ≤ i := by omega
      simp [dropP, h1, h2, e]
      exact this
/-- A part that is not to go. -/
theorem dropP_skip {α : Type} (f : Nat → Bool) (k : Nat) (hf : f k = false) (l : List α) (i : Nat) : dropP (fun j => f j && decide (k < j)) i l = dropP (fun j => f j && decide (k ≤ j)) i l :=
  dropP_congr _ _ (fun j _ => by
    by_cases e : j = k
    · subst e; simp [hf]
    · rw [show decide (k < j) = decide (k ≤ j) by simp; omega])
theorem normA_dropP (p : Nat → Bool) (i : Nat) (l : List Ans) : normA (dropP p i (normA l)) = dropP p i (normA l) :=
  normA_of_sorted ((normA_spec l).1.sublist (dropP_sub p _ i)) (fun a ha => (((normA_spec l).2 a).1 ((dropP_sub p _ i).subset ha)).2)
end Go.Proofs.YtljmonfobefiiaaGreatDoor
