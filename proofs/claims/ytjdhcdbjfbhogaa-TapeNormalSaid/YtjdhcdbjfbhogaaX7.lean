/- PLAIN LAW of TapeParts: parts left out one by one, from the greatest to the least. -/
import Derived.Test.YtjdhcdbjfbhogaaX4
namespace Go.Proofs.Ytjdhcdbjfbhogaa

/-- What is left when the parts of 'few' from k on are gone. -/
def goneP {α : Type} (few : List Int) (k s : Nat) (l : List α) : List α := dropP (fun j => decide ((j : Int) ∈ few) && decide (k ≤ j)) s l
theorem goneP_end {α : Type} (few : List Int) (k s : Nat) (l : List α) (h : s + l.length ≤ k) : goneP few k s l = l :=
  dropP_none _ _ (fun j _ hj => by rw [decide_eq_false (show ¬ k ≤ j by omega), Bool.and_false])
theorem goneP_zero {α : Type} (few : List Int) (s : Nat) (l : List α) : goneP few 0 s l = dropAt few s l :=
  dropP_congr _ _ (fun j _ => by rw [decide_eq_true (Nat.zero_le j), Bool.and_true])
theorem goneP_skip {α : Type} {few : List Int} {i : Nat} (h : ¬ (i : Int) ∈ few) (s : Nat) (l : List α) : goneP few (i + 1) s l = goneP few i s l :=
  dropP_skip (fun j => decide ((j : Int) ∈ few)) i (by simp [h]) l s
theorem dropAt_one {α : Type} (i s : Nat) (l : List α) : dropAt [(i : Int)] s l = dropP (fun j => decide (j = i)) s l :=
  dropP_congr _ _ (fun j _ => by
    rw [decide_eq_decide]
    simp
    omega)
theorem goneP_one {α : Type} {few : List Int} {i : Nat} (h : (i : Int) ∈ few) {s : Nat} (hs : s ≤ i) (l : List α) : dropAt [(i : Int)] s (goneP few (i + 1) s l) = goneP few i s l := by
  rw [dropAt_one]
  exact dropP_one (fun j => decide ((j : Int) ∈ few)) i (by simp [h]) l s hs
theorem dropAt_past {α : Type} {i s : Nat} (hs : i < s) (l : List α) : dropAt [(i : Int)] s l = l := by
  rw [dropAt_one]
  exact dropP_none _ _ (fun j hj _ => decide_eq_false (by omega))
theorem goneP_past {α : Type} {few : List Int} {i s : Nat} (hs : i < s) (l : List α) : goneP few (i + 1) s l = goneP few i s l :=
  dropP_congr _ _ (fun j hj => by rw [decide_eq_true (show i + 1 ≤ j by omega), decide_eq_true (show i ≤ j by omega)])
theorem dropP_ge {α : Type} (p : Nat → Bool) : ∀ (n : Nat) (l : List α) (s : Nat), (∀ j, s ≤ j → j < s + n → p j = false) → n ≤ l.length → n ≤ (dropP p s l).length
  | 0, _, _, _, _ => Nat.zero_le _
  | n + 1, [], _, _, h => by simp at h
  | n + 1, a :: l, s, h, hn => by
    have ih := dropP_ge p n l (s + 1) (fun j h1 h2 => h j (by omega) (by omega)) (by simpa using hn)
    simp only [dropP, h s (Nat.le_refl _) (by omega)]
    simpa using ih
theorem goneP_ge {α : Type} (few : List Int) (k : Nat) (l : List α) (h : k ≤ l.length) : k ≤ (goneP few k 0 l).length :=
  dropP_ge _ k l 0 (fun j _ hj => by rw [decide_eq_false (show ¬ k ≤ j by omega), Bool.and_false]) h
/-- One part more is left out: events. -/
theorem gone_ev {α : Type} {few : List Int} {i : Nat} (h : (i : Int) ∈ few) (l : List α) : dropAt [(i : Int)] 0 (goneP few (i + 1) 0 l) = goneP few i 0 l := goneP_one h (Nat.zero_le _) l
/-- One part more is left out: answers. -/
theorem gone_an {α β : Type} {few : List Int} {i : Nat} (h : (i : Int) ∈ few) (evs : List α) (r : List β) : dropAt [(i : Int)] (goneP few (i + 1) 0 evs).length (goneP few (i + 1) evs.length r) = goneP few i evs.length r := by
  by_cases hi : i < evs.length
  · rw [dropAt_past (by have := goneP_ge few (i + 1) evs (by omega); omega), goneP_past hi]
  · rw [goneP_end few (i + 1) 0 evs (by omega)]
    exact goneP_one h (by omega) r
/-- The numbers P - 1, .., k. -/
def downL (P k : Nat) : List Int := (List.range (P - k)).map fun x => ((P - 1 - x : Nat) : Int)
theorem downL_length (P k : Nat) : (downL P k).length = P - k := by simp [downL]
theorem downL_end (P : Nat) : downL P P = [] := by simp [downL]
theorem downL_snoc {P i : Nat} (h : i < P) : downL P i = downL P (i + 1) ++ [(i : Int)] := by
  unfold downL
  rw [show P - i = P - (i + 1) + 1 by omega, List.range_succ, List.map_append]
  simp
  omega
theorem downL_mem {P j : Nat} (h : j < P) : (j : Int) ∈ downL P 0 := by
  unfold downL
  refine List.mem_map.2 ⟨P - 1 - j, List.mem_range.2 (by omega), ?_⟩
  congr 1
  omega
theorem dropAt_down {α : Type} (P s : Nat) (l : List α) (h : s + l.length ≤ P) : dropAt (downL P 0) s l = [] :=
  dropP_all _ _ (fun j _ hj => decide_eq_true (downL_mem (by omega)))
theorem normA_dropAt (ps : List Int) (i : Nat) (l : List Ans) : normA (dropAt ps i (normA l)) = dropAt ps i (normA l) := normA_dropP _ i l
theorem dropAt_length {α : Type} (ps : List Int) (i : Nat) (l : List α) : (dropAt ps i l).length ≤ l.length := dropP_length _ _ _
theorem dropAt_mem {α : Type} {ps : List Int} {i : Nat} {l : List α} {a : α} (h : a ∈ dropAt ps i l) : a ∈ l := (dropP_sub _ _ _).subset h
end Go.Proofs.Ytjdhcdbjfbhogaa
