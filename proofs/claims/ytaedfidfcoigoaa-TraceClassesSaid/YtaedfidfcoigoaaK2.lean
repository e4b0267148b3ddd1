/- The plain law of TraceClasses: how the indices of runs are gathered by their normal forms. -/
import Derived.Test.YtaedfidfcoigoaaM1
namespace Go.Proofs.Ytaedfidfcoigoaa

abbrev Cls := List (List Stp × List Nat)
def clsUp (f : List Stp) (i : Nat) (p : List Stp × List Nat) : List Stp × List Nat := if p.1 = f then (p.1, p.2 ++ [i]) else p
def clsHas (f : List Stp) (cs : Cls) : Bool := cs.any fun p => decide (p.1 = f)
/-- One more run, of normal form f. -/
def clsS (f : List Stp) (i : Nat) (cs : Cls) : Cls := if clsHas f cs = true then cs.map (clsUp f i) else cs ++ [(f, [i])]
/-- The classes of the first n. -/
def clsL (fs : List (List Stp)) : Nat → Cls
  | 0 => []
  | n + 1 => clsS (fs.getD n []) n (clsL fs n)
theorem clsUp_fst (f : List Stp) (i : Nat) (p : List Stp × List Nat) : (clsUp f i p).1 = p.1 := by unfold clsUp; split <;> rfl
theorem clsS_fst (f : List Stp) (i : Nat) (cs : Cls) : (clsS f i cs).map Prod.fst = if clsHas f cs = true then cs.map Prod.fst else cs.map Prod.fst ++ [f] := by
  unfold clsS
  split
  · rw [List.map_map]
    exact List.map_congr_left fun p _ => clsUp_fst f i p
  · simp
theorem clsHas_mem (f : List Stp) (cs : Cls) : clsHas f cs = true ↔ f ∈ cs.map Prod.fst := by
  unfold clsHas
  rw [List.any_eq_true]
  simp only [decide_eq_true_eq, List.mem_map]
theorem clsL_nodup (fs : List (List Stp)) : ∀ n, ((clsL fs n).map Prod.fst).Nodup
  | 0 => List.nodup_nil
  | n + 1 => by
    rw [clsL, clsS_fst]
    have ih := clsL_nodup fs n
    split
    · exact ih
    · rename_i h
      rw [clsHas_mem] at h
      rw [List.nodup_append]
      exact ⟨ih, by simp, fun a ha b hb e => by simp at hb; subst hb; subst e; exact h ha⟩
/-- Where f stands, one entry alone is turned. -/
theorem clsS_set (f : List Stp) (i : Nat) : ∀ (cs : Cls) (k : Nat) (l : List Nat), (cs.map Prod.fst).Nodup → cs[k]? = some (f, l) → clsS f i cs = cs.set k (f, l ++ [i])
  | cs, k, l, hn, hk => by
    have hmem : f ∈ cs.map Prod.fst := List.mem_map.2 ⟨_, List.mem_of_getElem? hk, rfl⟩
    rw [clsS, if_pos ((clsHas_mem f cs).2 hmem)]
    apply List.ext_getElem?
    intro j
    rw [List.getElem?_map]
    obtain ⟨hkl, hke⟩ := List.getElem?_eq_some_iff.1 hk
    by_cases e : k = j
    · subst e
      rw [List.getElem?_set_self hkl, hk]
      simp [clsUp]
    · rw [List.getElem?_set_ne e]
      cases hj : cs[j]? with
      | none => rfl
      | some p =>
        have hne : p.1 ≠ f := by
          intro e2
          have h1 : (cs.map Prod.fst)[k]? = some f := by rw [List.getElem?_map, hk]; rfl
          have h2 : (cs.map Prod.fst)[j]? = some f := by rw [List.getElem?_map, hj]; simp [e2]
          exact e ((List.getElem?_inj (by simpa using hkl) hn).1 (h1.trans h2.symm))
        simp [clsUp, hne]
theorem clsS_new (f : List Stp) (i : Nat) (cs : Cls) (h : ∀ (k : Nat) (p : List Stp × List Nat), cs[k]? = some p → p.1 ≠ f) : clsS f i cs = cs ++ [(f, [i])] := by
  have : ¬ clsHas f cs = true := by
    rw [clsHas_mem]
    intro h'
    obtain ⟨p, hp, e⟩ := List.mem_map.1 h'
    obtain ⟨k, hk⟩ := List.getElem?_of_mem hp
    exact h k p hk e
  rw [clsS, if_neg this]
/-- The first of each class is of its form. -/
theorem clsL_head (fs : List (List Stp)) : ∀ n, n ≤ fs.length → ∀ p ∈ clsL fs n, ∃ h t, p.2 = h :: t ∧ h < n ∧ fs[h]? = some p.1
  | 0, _, p, hp => by simp [clsL] at hp
  | n + 1, hn, p, hp => by
    have ih := clsL_head fs n (by omega)
    rw [clsL, clsS] at hp
    split at hp
    · obtain ⟨q, hq, rfl⟩ := List.mem_map.1 hp
      obtain ⟨h, t, e1, e2, e3⟩ := ih q hq
      refine ⟨h, ?_⟩
      rw [clsUp_fst]
      unfold clsUp
      split
      · exact ⟨t ++ [n], by simp [e1], by omega, e3⟩
      · exact ⟨t, e1, by omega, e3⟩
    · rcases List.mem_append.1 hp with hp | hp
      · obtain ⟨h, t, e1, e2, e3⟩ := ih p hp
        exact ⟨h, t, e1, by omega, e3⟩
      · simp at hp
        subst hp
        refine ⟨n, [], rfl, by omega, ?_⟩
        simp [show n < fs.length by omega]
theorem clsL_len (fs : List (List Stp)) : ∀ n, (clsL fs n).length ≤ n
  | 0 => by simp [clsL]
  | n + 1 => by
    have ih := clsL_len fs n
    rw [clsL, clsS]
    split
    · simp; omega
    · simp; omega
theorem sum_set : ∀ (l : List Nat) (k x : Nat), l[k]? = some x → (l.set k (x + 1)).sum = l.sum + 1
  | [], k, x, h => by simp at h
  | a :: l, 0, x, h => by
    simp at h
    subst h
    simp
    omega
  | a :: l, k + 1, x, h => by
    have := sum_set l k x (by simpa using h)
    simp [this]
    omega
theorem clsL_sum (fs : List (List Stp)) : ∀ n, ((clsL fs n).map fun p => p.2.length).sum = n
  | 0 => rfl
  | n + 1 => by
    have ih := clsL_sum fs n
    rw [clsL]
    by_cases h : clsHas (fs.getD n []) (clsL fs n) = true
    · rw [clsHas_mem] at h
      obtain ⟨p, hp, e⟩ := List.mem_map.1 h
      obtain ⟨k, hk⟩ := List.getElem?_of_mem hp
      obtain ⟨g, l⟩ := p
      subst e
      rw [clsS_set _ n _ k l (clsL_nodup fs n) hk, List.map_set]
      have : (((clsL fs n).map fun p => p.2.length))[k]? = some l.length := by rw [List.getElem?_map, hk]; rfl
      have h2 := sum_set _ _ _ this
      rw [ih] at h2
      simpa using h2
    · rw [clsS, if_neg h]
      simp [ih]
/-- All that stands in a class is an index. -/
theorem clsL_lt (fs : List (List Stp)) : ∀ n, ∀ p ∈ clsL fs n, p.2.length ≤ n ∧ ∀ i ∈ p.2, i < n
  | 0, p, hp => by simp [clsL] at hp
  | n + 1, p, hp => by
    have ih := clsL_lt fs n
    rw [clsL, clsS] at hp
    split at hp
    · obtain ⟨q, hq, rfl⟩ := List.mem_map.1 hp
      have h1 := ih q hq
      unfold clsUp
      split
      · refine ⟨by simp; omega, fun i hi => ?_⟩
        rcases List.mem_append.1 hi with h | h
        · have := h1.2 i h; omega
        · simp at h; omega
      · exact ⟨by omega, fun i hi => by have := h1.2 i hi; omega⟩
    · rcases List.mem_append.1 hp with hp | hp
      · have h1 := ih p hp
        exact ⟨by omega, fun i hi => by have := h1.2 i hi; omega⟩
      · simp at hp
        subst hp
        exact ⟨by simp, fun i hi => by simp at hi; omega⟩
/-- What the reference's loop has done behind k classes. -/
def clsUpTo (f : List Stp) (i k : Nat) (cs : Cls) : Cls := (cs.take k).map (clsUp f i) ++ cs.drop k
theorem clsUpTo_zero (f : List Stp) (i : Nat) (cs : Cls) : clsUpTo f i 0 cs = cs := by simp [clsUpTo]
theorem clsUpTo_len (f : List Stp) (i k : Nat) (cs : Cls) : (clsUpTo f i k cs).length = cs.length := by simp [clsUpTo]; omega
theorem clsUpTo_get (f : List Stp) (i k : Nat) (cs : Cls) (hk : k < cs.length) : (clsUpTo f i k cs)[k]? = some cs[k] := by
  unfold clsUpTo
  rw [List.getElem?_append_right (by simp; omega)]
  simp
  rw [show k - min k cs.length = 0 by omega, Nat.add_zero]
  exact List.getElem?_eq_getElem hk
theorem clsUpTo_succ (f : List Stp) (i k : Nat) (cs : Cls) (hk : k < cs.length) : clsUpTo f i (k + 1) cs = (clsUpTo f i k cs).set k (clsUp f i cs[k]) := by
  unfold clsUpTo
  rw [List.take_succ_eq_append_getElem hk, List.map_append, List.append_assoc, List.set_append_right _ _ (by simp; omega)]
  congr 1
  have e : k - (List.map (clsUp f i) (cs.take k)).length = 0 := by simp; omega
  rw [e, List.drop_eq_getElem_cons hk]
  rfl
theorem clsUpTo_end (f : List Stp) (i : Nat) (cs : Cls) : clsUpTo f i cs.length cs = cs.map (clsUp f i) := by simp [clsUpTo]

end Go.Proofs.Ytaedfidfcoigoaa
