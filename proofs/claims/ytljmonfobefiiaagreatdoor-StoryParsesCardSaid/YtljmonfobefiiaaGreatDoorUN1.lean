import Derived.Test.YtljmonfobefiiaaGreatDoorUBase
/- The queue of poset.New in plain words: at pairs a < b < n it reaches every number, each behind all that comes before it. -/
namespace Go.Proofs.YtljmonfobefiiaaGreatDoor

/-- All pairs' second parts, by first parts. -/
def allS (nx : Nat → List Nat) (n : Nat) : List Nat := (List.range n).flatMap nx

/-- Between two steps of the queue: row: what has been found free; done: the second parts that have been counted off. -/
structure QAt (nx : Nat → List Nat) (n : Nat) (row : List Nat) (done : List Nat) : Prop where
  nodup : row.Nodup
  lt : ∀ a ∈ row, a < n
  mem : ∀ b < n, b ∈ row ↔ done.count b = (allS nx n).count b
  order : ∀ (q : Nat) (b : Nat), row[q]? = some b → ∀ a < n, b ∈ nx a → a ∈ row.take q

/-- Distinct numbers below n, and those that are left. -/
theorem rest_perm {n : Nat} {l : List Nat} (hn : l.Nodup) (hl : ∀ a ∈ l, a < n) : (l ++ (List.range n).filter (fun a => decide (a ∉ l))).Perm (List.range n) := by
  refine (List.perm_ext_iff_of_nodup ?_ List.nodup_range).2 fun a => ?_
  · rw [List.nodup_append]
    refine ⟨hn, List.nodup_range.filter _, ?_⟩
    intro x hx y hy
    rintro rfl
    have := (List.mem_filter.1 hy).2
    simp at this
    exact this hx
  · simp only [List.mem_append, List.mem_filter, List.mem_range, decide_eq_true_eq]
    constructor
    · rintro (ha | ha)
      · exact hl a ha
      · exact ha.1
    · intro ha
      by_cases hr : a ∈ l
      · exact .inl hr
      · exact .inr ⟨ha, hr⟩
theorem count_flat_mono (nx : Nat → List Nat) (b : Nat) {n : Nat} {l : List Nat} (hn : l.Nodup) (hl : ∀ a ∈ l, a < n) : (l.flatMap nx).count b ≤ (allS nx n).count b := by
  have := (List.Perm.flatMap_right nx (rest_perm hn hl)).count_eq b
  rw [List.flatMap_append, List.count_append] at this
  unfold allS
  omega

/-- One more second part is counted off. -/
theorem QAt.step {nx : Nat → List Nat} {n : Nat} {row done : List Nat} (h : QAt nx n row done) (k : Nat) (a : Nat) (hk : row[k]? = some a) (j : Nat) (b : Nat) (hj : (nx a)[j]? = some b) (hb : b < n)
    (hd : done = (row.take k).flatMap nx ++ (nx a).take j) : b ∉ row ∧ done.count b < (allS nx n).count b ∧
      ((allS nx n).count b = done.count b + 1 → QAt nx n (row ++ [b]) (done ++ [b])) ∧ ((allS nx n).count b ≠ done.count b + 1 → QAt nx n row (done ++ [b])) := by
  have hkl := (List.getElem?_eq_some_iff.1 hk).1
  have hjl := (List.getElem?_eq_some_iff.1 hj).1
  have htk : row.take (k + 1) = row.take k ++ [a] := by rw [List.take_add_one, hk]; rfl
  have hpre : (done ++ [b]) <+: (row.take (k + 1)).flatMap nx := by
    rw [htk, List.flatMap_append, hd, List.append_assoc]
    refine (List.prefix_append_right_inj _).2 ?_
    have : (nx a).take j ++ [b] = (nx a).take (j + 1) := by rw [List.take_add_one, hj]; rfl
    rw [this]
    simp only [List.flatMap_cons, List.flatMap_nil, List.append_nil]
    exact List.take_prefix _ _
  have hnd : (row.take (k + 1)).Nodup := (List.take_sublist _ _).nodup h.nodup
  have hlt' : ∀ x ∈ row.take (k + 1), x < n := fun x hx => h.lt x (List.mem_of_mem_take hx)
  have hle : (done ++ [b]).count b ≤ (allS nx n).count b := Nat.le_trans (hpre.sublist.count_le b) (count_flat_mono nx b hnd hlt')
  have hc1 : (done ++ [b]).count b = done.count b + 1 := by simp
  have hlt : done.count b < (allS nx n).count b := by omega
  have hbn : b ∉ row := fun hm => by have := (h.mem b hb).1 hm; omega
  have hother : ∀ x, x ≠ b → (done ++ [b]).count x = done.count x := fun x hx => by
    simp [List.count_append, Ne.symm hx]
  refine ⟨hbn, hlt, fun he => ?_, fun he => ?_⟩
  · refine ⟨?_, ?_, ?_, ?_⟩
    · rw [List.nodup_append]
      refine ⟨h.nodup, by simp, ?_⟩
      intro x hx y hy
      simp at hy
      subst hy
      rintro rfl
      exact hbn hx
    · intro x hx
      rcases List.mem_append.1 hx with hx | hx
      · exact h.lt x hx
      · simp at hx; omega
    · intro x hx
      by_cases hxb : x = b
      · subst hxb
        simp [hc1, he]
      · rw [hother x hxb, ← h.mem x hx]
        simp [hxb]
    · intro q x hq c hc hcx
      by_cases hql : q < row.length
      · rw [List.getElem?_append_left hql] at hq
        rw [List.take_append_of_le_length (by omega)]
        exact h.order q x hq c hc hcx
      · have hqe : q = row.length := by
          have := (List.getElem?_eq_some_iff.1 hq).1
          simp at this
          omega
        subst hqe
        rw [List.getElem?_append_right (Nat.le_refl _)] at hq
        simp at hq
        subst hq
        rw [List.take_left]
        refine Classical.byContradiction fun hcr => ?_
        have hct : c ∉ row.take (k + 1) := fun hm => hcr (List.mem_of_mem_take hm)
        have hsub := count_flat_mono nx b (n := n) (l := c :: row.take (k + 1)) (List.nodup_cons.2 ⟨hct, hnd⟩) (by
          intro y hy
          rcases List.mem_cons.1 hy with rfl | hy
          · exact hc
          · exact hlt' y hy)
        rw [List.flatMap_cons, List.count_append] at hsub
        have h1 : 0 < (nx c).count b := List.count_pos_iff.2 hcx
        have h2 := hpre.sublist.count_le b
        omega
  · refine ⟨h.nodup, h.lt, ?_, h.order⟩
    intro x hx
    by_cases hxb : x = b
    · subst hxb
      rw [hc1]
      constructor
      · intro hm; exact absurd hm hbn
      · intro e; exact absurd e.symm he
    · rw [hother x hxb]
      exact h.mem x hx

theorem QAt.full {nx : Nat → List Nat} {n : Nat} {row : List Nat} (h : QAt nx n row (row.flatMap nx)) (hx : ∀ a < n, ∀ b ∈ nx a, a < b) : ∀ i < n, i ∈ row := by
  intro i
  induction i using Nat.strongRecOn with
  | _ i ih =>
    intro hi
    rw [h.mem i hi]
    have hp := rest_perm h.nodup h.lt
    have hc := (List.Perm.flatMap_right nx hp).count_eq i
    rw [List.flatMap_append, List.count_append] at hc
    have h0 : (((List.range n).filter (fun a => decide (a ∉ row))).flatMap nx).count i = 0 := by
      rw [List.count_eq_zero]
      intro hm
      obtain ⟨a, ha, hia⟩ := List.mem_flatMap.1 hm
      obtain ⟨h1, h2⟩ := List.mem_filter.1 ha
      simp only [List.mem_range, decide_eq_true_eq] at h1 h2
      exact h2 (ih a (hx a h1 i hia) h1)
    unfold allS
    omega

theorem QAt.length {nx : Nat → List Nat} {n : Nat} {row : List Nat} (h : QAt nx n row (row.flatMap nx)) (hx : ∀ a < n, ∀ b ∈ nx a, a < b) : row.length = n := by
  have hp : row.Perm (List.range n) := (List.perm_ext_iff_of_nodup h.nodup List.nodup_range).2 fun a => ⟨fun ha => List.mem_range.2 (h.lt a ha), fun ha => h.full hx a (List.mem_range.1 ha)⟩
  simpa using hp.length_eq
theorem QAt.length_le {nx : Nat → List Nat} {n : Nat} {row done : List Nat} (h : QAt nx n row done) : row.length ≤ n := by
  have := (rest_perm h.nodup h.lt).length_eq
  rw [List.length_append, List.length_range] at this
  omega
/-- At the start: those without a predecessor. -/
theorem QAt.start (nx : Nat → List Nat) (n : Nat) : QAt nx n ((List.range n).filter fun i => decide ((allS nx n).count i = 0)) [] := by
  refine ⟨List.nodup_range.filter _, fun a ha => List.mem_range.1 (List.mem_filter.1 ha).1, fun b hb => ?_, fun q b hq a ha hba => ?_⟩
  · simp only [List.mem_filter, List.mem_range, decide_eq_true_eq, List.count_nil]
    constructor
    · rintro ⟨_, h⟩; exact h.symm
    · intro h; exact ⟨hb, h.symm⟩
  · have hm := List.mem_of_getElem? hq
    have := (List.mem_filter.1 hm).2
    simp only [decide_eq_true_eq, List.count_eq_zero] at this
    exact absurd (List.mem_flatMap.2 ⟨a, List.mem_range.2 ha, hba⟩) this

end Go.Proofs.YtljmonfobefiiaaGreatDoor
