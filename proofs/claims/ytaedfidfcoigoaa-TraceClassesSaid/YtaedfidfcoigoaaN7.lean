/- The normal form of a run in plain words: a greedy order. -/
import Derived.Test.YtaedfidfcoigoaaR6
namespace Go.Proofs.Ytaedfidfcoigoaa
open Go.RowKit

def keyAt (run : List Stp) (i : Nat) : List Int := (run[i]?.map Stp.key).getD []
theorem keyAt_eq {run : List Stp} {i : Nat} (h : i < run.length) : keyAt run i = run[i].key := by simp [keyAt, h]
/-- All that comes before step i, among the first m, has been done. -/
def predsD (run : List Stp) (done : List Nat) (i m : Nat) : Bool := (List.range m).all fun k => !lessB run k i || decide (k ∈ done)
def freeB (run : List Stp) (done : List Nat) (i : Nat) : Bool := !decide (i ∈ done) && predsD run done i run.length
def betterB (run : List Stp) (m : Nat) : Option Nat → Bool
  | none => true
  | some j => decide (lexL (keyAt run m) (keyAt run j) < 0)
/-- The least free step among the first m. -/
def pickB (run : List Stp) (done : List Nat) : Nat → Option Nat
  | 0 => none
  | m + 1 => if freeB run done m && betterB run m (pickB run done m) then some m else pickB run done m
/-- f steps of the greedy order. -/
def normD (run : List Stp) : Nat → List Nat → List Nat
  | 0, done => done
  | f + 1, done => match pickB run done run.length with
    | some b => normD run f (done ++ [b])
    | none => done
def normI (run : List Stp) : List Nat := normD run run.length []
/-- The steps of some indices. -/
def atI (run : List Stp) (l : List Nat) : List Stp := l.filterMap fun i => run[i]?
def normS (run : List Stp) : List Stp := atI run (normI run)

theorem predsD_succ (run : List Stp) (done : List Nat) (i m : Nat) : predsD run done i (m + 1) = (predsD run done i m && (!lessB run m i || decide (m ∈ done))) := by
  unfold predsD
  rw [List.range_succ, List.all_append]
  simp
theorem pickB_lt (run : List Stp) (done : List Nat) : ∀ (m : Nat) (b : Nat), pickB run done m = some b → b < m ∧ freeB run done b = true
  | 0, _, h => by cases h
  | m + 1, b, h => by
    rw [pickB] at h
    by_cases hc : (freeB run done m && betterB run m (pickB run done m)) = true
    · rw [if_pos hc] at h
      cases h
      simp only [Bool.and_eq_true] at hc
      exact ⟨by omega, hc.1⟩
    · rw [if_neg hc] at h
      have := pickB_lt run done m b h
      exact ⟨by omega, this.2⟩
theorem pickB_none (run : List Stp) (done : List Nat) : ∀ (m : Nat), pickB run done m = none → ∀ i < m, freeB run done i = false
  | 0, _, i, hi => by omega
  | m + 1, h, i, hi => by
    rw [pickB] at h
    by_cases hc : (freeB run done m && betterB run m (pickB run done m)) = true
    · rw [if_pos hc] at h
      cases h
    · by_cases him : i = m
      · subst him
        rw [Bool.eq_false_iff]
        intro hf
        rw [if_neg hc] at h
        rw [h, hf] at hc
        simp [betterB] at hc
      · rw [if_neg hc] at h
        exact pickB_none run done m h i (by omega)
/-- The least step that has not been done is free. -/
theorem free_least (run : List Stp) (done : List Nat) : ∀ (m i : Nat), i < m → i < run.length → i ∉ done → ∃ j, j < run.length ∧ freeB run done j = true
  | 0, i, h, _, _ => by omega
  | m + 1, i, h, hi, hd => by
    by_cases hx : ∃ j, j < i ∧ j ∉ done
    · obtain ⟨j, hj, hjd⟩ := hx
      exact free_least run done m j (by omega) (by omega) hjd
    · refine ⟨i, hi, ?_⟩
      simp only [freeB, Bool.and_eq_true, Bool.not_eq_true', decide_eq_false_iff_not]
      refine ⟨hd, ?_⟩
      unfold predsD
      rw [List.all_eq_true]
      intro k hk
      by_cases hl : lessB run k i = true
      · have hki := (lessB_lt run run.length k i (by omega) hl).1
        have : k ∈ done := by
          by_cases hkd : k ∈ done
          · exact hkd
          · exact absurd ⟨k, hki, hkd⟩ hx
        simp [this]
      · simp [hl]
theorem pickB_some (run : List Stp) (done : List Nat) (h : ∃ i, i < run.length ∧ i ∉ done) : ∃ b, pickB run done run.length = some b ∧ b < run.length ∧ b ∉ done := by
  obtain ⟨i, hi, hd⟩ := h
  cases hp : pickB run done run.length with
  | none =>
    obtain ⟨j, hj, hf⟩ := free_least run done (i + 1) i (by omega) hi hd
    rw [pickB_none run done _ hp j hj] at hf
    cases hf
  | some b =>
    have := pickB_lt run done _ b hp
    refine ⟨b, rfl, this.1, ?_⟩
    have h2 := this.2
    simp only [freeB, Bool.and_eq_true, Bool.not_eq_true', decide_eq_false_iff_not] at h2
    exact h2.1
/-- Distinct numbers below n that are fewer than n: one is left. -/
theorem left_over (n : Nat) (l : List Nat) (h : l.length < n) : ∃ i, i < n ∧ i ∉ l := by
  refine Classical.byContradiction fun hc => ?_
  have hall : ∀ i, i < n → i ∈ l := fun i hi => Classical.byContradiction fun h' => hc ⟨i, hi, h'⟩
  have hsub : List.range n ⊆ l := fun i hi => hall i (List.mem_range.1 hi)
  have := (List.nodup_range (n := n)).length_le_of_subset hsub
  simp at this
  omega
theorem normD_step (run : List Stp) (done : List Nat) (f : Nat) (b : Nat) (h : pickB run done run.length = some b) : normD run (f + 1) done = normD run f (done ++ [b]) := by
  rw [normD, h]
theorem atI_snoc (run : List Stp) (l : List Nat) (b : Nat) (h : b < run.length) : atI run (l ++ [b]) = atI run l ++ [run[b]] := by
  simp [atI, h]

def pickI : Option Nat → Int | none => -1 | some b => b

/-- Two rows of the call's own do not share a block. -/
def Disj (v u : Value) : Prop := v.ownBlock = none ∨ v.ownBlock ≠ u.ownBlock

def natI (l : List Nat) : List Int := l.map Int.ofNat
theorem mem_natI (l : List Nat) (k : Nat) : ((k : Int) ∈ natI l) ↔ k ∈ l := by
  constructor
  · intro h
    obtain ⟨a, ha, e⟩ := List.mem_map.1 h
    have h2 : ((a : Nat) : Int) = (k : Int) := e
    have : a = k := by omega
    exact this ▸ ha
  · intro h
    exact List.mem_map.2 ⟨k, h, rfl⟩
def slLen : Value → Nat | .slice _ n _ => n | _ => 0


/-- How many steps before i have not been done. -/
def wts (run : List Stp) (d : List Nat) (i : Nat) : Nat := ((List.range run.length).filter fun k => lessB run k i && !decide (k ∈ d)).length
/-- How many of the first m steps come before i. -/
def cntL (run : List Stp) (i m : Nat) : Nat := ((List.range m).filter fun k => lessB run k i).length
theorem filt_upd (p q : Nat → Bool) (b : Nat) (h1 : p b = true) (h2 : q b = false) : ∀ n, b < n → (∀ k < n, k ≠ b → p k = q k) → ((List.range n).filter p).length = ((List.range n).filter q).length + 1
  | 0, h, _ => by omega
  | n + 1, h, hk => by
    rw [List.range_succ, List.filter_append, List.filter_append, List.length_append, List.length_append]
    by_cases e : b = n
    · subst e
      have : (List.range b).filter p = (List.range b).filter q := List.filter_congr fun k hk' => hk k (by have := List.mem_range.1 hk'; omega) (by have := List.mem_range.1 hk'; omega)
      rw [this]
      simp [h1, h2]
    · rw [filt_upd p q b h1 h2 n (by omega) (fun k hk' => hk k (by omega))]
      have := hk n (by omega) (fun e' => e e'.symm)
      simp only [List.filter_cons, List.filter_nil, this]
      omega
theorem wts_done (run : List Stp) (d : List Nat) (b i : Nat) (hb : b < run.length) (hd : b ∉ d) : wts run d i = wts run (d ++ [b]) i + if lessB run b i then 1 else 0 := by
  unfold wts
  by_cases h : lessB run b i = true
  · rw [if_pos h]
    refine filt_upd _ _ b (by simp [h, hd]) (by simp) _ hb fun k _ hkb => ?_
    simp [hkb]
  · rw [if_neg h, Nat.add_zero]
    congr 1
    refine List.filter_congr fun k _ => ?_
    by_cases e : k = b
    · subst e
      simp [h]
    · simp [e]
theorem cntL_succ (run : List Stp) (i m : Nat) : cntL run i (m + 1) = cntL run i m + if lessB run m i then 1 else 0 := by
  unfold cntL
  rw [List.range_succ, List.filter_append, List.length_append]
  by_cases h : lessB run m i <;> simp [h]
theorem cntL_end (run : List Stp) (i : Nat) (hi : i < run.length) : cntL run i i = wts run [] i := by
  have key : ∀ d, cntL run i (i + d) = cntL run i i := fun d => by
    induction d with
    | zero => rfl
    | succ d ih =>
      rw [show i + (d + 1) = (i + d) + 1 by omega, cntL_succ, ih, lessB_false run (i + d) i (by omega)]
      simp
  have := key (run.length - i)
  rw [show i + (run.length - i) = run.length by omega] at this
  rw [← this]
  unfold cntL wts
  simp
theorem wts_le (run : List Stp) (d : List Nat) (i : Nat) : wts run d i ≤ run.length := by
  unfold wts
  exact Nat.le_trans (List.length_filter_le _ _) (by rw [List.length_range]; omega)
theorem cntL_le (run : List Stp) (i m : Nat) : cntL run i m ≤ m := by
  unfold cntL
  exact Nat.le_trans (List.length_filter_le _ _) (by rw [List.length_range]; omega)
theorem predsD_wts (run : List Stp) (d : List Nat) (i : Nat) : predsD run d i run.length = decide (wts run d i = 0) := by
  rw [Bool.eq_iff_iff]
  unfold predsD wts
  rw [decide_eq_true_eq, List.length_eq_zero_iff, List.filter_eq_nil_iff, List.all_eq_true]
  constructor
  · intro h k hk
    have := h k hk
    simp only [Bool.or_eq_true, Bool.not_eq_true', decide_eq_true_eq] at this
    simp only [Bool.and_eq_true, Bool.not_eq_true', decide_eq_false_iff_not, not_and, Classical.not_not]
    intro h1
    rcases this with h2 | h2
    · rw [h1] at h2; cases h2
    · exact h2
  · intro h k hk
    have := h k hk
    simp only [Bool.and_eq_true, Bool.not_eq_true', decide_eq_false_iff_not, not_and, Classical.not_not] at this
    simp only [Bool.or_eq_true, Bool.not_eq_true', decide_eq_true_eq]
    by_cases hl : lessB run k i = true
    · exact .inr (this hl)
    · exact .inl (by simpa using hl)
theorem freeB_wts (run : List Stp) (d : List Nat) (i : Nat) : freeB run d i = (!decide (i ∈ d) && decide (wts run d i = 0)) := by rw [freeB, predsD_wts]
theorem atI_length (run : List Stp) (l : List Nat) (h : ∀ i ∈ l, i < run.length) : (atI run l).length = l.length := by
  induction l with
  | nil => rfl
  | cons a l ih =>
    have h1 := h a (by simp)
    have h2 := ih (fun i hi => h i (by simp [hi]))
    unfold atI at h2 ⊢
    simp [h1, h2]
theorem pickB_yes (run : List Stp) (d : List Nat) (m : Nat) (h1 : freeB run d m = true) (h2 : betterB run m (pickB run d m) = true) : pickB run d (m + 1) = some m := by rw [pickB, h1, h2]; rfl
theorem pickB_no (run : List Stp) (d : List Nat) (m : Nat) (h : freeB run d m = false ∨ betterB run m (pickB run d m) = false) : pickB run d (m + 1) = pickB run d m := by
  rw [pickB]
  rcases h with h | h <;> simp [h]

end Go.Proofs.Ytaedfidfcoigoaa
