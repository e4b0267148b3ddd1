import Derived.Test.YtljmonfobefiiaaGreatDoorUP5A
import Derived.Test.YtljmonfobefiiaaGreatDoorUBase
import Derived.Test.YtljmonfobefiiaaGreatDoorUS37
import Derived.Test.YtljmonfobefiiaaGreatDoorUTX7
/- The normal form of a run in plain words: a greedy order. -/
namespace Go.Proofs.YtljmonfobefiiaaGreatDoor
open Go.RowKit

def keyAt (run : List Stp) (i : Nat) : List Int := (run[i]?.map Stp.key).getD []
theorem keyAt_eq {run : List Stp} {i : Nat} (h : i < run.length) : keyAt run i = run[i].key := by simp [keyAt, h]
/-- All that comes before step i, among the first m, has been done. -/
def predsD (run : List Stp) (done : List Nat) (i m : Nat) : Bool := (List.range m).all fun k => !lessB run k i || decide (k ∈ done)
def freeB (run : List Stp) (done : List Nat) (i : Nat) : Bool := !decide (i ∈ done) && predsD run done i run.length
def betterB (run : List Stp) (m : Nat) : Option Nat → Bool
  | none => true
  | some j => decide (lexL (keyAt run m) (keyAt run j) < 0)
/-- The least free step among the first m. -/
def pickB (run : List Stp) (done : List Nat) : Nat → Option Nat
  | 0 => none
  | m + 1 => if freeB run done m && betterB run m (pickB run done m) then some m else pickB run done m
/-- f steps of the greedy order. -/
def normD (run : List Stp) : Nat → List Nat → List Nat
  | 0, done => done
  | f + 1, done => match pickB run done run.length with
    | some b => normD run f (done ++ [b])
    | none => done
def normI (run : List Stp) : List Nat := normD run run.length []
/-- The steps of some indices. -/
def atI (run : List Stp) (l : List Nat) : List Stp := l.filterMap fun i => run[i]?
def normS (run : List Stp) : List Stp := atI run (normI run)

theorem predsD_succ (run : List Stp) (done : List Nat) (i m : Nat) : predsD run done i (m + 1) = (predsD run done i m && (!lessB run m i || decide (m ∈ done))) := by
  unfold predsD
  rw [List.range_succ, List.all_append]
  simp
theorem pickB_lt (run : List Stp) (done : List Nat) : ∀ (m : Nat) (b : Nat), pickB run done m = some b → b < m ∧ freeB run done b = true
  | 0, _, h => by cases h
  | m + 1, b, h => by
    rw [pickB] at h
    by_cases hc : (freeB run done m && betterB run m (pickB run done m)) = true
    · rw [if_pos hc] at h
      cases h
      simp only [Bool.and_eq_true] at hc
      exact ⟨by omega, hc.1⟩
    · rw [if_neg hc] at h
      have := pickB_lt run done m b h
      exact ⟨by omega, this.2⟩
theorem pickB_none (run : List Stp) (done : List Nat) : ∀ (m : Nat), pickB run done m = none → ∀ i < m, freeB run done i = false
  | 0, _, i, hi => by omega
  | m + 1, h, i, hi => by
    rw [pickB] at h
    by_cases hc : (freeB run done m && betterB run m (pickB run done m)) = true
    · rw [if_pos hc] at h
      cases h
    · by_cases him : i = m
      · subst him
        rw [Bool.eq_false_iff]
        intro hf
        rw [if_neg hc] at h
        rw [h, hf] at hc
        simp [betterB] at hc
      · rw [if_neg hc] at h
        exact pickB_none run done m h i (by omega)
/-- The least step that has not been done is free. -/
theorem free_least (run : List Stp) (done : List Nat) : ∀ (m i : Nat), i < m → i < run.length → i ∉ done → ∃ j, j < run.length ∧ freeB run done j = true
  | 0, i, h, _, _ => by omega
  | m + 1, i, h, hi, hd => by
    by_cases hx : ∃ j, j < i ∧ j ∉ done
    · obtain ⟨j, hj, hjd⟩ := hx
      exact free_least run done m j (by omega) (by omega) hjd
    · refine ⟨i, hi, ?_⟩
      simp only [freeB, Bool.and_eq_true, Bool.not_eq_true', decide_eq_false_iff_not]
      refine ⟨hd, ?_⟩
      unfold predsD
      rw [List.all_eq_true]
      intro k hk
      by_cases hl : lessB run k i = true
      · have hki := (lessB_lt run run.length k i (by omega) hl).1
        have : k ∈ done := by
          by_cases hkd : k ∈ done
          · exact hkd
          · exact absurd ⟨k, hki, hkd⟩ hx
        simp [this]
      · simp [hl]
theorem pickB_some (run : List Stp) (done : List Nat) (h : ∃ i, i < run.length ∧ i ∉ done) : ∃ b, pickB run done run.length = some b ∧ b < run.length ∧ b ∉ done := by
  obtain ⟨i, hi, hd⟩ := h
  cases hp : pickB run done run.length with
  | none =>
    obtain ⟨j, hj, hf⟩ := free_least run done (i + 1) i (by omega) hi hd
    rw [pickB_none run done _ hp j hj] at hf
    cases hf
  | some b =>
    have := pickB_lt run done _ b hp
    refine ⟨b, rfl, this.1, ?_⟩
    have h2 := this.2
    simp only [freeB, Bool.and_eq_true, Bool.not_eq_true', decide_eq_false_iff_not] at h2
    exact h2.1
/-- Distinct numbers below n that are fewer than n: one is left. -/
theorem left_over (n : Nat) (l : List Nat) (h : l.length < n) : ∃ i, i < n ∧ i ∉ l := by
  refine Classical.byContradiction fun hc => ?_
  have hall : ∀ i, i < n → i ∈ l := fun i hi => Classical.byContradiction fun h' => hc ⟨i, hi, h'⟩
  have hsub : List.range n ⊆ l := fun i hi => hall i (List.mem_range.1 hi)
  have := (List.nodup_range (n := n)).length_le_of_subset hsub
  simp at this
  omega
theorem normD_step (run : List Stp) (done : List Nat) (f : Nat) (b : Nat) (h : pickB run done run.length = some b) : normD run (f + 1) done = normD run f (done ++ [b]) := by
  rw [normD, h]
theorem atI_snoc (run : List Stp) (l : List Nat) (b : Nat) (h : b < run.length) : atI run (l ++ [b]) = atI run l ++ [run[b]] := by
  simp [atI, h]

def pickI : Option Nat → Int | none => -1 | some b => b

/-- Two rows of the call's own do not share a block. -/
def Disj (v u : Value) : Prop := v.ownBlock = none ∨ v.ownBlock ≠ u.ownBlock

def natI (l : List Nat) : List Int := l.map Int.ofNat
theorem mem_natI (l : List Nat) (k : Nat) : ((k : Int) ∈ natI l) ↔ k ∈ l := by
  constructor
  · intro h
    obtain ⟨a, ha, e⟩ := List.mem_map.1 h
    have h2 : ((a : Nat) : Int) = (k : Int) := e
    have : a = k := by omega
    exact this ▸ ha
  · intro h
    exact List.mem_map.2 ⟨k, h, rfl⟩
def slLen : Value → Nat | .slice _ n _ => n | _ => 0


/-- How many steps before i have not been done. -/
def wts (run : List Stp) (d : List Nat) (i : Nat) : Nat := ((List.range run.length).filter fun k => lessB run k i && !decide (k ∈ d)).length
/-- How many of the first m steps come before i. -/
def cntL (run : List Stp) (i m : Nat) : Nat := ((List.range m).filter fun k => lessB run k i).length
theorem filt_upd (p q : Nat → Bool) (b : Nat) (h1 : p b = true) (h2 : q b = false) : ∀ n, b < n → (∀ k < n, k ≠ b → p k = q k) → ((List.range n).filter p).length = ((List.range n).filter q).length + 1
  | 0, h, _ => by omega
  | n + 1, h, hk => by
    rw [List.range_succ, List.filter_append, List.filter_append, List.length_append, List.length_append]
    by_cases e : b = n
    · subst e
      have : (List.range b).filter p = (List.range b).filter q := List.filter_congr fun k hk' => hk k (by have := List.mem_range.1 hk'; omega) (by have := List.mem_range.1 hk'; omega)
      rw [this]
      simp [h1, h2]
    · rw [filt_upd p q b h1 h2 n (by omega) (fun k hk' => hk k (by omega))]
      have := hk n (by omega) (fun e' => e e'.symm)
      simp only [List.filter_cons, List.filter_nil, this]
      omega
theorem wts_done (run : List Stp) (d : List Nat) (b i : Nat) (hb : b < run.length) (hd : b ∉ d) : wts run d i = wts run (d ++ [b]) i + if lessB run b i then 1 else 0 := by
  unfold wts
  by_cases h : lessB run b i = true
  · rw [if_pos h]
    refine filt_upd _ _ b (by simp [h, hd]) (by simp) _ hb fun k _ hkb => ?_
    simp [hkb]
  · rw [if_neg h, Nat.add_zero]
    congr 1
    refine List.filter_congr fun k _ => ?_
    by_cases e : k = b
    · subst e
      simp [h]
    · simp [e]
theorem cntL_succ (run : List Stp) (i m : Nat) : cntL run i (m + 1) = cntL run i m + if lessB run m i then 1 else 0 := by
  unfold cntL
  rw [List.range_succ, List.filter_append, List.length_append]
  by_cases h : lessB run m i <;> simp [h]
theorem cntL_end (run : List Stp) (i : Nat) (hi : i < run.length) : cntL run i i = wts run [] i := by
  have key : ∀ d, cntL run i (i + d) = cntL run i i := fun d => by
    induction d with
    | zero => rfl
    | succ d ih =>
      rw [show i + (d + 1) = (i + d) + 1 by omega, cntL_succ, ih, lessB_false run (i + d) i (by omega)]
      simp
  have := key (run.length - i)
  rw [show i + (run.length - i) = run.length by omega] at this
  rw [← this]
  unfold cntL wts
  simp
theorem wts_le (run : List Stp) (d : List Nat) (i : Nat) : wts run d i ≤ run.length := by
  unfold wts
  exact Nat.le_trans (List.length_filter_le _ _) (by rw [List.length_range]; omega)
theorem cntL_le (run : List Stp) (i m : Nat) : cntL run i m ≤ m := by
  unfold cntL
  exact Nat.le_trans (List.length_filter_le _ _) (by rw [List.length_range]; omega)
theorem predsD_wts (run : List Stp) (d : List Nat) (i : Nat) : predsD run d i run.length = decide (wts run d i = 0) := by
  rw [Bool.eq_iff_iff]
  unfold predsD wts
  rw [decide_eq_true_eq, List.length_eq_zero_iff, List.filter_eq_nil_iff, List.all_eq_true]
  constructor
  · intro h k hk
    have := h k hk
    simp only [Bool.or_eq_true, Bool.not_eq_true', decide_eq_true_eq] at this
    simp only [Bool.and_eq_true, Bool.not_eq_true', decide_eq_false_iff_not, not_and, Classical.not_not]
    intro h1
    rcases this with h2 | h2
    · rw [h1] at h2; cases h2
    · exact h2
  · intro h k hk
    have := h k hk
    simp only [Bool.and_eq_true, Bool.not_eq_true', decide_eq_false_iff_not, not_and, Classical.not_not] at this
    simp only [Bool.or_eq_true, Bool.not_eq_true', decide_eq_true_eq]
    by_cases hl : lessB run k i = true
    · exact .inr (this hl)
    · exact .inl (by simpa using hl)
theorem freeB_wts (run : List Stp) (d : List Nat) (i : Nat) : freeB run d i = (!decide (i ∈ d) && decide (wts run d i = 0)) := by rw [freeB, predsD_wts]
theorem atI_length (run : List Stp) (l : List Nat) (h : ∀ i ∈ l, i < run.length) : (atI run l).length = l.length := by
  induction l with
  | nil => rfl
  | cons a l ih =>
    have h1 := h a (by simp)
    have h2 := ih (fun i hi => h i (by simp [hi]))
    unfold atI at h2 ⊢
    simp [h1, h2]
theorem pickB_yes (run : List Stp) (d : List Nat) (m : Nat) (h1 : freeB run d m = true) (h2 : betterB run m (pickB run d m) = true) : pickB run d (m + 1) = some m := by rw [pickB, h1, h2]; rfl
theorem pickB_no (run : List Stp) (d : List Nat) (m : Nat) (h : freeB run d m = false ∨ betterB run m (pickB run d m) = false) : pickB run d (m + 1) = pickB run d m := by
  rw [pickB]
  rcases h with h | h <;> simp [h]

end Go.Proofs.YtljmonfobefiiaaGreatDoor

/- The plain law: the greedy normal form of a run does not hang on the order of independent neighbours. -/
namespace Go.Proofs.YtljmonfobefiiaaGreatDoor

theorem lexL_antiTr : ∀ a b : List Int, lexL b a = - lexL a b
  | [], [] => rfl
  | [], _ :: _ => rfl
  | _ :: _, [] => rfl
  | a :: l, b :: m => by
    rw [lexL_cons, lexL_cons, lexL_antiTr l m]
    unfold cmpI
    by_cases h1 : a < b
    · have h2 : ¬ b < a := by omega
      simp [h1, h2]
    · by_cases h2 : b < a
      · simp [h1, h2]
      · simp [h1, h2]
theorem lexL_zeroTr : ∀ a b : List Int, lexL a b = 0 → a = b
  | [], [], _ => rfl
  | [], _ :: _, h => by simp [lexL] at h
  | _ :: _, [], h => by simp [lexL] at h
  | a :: l, b :: m, h => by
    rw [lexL_cons] at h
    unfold cmpI at h
    by_cases h1 : a < b
    · simp [h1] at h
    · by_cases h2 : b < a
      · simp [h1, h2] at h
      · have : a = b := by omega
        subst this
        simp at h
        rw [lexL_zeroTr l m h]
theorem lexL_transTr : ∀ a b c : List Int, lexL a b < 0 → lexL b c < 0 → lexL a c < 0
  | [], b, [], h1, h2 => by
    cases b with
    | nil => simp [lexL] at h1
    | cons b m => simp [lexL] at h2
  | [], b, c :: n, _, _ => by simp [lexL]
  | a :: l, [], c, h1, _ => by simp [lexL] at h1
  | a :: l, b :: m, [], _, h2 => by simp [lexL] at h2
  | a :: l, b :: m, c :: n, h1, h2 => by
    rw [lexL_cons] at h1 h2 ⊢
    have ih := lexL_transTr l m n
    unfold cmpI at *
    by_cases x1 : a < b
    · by_cases x2 : b < c
      · have : a < c := by omega
        simp [this]
      · by_cases x3 : c < b
        · simp [x2, x3] at h2
        · have : b = c := by omega
          subst this
          simp [x1]
    · by_cases x2 : b < a
      · simp [x1, x2] at h1
      · have : a = b := by omega
        subst this
        simp at h1
        by_cases x3 : a < c
        · simp [x3]
        · by_cases x4 : c < a
          · simp [x3, x4] at h2
          · have : a = c := by omega
            subst this
            simp at h2 ⊢
            exact ih h1 h2

theorem depB_symm (a b : Stp) : depB a b = depB b a := by
  unfold depB
  rw [show (a.ev.node == b.ev.node) = (b.ev.node == a.ev.node) from Bool.beq_comm, Bool.and_comm a.obs b.obs, Bool.or_assoc, Bool.or_assoc, Bool.or_comm (feedsB a b)]
  simp only [Bool.or_assoc]
theorem dep_of_key {a b : Stp} (h : lexL a.key b.key = 0) : depB a b = true := by
  have h1 := lexL_zeroTr _ _ h
  have h2 : a.ev.ints = b.ev.ints := (List.append_inj h1 rfl).1
  have h3 := Ev.ints_inj.1 h2
  unfold depB
  rw [h3]
  simp

/-- The step at p may come first. -/
def FreeP (l : List Stp) (p : Nat) : Prop := p < l.length ∧ ∀ (q : Nat) (a s : Stp), q < p → l[q]? = some a → l[p]? = some s → depB a s = false
/-- It is the least of those that may. -/
def MinP (l : List Stp) (p : Nat) : Prop := FreeP l p ∧ ∀ (q : Nat) (s t : Stp), FreeP l q → q ≠ p → l[p]? = some s → l[q]? = some t → lexL s.key t.key < 0
inductive NF : List Stp → List Stp → Prop
  | nil : NF [] []
  | cons (l m : List Stp) (p : Nat) (s : Stp) (hs : l[p]? = some s) (hp : MinP l p) (h : NF (l.eraseIdx p) m) : NF l (s :: m)

theorem NF.unique {l m : List Stp} (h : NF l m) : ∀ {m' : List Stp}, NF l m' → m = m' := by
  induction h with
  | nil => intro m' h'; cases h' with
    | nil => rfl
    | cons _ _ p s hs => simp at hs
  | cons l m p s hs hp h ih =>
    intro m' h'
    cases h' with
    | nil => simp at hs
    | cons _ m2 p' s' hs' hp' h2 =>
      have hpp : p' = p := by
        refine Classical.byContradiction fun hne => ?_
        have h3 := hp.2 p' s s' hp'.1 hne hs hs'
        have h4 := hp'.2 p s' s hp.1 (fun e => hne e.symm) hs' hs
        rw [lexL_antiTr] at h4
        omega
      subst hpp
      rw [hs] at hs'
      cases hs'
      rw [ih h2]

/-- Two neighbours that do not depend on each other are exchanged. -/
def Sw (l l' : List Stp) : Prop := ∃ A x y B, l = A ++ x :: y :: B ∧ l' = A ++ y :: x :: B ∧ depB x y = false
theorem Sw.symm {l l' : List Stp} (h : Sw l l') : Sw l' l := by
  obtain ⟨A, x, y, B, rfl, rfl, h⟩ := h
  exact ⟨A, y, x, B, rfl, rfl, by rw [depB_symm]; exact h⟩
theorem Sw.length {l l' : List Stp} (h : Sw l l') : l'.length = l.length := by
  obtain ⟨A, x, y, B, rfl, rfl, _⟩ := h
  simp
theorem Sw.append {l l' : List Stp} (h : Sw l l') (m : List Stp) : Sw (l ++ m) (l' ++ m) := by
  obtain ⟨A, x, y, B, rfl, rfl, h⟩ := h
  exact ⟨A, x, y, B ++ m, by simp, by simp, h⟩

/-! ### The greedy order of indices is such a normal form -/
/-- The indices that are left. -/
def remI (run : List Stp) (d : List Nat) : List Nat := (List.range run.length).filter fun i => !decide (i ∈ d)
theorem mem_remI (run : List Stp) (d : List Nat) (i : Nat) : i ∈ remI run d ↔ i < run.length ∧ i ∉ d := by simp [remI]
theorem remI_sorted (run : List Stp) (d : List Nat) : (remI run d).Pairwise (· < ·) := List.pairwise_lt_range.filter _
/-- What has been done is closed towards the front. -/
def DownC (run : List Stp) (d : List Nat) : Prop := ∀ j ∈ d, ∀ k, lessB run k j = true → k ∈ d
theorem less_of_dep (run : List Stp) (i k : Nat) (h1 : i < k) (h2 : k < run.length) (hd : depAt run i k = true) : lessB run i k = true := by
  rw [lessB_eq, List.any_eq_true]
  exact ⟨k, List.mem_range.2 h2, by simp [h1, hd]⟩
/-- A step that has a predecessor which is left has a direct one. -/
theorem direct_pred (run : List Stp) (d : List Nat) (hd : DownC run d) (i : Nat) : ∀ (m k : Nat), run.length ≤ k + m → k ∉ d → lessB run k i = true → ∃ j, j ∉ d ∧ j < i ∧ i < run.length ∧ depAt run j i = true
  | 0, k, h, _, hl => by
    have := lessB_lt run run.length k i (by omega) hl
    omega
  | m + 1, k, h, hk, hl => by
    have hki := lessB_lt run run.length k i (by omega) hl
    rw [lessB_eq, List.any_eq_true] at hl
    obtain ⟨j, hj, hc⟩ := hl
    simp only [Bool.and_eq_true, decide_eq_true_eq, Bool.or_eq_true, beq_iff_eq] at hc
    obtain ⟨⟨h1, h2⟩, h3⟩ := hc
    rcases h3 with rfl | h3
    · exact ⟨k, hk, h1, List.mem_range.1 hj, h2⟩
    · have hjd : j ∉ d := fun hjd => hk (hd j hjd k (less_of_dep run k j h1 (List.mem_range.1 hj) h2))
      exact direct_pred run d hd i m j (by omega) hjd h3
theorem freeB_iff (run : List Stp) (d : List Nat) (hd : DownC run d) (i : Nat) (hi : i < run.length) : freeB run d i = true ↔ i ∉ d ∧ ∀ k ∈ remI run d, k < i → depAt run k i = false := by
  unfold freeB predsD
  simp only [Bool.and_eq_true, Bool.not_eq_true', decide_eq_false_iff_not, List.all_eq_true, List.mem_range, Bool.or_eq_true, decide_eq_true_eq]
  constructor
  · rintro ⟨h1, h2⟩
    refine ⟨h1, fun k hk hki => ?_⟩
    rw [mem_remI] at hk
    rw [Bool.eq_false_iff]
    intro hdp
    rcases h2 k hk.1 with h3 | h3
    · rw [less_of_dep run k i hki hi hdp] at h3
      cases h3
    · exact hk.2 h3
  · rintro ⟨h1, h2⟩
    refine ⟨h1, fun k hk => ?_⟩
    by_cases hkd : k ∈ d
    · exact .inr hkd
    · refine .inl ?_
      rw [Bool.eq_false_iff]
      intro hl
      obtain ⟨j, hj1, hj2, hj3, hj4⟩ := direct_pred run d hd i run.length k (by omega) hkd hl
      rw [h2 j ((mem_remI run d j).2 ⟨by omega, hj1⟩) hj2] at hj4
      cases hj4

/-- Among the first m the pick comes before every other one that is free: strictly before those in front of it. -/
theorem pickB_min (run : List Stp) (d : List Nat) : ∀ (m b : Nat), pickB run d m = some b → ∀ i < m, freeB run d i = true → (i < b → lexL (keyAt run b) (keyAt run i) < 0) ∧ ¬ lexL (keyAt run i) (keyAt run b) < 0
  | 0, _, h, _, _, _ => by cases h
  | m + 1, b, h, i, hi, hf => by
    rw [pickB] at h
    have hself : ∀ x : List Int, ¬ lexL x x < 0 := fun x => by have := lexL_antiTr x x; omega
    by_cases hc : (freeB run d m && betterB run m (pickB run d m)) = true
    · rw [if_pos hc] at h
      cases h
      simp only [Bool.and_eq_true] at hc
      by_cases e : i = m
      · subst e
        exact ⟨fun h => by omega, hself _⟩
      · have him : i < m := by omega
        cases hp : pickB run d m with
        | none =>
          rw [pickB_none run d m hp i him] at hf
          cases hf
        | some j =>
          have hb := hc.2
          rw [hp] at hb
          have hlt : lexL (keyAt run m) (keyAt run j) < 0 := by simpa [betterB] using hb
          have ih := pickB_min run d m j hp i him hf
          have key : lexL (keyAt run m) (keyAt run i) < 0 := by
            by_cases e2 : lexL (keyAt run j) (keyAt run i) < 0
            · exact lexL_transTr _ _ _ hlt e2
            · have h3 := ih.2
              have h4 := lexL_antiTr (keyAt run j) (keyAt run i)
              have h5 : lexL (keyAt run j) (keyAt run i) = 0 := by omega
              rw [← lexL_zeroTr _ _ h5]
              exact hlt
          exact ⟨fun _ => key, by have := lexL_antiTr (keyAt run m) (keyAt run i); omega⟩
    · rw [if_neg hc] at h
      have hbm := (pickB_lt run d m b h).1
      by_cases e : i = m
      · subst e
        refine ⟨fun h' => by omega, fun hlt => hc ?_⟩
        rw [hf, h]
        simpa [betterB] using hlt
      · exact pickB_min run d m b h i (by omega) hf

theorem remI_snoc (run : List Stp) (d : List Nat) (p b : Nat) (hp : (remI run d)[p]? = some b) : remI run (d ++ [b]) = (remI run d).eraseIdx p := by
  have h1 : remI run (d ++ [b]) = (remI run d).filter fun i => !decide (i = b) := by
    unfold remI
    rw [List.filter_filter]
    refine List.filter_congr fun i _ => ?_
    by_cases e : i = b <;> simp [e]
  rw [h1]
  have hs := remI_sorted run d
  obtain ⟨hpl, hpe⟩ := List.getElem?_eq_some_iff.1 hp
  have hsplit : remI run d = (remI run d).take p ++ b :: (remI run d).drop (p + 1) := by
    rw [← hpe, ← List.drop_eq_getElem_cons hpl, List.take_append_drop]
  rw [List.eraseIdx_eq_take_drop_succ]
  generalize (remI run d).take p = A at *
  generalize (remI run d).drop (p + 1) = B at *
  rw [hsplit] at hs ⊢
  rw [List.pairwise_append] at hs
  obtain ⟨_, h3, h4⟩ := hs
  rw [List.pairwise_cons] at h3
  rw [List.filter_append, List.filter_cons]
  simp only [decide_true, Bool.not_true, Bool.false_eq_true, if_false]
  rw [List.filter_eq_self.2, List.filter_eq_self.2]
  · intro x hx
    have := h3.1 x hx
    simp
    omega
  · intro x hx
    have := h4 x hx b (by simp)
    simp
    omega

theorem getD_map (run : List Stp) (l : List Nat) (h : ∀ i ∈ l, i < run.length) (p : Nat) : (atI run l)[p]? = (l[p]?).bind fun i => run[i]? := by
  induction l generalizing p with
  | nil => simp [atI]
  | cons a l ih =>
    have h1 := h a (by simp)
    have h2 := ih (fun i hi => h i (by simp [hi]))
    have e : atI run (a :: l) = run[a] :: atI run l := by simp [atI, h1]
    rw [e]
    cases p with
    | zero => simp [h1]
    | succ p => simpa using h2 p
theorem atI_erase (run : List Stp) (l : List Nat) (h : ∀ i ∈ l, i < run.length) (p : Nat) : atI run (l.eraseIdx p) = (atI run l).eraseIdx p := by
  induction l generalizing p with
  | nil => simp [atI]
  | cons a l ih =>
    have h1 := h a (by simp)
    have h2 := ih (fun i hi => h i (by simp [hi]))
    have e : atI run (a :: l) = run[a] :: atI run l := by simp [atI, h1]
    rw [e]
    cases p with
    | zero => simp
    | succ p =>
      rw [List.eraseIdx_cons_succ, List.eraseIdx_cons_succ, ← h2 p]
      simp [atI, h1]

/-- The indices of a run: free means free. -/
theorem free_iff (run : List Stp) (d : List Nat) (hd : DownC run d) (p i : Nat) (hp : (remI run d)[p]? = some i) : FreeP (atI run (remI run d)) p ↔ freeB run d i = true := by
  have hmem := (mem_remI run d i).1 (List.mem_of_getElem? hp)
  have hall : ∀ x ∈ remI run d, x < run.length := fun x hx => ((mem_remI run d x).1 hx).1
  rw [freeB_iff run d hd i hmem.1]
  have hs := remI_sorted run d
  have hpl := (List.getElem?_eq_some_iff.1 hp).1
  have hgp : (atI run (remI run d))[p]? = some run[i] := by rw [getD_map run _ hall, hp]; simp [hmem.1]
  constructor
  · rintro ⟨_, h2⟩
    refine ⟨hmem.2, fun k hk hki => ?_⟩
    obtain ⟨q, hq⟩ := List.getElem?_of_mem hk
    have hkl := hall k hk
    have hqp : q < p := by
      refine Classical.byContradiction fun hn => ?_
      obtain ⟨hql, hqe⟩ := List.getElem?_eq_some_iff.1 hq
      obtain ⟨_, hpe⟩ := List.getElem?_eq_some_iff.1 hp
      by_cases e : p = q
      · subst e
        rw [hp] at hq
        cases hq
        omega
      · have := List.pairwise_iff_getElem.1 hs p q hpl hql (by omega)
        omega
    have := h2 q run[k] run[i] hqp (by rw [getD_map run _ hall, hq]; simp [hkl]) hgp
    rw [depAt_eq hkl hmem.1]
    exact this
  · rintro ⟨_, h2⟩
    refine ⟨(List.getElem?_eq_some_iff.1 hgp).1, fun q a s hq ha hs' => ?_⟩
    rw [hgp] at hs'
    cases hs'
    have hql : q < (remI run d).length := by omega
    have hqe : (remI run d)[q]? = some (remI run d)[q] := List.getElem?_eq_getElem hql
    have hqm := hall _ (List.getElem_mem hql)
    rw [getD_map run _ hall, hqe] at ha
    simp [hqm] at ha
    subst ha
    have hlt : (remI run d)[q] < i := by
      have := List.pairwise_iff_getElem.1 hs q p hql hpl hq
      obtain ⟨_, hpe⟩ := List.getElem?_eq_some_iff.1 hp
      omega
    have := h2 _ (List.getElem_mem hql) hlt
    rw [depAt_eq hqm hmem.1] at this
    exact this

theorem nf_norm (run : List Stp) : ∀ (f : Nat) (d : List Nat), f = run.length - d.length → d.length ≤ run.length → d.Nodup → (∀ i ∈ d, i < run.length) → DownC run d → ∃ t, normD run f d = d ++ t ∧ NF (atI run (remI run d)) (atI run t)
  | 0, d, hf, hl, hnd, hlt, hd => by
    refine ⟨[], by simp [normD], ?_⟩
    have : remI run d = [] := by
      rw [List.eq_nil_iff_forall_not_mem]
      intro i hi
      obtain ⟨h1, h2⟩ := (mem_remI run d i).1 hi
      have hsub : (i :: d) ⊆ List.range run.length := fun x hx => by
        rcases List.mem_cons.1 hx with rfl | hx
        · exact List.mem_range.2 h1
        · exact List.mem_range.2 (hlt x hx)
      have := (List.nodup_cons.2 ⟨h2, hnd⟩).length_le_of_subset hsub
      simp at this
      omega
    rw [this]
    exact NF.nil
  | f + 1, d, hf, hl, hnd, hlt, hd => by
    obtain ⟨b, hb, hbl, hbd⟩ := pickB_some run d (left_over _ _ (by omega))
    have hbf := (pickB_lt run d _ b hb).2
    have hall : ∀ x ∈ remI run d, x < run.length := fun x hx => ((mem_remI run d x).1 hx).1
    obtain ⟨p, hp⟩ := List.getElem?_of_mem ((mem_remI run d b).2 ⟨hbl, hbd⟩)
    have hd' : DownC run (d ++ [b]) := by
      intro j hj k hk
      rcases List.mem_append.1 hj with hj | hj
      · exact List.mem_append_left _ (hd j hj k hk)
      · simp at hj
        subst hj
        have hkl := lessB_lt run run.length k j (by omega) hk
        simp only [freeB, predsD, Bool.and_eq_true, List.all_eq_true, List.mem_range, Bool.or_eq_true, Bool.not_eq_true', decide_eq_true_eq] at hbf
        rcases hbf.2 k (by omega) with h | h
        · rw [hk] at h; cases h
        · exact List.mem_append_left _ h
    obtain ⟨t, ht, hn⟩ := nf_norm run f (d ++ [b]) (by rw [List.length_append]; simp; omega) (by rw [List.length_append]; simp; omega) (by
      rw [List.nodup_append]
      exact ⟨hnd, by simp, fun x hx y hy e => by simp at hy; subst hy; subst e; exact hbd hx⟩) (fun i hi => by
      rcases List.mem_append.1 hi with h | h
      · exact hlt i h
      · simp at h; omega) hd'
    refine ⟨b :: t, by rw [normD_step run d f b hb, ht]; simp, ?_⟩
    have hgp : (atI run (remI run d))[p]? = some run[b] := by rw [getD_map run _ hall, hp]; simp [hbl]
    have e1 : atI run (b :: t) = run[b] :: atI run t := by simp [atI, hbl]
    rw [e1]
    refine NF.cons _ _ p _ hgp ⟨(free_iff run d hd p b hp).2 hbf, fun q s u hq hqp hs hu => ?_⟩ ?_
    · rw [hgp] at hs
      cases hs
      have hql : q < (remI run d).length := by
        have := hq.1
        rw [atI_length run _ hall] at this
        exact this
      have hqe : (remI run d)[q]? = some (remI run d)[q] := List.getElem?_eq_getElem hql
      have hqm := hall _ (List.getElem_mem hql)
      rw [getD_map run _ hall, hqe] at hu
      simp [hqm] at hu
      subst hu
      have hqf := (free_iff run d hd q _ hqe).1 hq
      have hmin := pickB_min run d _ b hb _ hqm hqf
      rw [keyAt_eq hqm, keyAt_eq hbl] at hmin
      by_cases hlb : (remI run d)[q] < b
      · exact hmin.1 hlb
      · refine Classical.byContradiction fun hn2 => ?_
        have h4 := lexL_antiTr run[b].key run[(remI run d)[q]].key
        have h5 : lexL run[b].key run[(remI run d)[q]].key = 0 := by omega
        have hne : (remI run d)[q] ≠ b := fun e => by
          rw [e] at hqe
          have hpl := (List.getElem?_eq_some_iff.1 hp).1
          have hnd2 : (remI run d).Nodup := (remI_sorted run d).imp (fun h => by omega)
          exact hqp ((List.getElem?_inj hql hnd2).1 (hqe.trans hp.symm))
        have hdep := dep_of_key h5
        have h6 := ((freeB_iff run d hd _ hqm).1 hqf).2 b ((mem_remI run d b).2 ⟨hbl, hbd⟩) (by omega)
        rw [depAt_eq hbl hqm, hdep] at h6
        cases h6
    · rw [← atI_erase run _ hall, ← remI_snoc run d p b hp]
      exact hn

theorem normS_nf (run : List Stp) : NF run (normS run) := by
  obtain ⟨t, ht, hn⟩ := nf_norm run run.length [] (by simp) (by simp) List.nodup_nil (by simp) (fun j hj => by simp at hj)
  have e1 : remI run [] = List.range run.length := by simp [remI]
  have e2 : atI run (List.range run.length) = run := by
    apply List.ext_getElem?
    intro p
    rw [getD_map run _ (fun i hi => List.mem_range.1 hi)]
    by_cases hp : p < run.length
    · simp [hp]
    · simp [hp]
  rw [e1, e2] at hn
  have e3 : normS run = atI run t := by
    unfold normS normI
    rw [ht]
    rfl
  rw [e3]
  exact hn
end Go.Proofs.YtljmonfobefiiaaGreatDoor

/- The text of a run in normal order, and bounds of its length. -/
namespace Go.Proofs.YtljmonfobefiiaaGreatDoor
open Go.RowKit

/-! ### The text -/
def Ask.qn (a : Ask) : Qn := ⟨a.node, a.handler, a.count, a.kind, a.index⟩
def askT (a : Ask) : Str := [32, 91] ++ textQn a.qn ++ [32, 61, 32] ++ Lib.itoa a.n ++ [47] ++ Lib.itoa a.arity ++ [93]
def asksT (l : List Ask) (k : Nat) : Str := (l.take k).flatMap askT
theorem asksT_succ (l : List Ask) (k : Nat) (h : k < l.length) : asksT l (k + 1) = asksT l k ++ askT l[k] := by
  unfold asksT
  rw [List.take_succ_eq_append_getElem h, List.flatMap_append]
  simp
def headT (i : Nat) (s : Stp) : Str := Lib.itoa i ++ [58, 32] ++ textEv s.ev
def obsT (o : Bool) : Str := if o then [32, 42] else []
def bfT (bf : List Nat) : Str := if bf = [] then [] else [32, 97, 102, 116, 101, 114, 32] ++ joinC 44 ((bf.map fun n : Nat => (n : Int)).map Lib.itoa)
def lineT (i : Nat) (s : Stp) (bf : List Nat) : Str := headT i s ++ asksT s.asks s.asks.length ++ obsT s.obs ++ bfT bf ++ [10]
def linesT (l : List Stp) (F : Nat → List Nat) (m : Nat) : Str := (List.range m).flatMap fun i => match l[i]? with
  | some s => lineT i s (F i)
  | none => []
theorem linesT_succ (l : List Stp) (F : Nat → List Nat) (m : Nat) (h : m < l.length) : linesT l F (m + 1) = linesT l F m ++ lineT m l[m] (F m) := by
  unfold linesT
  rw [List.range_succ, List.flatMap_append]
  simp [h]
def bfOf (l : List Stp) : List (Nat × Nat) := (covs (lessB l) l.length l.length).map fun p => (p.2, p.1)
/-- The text of a run in normal order. -/
def storyT (l : List Stp) : Str := linesT l (fun i => nxL (bfOf l) i) l.length

theorem nf_len {l m : List Stp} (h : NF l m) : m.length = l.length := by
  induction h with
  | nil => rfl
  | cons l m p s hs _ _ ih =>
    have hp := (List.getElem?_eq_some_iff.1 hs).1
    rw [List.length_cons, ih, List.length_eraseIdx, if_pos hp]
    omega
theorem nf_mem {l m : List Stp} (h : NF l m) : ∀ s ∈ m, s ∈ l := by
  induction h with
  | nil => intro s h; exact h
  | cons l m p s hs _ _ ih =>
    intro t ht
    rcases List.mem_cons.1 ht with rfl | h
    · exact List.mem_of_getElem? hs
    · exact List.mem_of_mem_eraseIdx (ih t h)

/-! ### Bounds of its length -/
theorem textEv_len (e : Ev) (h : ∀ x ∈ e.ints, InI64 x) : (textEv e).length ≤ 200 := by
  by_cases hk : EvOk e
  · rw [← evWrite_ok hk]
    unfold evWrite
    have h1 := evWord_len e.kind.toNat
    have h2 := itoa_len e.node (h _ (by simp [Ev.ints]))
    have h3 := itoa_len e.arg (h _ (by simp [Ev.ints]))
    have h4 : (joinC 46 (e.msg.ints.map Lib.itoa)).length ≤ 21 * 5 := joinC_len 46 20 _ (fun y hy => by
      obtain ⟨n, hn, rfl⟩ := List.mem_map.1 hy
      exact itoa_len n (h n (by simp [Ev.ints, Msg.ints] at hn ⊢; omega)))
    generalize evWords.getD e.kind.toNat [] = a at h1 ⊢
    generalize Lib.itoa e.node = b at h2 ⊢
    generalize Lib.itoa e.arg = c at h3 ⊢
    generalize joinC 46 (e.msg.ints.map Lib.itoa) = d at h4 ⊢
    dsimp only
    split
    · simp; omega
    · split
      · simp; omega
      · simp; omega
  · have h1 : textEv e = [] := by
      unfold textEv
      rw [if_neg (fun hw => hk ((wellEv_iff e).1 hw))]
    rw [h1]; simp
theorem textQn_len (q : Qn) (h : ∀ x ∈ q.ints, InI64 x) : (textQn q).length ≤ 200 := by
  by_cases hk : QnOk q
  · rw [← qnWrite_ok hk]
    unfold qnWrite
    have h0 : q.kind.toNat < 4 := by
      obtain ⟨h1, _⟩ := hk
      omega
    have h1 := quWord_len q.kind.toNat h0
    have h2 := itoa_len q.index (h _ (by simp [Qn.ints]))
    have h4 : (joinC 46 ([q.node, q.handler, q.count].map Lib.itoa)).length ≤ 21 * 3 := joinC_len 46 20 _ (fun y hy => by
      obtain ⟨n, hn, rfl⟩ := List.mem_map.1 hy
      exact itoa_len n (h n (by simp [Qn.ints] at hn ⊢; omega)))
    generalize quWords.getD q.kind.toNat [] = a at h1 ⊢
    generalize Lib.itoa q.index = b at h2 ⊢
    generalize joinC 46 ([q.node, q.handler, q.count].map Lib.itoa) = d at h4 ⊢
    simp; omega
  · have h1 : textQn q = [] := by
      unfold textQn
      rw [if_neg (fun hw => hk ((wellQn_iff q).1 hw))]
    rw [h1]; simp
/-- All numbers of a step are Go ints. -/
def StpI (s : Stp) : Prop := (∀ x ∈ s.ev.ints, InI64 x) ∧ (∀ a ∈ s.asks, ∀ x ∈ a.ints, InI64 x) ∧ s.asks.length ≤ 1000000
theorem askI_q {a : Ask} (h : ∀ x ∈ a.ints, InI64 x) : ∀ x ∈ a.qn.ints, InI64 x := fun x hx => h x (by simp [Ask.qn, Qn.ints, Ask.ints] at hx ⊢; omega)
theorem askT_len (a : Ask) (h : ∀ x ∈ a.ints, InI64 x) : (askT a).length ≤ 300 := by
  have h1 := textQn_len a.qn (askI_q h)
  have h2 := itoa_len a.n (h _ (by simp [Ask.ints]))
  have h3 := itoa_len a.arity (h _ (by simp [Ask.ints]))
  unfold askT
  simp only [List.length_append, List.length_cons, List.length_nil]
  omega
theorem flat_len {α β : Type} (f : α → List β) (c : Nat) (l : List α) (h : ∀ a ∈ l, (f a).length ≤ c) : (l.flatMap f).length ≤ c * l.length := by
  have := flatMap_len f c l h
  rwa [Nat.mul_comm] at this
theorem asksT_len (l : List Ask) (k : Nat) (h : ∀ a ∈ l, ∀ x ∈ a.ints, InI64 x) (hl : l.length ≤ 1000000) : (asksT l k).length ≤ 300000000 := by
  have h1 := flat_len askT 300 (l.take k) (fun a ha => askT_len a (h a (List.mem_of_mem_take ha)))
  have h2 : (l.take k).length ≤ 1000000 := by rw [List.length_take]; omega
  unfold asksT
  omega
theorem natI64 (n : Nat) (h : n ≤ 1000000) : InI64 (n : Int) := ⟨by omega, by omega⟩
theorem headT_len (i : Nat) (s : Stp) (hi : i ≤ 64) (h : StpI s) : (headT i s).length ≤ 300 := by
  have h1 := itoa_len (i : Int) (natI64 i (by omega))
  have h2 := textEv_len s.ev h.1
  unfold headT
  simp only [List.length_append, List.length_cons, List.length_nil]
  omega
theorem bfT_len (bf : List Nat) (hb : bf.length ≤ 10000) (h : ∀ n ∈ bf, n ≤ 64) : (bfT bf).length ≤ 300000 := by
  unfold bfT
  split
  · simp
  · have := joinC_len 44 20 ((bf.map fun n : Nat => (n : Int)).map Lib.itoa) (fun y hy => by
      obtain ⟨n, hn, rfl⟩ := List.mem_map.1 hy
      obtain ⟨m, hm, rfl⟩ := List.mem_map.1 hn
      exact itoa_len _ (natI64 m (by have := h m hm; omega)))
    simp only [List.length_map] at this
    simp only [List.length_append, List.length_cons, List.length_nil]
    omega
theorem obsT_len (o : Bool) : (obsT o).length ≤ 2 := by cases o <;> decide
theorem lineT_len (i : Nat) (s : Stp) (bf : List Nat) (hi : i ≤ 64) (h : StpI s) (hb : bf.length ≤ 10000) (hn : ∀ n ∈ bf, n ≤ 64) : (lineT i s bf).length ≤ 301000000 := by
  have h1 := headT_len i s hi h
  have h2 := asksT_len s.asks s.asks.length h.2.1 h.2.2
  have h3 := obsT_len s.obs
  have h4 := bfT_len bf hb hn
  unfold lineT
  simp only [List.length_append, List.length_cons, List.length_nil]
  omega
theorem linesT_len (l : List Stp) (F : Nat → List Nat) (hl : l.length ≤ 64) (h : ∀ s ∈ l, StpI s) (hF : ∀ i, (F i).length ≤ 10000 ∧ ∀ n ∈ F i, n ≤ 64) : ∀ m, m ≤ l.length → (linesT l F m).length ≤ 301000000 * m
  | 0, _ => by simp [linesT]
  | m + 1, hm => by
    have ih := linesT_len l F hl h hF m (by omega)
    rw [linesT_succ l F m (by omega), List.length_append]
    have := lineT_len m l[m] (F m) (by omega) (h _ (List.getElem_mem _)) (hF m).1 (hF m).2
    omega
theorem mem_covs {f : Nat → Nat → Bool} {n m : Nat} {p : Nat × Nat} (h : p ∈ covs f n m) : p.1 < m ∧ p.2 < n := by
  unfold covs at h
  obtain ⟨a, ha, hp⟩ := List.mem_flatMap.1 h
  unfold covRow at hp
  obtain ⟨c, hc, rfl⟩ := List.mem_map.1 hp
  exact ⟨List.mem_range.1 ha, List.mem_range.1 (List.mem_filter.1 hc).1⟩
theorem bfOf_len (l : List Stp) (hl : l.length ≤ 64) : (bfOf l).length ≤ 4096 := by
  unfold bfOf
  rw [List.length_map]
  have h1 := covs_len (lessB l) l.length l.length
  have h2 : l.length * l.length ≤ 64 * 64 := Nat.mul_le_mul hl hl
  omega
theorem mem_bfOf {l : List Stp} {p : Nat × Nat} (h : p ∈ bfOf l) : p.1 < l.length ∧ p.2 < l.length := by
  unfold bfOf at h
  obtain ⟨q, hq, rfl⟩ := List.mem_map.1 h
  have := mem_covs hq
  exact ⟨this.2, this.1⟩
theorem nxL_bf (l : List Stp) (hl : l.length ≤ 64) (i : Nat) : (nxL (bfOf l) i).length ≤ 10000 ∧ ∀ n ∈ nxL (bfOf l) i, n ≤ 64 := by
  constructor
  · unfold nxL
    rw [List.length_map]
    have h1 := List.length_filter_le (fun p : Nat × Nat => p.1 == i) (bfOf l)
    have h2 := bfOf_len l hl
    omega
  · intro n hn
    unfold nxL at hn
    obtain ⟨p, hp, rfl⟩ := List.mem_map.1 hn
    have := mem_bfOf (List.mem_filter.1 hp).1
    omega

end Go.Proofs.YtljmonfobefiiaaGreatDoor
