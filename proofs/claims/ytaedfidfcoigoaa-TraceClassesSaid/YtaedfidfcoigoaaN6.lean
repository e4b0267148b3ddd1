/- depend.Order: the happens-before order of a run. -/
import Derived.Test.YtaedfidfcoigoaaN2
import Derived.Test.YtaedfidfcoigoaaP11
namespace Go.Proofs.Ytaedfidfcoigoaa
open Go.RowKit

theorem mem_pairsL (run : List Stp) (a b : Nat) : (a, b) ∈ pairsL run ↔ a < b ∧ b < run.length ∧ depAt run a b = true := by
  unfold pairsL rowsP
  rw [List.mem_flatMap]
  constructor
  · rintro ⟨i, hi, h⟩
    unfold rowP at h
    obtain ⟨j, hj, e⟩ := List.mem_map.1 h
    obtain ⟨h1, h2⟩ := List.mem_filter.1 hj
    have h3 := List.mem_range.1 hi
    rw [List.mem_range'_1] at h1
    cases e
    exact ⟨by omega, by omega, h2⟩
  · rintro ⟨h1, h2, h3⟩
    refine ⟨a, List.mem_range.2 (by omega), ?_⟩
    unfold rowP
    refine List.mem_map.2 ⟨b, List.mem_filter.2 ⟨?_, h3⟩, rfl⟩
    rw [List.mem_range'_1]
    omega
theorem mem_nxL (run : List Stp) (a b : Nat) : b ∈ nxL (pairsL run) a ↔ a < b ∧ b < run.length ∧ depAt run a b = true := by
  rw [← mem_pairsL]
  unfold nxL
  constructor
  · intro h
    obtain ⟨p, hp, e⟩ := List.mem_map.1 h
    obtain ⟨h1, h2⟩ := List.mem_filter.1 hp
    obtain ⟨x, y⟩ := p
    simp at h2 e
    subst h2 e
    exact h1
  · intro h
    exact List.mem_map.2 ⟨(a, b), List.mem_filter.2 ⟨h, by simp⟩, rfl⟩
theorem lessB_nx (run : List Stp) (a k : Nat) : lessB run a k = (nxL (pairsL run) a).any fun b => b == k || lessB run b k := by
  rw [lessB_eq, Bool.eq_iff_iff, List.any_eq_true, List.any_eq_true]
  constructor
  · rintro ⟨j, hj, h⟩
    simp only [Bool.and_eq_true, decide_eq_true_eq] at h
    exact ⟨j, (mem_nxL run a j).2 ⟨h.1.1, List.mem_range.1 hj, h.1.2⟩, h.2⟩
  · rintro ⟨j, hj, h⟩
    obtain ⟨h1, h2, h3⟩ := (mem_nxL run a j).1 hj
    exact ⟨j, List.mem_range.2 h2, by simp only [Bool.and_eq_true, decide_eq_true_eq]; exact ⟨⟨h1, h3⟩, h⟩⟩
theorem flatMap_len {α β : Type} (f : α → List β) (c : Nat) (l : List α) (h : ∀ a ∈ l, (f a).length ≤ c) : (l.flatMap f).length ≤ l.length * c := by
  induction l with
  | nil => simp
  | cons a l ih =>
    have h1 := h a (by simp)
    have h2 := ih (fun x hx => h x (by simp [hx]))
    simp only [List.flatMap_cons, List.length_append, List.length_cons, Nat.add_mul]
    omega
theorem pairsL_len (run : List Stp) (h : run.length ≤ 64) : (pairsL run).length ≤ 10000 := by
  unfold pairsL rowsP
  have := flatMap_len (fun j => rowP run j run.length) 64 (List.range run.length) (fun j _ => by
    unfold rowP
    rw [List.length_map]
    exact Nat.le_trans (List.length_filter_le _ _) (by rw [List.length_range']; omega))
  rw [List.length_range] at this
  have h2 : run.length * 64 ≤ 64 * 64 := Nat.mul_le_mul_right _ h
  omega

set_option maxHeartbeats 400000 in
theorem depPairs (a : Option Addr) (n c : Nat) (w : World) : Calls Try.prog 64 #[.slice a n c] w fun e w' => e = .returned (.func (.func 85) #[] #[.pointer (some ⟨w.heap.size, 0, none⟩)]) ∧ w' = w.alloc (.cells #[.slice a n c] 23) := by
  go_enter Try.func64, Try.ntmps64
  go_wp2_with fail
  go_ret
  exact ⟨rfl, rfl⟩

set_option maxHeartbeats 400000 in
theorem collect (run : List Stp) (tb : Nat) (v : Value) (w : World) (hbox : w.cell? ⟨tb, 0, none⟩ = some v) (hrun : StpSl w v run) (hlen : run.length ≤ 64) :
    Calls Try.prog 63 #[.func (.func 85) #[] #[.pointer (some ⟨tb, 0, none⟩)]] w fun e w' => ∃ u, e = .returned u ∧ w'.ownsRow w.heap.size 87 2 u (pairsL run).length ((pairsL run).flatMap pc) ∧ Below w.heap.size w w' := by
  have hp := pairsL_len run hlen
  have H := Lib.hid (callsIn_wide.1 (appendSeq run tb v w hbox hrun (by omega) (by omega)))
  clear hp
  go_enter Try.func63, Try.ntmps63
  go_wp2_with fail
  refine H.out.mono ?_
  rintro e w1 ⟨u, rfl, h1, h2⟩
  go_wp2_with fail
  go_ret
  exact ⟨u, rfl, h1, h2⟩

set_option maxHeartbeats 400000 in
theorem depOrder (run : List Stp) (v : Value) (w : World) (hrun : StpSl w v run) (hlen : run.length ≤ 64) :
    Calls Try.prog 42 #[v] w fun e w' => ∃ p, e = .returned p ∧ OrdRep w' p run.length (lessB run) ∧ Below w.heap.size w w' := by
  obtain ⟨ka, ca, rfl, _⟩ := hrun.open
  have hB1 : Below w.heap.size w (w.alloc (.cells #[.slice ka run.length ca] 23)) := (Below.refl _ _).alloc (Nat.le_refl _) _
  have hbox : (w.alloc (.cells #[.slice ka run.length ca] 23)).cell? ⟨w.heap.size, 0, none⟩ = some (.slice ka run.length ca) := (Blk.new w _ 23).cell 0
  have H := Lib.hid (collect run w.heap.size _ _ hbox (hrun.kept hB1 (Nat.le_refl _)) hlen)
  have hp := pairsL_len run hlen
  have Hp := Lib.hid hp
  clear hp hbox hrun
  go_enter Try.func42, Try.ntmps42
  go_wp2_with fail
  refine (depPairs _ _ _ _).mono ?_
  rintro e w1 ⟨rfl, rfl⟩
  go_wp2_with fail
  refine H.out.mono ?_
  rintro e w2 ⟨u, rfl, h1, h2⟩
  have hfl := Flat.of_owns h1
  go_wp2_with fail
  refine (posetNew run.length (pairsL run) u w2 hfl hlen (fun p hp => by
    obtain ⟨a, b⟩ := p
    have := (mem_pairsL run a b).1 hp
    exact ⟨this.1, this.2.1⟩) Hp.out (lessB run) (fun a _ k _ => lessB_nx run a k)).mono ?_
  rintro e w3 ⟨p, rfl, h3, h4⟩
  go_wp2_with fail
  go_ret
  exact ⟨p, rfl, h3, (hB1.trans (h2.mono (by simp))).trans (h4.mono (Nat.le_trans hB1.size (by have := h2.size; simpa using this)))⟩

end Go.Proofs.Ytaedfidfcoigoaa
