/- Chains of exchanges: what they leave alike. -/
import Derived.Test.YtaedfidfcoigoaaM1
import Derived.Test.YtaedfidfcoigoaaN9
namespace Go.Proofs.Ytaedfidfcoigoaa
open Go.RowKit

/-- One run after some exchanges of independent neighbours. -/
inductive Sws : List Stp → List Stp → Prop
  | refl (l : List Stp) : Sws l l
  | step {l m n : List Stp} : Sws l m → Sw m n → Sws l n

theorem Sws.norm {l m : List Stp} (h : Sws l m) : normS m = normS l := by
  induction h with
  | refl => rfl
  | step _ h ih => exact (normS_swap h).trans ih
theorem Sws.length {l m : List Stp} (h : Sws l m) : m.length = l.length := by
  induction h with
  | refl => rfl
  | step _ h ih => exact h.length.trans ih
theorem Sws.append {l m : List Stp} (h : Sws l m) (n : List Stp) : Sws (l ++ n) (m ++ n) := by
  induction h with
  | refl => exact Sws.refl _
  | step _ h ih => exact ih.step (h.append n)
theorem Sw.mem {l m : List Stp} (h : Sw l m) (s : Stp) : s ∈ m ↔ s ∈ l := by
  obtain ⟨A, x, y, B, rfl, rfl, _⟩ := h
  simp only [List.mem_append, List.mem_cons]
  constructor
  · rintro (h | h | h | h)
    · exact .inl h
    · exact .inr (.inr (.inl h))
    · exact .inr (.inl h)
    · exact .inr (.inr (.inr h))
  · rintro (h | h | h | h)
    · exact .inl h
    · exact .inr (.inr (.inl h))
    · exact .inr (.inl h)
    · exact .inr (.inr (.inr h))
theorem Sws.mem {l m : List Stp} (h : Sws l m) (s : Stp) : s ∈ m ↔ s ∈ l := by
  induction h with
  | refl => exact Iff.rfl
  | step _ h ih => exact (h.mem s).trans ih
theorem Sws.ok {l m : List Stp} (h : Sws l m) (k : RunOk l) : RunOk m :=
  ⟨by rw [h.length]; exact k.len, fun s hs => k.asks s ((h.mem s).1 hs), fun s hs => k.sent s ((h.mem s).1 hs)⟩
/-- A test that holds of no two independent steps sifts out the same steps in the same order. -/
theorem Sw.filter {l m : List Stp} (h : Sw l m) (p : Stp → Bool) (hp : ∀ x y, depB x y = false → p x = true → p y = false) : m.filter p = l.filter p := by
  obtain ⟨A, x, y, B, rfl, rfl, hd⟩ := h
  simp only [List.filter_append, List.filter_cons]
  by_cases h1 : p x = true
  · have h2 := hp x y hd h1
    simp [h1, h2]
  · simp [h1]
theorem Sws.filter {l m : List Stp} (h : Sws l m) (p : Stp → Bool) (hp : ∀ x y, depB x y = false → p x = true → p y = false) : m.filter p = l.filter p := by
  induction h with
  | refl => rfl
  | step _ h ih => exact (h.filter p hp).trans ih
theorem indep_node (n : Int) (x y : Stp) (h : depB x y = false) (hx : (x.ev.node == n) = true) : (y.ev.node == n) = false := by
  have h1 : (x.ev.node == y.ev.node) = false := by
    unfold depB at h
    simp only [Bool.or_eq_false_iff] at h
    exact h.1.1.1
  rw [beq_eq_false_iff_ne] at h1 ⊢
  rw [beq_iff_eq] at hx
  omega
theorem indep_obs (x y : Stp) (h : depB x y = false) (hx : x.obs = true) : y.obs = false := by
  unfold depB at h
  simp only [Bool.or_eq_false_iff] at h
  have := h.1.1.2
  rw [hx] at this
  simpa using this
theorem Sws.node {l m : List Stp} (h : Sws l m) (n : Int) : (m.filter fun s => s.ev.node == n) = l.filter fun s => s.ev.node == n := h.filter _ fun x y => indep_node n x y
theorem Sws.obs {l m : List Stp} (h : Sws l m) : (m.filter fun s => s.obs) = l.filter fun s => s.obs := h.filter _ indep_obs

end Go.Proofs.Ytaedfidfcoigoaa
