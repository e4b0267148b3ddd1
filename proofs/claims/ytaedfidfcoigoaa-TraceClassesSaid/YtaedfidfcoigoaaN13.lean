/- A slice of integers that came in, as the walks want it; what the generator gives. -/
import Derived.Test.YtaedfidfcoigoaaN11
import Derived.Test.YtaedfidfcoigoaaN12
import Derived.OpenShut
namespace Go.Proofs.Ytaedfidfcoigoaa
open Go.RowKit

theorem int_row {w : World} {a : Option Addr} {len cap : Nat} {zs : List Int} (h : (a = none ∧ len = 0 ∧ cap = 0 ∧ zs = []) ∨
    ∃ x, a = some x ∧ len ≤ cap ∧ cap ≤ maxLen ∧ zs.length = cap ∧ (∀ i, i < zs.length → w.cell? (x.add i) = some (.int .i64 (zs.getD i 0))) ∧ ∀ n ∈ zs, (Lit.int .i64 n).wf = true) :
    ∃ l : List Int, IntSl w (.slice a len cap) l ∧ ∀ x ∈ l, InI64 x := by
  rcases h with ⟨rfl, rfl, rfl, rfl⟩ | ⟨x, rfl, h1, h2, h3, h4, h5⟩
  · exact ⟨[], Flat.nil _ _ _ _, fun x hx => by simp at hx⟩
  · refine ⟨zs.take len, ?_, fun y hy => bounds_i64 (h5 y (List.mem_of_mem_take hy))⟩
    have hlen : (zs.take len).length = len := by rw [List.length_take]; omega
    unfold IntSl
    by_cases hz : 0 < zs.length
    · obtain ⟨b, off, rfl, hc⟩ := ints_at h4 hz
      unfold maxLen at h2
      have := Flat.of_cells (w := w) (k := 1) (n := len) (c := cap) (b := b) (o := off) (xs := iv (zs.take len)) (by rw [iv, List.length_map, hlen, Nat.mul_one]) (by omega) (fun j u hu => by
        have hj : j < len := by have := (List.getElem?_eq_some_iff.1 hu).1; simp [iv] at this; omega
        rw [hc j (by omega), ← hu]
        have hjz : j < zs.length := by omega
        simp [iv, hj, hjz])
      rw [hlen]
      exact this
    · have h0 : zs = [] := List.length_eq_zero_iff.1 (by omega)
      subst h0
      have : len = 0 := by simp at h3; omega
      subst this
      exact Flat.nil _ _ _ _

theorem run_ok {run : List Stp} {n : Nat} (h1 : run.length ≤ n) (h2 : n ≤ 64) (h3 : ∀ s ∈ run, s.asks.length ≤ 1 ∧ s.sent.length ≤ 2) : RunOk run :=
  ⟨by omega, fun s hs => by have := (h3 s hs).1; omega, fun s hs => by have := (h3 s hs).2; omega⟩

end Go.Proofs.Ytaedfidfcoigoaa
