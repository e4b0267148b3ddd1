/- Slices of integers and of bytes that came in, as the walks want them. -/
import Derived.Test.YtjdhcdbjfbhogaaW3
import Derived.OpenShut
namespace Go.Proofs.Ytjdhcdbjfbhogaa
open Go.RowKit

theorem bounds_u8 {n : Int} (h : (Lit.int .u8 n).wf = true) : IsByte n := by
  simp [Lit.wf, IntKind.min, IntKind.max, IntKind.signed, IntKind.bits] at h
  unfold IsByte
  omega
theorem int_row {w : World} {a : Option Addr} {len cap : Nat} {zs : List Int} (h : (a = none ∧ len = 0 ∧ cap = 0 ∧ zs = []) ∨
    ∃ x, a = some x ∧ len ≤ cap ∧ cap ≤ maxLen ∧ zs.length = cap ∧ (∀ i, i < zs.length → w.cell? (x.add i) = some (.int .i64 (zs.getD i 0))) ∧ ∀ n ∈ zs, (Lit.int .i64 n).wf = true) :
    ∃ l : List Int, IntSl w (.slice a len cap) l ∧ ∀ x ∈ l, InI64 x := by
  rcases h with ⟨rfl, rfl, rfl, rfl⟩ | ⟨x, rfl, h1, h2, h3, h4, h5⟩
  · exact ⟨[], Flat.nil _ _ _ _, fun x hx => by simp at hx⟩
  · refine ⟨zs.take len, ?_, fun y hy => bounds_i64 (h5 y (List.mem_of_mem_take hy))⟩
    have hlen : (zs.take len).length = len := by rw [List.length_take]; omega
    unfold IntSl
    by_cases hz : 0 < zs.length
    · obtain ⟨b, off, rfl, hc⟩ := ints_at h4 hz
      unfold maxLen at h2
      have := Flat.of_cells (w := w) (k := 1) (n := len) (c := cap) (b := b) (o := off) (xs := iv (zs.take len)) (by rw [iv, List.length_map, hlen, Nat.mul_one]) (by omega) (fun j u hu => by
        have hj : j < len := by have := (List.getElem?_eq_some_iff.1 hu).1; simp [iv] at this; omega
        rw [hc j (by omega), ← hu]
        have hjz : j < zs.length := by omega
        simp [iv, hj, hjz])
      rw [hlen]
      exact this
    · have h0 : zs = [] := List.length_eq_zero_iff.1 (by omega)
      subst h0
      have : len = 0 := by simp at h3; omega
      subst this
      exact Flat.nil _ _ _ _

theorem byte_row {w : World} {a : Option Addr} {len cap : Nat} {zs : List Int} (h : (a = none ∧ len = 0 ∧ cap = 0 ∧ zs = []) ∨
    ∃ x, a = some x ∧ len ≤ cap ∧ cap ≤ maxLen ∧ zs.length = cap ∧ (∀ i, i < zs.length → w.cell? (x.add i) = some (.int .u8 (zs.getD i 0))) ∧ ∀ n ∈ zs, (Lit.int .u8 n).wf = true) :
    ∃ l : List Int, BySl w (.slice a len cap) l ∧ ∀ x ∈ l, IsByte x := by
  rcases h with ⟨rfl, rfl, rfl, rfl⟩ | ⟨x, rfl, h1, h2, h3, h4, h5⟩
  · exact ⟨[], Flat.nil _ _ _ _, fun x hx => by simp at hx⟩
  · refine ⟨zs.take len, ?_, fun y hy => bounds_u8 (h5 y (List.mem_of_mem_take hy))⟩
    have hlen : (zs.take len).length = len := by rw [List.length_take]; omega
    unfold BySl
    by_cases hz : 0 < zs.length
    · obtain ⟨b, off, rfl, hc⟩ := ints_at h4 hz
      unfold maxLen at h2
      have := Flat.of_cells (w := w) (k := 1) (n := len) (c := cap) (b := b) (o := off) (xs := bv (zs.take len)) (by rw [bv, List.length_map, hlen, Nat.mul_one]) (by omega) (fun j u hu => by
        have hj : j < len := by have := (List.getElem?_eq_some_iff.1 hu).1; simp [bv] at this; omega
        rw [hc j (by omega), ← hu]
        have hjz : j < zs.length := by omega
        simp [bv, hj, hjz])
      rw [hlen]
      exact this
    · have h0 : zs = [] := List.length_eq_zero_iff.1 (by omega)
      subst h0
      have : len = 0 := by simp at h3; omega
      subst this
      exact Flat.nil _ _ _ _


end Go.Proofs.Ytjdhcdbjfbhogaa
