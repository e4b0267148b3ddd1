/- The pairs of dependent steps of a run, in plain words. -/
import Derived.Test.YtaedfidfcoigoaaP4
namespace Go.Proofs.Ytaedfidfcoigoaa
open Go.RowKit

def depAt (run : List Stp) (i k : Nat) : Bool := match run[i]?, run[k]? with | some a, some b => depB a b | _, _ => false
/-- The pairs of row i, up to k. -/
def rowP (run : List Stp) (i k : Nat) : List (Nat × Nat) := ((List.range' (i + 1) (k - (i + 1))).filter fun j => depAt run i j).map fun j => (i, j)
/-- The pairs of the rows before i. -/
def rowsP (run : List Stp) (i : Nat) : List (Nat × Nat) := (List.range i).flatMap fun j => rowP run j run.length
def pairsL (run : List Stp) : List (Nat × Nat) := rowsP run run.length

theorem rowP_start (run : List Stp) (i : Nat) : rowP run i (i + 1) = [] := by simp [rowP]
theorem rowP_succ (run : List Stp) (i k : Nat) (h : i + 1 ≤ k) : rowP run i (k + 1) = rowP run i k ++ (if depAt run i k then [(i, k)] else []) := by
  unfold rowP
  rw [show k + 1 - (i + 1) = (k - (i + 1)) + 1 by omega, List.range'_concat, List.filter_append, List.map_append]
  have : i + 1 + 1 * (k - (i + 1)) = k := by omega
  rw [this]
  by_cases hd : depAt run i k <;> simp [hd]
theorem rowsP_succ (run : List Stp) (i : Nat) : rowsP run (i + 1) = rowsP run i ++ rowP run i run.length := by
  unfold rowsP
  rw [List.range_succ, List.flatMap_append]
  simp
theorem rowP_prefix (run : List Stp) (i k : Nat) (h1 : i + 1 ≤ k) (h2 : k ≤ run.length) : rowP run i k <+: rowP run i run.length := by
  unfold rowP
  refine List.IsPrefix.map _ (List.IsPrefix.filter _ ?_)
  obtain ⟨d, rfl⟩ : ∃ d, k = i + 1 + d := ⟨k - (i + 1), by omega⟩
  obtain ⟨e, he⟩ : ∃ e, run.length = i + 1 + d + e := ⟨run.length - (i + 1 + d), by omega⟩
  refine ⟨List.range' (i + 1 + d) e, ?_⟩
  rw [he, show i + 1 + d - (i + 1) = d by omega, show i + 1 + d + e - (i + 1) = d + e by omega, List.range'_append_1]
theorem rowsP_prefix (run : List Stp) (i : Nat) (h : i ≤ run.length) : rowsP run i <+: pairsL run := by
  obtain ⟨d, hd⟩ : ∃ d, run.length = i + d := ⟨run.length - i, by omega⟩
  unfold pairsL
  rw [hd]
  clear h hd
  induction d with
  | zero => exact List.prefix_rfl
  | succ d ih => exact ih.trans (by rw [show i + (d + 1) = (i + d) + 1 by omega, rowsP_succ]; exact List.prefix_append _ _)
theorem part_prefix (run : List Stp) (i k : Nat) (hi : i < run.length) (h1 : i + 1 ≤ k) (h2 : k ≤ run.length) : rowsP run i ++ rowP run i k <+: pairsL run := by
  refine List.IsPrefix.trans ?_ (rowsP_prefix run (i + 1) (by omega))
  rw [rowsP_succ]
  exact (List.prefix_append_right_inj _).2 (rowP_prefix run i k h1 h2)

/-- A pair as yield is handed it. -/
def encP (x : Nat × Nat) : Array Value := #[.agg #[I x.1, I x.2]]

theorem depAt_eq {run : List Stp} {i k : Nat} (hi : i < run.length) (hk : k < run.length) : depAt run i k = depB run[i] run[k] := by simp [depAt, hi, hk]

theorem info87 : (Try.prog.info? 87).map (fun i => (i.zero, i.size, i.bytes)) = some (some (.agg #[.int .i64 0, .int .i64 0]), 2, 16) := by kernel_rfl
/-- The cells of a pair. -/
def pc (x : Nat × Nat) : List Value := [I x.1, I x.2]

end Go.Proofs.Ytaedfidfcoigoaa
