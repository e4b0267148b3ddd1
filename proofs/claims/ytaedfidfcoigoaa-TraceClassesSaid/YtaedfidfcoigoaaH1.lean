/- The hash: mix, as the library and the reference have it. -/
import Derived.Test.YtaedfidfcoigoaaN9
namespace Go.Proofs.Ytaedfidfcoigoaa
open Go.RowKit

theorem u64_range (n : Int) : 0 ≤ IntKind.u64.wrap n ∧ IntKind.u64.wrap n < 18446744073709551616 := by
  have e : IntKind.u64.wrap n = n % 18446744073709551616 := by rw [IntKind.wrap_u64]
  rw [e]
  exact ⟨Int.emod_nonneg _ (by omega), Int.emod_lt_of_pos _ (by omega)⟩
theorem u64_in (n : Int) (h : 0 ≤ n ∧ n < 18446744073709551616) : IntKind.u64.wrap n = n := by
  have e : IntKind.u64.wrap n = n % 18446744073709551616 := by rw [IntKind.wrap_u64]
  rw [e]
  exact Int.emod_eq_of_lt h.1 h.2
/-- What mix computes. -/
def mixW (a b : Int) : Int := IntKind.u64.wrap (bits .xor .u64 a b * 11400714819323198485)
def mixI (a b : Int) : Int := bits .xor .u64 (mixW a b) (mixW a b / 4294967296)

theorem mix77 (a b : Int) (w : World) : Calls Try.prog 77 #[.int .u64 a, .int .u64 b] w fun e w' => e = .returned (.int .u64 (mixI a b)) ∧ w = w' := by
  go_enter Try.func77, Try.ntmps77
  go_wp2
  go_ret
  exact ⟨rfl, rfl⟩
theorem mix79 (a b : Int) (w : World) : Calls Try.prog 79 #[.int .u64 a, .int .u64 b] w fun e w' => e = .returned (.int .u64 (mixI a b)) ∧ w = w' := by
  go_enter Try.func79, Try.ntmps79
  go_wp2
  go_ret
  refine ⟨?_, rfl⟩
  have h := u64_range (bits BinOp.xor IntKind.u64 a b * 11400714819323198485)
  have e : IntKind.u64.wrap ((IntKind.u64.wrap (bits BinOp.xor IntKind.u64 a b * 11400714819323198485)).tdiv 4294967296) = mixW a b / 4294967296 := by
    rw [Int.tdiv_eq_ediv_of_nonneg h.1, u64_in]
    · rfl
    · omega
  show Ending.returned (Value.int IntKind.u64 (bits BinOp.xor IntKind.u64 (mixW a b) (IntKind.u64.wrap ((IntKind.u64.wrap (bits BinOp.xor IntKind.u64 a b * 11400714819323198485)).tdiv 4294967296)))) = _
  rw [e]
  rfl
end Go.Proofs.Ytaedfidfcoigoaa
