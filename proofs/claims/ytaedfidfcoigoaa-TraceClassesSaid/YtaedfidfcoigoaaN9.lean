/- trace.Equivalent. -/
import Derived.Test.YtaedfidfcoigoaaN8
import Derived.Test.YtaedfidfcoigoaaP10
namespace Go.Proofs.Ytaedfidfcoigoaa
open Go.RowKit

/-- A run that the code can hold. -/
structure RunOk (run : List Stp) : Prop where
  len : run.length ≤ 64
  asks : ∀ s ∈ run, s.asks.length ≤ 1000000
  sent : ∀ s ∈ run, s.sent.length ≤ 1000000

set_option maxHeartbeats 400000 in
theorem trEquivalent (a b : List Stp) (v u : Value) (w : World) (ha : StpSl w v a) (hb : StpSl w u b) (ha1 : RunOk a) (hb1 : RunOk b) :
    Calls Try.prog 11 #[v, u] w fun e w' => e = .returned (.bool (decide (normS a = normS b))) ∧ Below w.heap.size w w' := by
  have H1 := Lib.hid (trNormal a v w ha ha1.len ha1.asks ha1.sent)
  clear ha
  go_enter Try.func11, Try.ntmps11
  go_wp2_with fail
  refine H1.out.mono ?_
  rintro e w1 ⟨x, rfl, hx, hB1⟩
  go_wp2_with fail
  refine (trNormal b u w1 (hb.kept hB1 (Nat.le_refl _)) hb1.len hb1.asks hb1.sent).mono ?_
  rintro e w2 ⟨y, rfl, hy, hB2⟩
  go_wp2_with fail
  refine (equalFunc (normS a) (normS b) x y w2 (hx.kept hB2 (Nat.le_refl _)) hy).mono ?_
  rintro e w3 ⟨rfl, hB3⟩
  go_wp2_with fail
  go_ret
  exact ⟨rfl, (hB1.trans (hB2.mono hB1.size)).trans (hB3.mono (Nat.le_trans hB1.size hB2.size))⟩

end Go.Proofs.Ytaedfidfcoigoaa
