/- What a run is hashed from: the plain list; trace.message. -/
import Derived.Test.YtaedfidfcoigoaaH3
import Derived.Test.YtaedfidfcoigoaaR7
namespace Go.Proofs.Ytaedfidfcoigoaa
open Go.RowKit

/-- The integers that stand for a step in the hash of a run. -/
def Stp.words (s : Stp) : List Int := s.ev.ints ++ [(s.asks.length : Int)] ++ s.asks.flatMap Ask.ints ++ [if s.obs then 1 else 0, (s.sent.length : Int)] ++ s.sent.flatMap Msg.ints
/-- The hash of a run. -/
def keyI (run : List Stp) : Int := sumI ((normS run).flatMap Stp.words)

set_option maxHeartbeats 400000 in
theorem message (m : Msg) (w : World) : Calls Try.prog 50 #[.agg #[I m.node, I m.handler, I m.count, I m.index, I m.copy]] w fun e w' =>
    ∃ g, e = .returned (.slice (some ⟨g, 0, none⟩) 5 5) ∧ w.heap.size ≤ g ∧ w'.heap[g]? = some (.cells #[I m.node, I m.handler, I m.count, I m.index, I m.copy] 3 (0, 0)) ∧ Below w.heap.size w w' := by
  go_enter Try.func50, Try.ntmps50
  go_wp2
  go_ret
  exact ⟨_, rfl, by simp, heap_alloc2_new _ _ _, (by repeat (first | exact Below.refl _ _ | assumption | refine Below.drew ?_ | refine below_drewN ?_ _ | refine Below.alloc ?_ (by simp <;> omega) _ | refine Below.setCell ?_ (by simp <;> omega) _))⟩

end Go.Proofs.Ytaedfidfcoigoaa
