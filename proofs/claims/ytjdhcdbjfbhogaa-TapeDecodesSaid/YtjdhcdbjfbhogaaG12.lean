/- tape.Get. -/
import Derived.Test.YtjdhcdbjfbhogaaG11
namespace Go.Proofs.Ytjdhcdbjfbhogaa
open Go.RowKit Go.Maps

set_option maxHeartbeats 2000000 in
set_option maxRecDepth 100000 in
theorem getF (l : List Ans) (ve va : Value) (q : Qn) (w : World) (ha : AnsSl w va l) (hok : ∀ a ∈ l, a.ok) (hq : q.ok) (hl : l.length ≤ 1000000) :
    Calls Try.prog 36 #[.agg #[ve, va], .agg #[I q.node, I q.handler, I q.count, I q.kind, I q.index]] w fun e w' => e = .returned (I (getA l q)) ∧ Below w.heap.size w w' := by
  have hk0 : Kp2 w #[ve, va] #[I q.node, I q.handler, I q.count, I q.kind, I q.index] ((w.alloc (.cells #[ve, va] 26)).alloc (.cells #[I q.node, I q.handler, I q.count, I q.kind, I q.index] 66)) := ⟨(Blk.new _ _ _).alloc _, ⟨_, heap_alloc2_new w _ _⟩, (by repeat (first | exact Below.refl _ _ | assumption | refine Below.drew ?_ | refine below_drewN ?_ _ | refine Below.alloc ?_ (by simp <;> omega) _ | refine Below.setCell ?_ (by simp <;> omega) _)), by simp⟩
  have Hans := Lib.hid (answersF l ve va _ (ha.kept hk0.2.2.1.drew (Nat.le_refl _)) hok hl)
  have Hkey := Lib.hid (keyQ q hq)
  have Hq := Lib.hid hq
  clear hok ha hq
  go_enter Try.func36, Try.ntmps36
  go_upto_region 1 with fail
  refine wp_region_ordN 5 [(0, true), (2, true), (1, false), (3, false), (4, true)] (fun w' => (∀ j, w'.cell? ⟨w.heap.size, j, none⟩ = (#[ve, va] : Array Value)[j]?) ∧ (∀ j, w'.cell? ⟨w.heap.size + 1, j, none⟩ = (#[I q.node, I q.handler, I q.count, I q.kind, I q.index] : Array Value)[j]?)) (by kernel_rfl) rfl rfl (by kernel_rfl) (Kp2.S hk0.drew) ?_
  iterate 2 (refine wpOrd_take ?_ (by rfl) ?_ ?_; rotate_left; (intro w hSw; (try dsimp only at hSw); go_simp; try with_reducible rfl); (try simp only [Act.put, List.setIfInBounds_toArray, List.set_cons_zero, List.set_cons_succ]))
  refine wpOrd_move (fun K hK => ?_)
  go_simp
  go_at_call 61
  refine Hans.out.mono ?_
  rintro e w1 ⟨b, D, rfl, hb, hmap, hMA, hB1⟩
  have kp1 := Kp2.call hk0.drew hB1
  refine hK.out _ _ (Kp2.S kp1) ?_
  clear hK K
  (try simp only [Act.put, List.setIfInBounds_toArray, List.set_cons_zero, List.set_cons_succ])
  obtain ⟨c, hrun, hat, _⟩ := World.ownsMap.lookup_int hmap law66 Try.underlying102 Try.underlying3 (zero3 _) Hkey.out
  have hcv : c = getA l q := by
    rw [hMA.at_ q Hq.out] at hat
    simpa using hat.symm
  subst hcv
  simp only [Qn.val] at hrun
  refine wpOrd_move (fun K hK => ?_)
  go_simp
  refine hK.out _ _ (Kp2.S kp1) ?_
  clear hK K
  (try simp only [Act.put, List.setIfInBounds_toArray, List.set_cons_zero, List.set_cons_succ])
  (refine wpOrd_take ?_ (by rfl) ?_ ?_; rotate_left; (intro w hSw; (try dsimp only at hSw); go_simp; try with_reducible rfl); (try simp only [Act.put, List.setIfInBounds_toArray, List.set_cons_zero, List.set_cons_succ]))
  refine wpOrd_nil ?_
  go_wp2_with fail
  refine NoPanic.normal ?_
  go_wp2_with fail
  go_ret
  exact ⟨rfl, kp1.2.2.1⟩

end Go.Proofs.Ytjdhcdbjfbhogaa
