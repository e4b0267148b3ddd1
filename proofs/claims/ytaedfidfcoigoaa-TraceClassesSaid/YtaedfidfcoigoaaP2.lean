/- The program's comparisons of messages, events, questions and steps. -/
import Derived.Test.YtaedfidfcoigoaaP1
namespace Go.Proofs.Ytaedfidfcoigoaa
open Go.RowKit

set_option maxHeartbeats 800000 in
set_option maxRecDepth 100000 in
theorem compareMsg (a0 a1 a2 a3 a4 b0 b1 b2 b3 b4 : Int) (w : World) : Calls Try.prog 87 #[.agg #[I a0, I a1, I a2, I a3, I a4], .agg #[I b0, I b1, I b2, I b3, I b4]] w fun e w' => e = .returned (I (lexL [a0, a1, a2, a3, a4] [b0, b1, b2, b3, b4])) ∧ Below w.heap.size w w' := by
  have hr := Lib.hid (show lexL [a0, a1, a2, a3, a4] [b0, b1, b2, b3, b4] = orL [lexL [a0, a1, a2] [b0, b1, b2], numsL [a3, b3, a4, b4]] by
    rw [show lexL [a0, a1, a2, a3, a4] [b0, b1, b2, b3, b4] = lexL ([a0, a1, a2] ++ [a3, a4]) ([b0, b1, b2] ++ [b3, b4]) from rfl, lexL_append [a0, a1, a2] [b0, b1, b2] [a3, a4] [b3, b4] rfl, lexL_cons a3, lexL_cons a4]
    simp only [orL, numsL]
    repeat' split
    all_goals simp_all [lexL])
  have hk0 := Kp2.start w #[I a0, I a1, I a2, I a3, I a4] #[I b0, I b1, I b2, I b3, I b4] 50
  have hac := hk0.1.cell
  have hac' := hk0.2.1.cell
  go_enter Try.func87, Try.ntmps87
  go_wp2_with fail
  go_region_held3 (fun w' => (∀ j, w'.cell? ⟨w.heap.size, j, none⟩ = (#[I a0, I a1, I a2, I a3, I a4] : Array Value)[j]?) ∧ (∀ j, w'.cell? ⟨w.heap.size + 1, j, none⟩ = (#[I b0, I b1, I b2, I b3, I b4] : Array Value)[j]?))
    ((first | exact Kp2.S hk0 | exact Kp2.S hk0.drew | exact Kp2.S (hk0.alloc _).drew | exact Kp2.S kp1 | exact Kp2.S (kp1.alloc _) | exact Kp2.S kp2 | exact Kp2.S (kp2.alloc _)))
    (first
      | (go_at_call 88; refine (compareCause a0 a1 a2 b0 b1 b2 _).mono ?_; rintro e w1 ⟨rfl, hB1⟩
         have kp1 : Kp2 w #[I a0, I a1, I a2, I a3, I a4] #[I b0, I b1, I b2, I b3, I b4] w1 := by first | exact Kp2.call hk0.drew hB1 | exact Kp2.call (hk0.alloc _).drew hB1)
      | (go_at_call 86; refine (numbers_any [a3, b3, a4, b4] _ _ (by first | exact IntSl.of_heap (heap_alloc_new w1 _) rfl rfl (by simp) | exact IntSl.of_heap ((hB1.block _ (by simp only [heap_drew, World.size_alloc]; omega)).trans (heap_alloc3_new w _ _ _)) rfl rfl (by simp)) (by simp)).mono ?_; rintro e w2 ⟨rfl, hQ2⟩
         have kp2 : Kp2 w #[I a0, I a1, I a2, I a3, I a4] #[I b0, I b1, I b2, I b3, I b4] w2 := by first | exact Kp2.call kp1 (hQ2.below _) | exact Kp2.call (kp1.alloc _) (hQ2.below _))
      | (go_at_call 70; refine (cmpOr [lexL [a0, a1, a2] [b0, b1, b2], numsL [a3, b3, a4, b4]] _ _ (IntSl.of_heap (heap_alloc_new w2 _) rfl rfl (by simp))).mono ?_; rintro e w3 ⟨rfl, rfl⟩))
  all_goals
    go_wp2_with fail
    go_ret
    exact ⟨ret_int hr.out.symm, (kp2.alloc _).2.2.1⟩

set_option maxHeartbeats 800000 in
set_option maxRecDepth 100000 in
theorem compareQuestion (a0 a1 a2 a3 a4 b0 b1 b2 b3 b4 : Int) (w : World) : Calls Try.prog 71 #[.agg #[I a0, I a1, I a2, I a3, I a4], .agg #[I b0, I b1, I b2, I b3, I b4]] w fun e w' => e = .returned (I (lexL [a0, a1, a2, a3, a4] [b0, b1, b2, b3, b4])) ∧ Below w.heap.size w w' := by
  have hr := Lib.hid (show lexL [a0, a1, a2, a3, a4] [b0, b1, b2, b3, b4] = orL [lexL [a0, a1, a2] [b0, b1, b2], numsL [a3, b3, a4, b4]] by
    rw [show lexL [a0, a1, a2, a3, a4] [b0, b1, b2, b3, b4] = lexL ([a0, a1, a2] ++ [a3, a4]) ([b0, b1, b2] ++ [b3, b4]) from rfl, lexL_append [a0, a1, a2] [b0, b1, b2] [a3, a4] [b3, b4] rfl, lexL_cons a3, lexL_cons a4]
    simp only [orL, numsL]
    repeat' split
    all_goals simp_all [lexL])
  have hk0 := Kp2.start w #[I a0, I a1, I a2, I a3, I a4] #[I b0, I b1, I b2, I b3, I b4] 57
  have hac := hk0.1.cell
  have hac' := hk0.2.1.cell
  go_enter Try.func71, Try.ntmps71
  go_wp2_with fail
  go_region_held3 (fun w' => (∀ j, w'.cell? ⟨w.heap.size, j, none⟩ = (#[I a0, I a1, I a2, I a3, I a4] : Array Value)[j]?) ∧ (∀ j, w'.cell? ⟨w.heap.size + 1, j, none⟩ = (#[I b0, I b1, I b2, I b3, I b4] : Array Value)[j]?))
    ((first | exact Kp2.S hk0 | exact Kp2.S hk0.drew | exact Kp2.S (hk0.alloc _).drew | exact Kp2.S kp1 | exact Kp2.S (kp1.alloc _) | exact Kp2.S kp2 | exact Kp2.S (kp2.alloc _)))
    (first
      | (go_at_call 88; refine (compareCause a0 a1 a2 b0 b1 b2 _).mono ?_; rintro e w1 ⟨rfl, hB1⟩
         have kp1 : Kp2 w #[I a0, I a1, I a2, I a3, I a4] #[I b0, I b1, I b2, I b3, I b4] w1 := by first | exact Kp2.call hk0.drew hB1 | exact Kp2.call (hk0.alloc _).drew hB1)
      | (go_at_call 86; refine (numbers_any [a3, b3, a4, b4] _ _ (by first | exact IntSl.of_heap (heap_alloc_new w1 _) rfl rfl (by simp) | exact IntSl.of_heap ((hB1.block _ (by simp only [heap_drew, World.size_alloc]; omega)).trans (heap_alloc3_new w _ _ _)) rfl rfl (by simp)) (by simp)).mono ?_; rintro e w2 ⟨rfl, hQ2⟩
         have kp2 : Kp2 w #[I a0, I a1, I a2, I a3, I a4] #[I b0, I b1, I b2, I b3, I b4] w2 := by first | exact Kp2.call kp1 (hQ2.below _) | exact Kp2.call (kp1.alloc _) (hQ2.below _))
      | (go_at_call 70; refine (cmpOr [lexL [a0, a1, a2] [b0, b1, b2], numsL [a3, b3, a4, b4]] _ _ (IntSl.of_heap (heap_alloc_new w2 _) rfl rfl (by simp))).mono ?_; rintro e w3 ⟨rfl, rfl⟩))
  all_goals
    go_wp2_with fail
    go_ret
    exact ⟨ret_int hr.out.symm, (kp2.alloc _).2.2.1⟩

set_option maxHeartbeats 800000 in
set_option maxRecDepth 100000 in
theorem compareEvent (a0 a1 a2 a3 a4 a5 a6 a7 b0 b1 b2 b3 b4 b5 b6 b7 : Int) (w : World) : Calls Try.prog 67 #[.agg #[I a0, I a1, I a2, I a3, I a4, I a5, I a6, I a7], .agg #[I b0, I b1, I b2, I b3, I b4, I b5, I b6, I b7]] w fun e w' => e = .returned (I (lexL [a0, a1, a2, a3, a4, a5, a6, a7] [b0, b1, b2, b3, b4, b5, b6, b7])) ∧ Below w.heap.size w w' := by
  have hr := Lib.hid (show lexL [a0, a1, a2, a3, a4, a5, a6, a7] [b0, b1, b2, b3, b4, b5, b6, b7] = orL [numsL [a0, b0, a1, b1, a2, b2], lexL [a3, a4, a5, a6, a7] [b3, b4, b5, b6, b7]] by
    rw [lexL_cons a0, lexL_cons a1, lexL_cons a2]
    simp only [orL, numsL]
    repeat' split
    all_goals simp_all)
  have hk0 := Kp2.start w #[I a0, I a1, I a2, I a3, I a4, I a5, I a6, I a7] #[I b0, I b1, I b2, I b3, I b4, I b5, I b6, I b7] 52
  have hac := hk0.1.cell
  have hac' := hk0.2.1.cell
  go_enter Try.func67, Try.ntmps67
  go_wp2_with fail
  go_region_held3 (fun w' => (∀ j, w'.cell? ⟨w.heap.size, j, none⟩ = (#[I a0, I a1, I a2, I a3, I a4, I a5, I a6, I a7] : Array Value)[j]?) ∧ (∀ j, w'.cell? ⟨w.heap.size + 1, j, none⟩ = (#[I b0, I b1, I b2, I b3, I b4, I b5, I b6, I b7] : Array Value)[j]?))
    ((first | exact Kp2.S hk0 | exact Kp2.S hk0.drew | exact Kp2.S (hk0.alloc _).drew | exact Kp2.S kp1 | exact Kp2.S (kp1.alloc _) | exact Kp2.S kp2 | exact Kp2.S (kp2.alloc _)))
    (first
      | (go_at_call 86; refine (numbers_any [a0, b0, a1, b1, a2, b2] _ _ (IntSl.of_heap (w := (((w.alloc _).alloc _).alloc _).drew) (heap_alloc3_new w _ _ _) rfl rfl (by simp)) (by simp)).mono ?_; rintro e w1 ⟨rfl, hQ1⟩
         have kp1 : Kp2 w #[I a0, I a1, I a2, I a3, I a4, I a5, I a6, I a7] #[I b0, I b1, I b2, I b3, I b4, I b5, I b6, I b7] w1 := Kp2.call (hk0.alloc _).drew (hQ1.below _))
      | (go_at_call 87; refine (compareMsg a3 a4 a5 a6 a7 b3 b4 b5 b6 b7 _).mono ?_; rintro e w2 ⟨rfl, hB2⟩
         have kp2 : Kp2 w #[I a0, I a1, I a2, I a3, I a4, I a5, I a6, I a7] #[I b0, I b1, I b2, I b3, I b4, I b5, I b6, I b7] w2 := Kp2.call kp1 hB2)
      | (go_at_call 70; refine (cmpOr [numsL [a0, b0, a1, b1, a2, b2], lexL [a3, a4, a5, a6, a7] [b3, b4, b5, b6, b7]] _ _ (IntSl.of_heap (heap_alloc_new w2 _) rfl rfl (by simp))).mono ?_; rintro e w3 ⟨rfl, rfl⟩))
  all_goals
    go_wp2_with fail
    go_ret
    exact ⟨ret_int hr.out.symm, (kp2.alloc _).2.2.1⟩

set_option maxHeartbeats 800000 in
set_option maxRecDepth 100000 in
theorem compareAsk (a b : Ask) (w : World) : Calls Try.prog 69 #[.agg #[I a.node, I a.handler, I a.count, I a.kind, I a.index, I a.arity, I a.n], .agg #[I b.node, I b.handler, I b.count, I b.kind, I b.index, I b.arity, I b.n]] w fun e w' => e = .returned (I (lexL a.key b.key)) ∧ Below w.heap.size w w' := by
  have hr := Lib.hid (show lexL a.key b.key = orL [lexL [a.node, a.handler, a.count, a.kind, a.index] [b.node, b.handler, b.count, b.kind, b.index], cmpI a.n b.n] by
    rw [show lexL a.key b.key = lexL ([a.node, a.handler, a.count, a.kind, a.index] ++ [a.n]) ([b.node, b.handler, b.count, b.kind, b.index] ++ [b.n]) from rfl, lexL_append [a.node, a.handler, a.count, a.kind, a.index] [b.node, b.handler, b.count, b.kind, b.index] [a.n] [b.n] rfl, lexL_cons a.n]
    simp only [orL]
    repeat' split
    all_goals simp_all [lexL])
  have hk0 := Kp2.start w #[I a.node, I a.handler, I a.count, I a.kind, I a.index, I a.arity, I a.n] #[I b.node, I b.handler, I b.count, I b.kind, I b.index, I b.arity, I b.n] 59
  have hac := hk0.1.cell
  have hac' := hk0.2.1.cell
  go_enter Try.func69, Try.ntmps69
  go_wp2_with fail
  go_region_held3 (fun w' => (∀ j, w'.cell? ⟨w.heap.size, j, none⟩ = (#[I a.node, I a.handler, I a.count, I a.kind, I a.index, I a.arity, I a.n] : Array Value)[j]?) ∧ (∀ j, w'.cell? ⟨w.heap.size + 1, j, none⟩ = (#[I b.node, I b.handler, I b.count, I b.kind, I b.index, I b.arity, I b.n] : Array Value)[j]?))
    ((first | exact Kp2.S hk0 | exact Kp2.S hk0.drew | exact Kp2.S (hk0.alloc _).drew | exact Kp2.S kp1 | exact Kp2.S (kp1.alloc _) | exact Kp2.S kp2 | exact Kp2.S (kp2.alloc _)))
    (first
      | (go_at_call 71; refine (compareQuestion a.node a.handler a.count a.kind a.index b.node b.handler b.count b.kind b.index _).mono ?_; rintro e w1 ⟨rfl, hB1⟩
         have kp1 : Kp2 w #[I a.node, I a.handler, I a.count, I a.kind, I a.index, I a.arity, I a.n] #[I b.node, I b.handler, I b.count, I b.kind, I b.index, I b.arity, I b.n] w1 := Kp2.call hk0.drew hB1)
      | (go_at_call 72; refine (cmpCompare a.n b.n _).mono ?_; rintro e w2 ⟨rfl, rfl⟩)
      | (go_at_call 70; refine (cmpOr [lexL [a.node, a.handler, a.count, a.kind, a.index] [b.node, b.handler, b.count, b.kind, b.index], cmpI a.n b.n] _ _ (IntSl.of_heap (heap_alloc_new w1 _) rfl rfl (by simp))).mono ?_; rintro e w3 ⟨rfl, rfl⟩))
  all_goals
    go_wp2_with fail
    go_ret
    exact ⟨ret_int hr.out.symm, (kp1.alloc _).2.2.1⟩

end Go.Proofs.Ytaedfidfcoigoaa
