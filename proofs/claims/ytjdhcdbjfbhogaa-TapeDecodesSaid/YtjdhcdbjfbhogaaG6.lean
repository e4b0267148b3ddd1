/- Questions compared: what the call leaves is the old memory and new blocks behind it; the order of questions. -/
import Derived.Test.YtjdhcdbjfbhogaaG2
import Derived.Sort.Grow
import Derived.Sort.Statements

namespace Go.Proofs.Ytjdhcdbjfbhogaa
open Go.RowKit

/-- Draws, and new blocks behind the old ones: nothing else. -/
def Grew (w w' : World) : Prop := ∃ q os, w' = Sort.grow (w.drewN q) os
theorem Grew.refl (w : World) : Grew w w := ⟨0, #[], by simp [World.drewN_zero]⟩
theorem Grew.trans {w X Y : World} (h : Grew w X) (h2 : Grew X Y) : Grew w Y := by
  obtain ⟨q, os, rfl⟩ := h
  obtain ⟨q2, os2, rfl⟩ := h2
  exact ⟨q + q2, os ++ os2, by rw [← Sort.grow_grow]; show Sort.grow (Sort.grow ((w.drewN q).drewN q2) os) os2 = _; rw [World.drewN_drewN]⟩
theorem Grew.drewN {w X : World} (h : Grew w X) (n : Nat) : Grew w (X.drewN n) := h.trans ⟨n, #[], by simp⟩
theorem Grew.drew {w X : World} (h : Grew w X) : Grew w X.drew := h.drewN 1
theorem Grew.alloc {w X : World} (h : Grew w X) (o : Obj) : Grew w (X.alloc o) := h.trans ⟨0, #[o], by rw [World.drewN_zero, Sort.alloc_eq_grow]⟩
theorem Quiet.grew {w X : World} (h : Quiet w X) : Grew w X := by
  obtain ⟨n, rfl⟩ := h
  exact (Grew.refl w).drewN n
theorem Grew.below {w X : World} (h : Grew w X) : Below w.heap.size w X := by
  obtain ⟨q, os, rfl⟩ := h
  exact ⟨rfl, rfl, rfl, by simp [Sort.grow], fun k hk => by show (w.heap ++ os)[k]? = _; exact Array.getElem?_append_left hk⟩

theorem lexL_anti : ∀ a b : List Int, lexL b a = - lexL a b
  | [], [] => rfl
  | [], _ :: _ => rfl
  | _ :: _, [] => rfl
  | a :: l, b :: m => by
    rw [lexL_cons, lexL_cons, lexL_anti l m]
    unfold cmpI
    by_cases h1 : a < b
    · have h2 : ¬ b < a := by omega
      simp [h1, h2]
    · by_cases h2 : b < a
      · simp [h1, h2]
      · simp [h1, h2]
theorem lexL_zero : ∀ a b : List Int, lexL a b = 0 → a = b
  | [], [], _ => rfl
  | [], _ :: _, h => by simp [lexL] at h
  | _ :: _, [], h => by simp [lexL] at h
  | a :: l, b :: m, h => by
    rw [lexL_cons] at h
    unfold cmpI at h
    by_cases h1 : a < b
    · simp [h1] at h
    · by_cases h2 : b < a
      · simp [h1, h2] at h
      · have : a = b := by omega
        subst this
        simp at h
        rw [lexL_zero l m h]
theorem lexL_trans : ∀ a b c : List Int, lexL a b < 0 → lexL b c < 0 → lexL a c < 0
  | [], b, [], h1, h2 => by
    cases b with
    | nil => simp [lexL] at h1
    | cons b m => simp [lexL] at h2
  | [], b, c :: n, _, _ => by simp [lexL]
  | a :: l, [], c, h1, _ => by simp [lexL] at h1
  | a :: l, b :: m, [], _, h2 => by simp [lexL] at h2
  | a :: l, b :: m, c :: n, h1, h2 => by
    rw [lexL_cons] at h1 h2 ⊢
    have ih := lexL_trans l m n
    unfold cmpI at *
    by_cases x1 : a < b
    · by_cases x2 : b < c
      · have : a < c := by omega
        simp [this]
      · by_cases x3 : c < b
        · simp [x2, x3] at h2
        · have : b = c := by omega
          subst this
          simp [x1]
    · by_cases x2 : b < a
      · simp [x1, x2] at h1
      · have : a = b := by omega
        subst this
        simp at h1
        by_cases x3 : a < c
        · simp [x3]
        · by_cases x4 : c < a
          · simp [x3, x4] at h2
          · have : a = c := by omega
            subst this
            simp at h2 ⊢
            exact ih h1 h2

set_option maxHeartbeats 400000 in
set_option maxRecDepth 100000 in
theorem compareCauseG (a0 a1 a2 b0 b1 b2 : Int) (w : World) : Calls Try.prog 71 #[.agg #[I a0, I a1, I a2], .agg #[I b0, I b1, I b2]] w fun e w' => e = .returned (I (lexL [a0, a1, a2] [b0, b1, b2])) ∧ Grew w w' := by
  have hr := Lib.hid (show lexL [a0, a1, a2] [b0, b1, b2] = numsL [a0, b0, a1, b1, a2, b2] by simp only [numsL]; rw [lexL_cons, lexL_cons, lexL_cons]; rfl)
  go_enter Try.func71, Try.ntmps71
  go_wp2_with fail
  refine (numbers_any [a0, b0, a1, b1, a2, b2] _ _ (IntSl.of_heap (heap_alloc3_new w _ _ _) rfl rfl (by simp)) (by simp)).mono ?_
  rintro e w1 ⟨rfl, hQ⟩
  go_wp2_with fail
  go_ret
  exact ⟨ret_int hr.out.symm, ((((Grew.refl w).alloc _).alloc _).alloc _).trans hQ.grew⟩
/-- As Kp2, with all that was made. -/
def Kp3 (w : World) (cs ds : Array Value) (X : World) : Prop := Kp2 w cs ds X ∧ Grew w X
theorem Kp3.S {w X : World} {cs ds : Array Value} (h : Kp3 w cs ds X) : (∀ j, X.cell? ⟨w.heap.size, j, none⟩ = cs[j]?) ∧ (∀ j, X.cell? ⟨w.heap.size + 1, j, none⟩ = ds[j]?) := h.1.S
theorem Kp3.drew {w X : World} {cs ds : Array Value} (h : Kp3 w cs ds X) : Kp3 w cs ds X.drew := ⟨h.1.drew, h.2.drew⟩
theorem Kp3.alloc {w X : World} {cs ds : Array Value} (h : Kp3 w cs ds X) (o : Obj) : Kp3 w cs ds (X.alloc o) := ⟨h.1.alloc o, h.2.alloc o⟩
theorem Kp3.call {w X w1 : World} {cs ds : Array Value} (h : Kp3 w cs ds X) (hB : Grew X w1) : Kp3 w cs ds w1 := ⟨h.1.call hB.below, h.2.trans hB⟩
theorem Kp3.start (w : World) (cs ds : Array Value) (t : TypeId) : Kp3 w cs ds ((w.alloc (.cells cs t)).alloc (.cells ds t)) := ⟨Kp2.start w cs ds t, ((Grew.refl w).alloc _).alloc _⟩
set_option maxHeartbeats 800000 in
set_option maxRecDepth 100000 in
theorem compareQuestionG (a0 a1 a2 a3 a4 b0 b1 b2 b3 b4 : Int) (w : World) : Calls Try.prog 39 #[.agg #[I a0, I a1, I a2, I a3, I a4], .agg #[I b0, I b1, I b2, I b3, I b4]] w fun e w' => e = .returned (I (lexL [a0, a1, a2, a3, a4] [b0, b1, b2, b3, b4])) ∧ Grew w w' := by
  have hr := Lib.hid (show lexL [a0, a1, a2, a3, a4] [b0, b1, b2, b3, b4] = orL [lexL [a0, a1, a2] [b0, b1, b2], numsL [a3, b3, a4, b4]] by
    rw [show lexL [a0, a1, a2, a3, a4] [b0, b1, b2, b3, b4] = lexL ([a0, a1, a2] ++ [a3, a4]) ([b0, b1, b2] ++ [b3, b4]) from rfl, lexL_append [a0, a1, a2] [b0, b1, b2] [a3, a4] [b3, b4] rfl, lexL_cons a3, lexL_cons a4]
    simp only [orL, numsL]
    repeat' split
    all_goals simp_all [lexL])
  have hk0 := Kp3.start w #[I a0, I a1, I a2, I a3, I a4] #[I b0, I b1, I b2, I b3, I b4] 66
  have hac := hk0.1.1.cell
  have hac' := hk0.1.2.1.cell
  go_enter Try.func39, Try.ntmps39
  go_wp2_with fail
  go_region_held3 (fun w' => (∀ j, w'.cell? ⟨w.heap.size, j, none⟩ = (#[I a0, I a1, I a2, I a3, I a4] : Array Value)[j]?) ∧ (∀ j, w'.cell? ⟨w.heap.size + 1, j, none⟩ = (#[I b0, I b1, I b2, I b3, I b4] : Array Value)[j]?))
    ((first | exact Kp3.S hk0 | exact Kp3.S hk0.drew | exact Kp3.S (hk0.alloc _).drew | exact Kp3.S kp1 | exact Kp3.S (kp1.alloc _) | exact Kp3.S kp2 | exact Kp3.S (kp2.alloc _)))
    (first
      | (go_at_call 71; refine (compareCauseG a0 a1 a2 b0 b1 b2 _).mono ?_; rintro e w1 ⟨rfl, hB1⟩
         have kp1 : Kp3 w #[I a0, I a1, I a2, I a3, I a4] #[I b0, I b1, I b2, I b3, I b4] w1 := by first | exact Kp3.call hk0.drew hB1 | exact Kp3.call (hk0.alloc _).drew hB1)
      | (go_at_call 72; refine (numbers_any [a3, b3, a4, b4] _ _ (by first | exact IntSl.of_heap (heap_alloc_new w1 _) rfl rfl (by simp) | exact IntSl.of_heap ((hB1.below.block _ (by simp only [heap_drew, World.size_alloc]; omega)).trans (heap_alloc3_new w _ _ _)) rfl rfl (by simp)) (by simp)).mono ?_; rintro e w2 ⟨rfl, hQ2⟩
         have kp2 : Kp3 w #[I a0, I a1, I a2, I a3, I a4] #[I b0, I b1, I b2, I b3, I b4] w2 := by first | exact Kp3.call kp1 (hQ2.grew) | exact Kp3.call (kp1.alloc _) (hQ2.grew))
      | (go_at_call 70; refine (cmpOr [lexL [a0, a1, a2] [b0, b1, b2], numsL [a3, b3, a4, b4]] _ _ (IntSl.of_heap (heap_alloc_new w2 _) rfl rfl (by simp))).mono ?_; rintro e w3 ⟨rfl, rfl⟩))
  all_goals
    go_wp2_with fail
    go_ret
    exact ⟨ret_int hr.out.symm, (kp2.alloc _).2⟩

/-! ### The order of questions -/
def Qn.cmp (x y : Qn) : Int := lexL x.ints y.ints
theorem lexL_self (a : List Int) : lexL a a = 0 := by have := lexL_anti a a; omega
theorem lexL_trans_le (a b c : List Int) (h1 : lexL a b ≤ 0) (h2 : lexL b c ≤ 0) : lexL a c ≤ 0 := by
  by_cases e1 : lexL a b = 0
  · rw [lexL_zero _ _ e1]; exact h2
  · by_cases e2 : lexL b c = 0
    · rw [← lexL_zero _ _ e2]; exact h1
    · have := lexL_trans a b c (by omega) (by omega)
      omega
theorem sortedQ : Sort.SWO (fun x y => decide (Qn.cmp x y < 0)) where
  irrefl x := by simp [Qn.cmp, lexL_self]
  trans x y z h1 h2 := by
    exact decide_eq_true (lexL_trans _ _ _ (of_decide_eq_true h1) (of_decide_eq_true h2))
  ntrans x y z h1 h2 := by
    have b1 : ¬ lexL x.ints y.ints < 0 := of_decide_eq_false h1
    have b2 : ¬ lexL y.ints z.ints < 0 := of_decide_eq_false h2
    refine decide_eq_false (p := lexL x.ints z.ints < 0) ?_
    have a1 := lexL_anti x.ints y.ints
    have a2 := lexL_anti y.ints z.ints
    have a3 := lexL_anti x.ints z.ints
    have := lexL_trans_le z.ints y.ints x.ints (by omega) (by omega)
    omega
theorem Qn.cmp_zero {x y : Qn} (h : x.cmp y = 0) : x = y := Qn.ints_inj.1 (lexL_zero _ _ h)
theorem Qn.cmp_anti (x y : Qn) : y.cmp x = - x.cmp y := lexL_anti _ _
theorem Qn.cmp_trans {x y z : Qn} (h1 : x.cmp y < 0) (h2 : y.cmp z < 0) : x.cmp z < 0 := lexL_trans _ _ _ h1 h2
theorem Qn.cmp_self (x : Qn) : x.cmp x = 0 := lexL_self _

end Go.Proofs.Ytjdhcdbjfbhogaa
