import Derived.Test.YtljmonfobefiiaaGreatDoorUBase
import Derived.Sort.Grow
import Derived.Sort.Statements
import Derived.Test.YtljmonfobefiiaaGreatDoorUTG9
import Derived.Deep.DeepMust
import Derived.Laws.Bits64b
import Derived.Lib.SliceRun
/- Questions compared: what the call leaves is the old memory and new blocks behind it; the order of questions. -/

namespace Go.Proofs.YtljmonfobefiiaaGreatDoor
open Go.RowKit

/-- Draws, and new blocks behind the old ones: nothing else. -/
def Grew (w w' : World) : Prop := ∃ q os, w' = Sort.grow (w.drewN q) os
theorem Grew.refl (w : World) : Grew w w := ⟨0, #[], by simp [World.drewN_zero]⟩
theorem Grew.trans {w X Y : World} (h : Grew w X) (h2 : Grew X Y) : Grew w Y := by
  obtain ⟨q, os, rfl⟩ := h
  obtain ⟨q2, os2, rfl⟩ := h2
  exact ⟨q + q2, os ++ os2, by rw [← Sort.grow_grow]; show Sort.grow (Sort.grow ((w.drewN q).drewN q2) os) os2 = _; rw [World.drewN_drewN]⟩
theorem Grew.drewN {w X : World} (h : Grew w X) (n : Nat) : Grew w (X.drewN n) := h.trans ⟨n, #[], by simp⟩
theorem Grew.drew {w X : World} (h : Grew w X) : Grew w X.drew := h.drewN 1
theorem Grew.alloc {w X : World} (h : Grew w X) (o : Obj) : Grew w (X.alloc o) := h.trans ⟨0, #[o], by rw [World.drewN_zero, Sort.alloc_eq_grow]⟩
theorem Quiet.grew {w X : World} (h : Quiet w X) : Grew w X := by
  obtain ⟨n, rfl⟩ := h
  exact (Grew.refl w).drewN n
theorem Grew.below {w X : World} (h : Grew w X) : Below w.heap.size w X := by
  obtain ⟨q, os, rfl⟩ := h
  exact ⟨rfl, rfl, rfl, by simp [Sort.grow], fun k hk => by show (w.heap ++ os)[k]? = _; exact Array.getElem?_append_left hk⟩

theorem lexL_anti : ∀ a b : List Int, lexL b a = - lexL a b
  | [], [] => rfl
  | [], _ :: _ => rfl
  | _ :: _, [] => rfl
  | a :: l, b :: m => by
    rw [lexL_cons, lexL_cons, lexL_anti l m]
    unfold cmpI
    by_cases h1 : a < b
    · have h2 : ¬ b < a := by omega
      simp [h1, h2]
    · by_cases h2 : b < a
      · simp [h1, h2]
      · simp [h1, h2]
theorem lexL_zero : ∀ a b : List Int, lexL a b = 0 → a = b
  | [], [], _ => rfl
  | [], _ :: _, h => by simp [lexL] at h
  | _ :: _, [], h => by simp [lexL] at h
  | a :: l, b :: m, h => by
    rw [lexL_cons] at h
    unfold cmpI at h
    by_cases h1 : a < b
    · simp [h1] at h
    · by_cases h2 : b < a
      · simp [h1, h2] at h
      · have : a = b := by omega
        subst this
        simp at h
        rw [lexL_zero l m h]
theorem lexL_trans : ∀ a b c : List Int, lexL a b < 0 → lexL b c < 0 → lexL a c < 0
  | [], b, [], h1, h2 => by
    cases b with
    | nil => simp [lexL] at h1
    | cons b m => simp [lexL] at h2
  | [], b, c :: n, _, _ => by simp [lexL]
  | a :: l, [], c, h1, _ => by simp [lexL] at h1
  | a :: l, b :: m, [], _, h2 => by simp [lexL] at h2
  | a :: l, b :: m, c :: n, h1, h2 => by
    rw [lexL_cons] at h1 h2 ⊢
    have ih := lexL_trans l m n
    unfold cmpI at *
    by_cases x1 : a < b
    · by_cases x2 : b < c
      · have : a < c := by omega
        simp [this]
      · by_cases x3 : c < b
        · simp [x2, x3] at h2
        · have : b = c := by omega
          subst this
          simp [x1]
    · by_cases x2 : b < a
      · simp [x1, x2] at h1
      · have : a = b := by omega
        subst this
        simp at h1
        by_cases x3 : a < c
        · simp [x3]
        · by_cases x4 : c < a
          · simp [x3, x4] at h2
          · have : a = c := by omega
            subst this
            simp at h2 ⊢
            exact ih h1 h2

set_option maxHeartbeats 400000 in
set_option maxRecDepth 100000 in
theorem compareCauseG (a0 a1 a2 b0 b1 b2 : Int) (w : World) : Calls Tryz.prog 94 #[.agg #[I a0, I a1, I a2], .agg #[I b0, I b1, I b2]] w fun e w' => e = .returned (I (lexL [a0, a1, a2] [b0, b1, b2])) ∧ Grew w w' := by
  have hr := Lib.hid (show lexL [a0, a1, a2] [b0, b1, b2] = numsL [a0, b0, a1, b1, a2, b2] by simp only [numsL]; rw [lexL_cons, lexL_cons, lexL_cons]; rfl)
  go_enter Tryz.func94, Tryz.ntmps94
  go_wp2_with fail
  refine (numbers_any [a0, b0, a1, b1, a2, b2] _ _ (IntSl.of_heap (heap_alloc3_new w _ _ _) rfl rfl (by simp)) (by simp)).mono ?_
  rintro e w1 ⟨rfl, hQ⟩
  go_wp2_with fail
  go_ret
  exact ⟨ret_int hr.out.symm, ((((Grew.refl w).alloc _).alloc _).alloc _).trans hQ.grew⟩
/-- As Kp2, with all that was made. -/
def Kp3 (w : World) (cs ds : Array Value) (X : World) : Prop := Kp2 w cs ds X ∧ Grew w X
theorem Kp3.S {w X : World} {cs ds : Array Value} (h : Kp3 w cs ds X) : (∀ j, X.cell? ⟨w.heap.size, j, none⟩ = cs[j]?) ∧ (∀ j, X.cell? ⟨w.heap.size + 1, j, none⟩ = ds[j]?) := h.1.S
theorem Kp3.drew {w X : World} {cs ds : Array Value} (h : Kp3 w cs ds X) : Kp3 w cs ds X.drew := ⟨h.1.drew, h.2.drew⟩
theorem Kp3.alloc {w X : World} {cs ds : Array Value} (h : Kp3 w cs ds X) (o : Obj) : Kp3 w cs ds (X.alloc o) := ⟨h.1.alloc o, h.2.alloc o⟩
theorem Kp3.call {w X w1 : World} {cs ds : Array Value} (h : Kp3 w cs ds X) (hB : Grew X w1) : Kp3 w cs ds w1 := ⟨h.1.call hB.below, h.2.trans hB⟩
theorem Kp3.start (w : World) (cs ds : Array Value) (t : TypeId) : Kp3 w cs ds ((w.alloc (.cells cs t)).alloc (.cells ds t)) := ⟨Kp2.start w cs ds t, ((Grew.refl w).alloc _).alloc _⟩
set_option maxHeartbeats 800000 in
set_option maxRecDepth 100000 in
theorem compareQuestionG (a0 a1 a2 a3 a4 b0 b1 b2 b3 b4 : Int) (w : World) : Calls Tryz.prog 55 #[.agg #[I a0, I a1, I a2, I a3, I a4], .agg #[I b0, I b1, I b2, I b3, I b4]] w fun e w' => e = .returned (I (lexL [a0, a1, a2, a3, a4] [b0, b1, b2, b3, b4])) ∧ Grew w w' := by
  have hr := Lib.hid (show lexL [a0, a1, a2, a3, a4] [b0, b1, b2, b3, b4] = orL [lexL [a0, a1, a2] [b0, b1, b2], numsL [a3, b3, a4, b4]] by
    rw [show lexL [a0, a1, a2, a3, a4] [b0, b1, b2, b3, b4] = lexL ([a0, a1, a2] ++ [a3, a4]) ([b0, b1, b2] ++ [b3, b4]) from rfl, lexL_append [a0, a1, a2] [b0, b1, b2] [a3, a4] [b3, b4] rfl, lexL_cons a3, lexL_cons a4]
    simp only [orL, numsL]
    repeat' split
    all_goals simp_all [lexL])
  have hk0 := Kp3.start w #[I a0, I a1, I a2, I a3, I a4] #[I b0, I b1, I b2, I b3, I b4] 58
  have hac := hk0.1.1.cell
  have hac' := hk0.1.2.1.cell
  go_enter Tryz.func55, Tryz.ntmps55
  go_wp2_with fail
  go_region_held3 (fun w' => (∀ j, w'.cell? ⟨w.heap.size, j, none⟩ = (#[I a0, I a1, I a2, I a3, I a4] : Array Value)[j]?) ∧ (∀ j, w'.cell? ⟨w.heap.size + 1, j, none⟩ = (#[I b0, I b1, I b2, I b3, I b4] : Array Value)[j]?))
    ((first | exact Kp3.S hk0 | exact Kp3.S hk0.drew | exact Kp3.S (hk0.alloc _).drew | exact Kp3.S kp1 | exact Kp3.S (kp1.alloc _) | exact Kp3.S kp2 | exact Kp3.S (kp2.alloc _)))
    (first
      | (go_at_call 94; refine (compareCauseG a0 a1 a2 b0 b1 b2 _).mono ?_; rintro e w1 ⟨rfl, hB1⟩
         have kp1 : Kp3 w #[I a0, I a1, I a2, I a3, I a4] #[I b0, I b1, I b2, I b3, I b4] w1 := by first | exact Kp3.call hk0.drew hB1 | exact Kp3.call (hk0.alloc _).drew hB1)
      | (go_at_call 95; refine (numbers_any [a3, b3, a4, b4] _ _ (by first | exact IntSl.of_heap (heap_alloc_new w1 _) rfl rfl (by simp) | exact IntSl.of_heap ((hB1.below.block _ (by simp only [heap_drew, World.size_alloc]; omega)).trans (heap_alloc3_new w _ _ _)) rfl rfl (by simp)) (by simp)).mono ?_; rintro e w2 ⟨rfl, hQ2⟩
         have kp2 : Kp3 w #[I a0, I a1, I a2, I a3, I a4] #[I b0, I b1, I b2, I b3, I b4] w2 := by first | exact Kp3.call kp1 (hQ2.grew) | exact Kp3.call (kp1.alloc _) (hQ2.grew))
      | (go_at_call 93; refine (cmpOr [lexL [a0, a1, a2] [b0, b1, b2], numsL [a3, b3, a4, b4]] _ _ (IntSl.of_heap (heap_alloc_new w2 _) rfl rfl (by simp))).mono ?_; rintro e w3 ⟨rfl, rfl⟩))
  all_goals
    go_wp2_with fail
    go_ret
    exact ⟨ret_int hr.out.symm, (kp2.alloc _).2⟩

/-! ### The order of questions -/
def Qn.cmp (x y : Qn) : Int := lexL x.ints y.ints
theorem lexL_self (a : List Int) : lexL a a = 0 := by have := lexL_anti a a; omega
theorem lexL_trans_le (a b c : List Int) (h1 : lexL a b ≤ 0) (h2 : lexL b c ≤ 0) : lexL a c ≤ 0 := by
  by_cases e1 : lexL a b = 0
  · rw [lexL_zero _ _ e1]; exact h2
  · by_cases e2 : lexL b c = 0
    · rw [← lexL_zero _ _ e2]; exact h1
    · have := lexL_trans a b c (by omega) (by omega)
      omega
theorem sortedQ : Sort.SWO (fun x y => decide (Qn.cmp x y < 0)) where
  irrefl x := by simp [Qn.cmp, lexL_self]
  trans x y z h1 h2 := by
    exact decide_eq_true (lexL_trans _ _ _ (of_decide_eq_true h1) (of_decide_eq_true h2))
  ntrans x y z h1 h2 := by
    have b1 : ¬ lexL x.ints y.ints < 0 := of_decide_eq_false h1
    have b2 : ¬ lexL y.ints z.ints < 0 := of_decide_eq_false h2
    refine decide_eq_false (p := lexL x.ints z.ints < 0) ?_
    have a1 := lexL_anti x.ints y.ints
    have a2 := lexL_anti y.ints z.ints
    have a3 := lexL_anti x.ints z.ints
    have := lexL_trans_le z.ints y.ints x.ints (by omega) (by omega)
    omega
theorem Qn.cmp_zero {x y : Qn} (h : x.cmp y = 0) : x = y := Qn.ints_inj.1 (lexL_zero _ _ h)
theorem Qn.cmp_anti (x y : Qn) : y.cmp x = - x.cmp y := lexL_anti _ _
theorem Qn.cmp_trans {x y z : Qn} (h1 : x.cmp y < 0) (h2 : y.cmp z < 0) : x.cmp z < 0 := lexL_trans _ _ _ h1 h2
theorem Qn.cmp_self (x : Qn) : x.cmp x = 0 := lexL_self _

end Go.Proofs.YtljmonfobefiiaaGreatDoor

/- The plain law of tapes: the normal form of a list of answers. -/
namespace Go.Proofs.YtljmonfobefiiaaGreatDoor

/-- r holds the positive answers of l, each once, in the order of their questions. -/
def IsNorm (l r : List Ans) : Prop := r.Pairwise (fun a b => a.q.cmp b.q < 0) ∧ ∀ a, a ∈ r ↔ (a.n = getA l a.q ∧ 0 < a.n)
theorem cmp_asymm {x y : Qn} (h : x.cmp y < 0) : ¬ y.cmp x < 0 := by have := Qn.cmp_anti x y; omega
theorem cmp_irrefl {x y : Qn} (h : x.cmp y < 0) : x ≠ y := by
  rintro rfl
  have := Qn.cmp_self x
  omega
theorem sorted_ext : ∀ r s : List Ans, r.Pairwise (fun a b => a.q.cmp b.q < 0) → s.Pairwise (fun a b => a.q.cmp b.q < 0) → (∀ a, a ∈ r ↔ a ∈ s) → r = s
  | [], [], _, _, _ => rfl
  | [], b :: s, _, _, h => absurd ((h b).2 (by simp)) (by simp)
  | a :: r, [], _, _, h => absurd ((h a).1 (by simp)) (by simp)
  | a :: r, b :: s, h1, h2, h => by
    rw [List.pairwise_cons] at h1 h2
    have e : a = b := by
      rcases List.mem_cons.1 ((h a).1 (by simp)) with e | e
      · exact e
      · rcases List.mem_cons.1 ((h b).2 (by simp)) with e2 | e2
        · exact e2.symm
        · exact absurd (h1.1 b e2) (cmp_asymm (h2.1 a e))
    subst e
    rw [sorted_ext r s h1.2 h2.2 fun x => ?_]
    constructor
    · intro hx
      rcases List.mem_cons.1 ((h x).1 (List.mem_cons_of_mem _ hx)) with e | e
      · exact absurd (e ▸ h1.1 x hx) (fun h => cmp_irrefl h rfl)
      · exact e
    · intro hx
      rcases List.mem_cons.1 ((h x).2 (List.mem_cons_of_mem _ hx)) with e | e
      · exact absurd (e ▸ h2.1 x hx) (fun h => cmp_irrefl h rfl)
      · exact e
theorem IsNorm.unique {l r s : List Ans} (h1 : IsNorm l r) (h2 : IsNorm l s) : r = s := sorted_ext r s h1.1 h2.1 fun a => by rw [h1.2, h2.2]

/-- One more answer in its place, unless there is one already. -/
def putA : List Ans → Ans → List Ans
  | [], a => [a]
  | b :: l, a => if b.q.cmp a.q < 0 then b :: putA l a else if b.q = a.q then b :: l else a :: b :: l
theorem putA_spec : ∀ (r : List Ans) (a : Ans), r.Pairwise (fun a b => a.q.cmp b.q < 0) → (putA r a).Pairwise (fun a b => a.q.cmp b.q < 0) ∧ ∀ x, x ∈ putA r a ↔ (x ∈ r ∨ (x = a ∧ ∀ b ∈ r, b.q ≠ a.q))
  | [], a, _ => by simp [putA]
  | b :: l, a, h => by
    rw [List.pairwise_cons] at h
    obtain ⟨i1, i2⟩ := putA_spec l a h.2
    unfold putA
    by_cases h1 : b.q.cmp a.q < 0
    · rw [if_pos h1]
      refine ⟨List.pairwise_cons.2 ⟨fun x hx => ?_, i1⟩, fun x => ?_⟩
      · rcases (i2 x).1 hx with hx | ⟨rfl, _⟩
        · exact h.1 x hx
        · exact h1
      · rw [List.mem_cons, i2 x, List.mem_cons]
        constructor
        · rintro (e | e | ⟨e, e2⟩)
          · exact .inl (.inl e)
          · exact .inl (.inr e)
          · exact .inr ⟨e, fun c hc => by
              rcases List.mem_cons.1 hc with rfl | hc
              · exact cmp_irrefl h1
              · exact e2 c hc⟩
        · rintro ((e | e) | ⟨e, e2⟩)
          · exact .inl e
          · exact .inr (.inl e)
          · exact .inr (.inr ⟨e, fun c hc => e2 c (List.mem_cons_of_mem _ hc)⟩)
    · rw [if_neg h1]
      by_cases h2 : b.q = a.q
      · rw [if_pos h2]
        refine ⟨List.pairwise_cons.2 h, fun x => ⟨.inl, ?_⟩⟩
        rintro (e | ⟨e, e2⟩)
        · exact e
        · exact absurd h2 (e2 b (by simp))
      · rw [if_neg h2]
        have h3 : a.q.cmp b.q < 0 := by
          have e1 := Qn.cmp_anti a.q b.q
          by_cases e : a.q.cmp b.q = 0
          · exact absurd (Qn.cmp_zero e).symm h2
          · omega
        refine ⟨List.pairwise_cons.2 ⟨fun x hx => ?_, List.pairwise_cons.2 h⟩, fun x => ?_⟩
        · rcases List.mem_cons.1 hx with rfl | hx
          · exact h3
          · exact Qn.cmp_trans h3 (h.1 x hx)
        · rw [List.mem_cons]
          constructor
          · rintro (e | e)
            · exact .inr ⟨e, fun c hc => by
                rcases List.mem_cons.1 hc with rfl | hc
                · exact h2
                · exact fun e3 => cmp_irrefl (Qn.cmp_trans h3 (h.1 c hc)) e3.symm⟩
            · exact .inl e
          · rintro (e | ⟨e, _⟩)
            · exact .inr e
            · exact .inl e
/-- The fold of the reference, over the answers p of the tape whose answers are l. -/
def foldA (l p : List Ans) : List Ans := p.foldl (fun r a => if 0 < getA l a.q then putA r ⟨a.q, getA l a.q⟩ else r) []
theorem foldA_snoc (l p : List Ans) (a : Ans) : foldA l (p ++ [a]) = if 0 < getA l a.q then putA (foldA l p) ⟨a.q, getA l a.q⟩ else foldA l p := by simp [foldA, List.foldl_append]
def normA (l : List Ans) : List Ans := foldA l l
theorem snocInd {α : Type} {P : List α → Prop} (h0 : P []) (h1 : ∀ l a, P l → P (l ++ [a])) (l : List α) : P l := by
  have key : ∀ m : List α, P m.reverse := by
    intro m
    induction m with
    | nil => simpa using h0
    | cons a m ih => rw [List.reverse_cons]; exact h1 _ _ ih
  simpa using key l.reverse
theorem foldA_spec (l p : List Ans) : (foldA l p).Pairwise (fun a b => a.q.cmp b.q < 0) ∧ ∀ a, a ∈ foldA l p ↔ (a.n = getA l a.q ∧ 0 < a.n ∧ ∃ b ∈ p, b.q = a.q) := by
  induction p using snocInd with
  | h0 => simp [foldA]
  | h1 p a ih =>
    rw [foldA_snoc]
    obtain ⟨i1, i2⟩ := ih
    by_cases h : 0 < getA l a.q
    · rw [if_pos h]
      obtain ⟨p1, p2⟩ := putA_spec _ ⟨a.q, getA l a.q⟩ i1
      refine ⟨p1, fun x => ?_⟩
      rw [p2 x, i2 x]
      constructor
      · rintro (⟨e1, e2, b, hb, e3⟩ | ⟨rfl, _⟩)
        · exact ⟨e1, e2, b, List.mem_append_left _ hb, e3⟩
        · exact ⟨rfl, h, a, by simp, rfl⟩
      · rintro ⟨e1, e2, b, hb, e3⟩
        rcases List.mem_append.1 hb with hb | hb
        · exact .inl ⟨e1, e2, b, hb, e3⟩
        · simp at hb
          subst hb
          have hx : x = ⟨b.q, getA l b.q⟩ := by cases x; simp at e1 e3; subst e3; simp [e1]
          by_cases hex : ∃ c ∈ foldA l p, c.q = b.q
          · obtain ⟨c, hc, hcq⟩ := hex
            have h3 := (i2 c).1 hc
            obtain ⟨_, _, d, hd, hdq⟩ := h3
            exact .inl ⟨e1, e2, d, hd, by rw [hdq, hcq, e3]⟩
          · exact .inr ⟨hx, fun c hc e => hex ⟨c, hc, e⟩⟩
    · rw [if_neg h]
      refine ⟨i1, fun x => ?_⟩
      rw [i2 x]
      constructor
      · rintro ⟨e1, e2, b, hb, e3⟩
        exact ⟨e1, e2, b, List.mem_append_left _ hb, e3⟩
      · rintro ⟨e1, e2, b, hb, e3⟩
        rcases List.mem_append.1 hb with hb | hb
        · exact ⟨e1, e2, b, hb, e3⟩
        · simp at hb
          subst hb
          rw [e3, ← e1] at h
          exact absurd e2 h
theorem getA_mem {l : List Ans} {q : Qn} (h : 0 < getA l q) : ∃ b ∈ l, b.q = q := by
  induction l using snocInd with
  | h0 => simp [getA] at h
  | h1 l a ih =>
    rw [getA_snoc] at h
    by_cases e : a.q = q
    · exact ⟨a, by simp, e⟩
    · rw [if_neg e] at h
      obtain ⟨b, hb, e2⟩ := ih h
      exact ⟨b, List.mem_append_left _ hb, e2⟩
theorem normA_spec (l : List Ans) : IsNorm l (normA l) := by
  obtain ⟨h1, h2⟩ := foldA_spec l l
  refine ⟨h1, fun a => ?_⟩
  show a ∈ foldA l l ↔ _
  rw [h2 a]
  constructor
  · rintro ⟨e1, e2, _⟩
    exact ⟨e1, e2⟩
  · rintro ⟨e1, e2⟩
    exact ⟨e1, e2, getA_mem (e1 ▸ e2)⟩
theorem IsNorm.eq {l r : List Ans} (h : IsNorm l r) : r = normA l := h.unique (normA_spec l)
/-- A list in order and without repetition gives the normal form. -/
theorem isNorm_of {l : List Ans} {ys : List Qn} (h1 : ys.Pairwise fun a b => a.cmp b ≤ 0) (h2 : ys.Nodup) (h3 : ∀ q, q ∈ ys ↔ 0 < getA l q) : IsNorm l (ys.map fun q => ⟨q, getA l q⟩) := by
  constructor
  · rw [List.pairwise_map]
    exact (h1.and h2).imp fun {a b} h => by
      by_cases e : a.cmp b = 0
      · exact absurd (Qn.cmp_zero e) h.2
      · have := h.1; show a.cmp b < 0; omega
  · intro a
    rw [List.mem_map]
    constructor
    · rintro ⟨q, hq, rfl⟩
      exact ⟨rfl, (h3 q).1 hq⟩
    · rintro ⟨e1, e2⟩
      exact ⟨a.q, (h3 _).2 (e1 ▸ e2), by cases a; simp at e1 ⊢; exact e1.symm⟩
theorem foldA_length (l p : List Ans) : (foldA l p).length ≤ p.length := by
  have hput : ∀ (r : List Ans) (a : Ans), (putA r a).length ≤ r.length + 1 := by
    intro r a
    induction r with
    | nil => simp [putA]
    | cons b r ih =>
      unfold putA
      split
      · simp; omega
      · split <;> simp
  induction p using snocInd with
  | h0 => simp [foldA]
  | h1 p a ih =>
    rw [foldA_snoc]
    split
    · have := hput (foldA l p) ⟨a.q, getA l a.q⟩
      simp; omega
    · simp; omega
end Go.Proofs.YtljmonfobefiiaaGreatDoor

/- The plain law of the wire: numbers as bytes, and what a reader makes of bytes. -/
namespace Go.Proofs.YtljmonfobefiiaaGreatDoor

def IsByte (c : Int) : Prop := 0 ≤ c ∧ c ≤ 255
def back (z : Nat) : Int := if z % 2 = 1 then -((z / 2 : Nat) : Int) - 1 else ((z / 2 : Nat) : Int)
/-- What is read of a number: i bytes of it are read, m is their number. -/
def readU : Nat → Nat → List Int → (List Int × Nat) ⊕ Int
  | _, _, [] => .inr 7
  | i, m, c :: b => if (i = 9 ∧ 1 < c) ∨ (0 < i ∧ c = 0) then .inr 8 else if c < 128 then .inl (b, m + (c % 128).toNat * 128 ^ i) else readU (i + 1) (m + (c % 128).toNat * 128 ^ i) b
theorem pow_cases {i : Nat} (h : i ≤ 9) : (i = 0 ∧ 128 ^ i = 1) ∨ (i = 1 ∧ 128 ^ i = 128) ∨ (i = 2 ∧ 128 ^ i = 16384) ∨ (i = 3 ∧ 128 ^ i = 2097152) ∨ (i = 4 ∧ 128 ^ i = 268435456) ∨ (i = 5 ∧ 128 ^ i = 34359738368) ∨
    (i = 6 ∧ 128 ^ i = 4398046511104) ∨ (i = 7 ∧ 128 ^ i = 562949953421312) ∨ (i = 8 ∧ 128 ^ i = 72057594037927936) ∨ (i = 9 ∧ 128 ^ i = 9223372036854775808) := by
  have : i = 0 ∨ i = 1 ∨ i = 2 ∨ i = 3 ∨ i = 4 ∨ i = 5 ∨ i = 6 ∨ i = 7 ∨ i = 8 ∨ i = 9 := by omega
  rcases this with rfl | rfl | rfl | rfl | rfl | rfl | rfl | rfl | rfl | rfl <;> simp
theorem small_mul {i c : Nat} (hi : i ≤ 9) (h : c < 128) (h9 : i = 9 → c ≤ 1) : c * 128 ^ i < 18446744073709551616 := by
  have hp := pow_cases hi
  have h10 : c ≤ 1 ∨ i ≤ 8 := by omega
  clear h9 hi
  generalize 128 ^ i = P at hp ⊢
  rcases hp with ⟨e1, e2⟩ | ⟨e1, e2⟩ | ⟨e1, e2⟩ | ⟨e1, e2⟩ | ⟨e1, e2⟩ | ⟨e1, e2⟩ | ⟨e1, e2⟩ | ⟨e1, e2⟩ | ⟨e1, e2⟩ | ⟨e1, e2⟩ <;> subst e2 <;> omega
/-- A reader: the unread bytes, or the first error. -/
inductive Rd where
  | ok (b : List Int)
  | bad (e : Int)
def Rd.fine : Rd → Prop
  | .ok b => ∀ c ∈ b, IsByte c
  | .bad e => e ≠ 0 ∧ InI64 e
def Rd.err : Rd → Int
  | .ok _ => 0
  | .bad e => e
def Rd.fail (s : Rd) (e : Int) : Rd := match s with
  | .ok _ => .bad e
  | .bad x => .bad x
def Rd.stop : Rd → Int
  | .ok [] => 0
  | .ok (_ :: _) => 8
  | .bad e => e
def Rd.uint : Rd → Nat × Rd
  | .bad e => (0, .bad e)
  | .ok b => match readU 0 0 b with
    | .inl (r, n) => (n, .ok r)
    | .inr e => (0, .bad e)
def Rd.int (s : Rd) : Int × Rd := (back s.uint.1, s.uint.2)
def Rd.after (s : Rd) : Nat → Rd
  | 0 => s
  | k + 1 => (s.after k).int.2
def Rd.nth (s : Rd) (k : Nat) : Int := (s.after k).int.1
/-! ### Tapes -/
def Rd.ev (s : Rd) : Ev := ⟨s.nth 0, s.nth 1, s.nth 2, ⟨s.nth 3, s.nth 4, s.nth 5, s.nth 6, s.nth 7⟩⟩
def Rd.ans (s : Rd) : Ans := ⟨⟨s.nth 0, s.nth 1, s.nth 2, s.nth 3, s.nth 4⟩, s.nth 5⟩
def Rd.count (s : Rd) (most : Nat) : Nat × Rd := if most < s.uint.1 then (0, s.uint.2.fail 2) else s.uint
def Ev.ok (e : Ev) : Prop := ∀ n ∈ e.ints, InI64 n
end Go.Proofs.YtljmonfobefiiaaGreatDoor

/- wire.Out: Uint, zigzag, Int, Done. -/
namespace Go.Proofs.YtljmonfobefiiaaGreatDoor
open Go.RowKit

theorem grown_set' (w : World) (a : Addr) (v : Value) : w.grownBy (w.setCell a v) (some a.block) := ⟨rfl, rfl, rfl, by simp, fun k _ hne => by
  simp only [World.setCell, Array.getElem?_modify]
  rw [if_neg (fun h => hne (by rw [h]))]⟩
def bv (l : List Int) : List Value := l.map fun n => .int .u8 n
theorem bv_append (a b : List Int) : bv (a ++ b) = bv a ++ bv b := by simp [bv]
/-- What a call writes that appends to the row v behind the struct at p: that struct, the row, new blocks. -/
structure Wr (p : Nat) (v v' : Value) (w w' : World) : Prop where
  os : w'.os = w.os
  tape : w'.tape = w.tape
  output : w'.output = w.output
  size : w.heap.size ≤ w'.heap.size
  block : ∀ k, k < w.heap.size → k ≠ p → v.ownBlock ≠ some k → w'.heap[k]? = w.heap[k]?
  old : ∀ k, v'.ownBlock = some k → k < w.heap.size → v.ownBlock = some k
theorem Wr.refl (p : Nat) (v : Value) (w : World) : Wr p v v w w := ⟨rfl, rfl, rfl, Nat.le_refl _, fun _ _ _ _ => rfl, fun _ h _ => h⟩
theorem Wr.trans {p : Nat} {v v' v'' : Value} {w w' w'' : World} (h : Wr p v v' w w') (g : Wr p v' v'' w' w'') : Wr p v v'' w w'' :=
  ⟨g.os.trans h.os, g.tape.trans h.tape, g.output.trans h.output, Nat.le_trans h.size g.size,
    fun k hk hp hv => (g.block k (Nat.lt_of_lt_of_le hk h.size) hp (fun e => hv (h.old k e hk))).trans (h.block k hk hp hv),
    fun k hk hl => h.old k (g.old k hk (Nat.lt_of_lt_of_le hl h.size)) hl⟩
theorem Wr.set {p : Nat} (v : Value) (w : World) (j : Nat) (u : Value) : Wr p v v w (w.setCell ⟨p, j, none⟩ u) := ⟨rfl, rfl, rfl, by simp, fun k _ hp _ => heap_setCell_other w ⟨p, j, none⟩ k u (fun e => hp e), fun _ h _ => h⟩
theorem Wr.below {p B : Nat} {v v' : Value} {w w' : World} (h : Wr p v v' w w') (hp : B ≤ p) (hv : ∀ k, v.ownBlock = some k → B ≤ k) (hB : B ≤ w.heap.size) : Below B w w' :=
  ⟨h.os, h.tape, h.output, h.size, fun k hk => h.block k (by omega) (by omega) (fun e => by have := hv k e; omega)⟩
theorem Flat.wr {w w' : World} {p k n b o m c : Nat} {v v' : Value} {xs : List Value} (h : Flat w k (.slice (some ⟨b, o, none⟩) m c) n xs) (hg : Wr p v v' w w') (hp : b ≠ p) (hv : v.ownBlock ≠ some b) : Flat w' k (.slice (some ⟨b, o, none⟩) m c) n xs := by
  obtain ⟨hl, hm, a, c', hv', hr⟩ := h
  refine ⟨hl, hm, a, c', hv', fun j u hu => ?_⟩
  obtain ⟨b', o', ha, hc⟩ := hr j u hu
  simp at hv'
  obtain ⟨rfl, _⟩ := hv'
  simp at ha
  obtain ⟨rfl, rfl⟩ := ha
  refine ⟨_, _, rfl, ?_⟩
  have h2 := World.block_lt_of_cell? _ _ hc
  simp only [World.cell?] at hc ⊢
  rw [hg.block b h2 hp hv]
  exact hc

/-- The struct at p holds a row of the call's own: the bytes xs. -/
structure OutAt (w : World) (p B : Nat) (xs : List Int) (v : Value) : Prop where
  blk : Blk w p #[v]
  own : w.ownsRow B 5 1 v xs.length (bv xs)
  sep : v.ownBlock ≠ some p
theorem OutAt.below {w w' : World} {p B : Nat} {xs : List Int} {v : Value} (h : OutAt w p B xs v) (hb : Below w.heap.size w w') : OutAt w' p B xs v := ⟨h.blk.kept hb h.blk.lt, owns_below h.own hb, h.sep⟩
theorem OutAt.open {w : World} {p B : Nat} {xs : List Int} {v : Value} (h : OutAt w p B xs v) : ∃ k N c, v = .slice k N c ∧ N = xs.length ∧ w.ownsRow B 5 1 v N (bv xs) := by
  obtain ⟨k, c, e, _⟩ := (Flat.of_owns h.own).open
  exact ⟨k, _, c, e, rfl, h.own⟩
set_option maxRecDepth 100000 in
theorem bits_andNot_u8 (c : Int) (h : IsByte c) : bits .andNot .u8 c 128 = c % 128 := by
  have key : ∀ y : Fin 256, bits .andNot .u8 (y.val : Int) 128 = (y.val : Int) % 128 := by decide +kernel
  obtain ⟨h0, h1⟩ := h
  have := key ⟨c.toNat, by omega⟩
  simp only [] at this
  rwa [show ((c.toNat : Nat) : Int) = c by omega] at this
end Go.Proofs.YtljmonfobefiiaaGreatDoor

/- slices.Clone of bytes; wire.Out.Done; tape.ints. -/
namespace Go.Proofs.YtljmonfobefiiaaGreatDoor
open Go.RowKit

def BySl (w : World) (v : Value) (l : List Int) : Prop := Flat w 1 v l.length (bv l)
theorem BySl.kept {w w' : World} {v : Value} {l : List Int} (h : BySl w v l) {B : Nat} (hb : Below B w w') (hB : w.heap.size ≤ B) : BySl w' v l := Flat.kept h hb hB
theorem BySl.open {w : World} {v : Value} {l : List Int} (h : BySl w v l) : ∃ a c, v = .slice a l.length c ∧ l.length ≤ 9223372036854775807 := Flat.open h
theorem BySl.at {w : World} {a : Option Addr} {n c : Nat} {l : List Int} (h : BySl w (.slice a n c) l) {i : Nat} {x : Int} (hi : l[i]? = some x) :
    ∃ b o, a = some ⟨b, o, none⟩ ∧ w.cell? ⟨b, o + i, none⟩ = some (.int .u8 x) := by
  have hlt := (List.getElem?_eq_some_iff.1 hi).1
  obtain ⟨b, o, ha, hc⟩ := Flat.cells h (by simp [bv]; omega)
  exact ⟨b, o, ha, hc i _ (by simp [bv, hi])⟩
end Go.Proofs.YtljmonfobefiiaaGreatDoor

/- wire.In: Fail, Err, End, next. -/
namespace Go.Proofs.YtljmonfobefiiaaGreatDoor
open Go.RowKit

/-- The reader at p: its unread bytes, or its error. -/
def InAt (w : World) (p : Nat) : Rd → Prop
  | .ok b => ∃ a c, Blk w p #[.slice a b.length c, I 0] ∧ BySl w (.slice a b.length c) b ∧ b.length ≤ c ∧ ∀ x, a = some x → x.block < p
  | .bad e => ∃ v, Blk w p #[v, I e]
theorem Flat.grownO {w w' : World} {k n m c : Nat} {a : Option Addr} {xs : List Value} {row : Option Nat} (h : Flat w k (.slice a m c) n xs) (hg : w.grownBy w' row) (hne : ∀ x, a = some x → row ≠ some x.block) : Flat w' k (.slice a m c) n xs := by
  obtain ⟨hl, hm, a', c', hv, hr⟩ := h
  refine ⟨hl, hm, a', c', hv, fun j u hu => ?_⟩
  obtain ⟨b', o', ha, hc⟩ := hr j u hu
  simp at hv
  obtain ⟨rfl, _⟩ := hv
  exact ⟨_, _, ha, hg.cell hc (fun e => hne _ ha e.symm)⟩
theorem InAt.blk {w : World} {p : Nat} {s : Rd} (h : InAt w p s) : ∃ v, Blk w p #[v, I s.err] := by
  cases s with
  | ok b => obtain ⟨a, c, h, _⟩ := h; exact ⟨_, h⟩
  | bad e => exact h
theorem InAt.lt {w : World} {p : Nat} {s : Rd} (h : InAt w p s) : p < w.heap.size := by
  obtain ⟨v, h⟩ := h.blk
  exact h.lt
theorem InAt.below {w w' : World} {p : Nat} {s : Rd} (h : InAt w p s) (hb : Below w.heap.size w w') : InAt w' p s := by
  cases s with
  | ok b => obtain ⟨a, c, h1, h2, h3, h4⟩ := h; exact ⟨a, c, h1.kept hb h1.lt, h2.kept hb (Nat.le_refl _), h3, h4⟩
  | bad e => obtain ⟨v, h⟩ := h; exact ⟨v, h.kept hb h.lt⟩
theorem InAt.grown {w w' : World} {p : Nat} {s : Rd} (h : InAt w p s) {row : Option Nat} (hg : w.grownBy w' row) (hr : ∀ j, row = some j → p < j) : InAt w' p s := by
  cases s with
  | ok b =>
    obtain ⟨a, c, h1, h2, h3, h4⟩ := h
    exact ⟨a, c, h1.grown hg (fun e => by have := hr _ e; omega), Flat.grownO h2 hg (fun x hx e => by have := hr _ e; have := h4 x hx; omega), h3, h4⟩
  | bad e => obtain ⟨v, h⟩ := h; exact ⟨v, h.grown hg (fun e => by have := hr _ e; omega)⟩
theorem InAt.fail {w : World} {p : Nat} {s : Rd} (h : InAt w p s) (e : Int) (h0 : s.err = 0) (hf : s.fine) : InAt (w.setCell ⟨p, 1, none⟩ (I e)) p (s.fail e) := by
  cases s with
  | ok b =>
    obtain ⟨a, c, h1, _⟩ := h
    exact ⟨_, h1.set 1 (I e)⟩
  | bad x => exact absurd h0 hf.1
end Go.Proofs.YtljmonfobefiiaaGreatDoor

/- wire.In: Uint, Int; tape.count. (Printed by mkW5.py, then gen.py.) -/
namespace Go.Proofs.YtljmonfobefiiaaGreatDoor
open Go.RowKit

theorem Rd.uint_ok (b : List Int) : (Rd.ok b).uint = match readU 0 0 b with | .inl (r, n) => (n, .ok r) | .inr e => (0, .bad e) := rfl
theorem readU_cons (i m : Nat) (c : Int) (b : List Int) : readU i m (c :: b) = if (i = 9 ∧ 1 < c) ∨ (0 < i ∧ c = 0) then .inr 8 else if c < 128 then .inl (b, m + (c % 128).toNat * 128 ^ i) else readU (i + 1) (m + (c % 128).toNat * 128 ^ i) b := rfl
/-- What the loop of In.Uint knows: k bytes were read, m is their number, s is the reader now. -/
def UAt (b0 : List Int) (k : Nat) (m : Int) : Rd → Prop
  | .ok b => k ≤ 9 ∧ (∃ m' : Nat, m = m' ∧ m' < 128 ^ k ∧ readU k m' b = readU 0 0 b0) ∧ ∀ c ∈ b, IsByte c
  | .bad e => readU 0 0 b0 = .inr e ∧ e ≠ 0
theorem pow_two (k : Nat) : (2 : Nat) ^ (7 * k) = 128 ^ k := by rw [Nat.pow_mul]
theorem or_step (m k : Nat) (x : Int) (hx : IsByte x) (hk : k ≤ 9) (h9 : k = 9 → x ≤ 1) (hm : m < 128 ^ k) :
    bits .or .u64 (m : Int) (IntKind.u64.wrap (IntKind.u64.wrap (bits .andNot .u8 x 128) * 2 ^ (7 * k))) = ((m + (x % 128).toNat * 128 ^ k : Nat) : Int) := by
  obtain ⟨h0, h1⟩ := hx
  rw [bits_andNot_u8 x ⟨h0, h1⟩, IntKind.wrap_u64, IntKind.wrap_u64]
  have hc : (x % 128).toNat * 128 ^ k < 18446744073709551616 := small_mul hk (by omega) (by intro e; have := h9 e; omega)
  have e1 : x % 128 % 18446744073709551616 = (((x % 128).toNat : Nat) : Int) := by omega
  have e2 : (((x % 128).toNat : Nat) : Int) * 2 ^ (7 * k) = (((x % 128).toNat * 128 ^ k : Nat) : Int) := by
    rw [← pow_two]
    push_cast
    rfl
  rw [e1, e2, Int.emod_eq_of_lt (by omega) (by omega)]
  have hm2 : m < 18446744073709551616 := by
    have := Nat.pow_le_pow_right (n := 128) (by omega) hk
    have e9 : 128 ^ 9 = 9223372036854775808 := by rfl
    omega
  rw [bits_or_u64_nat _ _ hm2 hc]
  congr 1
  have h3 := Nat.shiftLeft_add_eq_or_of_lt (b := m) (i := 7 * k) (by rw [pow_two]; exact hm) (x % 128).toNat
  rw [Nat.shiftLeft_eq, pow_two] at h3
  rw [Nat.or_comm, ← h3]
  omega
theorem UAt.last {b0 b : List Int} {k : Nat} {m x : Int} (h : UAt b0 k m (.ok (x :: b))) (hb : ¬ ((k = 9 ∧ 1 < x) ∨ (0 < k ∧ x = 0))) (hx : x < 128) :
    ∃ v : Nat, bits .or .u64 m (IntKind.u64.wrap (IntKind.u64.wrap (bits .andNot .u8 x 128) * 2 ^ (7 * k))) = v ∧ (Rd.ok b0).uint = (v, .ok b) := by
  obtain ⟨h1, ⟨m', rfl, hm, h2⟩, h3⟩ := h
  rw [readU_cons] at h2
  rw [if_neg hb, if_pos hx] at h2
  refine ⟨_, or_step m' k x (h3 x (by simp)) h1 (by intro e; omega) hm, ?_⟩
  rw [Rd.uint_ok, ← h2]
theorem UAt.next {b0 b : List Int} {k : Nat} {m x : Int} (h : UAt b0 k m (.ok (x :: b))) (hb : ¬ ((k = 9 ∧ 1 < x) ∨ (0 < k ∧ x = 0))) (hx : ¬ x < 128) :
    UAt b0 (k + 1) (bits .or .u64 m (IntKind.u64.wrap (IntKind.u64.wrap (bits .andNot .u8 x 128) * 2 ^ (7 * k)))) (.ok b) := by
  obtain ⟨h1, ⟨m', rfl, hm, h2⟩, h3⟩ := h
  rw [readU_cons] at h2
  rw [if_neg hb, if_neg hx] at h2
  refine ⟨by omega, ⟨_, or_step m' k x (h3 x (by simp)) h1 (by intro e; omega) hm, ?_, h2⟩, fun c hc => h3 c (by simp [hc])⟩
  have h4 : (x % 128).toNat * 128 ^ k ≤ 127 * 128 ^ k := Nat.mul_le_mul_right _ (by omega)
  rw [Nat.pow_succ]
  omega

end Go.Proofs.YtljmonfobefiiaaGreatDoor
