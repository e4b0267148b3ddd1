/- The generators of events and questions: small, CauseOf, EventOf, Question. -/
import Derived.Test.YtjdhcdbjfbhogaaW2
import Derived.Deep.CutRange
namespace Go.Proofs.Ytjdhcdbjfbhogaa
open Go.RowKit

def smallK (k : Int) : Int := if k % 40 = 39 then 2147483647 - k / 40 % 2 else k / 40 % 4
def smallF (n : Int) : Int := smallK (around n 1000000)
def handlerOf (j : Int) : Int := if j = 0 then 0 else if j = 1 then 1 else if j = 2 then 2 else 40
def qK (k : Int) : Qn := ⟨k % 2, handlerOf (k / 2 % 4), k / 8 % 2, 1 + k / 16 % 3, k / 48 % 2⟩
def qOf (n : Int) : Qn := qK (around n 100000)
def evK (k m : Int) : Ev :=
  if 1 + k % 7 = 1 ∨ 1 + k % 7 = 2 ∨ 1 + k % 7 = 4 then ⟨1 + k % 7, k / 7 % 12, smallF m, ⟨0, 0, 0, 0, 0⟩⟩
  else if 1 + k % 7 = 3 ∨ 1 + k % 7 = 5 ∨ 1 + k % 7 = 6 then ⟨1 + k % 7, k / 7 % 12, 0, ⟨around m 1000000000 % 12, around m 1000000000 / 12 % 40, smallF (around m 1000000000 / 480), smallF (k / 84), smallF (k / 336)⟩⟩
  else ⟨1 + k % 7, k / 7 % 12, 0, ⟨0, 0, 0, 0, 0⟩⟩
def evOf (n m : Int) : Ev := evK (around n 1000000000) m
theorem smallF_range (n : Int) : 0 ≤ smallF n ∧ smallF n ≤ 2147483647 := by
  obtain ⟨h1, h2⟩ := around_range n 1000000 (by omega)
  unfold smallF smallK
  split <;> omega
theorem qOf_ok (n : Int) : (qOf n).ok := by
  obtain ⟨h1, h2⟩ := around_range n 100000 (by omega)
  intro x hx
  unfold qOf qK handlerOf at hx
  unfold InI64
  simp [Qn.ints] at hx
  rcases hx with rfl | rfl | rfl | rfl | rfl
  · omega
  · split
    · omega
    · split
      · omega
      · split <;> omega
  · omega
  · omega
  · omega
theorem evOf_ok (n m : Int) : (evOf n m).ok := by
  obtain ⟨h1, h2⟩ := around_range n 1000000000 (by omega)
  obtain ⟨h3, h4⟩ := around_range m 1000000000 (by omega)
  have s1 := smallF_range m
  have s2 := smallF_range (around n 1000000000 / 84)
  have s3 := smallF_range (around n 1000000000 / 336)
  have s4 := smallF_range (around m 1000000000 / 480)
  intro x hx
  unfold evOf evK at hx
  unfold InI64
  split at hx
  · simp [Ev.ints] at hx
    rcases hx with rfl | rfl | rfl | rfl <;> omega
  · split at hx
    · simp [Ev.ints] at hx
      rcases hx with rfl | rfl | rfl | rfl | rfl | rfl | rfl | rfl <;> omega
    · simp [Ev.ints] at hx
      rcases hx with rfl | rfl | rfl <;> omega

set_option maxRecDepth 100000 in
theorem smallC (n : Int) (w : World) (hn : InI64 n) : Calls Try.prog 74 #[I n] w fun e w' => e = .returned (I (smallF n)) ∧ w' = w := by
  have Ha := Lib.hid (around_any n 1000000 w (by omega) hn.1 hn.2)
  obtain ⟨h1, h2⟩ := around_range n 1000000 (by omega)
  unfold smallF
  generalize around n 1000000 = k at Ha h1 h2 ⊢
  unfold smallK
  by_cases h39 : k % 40 = 39
  · rw [if_pos h39]
    go_enter Try.func74, Try.ntmps74
    go_wp2_with (go_at_call 18; refine Ha.out.mono ?_; rintro e w1 ⟨rfl, rfl⟩)
    go_ret
    exact ⟨ret_int (by omega), rfl⟩
  · rw [if_neg h39]
    go_enter Try.func74, Try.ntmps74
    go_wp2_with (go_at_call 18; refine Ha.out.mono ?_; rintro e w1 ⟨rfl, rfl⟩)
    go_ret
    exact ⟨ret_int (by omega), rfl⟩
set_option maxHeartbeats 2000000 in
set_option maxRecDepth 100000 in
theorem causeC (n : Int) (w : World) (hn : InI64 n) : Calls Try.prog 75 #[I n] w fun e w' => e = .returned (.agg #[I (around n 1000000000 % 12), I (around n 1000000000 / 12 % 40), I (smallF (around n 1000000000 / 480))]) ∧ Below w.heap.size w w' := by
  have hB : Below w.heap.size w (w.alloc (.cells #[I 0, I 0, I 0] 52)) := (Below.refl _ _).alloc (Nat.le_refl _) _
  have hr := Blk.new w #[I 0, I 0, I 0] 52
  have Ha := Lib.hid (around_any n 1000000000 (w.alloc (.cells #[I 0, I 0, I 0] 52)) (by omega) hn.1 hn.2)
  obtain ⟨h1, h2⟩ := around_range n 1000000000 (by omega)
  generalize around n 1000000000 = k at Ha h1 h2 ⊢
  have Hs := Lib.hid (smallC (k / 480) (w.alloc (.cells #[I 0, I 0, I 0] 52)) ⟨by omega, by omega⟩)
  go_enter Try.func75, Try.ntmps75
  go_wp2_with (first | (go_at_call 18; refine Ha.out.mono ?_; rintro e w1 ⟨rfl, rfl⟩) | (go_at_call 74; refine Hs.out.mono ?_; rintro e w1 ⟨rfl, rfl⟩))
  have hR := Blk.new w #[I (k % 12), I (k / 12 % 40), I (smallF (k / 480))] 52
  have hB5 : Below w.heap.size w (w.alloc (.cells #[I (k % 12), I (k / 12 % 40), I (smallF (k / 480))] 52)) := (Below.refl _ _).alloc (Nat.le_refl _) _
  generalize w.alloc (.cells #[I (k % 12), I (k / 12 % 40), I (smallF (k / 480))] 52) = W5 at hR hB5 ⊢
  obtain ⟨t5, ht5⟩ := hR
  have hr5 : ∀ tmps : Array Value, tmps.getD 2 undef = .pointer (some ⟨w.heap.size, 0, none⟩) → (results Try.f75 tmps).run Try.prog W5 = .ok (.agg #[I (k % 12), I (k / 12 % 40), I (smallF (k / 480))]) W5 := fun tmps hp => results_cell_row Try.results75 tmps W5 w.heap.size t5 _ (0, 0) _ hp ht5 Try.underlying52 rfl (by kernel_rfl)
  refine bodyPost_ret (hr5 _ rfl) rfl ?_
  exact ⟨rfl, hB5⟩
set_option maxHeartbeats 2000000 in
set_option maxRecDepth 100000 in
theorem questionC (n : Int) (w : World) (hn : InI64 n) : Calls Try.prog 31 #[I n] w fun e w' => e = .returned (.agg #[I (qOf n).node, I (qOf n).handler, I (qOf n).count, I (qOf n).kind, I (qOf n).index]) ∧ Below w.heap.size w w' := by
  have hB : Below w.heap.size w (w.alloc (.cells #[I 0, I 0, I 0, I 0, I 0] 66)) := (Below.refl _ _).alloc (Nat.le_refl _) _
  have hr := Blk.new w #[I 0, I 0, I 0, I 0, I 0] 66
  have Ha := Lib.hid (around_any n 100000 (w.alloc (.cells #[I 0, I 0, I 0, I 0, I 0] 66)) (by omega) hn.1 hn.2)
  obtain ⟨h1, h2⟩ := around_range n 100000 (by omega)
  unfold qOf
  generalize around n 100000 = k at Ha h1 h2 ⊢
  have hidx : ([I 0, I 1, I 2, I 40] : List Value)[(k / 2 % 4).toNat]? = some (I (handlerOf (k / 2 % 4))) := by
    have hj : k / 2 % 4 = 0 ∨ k / 2 % 4 = 1 ∨ k / 2 % 4 = 2 ∨ k / 2 % 4 = 3 := by omega
    rcases hj with e | e | e | e <;> (rw [e]; rfl)
  unfold qK
  generalize handlerOf (k / 2 % 4) = hd at hidx ⊢
  go_enter Try.func31, Try.ntmps31
  go_wp2_with (go_at_call 18; refine Ha.out.mono ?_; rintro e w1 ⟨rfl, rfl⟩)
  have hR := (Blk.new w #[I (k % 2), I hd, I (k / 8 % 2), I (1 + k / 16 % 3), I (k / 48 % 2)] 66).alloc (.cells #[I 0, I 1, I 2, I 40] 3)
  have hB5 : Below w.heap.size w ((w.alloc (.cells #[I (k % 2), I hd, I (k / 8 % 2), I (1 + k / 16 % 3), I (k / 48 % 2)] 66)).alloc (.cells #[I 0, I 1, I 2, I 40] 3)) := ((Below.refl _ _).alloc (Nat.le_refl _) _).alloc (by simp) _
  generalize (w.alloc (.cells #[I (k % 2), I hd, I (k / 8 % 2), I (1 + k / 16 % 3), I (k / 48 % 2)] 66)).alloc (.cells #[I 0, I 1, I 2, I 40] 3) = W5 at hR hB5 ⊢
  obtain ⟨t5, ht5⟩ := hR
  have hr5 : ∀ tmps : Array Value, tmps.getD 2 undef = .pointer (some ⟨w.heap.size, 0, none⟩) → (results Try.f31 tmps).run Try.prog W5 = .ok (.agg #[I (k % 2), I hd, I (k / 8 % 2), I (1 + k / 16 % 3), I (k / 48 % 2)]) W5 := fun tmps hp => results_cell_row Try.results31 tmps W5 w.heap.size t5 _ (0, 0) _ hp ht5 Try.underlying66 rfl (by kernel_rfl)
  refine bodyPost_ret (hr5 _ rfl) rfl ?_
  exact ⟨rfl, hB5⟩
theorem blk_put8 {w : World} {q : Nat} {a0 a1 a2 a3 a4 a5 a6 a7 : Value} (h : Blk w q #[a0, a1, a2, a3, a4, a5, a6, a7]) (b0 b1 b2 b3 b4 b5 b6 b7 : Value) : Blk ((((((((w.setCell ⟨q, 0, none⟩ b0).setCell ⟨q, 1, none⟩ b1).setCell ⟨q, 2, none⟩ b2).setCell ⟨q, 3, none⟩ b3).setCell ⟨q, 4, none⟩ b4).setCell ⟨q, 5, none⟩ b5).setCell ⟨q, 6, none⟩ b6).setCell ⟨q, 7, none⟩ b7) q #[b0, b1, b2, b3, b4, b5, b6, b7] ∧ w.grownBy ((((((((w.setCell ⟨q, 0, none⟩ b0).setCell ⟨q, 1, none⟩ b1).setCell ⟨q, 2, none⟩ b2).setCell ⟨q, 3, none⟩ b3).setCell ⟨q, 4, none⟩ b4).setCell ⟨q, 5, none⟩ b5).setCell ⟨q, 6, none⟩ b6).setCell ⟨q, 7, none⟩ b7) (some q) := by
  have h2 := ((((((((h.set 0 b0).set 1 b1).set 2 b2).set 3 b3).set 4 b4).set 5 b5).set 6 b6).set 7 b7)
  simp only [List.setIfInBounds_toArray, List.set_cons_zero, List.set_cons_succ] at h2
  exact ⟨h2, ((((((((grown_set' w ⟨q, 0, none⟩ _).trans (grown_set' _ ⟨q, 1, none⟩ _)).trans (grown_set' _ ⟨q, 2, none⟩ _)).trans (grown_set' _ ⟨q, 3, none⟩ _)).trans (grown_set' _ ⟨q, 4, none⟩ _)).trans (grown_set' _ ⟨q, 5, none⟩ _)).trans (grown_set' _ ⟨q, 6, none⟩ _)).trans (grown_set' _ ⟨q, 7, none⟩ _))⟩
theorem blk_msg {w : World} {q r : Nat} {cs : Array Value} (h : Blk w r cs) (hne : q ≠ r) (b3 b4 b5 b6 b7 : Value) : Blk (((((w.setCell ⟨q, 3, none⟩ b3).setCell ⟨q, 4, none⟩ b4).setCell ⟨q, 5, none⟩ b5).setCell ⟨q, 6, none⟩ b6).setCell ⟨q, 7, none⟩ b7) r cs ∧ w.grownBy (((((w.setCell ⟨q, 3, none⟩ b3).setCell ⟨q, 4, none⟩ b4).setCell ⟨q, 5, none⟩ b5).setCell ⟨q, 6, none⟩ b6).setCell ⟨q, 7, none⟩ b7) (some q) := ⟨(((((h.setOther ⟨q, 3, none⟩ b3 hne).setOther ⟨q, 4, none⟩ b4 hne).setOther ⟨q, 5, none⟩ b5 hne).setOther ⟨q, 6, none⟩ b6 hne).setOther ⟨q, 7, none⟩ b7 hne), (((((grown_set' w ⟨q, 3, none⟩ _).trans (grown_set' _ ⟨q, 4, none⟩ _)).trans (grown_set' _ ⟨q, 5, none⟩ _)).trans (grown_set' _ ⟨q, 6, none⟩ _)).trans (grown_set' _ ⟨q, 7, none⟩ _))⟩
theorem evEnd {w W5 : World} (cs : Array Value) (tmps : Array Value) {R : Value} (hR : R = .agg cs) (hl : cs.size = 8) (hp : tmps.getD 4 undef = .pointer (some ⟨w.heap.size, 0, none⟩)) (hb : Blk W5 w.heap.size cs) (hB : Below w.heap.size w W5) :
    bodyPost Try.prog Try.f43 (fun e w' => e = .returned R ∧ Below w.heap.size w w') .ret { tmps := tmps, defers := [] } W5 := by
  obtain ⟨t5, ht5⟩ := hb
  have hr5 : (results Try.f43 tmps).run Try.prog W5 = .ok (.agg cs) W5 := results_cell_row Try.results43 tmps W5 w.heap.size t5 _ (0, 0) _ hp ht5 Try.underlying56 rfl (by rw [hl]; kernel_rfl)
  exact bodyPost_ret hr5 rfl ⟨by rw [hR], hB⟩
set_option maxHeartbeats 4000000 in
set_option maxRecDepth 100000 in
theorem eventC (n m : Int) (w : World) (hn : InI64 n) (hm : InI64 m) : Calls Try.prog 43 #[I n, I m] w fun e w' => e = .returned (.agg #[I (evOf n m).kind, I (evOf n m).node, I (evOf n m).arg, I (evOf n m).msg.node, I (evOf n m).msg.handler, I (evOf n m).msg.count, I (evOf n m).msg.index, I (evOf n m).msg.copy]) ∧ Below w.heap.size w w' := by
  have Ha := Lib.hid (around_any n 1000000000 (w.alloc (.cells #[I 0, I 0, I 0, I 0, I 0, I 0, I 0, I 0] 56)) (by omega) hn.1 hn.2)
  obtain ⟨h1, h2⟩ := around_range n 1000000000 (by omega)
  unfold evOf
  generalize around n 1000000000 = k at Ha h1 h2 ⊢
  have hk7 : k % 7 = 0 ∨ k % 7 = 1 ∨ k % 7 = 2 ∨ k % 7 = 3 ∨ k % 7 = 4 ∨ k % 7 = 5 ∨ k % 7 = 6 := by omega
  rcases hk7 with hk | hk | hk | hk | hk | hk | hk
  · have hev : evK k m = ⟨1, k / 7 % 12, smallF m, ⟨0, 0, 0, 0, 0⟩⟩ := by unfold evK; rw [hk]; rfl
    rw [hev]
    clear hev
    go_enter Try.func43, Try.ntmps43
    go_wp2_with (first | (go_at_call 18; refine Ha.out.mono ?_; rintro e w1 ⟨rfl, rfl⟩) | (go_at_call 74; refine (smallC m _ hm).mono ?_; rintro e w2 ⟨rfl, rfl⟩))
    exact evEnd _ _ rfl rfl rfl ((Blk.new w #[I 1, I (k / 7 % 12), I (smallF m), I 0, I 0, I 0, I 0, I 0] 56).alloc (.cells #[I 1, I (k / 7 % 12), I (smallF m), I 0, I 0, I 0, I 0, I 0] 56)) (((Below.refl _ _).alloc (Nat.le_refl _) _).alloc (by simp) _)
  · have hev : evK k m = ⟨2, k / 7 % 12, smallF m, ⟨0, 0, 0, 0, 0⟩⟩ := by unfold evK; rw [hk]; rfl
    rw [hev]
    clear hev
    go_enter Try.func43, Try.ntmps43
    go_wp2_with (first | (go_at_call 18; refine Ha.out.mono ?_; rintro e w1 ⟨rfl, rfl⟩) | (go_at_call 74; refine (smallC m _ hm).mono ?_; rintro e w2 ⟨rfl, rfl⟩))
    exact evEnd _ _ rfl rfl rfl ((Blk.new w #[I 2, I (k / 7 % 12), I (smallF m), I 0, I 0, I 0, I 0, I 0] 56).alloc (.cells #[I 2, I (k / 7 % 12), I (smallF m), I 0, I 0, I 0, I 0, I 0] 56)) (((Below.refl _ _).alloc (Nat.le_refl _) _).alloc (by simp) _)
  · have hev : evK k m = ⟨3, k / 7 % 12, 0, ⟨around m 1000000000 % 12, around m 1000000000 / 12 % 40, smallF (around m 1000000000 / 480), smallF (k / 84), smallF (k / 336)⟩⟩ := by unfold evK; rw [hk]; rfl
    rw [hev]
    clear hev
    go_enter Try.func43, Try.ntmps43
    have hb1 : Blk ((w.alloc (.cells #[I 0, I 0, I 0, I 0, I 0, I 0, I 0, I 0] 56)).alloc (.cells #[I 3, I (k / 7 % 12), I 0, I 0, I 0, I 0, I 0, I 0] 56)) w.heap.size #[I 0, I 0, I 0, I 0, I 0, I 0, I 0, I 0] := (Blk.new _ _ _).alloc _
    have hb2 : Blk ((w.alloc (.cells #[I 0, I 0, I 0, I 0, I 0, I 0, I 0, I 0] 56)).alloc (.cells #[I 3, I (k / 7 % 12), I 0, I 0, I 0, I 0, I 0, I 0] 56)) (w.heap.size + 1) #[I 3, I (k / 7 % 12), I 0, I 0, I 0, I 0, I 0, I 0] := by
      have := Blk.new (w.alloc (.cells #[I 0, I 0, I 0, I 0, I 0, I 0, I 0, I 0] 56)) #[I 3, I (k / 7 % 12), I 0, I 0, I 0, I 0, I 0, I 0] 56
      rwa [World.size_alloc] at this
    have hBB : Below w.heap.size w ((w.alloc (.cells #[I 0, I 0, I 0, I 0, I 0, I 0, I 0, I 0] 56)).alloc (.cells #[I 3, I (k / 7 % 12), I 0, I 0, I 0, I 0, I 0, I 0] 56)) := ((Below.refl _ _).alloc (Nat.le_refl _) _).alloc (by simp) _
    go_upto_region 11 with (go_at_call 18; refine Ha.out.mono ?_; rintro e w1 ⟨rfl, rfl⟩)
    have hzB : ((w.alloc (.cells #[I 0, I 0, I 0, I 0, I 0, I 0, I 0, I 0] 56)).alloc (.cells #[I 3, I (k / 7 % 12), I 0, I 0, I 0, I 0, I 0, I 0] 56)).heap.size = w.heap.size + 2 := by simp
    generalize (w.alloc (.cells #[I 0, I 0, I 0, I 0, I 0, I 0, I 0, I 0] 56)).alloc (.cells #[I 3, I (k / 7 % 12), I 0, I 0, I 0, I 0, I 0, I 0] 56) = wB at hb1 hb2 hBB hzB ⊢
    go_wp2_with (first | (go_at_call 75; refine (causeC m wB hm).mono ?_; rintro e w2 ⟨rfl, hB2⟩; have hr2 := hb1.kept hB2 (by omega); have he2 := hb2.kept hB2 (by omega); have r0 := hr2.cell; have e0 := he2.cell; have fr0 := hr2.frozen; have fe0 := he2.frozen) | (go_at_call 74; refine (smallC _ _ ⟨by omega, by omega⟩).mono ?_; rintro e w3 ⟨rfl, rfl⟩))
    obtain ⟨hm1, hg1⟩ := blk_msg (q := w.heap.size + 1) hr2 (by omega) (I (around m 1000000000 % 12)) (I (around m 1000000000 / 12 % 40)) (I (smallF (around m 1000000000 / 480))) (I (smallF (k / 84))) (I (smallF (k / 336)))
    obtain ⟨hm2, hg2⟩ := blk_put8 hm1 (I 3) (I (k / 7 % 12)) (I 0) (I (around m 1000000000 % 12)) (I (around m 1000000000 / 12 % 40)) (I (smallF (around m 1000000000 / 480))) (I (smallF (k / 84))) (I (smallF (k / 336)))
    have hBf := ((hBB.trans (hB2.mono (by omega))).grown hg1 (by have := hB2.size; omega) (fun g hg => by cases hg; omega)).grown hg2 (by have := hg1.size; have := hB2.size; omega) (fun g hg => by cases hg; omega)
    exact evEnd _ _ rfl rfl rfl hm2 hBf
  · have hev : evK k m = ⟨4, k / 7 % 12, smallF m, ⟨0, 0, 0, 0, 0⟩⟩ := by unfold evK; rw [hk]; rfl
    rw [hev]
    clear hev
    go_enter Try.func43, Try.ntmps43
    go_wp2_with (first | (go_at_call 18; refine Ha.out.mono ?_; rintro e w1 ⟨rfl, rfl⟩) | (go_at_call 74; refine (smallC m _ hm).mono ?_; rintro e w2 ⟨rfl, rfl⟩))
    exact evEnd _ _ rfl rfl rfl ((Blk.new w #[I 4, I (k / 7 % 12), I (smallF m), I 0, I 0, I 0, I 0, I 0] 56).alloc (.cells #[I 4, I (k / 7 % 12), I (smallF m), I 0, I 0, I 0, I 0, I 0] 56)) (((Below.refl _ _).alloc (Nat.le_refl _) _).alloc (by simp) _)
  · have hev : evK k m = ⟨5, k / 7 % 12, 0, ⟨around m 1000000000 % 12, around m 1000000000 / 12 % 40, smallF (around m 1000000000 / 480), smallF (k / 84), smallF (k / 336)⟩⟩ := by unfold evK; rw [hk]; rfl
    rw [hev]
    clear hev
    go_enter Try.func43, Try.ntmps43
    have hb1 : Blk ((w.alloc (.cells #[I 0, I 0, I 0, I 0, I 0, I 0, I 0, I 0] 56)).alloc (.cells #[I 5, I (k / 7 % 12), I 0, I 0, I 0, I 0, I 0, I 0] 56)) w.heap.size #[I 0, I 0, I 0, I 0, I 0, I 0, I 0, I 0] := (Blk.new _ _ _).alloc _
    have hb2 : Blk ((w.alloc (.cells #[I 0, I 0, I 0, I 0, I 0, I 0, I 0, I 0] 56)).alloc (.cells #[I 5, I (k / 7 % 12), I 0, I 0, I 0, I 0, I 0, I 0] 56)) (w.heap.size + 1) #[I 5, I (k / 7 % 12), I 0, I 0, I 0, I 0, I 0, I 0] := by
      have := Blk.new (w.alloc (.cells #[I 0, I 0, I 0, I 0, I 0, I 0, I 0, I 0] 56)) #[I 5, I (k / 7 % 12), I 0, I 0, I 0, I 0, I 0, I 0] 56
      rwa [World.size_alloc] at this
    have hBB : Below w.heap.size w ((w.alloc (.cells #[I 0, I 0, I 0, I 0, I 0, I 0, I 0, I 0] 56)).alloc (.cells #[I 5, I (k / 7 % 12), I 0, I 0, I 0, I 0, I 0, I 0] 56)) := ((Below.refl _ _).alloc (Nat.le_refl _) _).alloc (by simp) _
    go_upto_region 11 with (go_at_call 18; refine Ha.out.mono ?_; rintro e w1 ⟨rfl, rfl⟩)
    have hzB : ((w.alloc (.cells #[I 0, I 0, I 0, I 0, I 0, I 0, I 0, I 0] 56)).alloc (.cells #[I 5, I (k / 7 % 12), I 0, I 0, I 0, I 0, I 0, I 0] 56)).heap.size = w.heap.size + 2 := by simp
    generalize (w.alloc (.cells #[I 0, I 0, I 0, I 0, I 0, I 0, I 0, I 0] 56)).alloc (.cells #[I 5, I (k / 7 % 12), I 0, I 0, I 0, I 0, I 0, I 0] 56) = wB at hb1 hb2 hBB hzB ⊢
    go_wp2_with (first | (go_at_call 75; refine (causeC m wB hm).mono ?_; rintro e w2 ⟨rfl, hB2⟩; have hr2 := hb1.kept hB2 (by omega); have he2 := hb2.kept hB2 (by omega); have r0 := hr2.cell; have e0 := he2.cell; have fr0 := hr2.frozen; have fe0 := he2.frozen) | (go_at_call 74; refine (smallC _ _ ⟨by omega, by omega⟩).mono ?_; rintro e w3 ⟨rfl, rfl⟩))
    obtain ⟨hm1, hg1⟩ := blk_msg (q := w.heap.size + 1) hr2 (by omega) (I (around m 1000000000 % 12)) (I (around m 1000000000 / 12 % 40)) (I (smallF (around m 1000000000 / 480))) (I (smallF (k / 84))) (I (smallF (k / 336)))
    obtain ⟨hm2, hg2⟩ := blk_put8 hm1 (I 5) (I (k / 7 % 12)) (I 0) (I (around m 1000000000 % 12)) (I (around m 1000000000 / 12 % 40)) (I (smallF (around m 1000000000 / 480))) (I (smallF (k / 84))) (I (smallF (k / 336)))
    have hBf := ((hBB.trans (hB2.mono (by omega))).grown hg1 (by have := hB2.size; omega) (fun g hg => by cases hg; omega)).grown hg2 (by have := hg1.size; have := hB2.size; omega) (fun g hg => by cases hg; omega)
    exact evEnd _ _ rfl rfl rfl hm2 hBf
  · have hev : evK k m = ⟨6, k / 7 % 12, 0, ⟨around m 1000000000 % 12, around m 1000000000 / 12 % 40, smallF (around m 1000000000 / 480), smallF (k / 84), smallF (k / 336)⟩⟩ := by unfold evK; rw [hk]; rfl
    rw [hev]
    clear hev
    go_enter Try.func43, Try.ntmps43
    have hb1 : Blk ((w.alloc (.cells #[I 0, I 0, I 0, I 0, I 0, I 0, I 0, I 0] 56)).alloc (.cells #[I 6, I (k / 7 % 12), I 0, I 0, I 0, I 0, I 0, I 0] 56)) w.heap.size #[I 0, I 0, I 0, I 0, I 0, I 0, I 0, I 0] := (Blk.new _ _ _).alloc _
    have hb2 : Blk ((w.alloc (.cells #[I 0, I 0, I 0, I 0, I 0, I 0, I 0, I 0] 56)).alloc (.cells #[I 6, I (k / 7 % 12), I 0, I 0, I 0, I 0, I 0, I 0] 56)) (w.heap.size + 1) #[I 6, I (k / 7 % 12), I 0, I 0, I 0, I 0, I 0, I 0] := by
      have := Blk.new (w.alloc (.cells #[I 0, I 0, I 0, I 0, I 0, I 0, I 0, I 0] 56)) #[I 6, I (k / 7 % 12), I 0, I 0, I 0, I 0, I 0, I 0] 56
      rwa [World.size_alloc] at this
    have hBB : Below w.heap.size w ((w.alloc (.cells #[I 0, I 0, I 0, I 0, I 0, I 0, I 0, I 0] 56)).alloc (.cells #[I 6, I (k / 7 % 12), I 0, I 0, I 0, I 0, I 0, I 0] 56)) := ((Below.refl _ _).alloc (Nat.le_refl _) _).alloc (by simp) _
    go_upto_region 11 with (go_at_call 18; refine Ha.out.mono ?_; rintro e w1 ⟨rfl, rfl⟩)
    have hzB : ((w.alloc (.cells #[I 0, I 0, I 0, I 0, I 0, I 0, I 0, I 0] 56)).alloc (.cells #[I 6, I (k / 7 % 12), I 0, I 0, I 0, I 0, I 0, I 0] 56)).heap.size = w.heap.size + 2 := by simp
    generalize (w.alloc (.cells #[I 0, I 0, I 0, I 0, I 0, I 0, I 0, I 0] 56)).alloc (.cells #[I 6, I (k / 7 % 12), I 0, I 0, I 0, I 0, I 0, I 0] 56) = wB at hb1 hb2 hBB hzB ⊢
    go_wp2_with (first | (go_at_call 75; refine (causeC m wB hm).mono ?_; rintro e w2 ⟨rfl, hB2⟩; have hr2 := hb1.kept hB2 (by omega); have he2 := hb2.kept hB2 (by omega); have r0 := hr2.cell; have e0 := he2.cell; have fr0 := hr2.frozen; have fe0 := he2.frozen) | (go_at_call 74; refine (smallC _ _ ⟨by omega, by omega⟩).mono ?_; rintro e w3 ⟨rfl, rfl⟩))
    obtain ⟨hm1, hg1⟩ := blk_msg (q := w.heap.size + 1) hr2 (by omega) (I (around m 1000000000 % 12)) (I (around m 1000000000 / 12 % 40)) (I (smallF (around m 1000000000 / 480))) (I (smallF (k / 84))) (I (smallF (k / 336)))
    obtain ⟨hm2, hg2⟩ := blk_put8 hm1 (I 6) (I (k / 7 % 12)) (I 0) (I (around m 1000000000 % 12)) (I (around m 1000000000 / 12 % 40)) (I (smallF (around m 1000000000 / 480))) (I (smallF (k / 84))) (I (smallF (k / 336)))
    have hBf := ((hBB.trans (hB2.mono (by omega))).grown hg1 (by have := hB2.size; omega) (fun g hg => by cases hg; omega)).grown hg2 (by have := hg1.size; have := hB2.size; omega) (fun g hg => by cases hg; omega)
    exact evEnd _ _ rfl rfl rfl hm2 hBf
  · have hev : evK k m = ⟨7, k / 7 % 12, 0, ⟨0, 0, 0, 0, 0⟩⟩ := by unfold evK; rw [hk]; rfl
    rw [hev]
    clear hev
    go_enter Try.func43, Try.ntmps43
    go_wp2_with (first | (go_at_call 18; refine Ha.out.mono ?_; rintro e w1 ⟨rfl, rfl⟩) | (go_at_call 74; refine (smallC m _ hm).mono ?_; rintro e w2 ⟨rfl, rfl⟩))
    exact evEnd _ _ rfl rfl rfl ((Blk.new w #[I 7, I (k / 7 % 12), I 0, I 0, I 0, I 0, I 0, I 0] 56).alloc (.cells #[I 7, I (k / 7 % 12), I 0, I 0, I 0, I 0, I 0, I 0] 56)) (((Below.refl _ _).alloc (Nat.le_refl _) _).alloc (by simp) _)

end Go.Proofs.Ytjdhcdbjfbhogaa
