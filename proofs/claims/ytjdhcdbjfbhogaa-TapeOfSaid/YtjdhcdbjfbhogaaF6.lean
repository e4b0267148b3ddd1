/- The generator QuestionOf. -/
import Derived.Test.YtjdhcdbjfbhogaaG16
import Derived.Test.YtjdhcdbjfbhogaaG11
namespace Go.Proofs.Ytjdhcdbjfbhogaa
open Go.RowKit

theorem blk_put5 {w : World} {q : Nat} {a0 a1 a2 a3 a4 : Value} (h : Blk w q #[a0, a1, a2, a3, a4]) (b0 b1 b2 b3 b4 : Value) : Blk (((((w.setCell ⟨q, 0, none⟩ b0).setCell ⟨q, 1, none⟩ b1).setCell ⟨q, 2, none⟩ b2).setCell ⟨q, 3, none⟩ b3).setCell ⟨q, 4, none⟩ b4) q #[b0, b1, b2, b3, b4] ∧ w.grownBy (((((w.setCell ⟨q, 0, none⟩ b0).setCell ⟨q, 1, none⟩ b1).setCell ⟨q, 2, none⟩ b2).setCell ⟨q, 3, none⟩ b3).setCell ⟨q, 4, none⟩ b4) (some q) := by
  have h2 := (((((h.set 0 b0).set 1 b1).set 2 b2).set 3 b3).set 4 b4)
  simp only [List.setIfInBounds_toArray, List.set_cons_zero, List.set_cons_succ] at h2
  exact ⟨h2, (((((grown_set' w ⟨q, 0, none⟩ _).trans (grown_set' _ ⟨q, 1, none⟩ _)).trans (grown_set' _ ⟨q, 2, none⟩ _)).trans (grown_set' _ ⟨q, 3, none⟩ _)).trans (grown_set' _ ⟨q, 4, none⟩ _))⟩
set_option maxHeartbeats 4000000 in
set_option maxRecDepth 100000 in
theorem questOfC (n m : Int) (w : World) (hn : InI64 n) (hm : InI64 m) : Calls Try.prog 65 #[I n, I m] w fun e w' => ∃ q : Qn, q.ok ∧ e = .returned (.agg #[I q.node, I q.handler, I q.count, I q.kind, I q.index]) ∧ Below w.heap.size w w' := by
  have hb1 := Blk.new w #[I 0, I 0, I 0, I 0, I 0] 66
  have hB1 : Below w.heap.size w (w.alloc (.cells #[I 0, I 0, I 0, I 0, I 0] 66)) := (Below.refl _ _).alloc (Nat.le_refl _) _
  have hz1 : (w.alloc (.cells #[I 0, I 0, I 0, I 0, I 0] 66)).heap.size = w.heap.size + 1 := World.size_alloc _ _
  have HA := Lib.hid (around_any n 1000000000 (w.alloc (.cells #[I 0, I 0, I 0, I 0, I 0] 66)) (by omega) hn.1 hn.2)
  obtain ⟨h1, h2⟩ := around_range n 1000000000 (by omega)
  generalize around n 1000000000 = k at HA h1 h2
  go_enter Try.func65, Try.ntmps65
  go_upto_region 2 with (go_at_call 18; refine HA.out.mono ?_; rintro e w1 ⟨rfl, rfl⟩)
  generalize w.alloc (.cells #[I 0, I 0, I 0, I 0, I 0] 66) = w1 at hb1 hB1 hz1 ⊢
  obtain ⟨g, hg⟩ : ∃ g, g = w.heap.size := ⟨_, rfl⟩
  rw [← hg] at hb1 hz1 ⊢
  have Hg := Lib.hid hg
  clear hg HA
  have HC := Lib.hid (causeC m w1 hm)
  obtain ⟨a0, ha0, hr0⟩ : ∃ a : Int, a = around m 1000000000 % 12 ∧ InI64 a := ⟨_, rfl, by unfold InI64; omega⟩
  obtain ⟨a1, ha1, hr1⟩ : ∃ a : Int, a = around m 1000000000 / 12 % 40 ∧ InI64 a := ⟨_, rfl, by unfold InI64; omega⟩
  obtain ⟨a2, ha2, hr2⟩ : ∃ a : Int, a = smallF (around m 1000000000 / 480) ∧ InI64 a := ⟨_, rfl, by have := smallF_range (around m 1000000000 / 480); unfold InI64; omega⟩
  rw [← ha0, ← ha1, ← ha2] at HC
  clear ha0 ha1 ha2
  have Hr0 := Lib.hid hr0
  have Hr1 := Lib.hid hr1
  have Hr2 := Lib.hid hr2
  have HSm := Lib.hid (fun W => smallC (k / 3) W ⟨by omega, by omega⟩)
  have hs := smallF_range (k / 3)
  generalize smallF (k / 3) = s at HSm hs
  clear hr0 hr1 hr2
  go_upto_region 3 with (first | (go_at_call 75; refine HC.out.mono ?_; rintro e w2 ⟨rfl, hB2⟩) | (go_at_call 74; refine (HSm.out _).mono ?_; rintro e w3 ⟨rfl, rfl⟩))
  have hb2 := hb1.kept hB2 (by omega)
  have hz2 := hB2.size
  have hq := Blk.new w3 #[I a0, I a1, I a2, I (1 + k % 3), I s] 66
  have hb3 := hb2.alloc (.cells #[I a0, I a1, I a2, I (1 + k % 3), I s] 66)
  have hB3 : Below w.heap.size w (w3.alloc (.cells #[I a0, I a1, I a2, I (1 + k % 3), I s] 66)) := (hB1.trans (hB2.mono (by have := Hg.out; omega))).alloc (by have := Hg.out; omega) _
  generalize w3.alloc (.cells #[I a0, I a1, I a2, I (1 + k % 3), I s] 66) = w4 at hq hb3 hB3 ⊢
  obtain ⟨gq, hgq⟩ : ∃ g, g = w3.heap.size := ⟨_, rfl⟩
  rw [← hgq] at hq ⊢
  have hne : gq ≠ g := by omega
  have hgq2 : g < gq := by omega
  have hlt := hq.lt
  clear hgq hb1 hb2 hB2 hB1 HC HSm hz1 hz2
  obtain ⟨kd, hkd⟩ : ∃ kd : Int, kd = 1 + k % 3 := ⟨_, rfl⟩
  rw [← hkd] at hq ⊢
  have hkr : 1 ≤ kd ∧ kd ≤ 3 := by omega
  clear hkd
  have c0 := hq.cell 0
  have c1 := hq.cell 1
  have c2 := hq.cell 2
  have c3 := hq.cell 3
  have c4 := hq.cell 4
  have r0 := hb3.cell 0
  have r1 := hb3.cell 1
  have r2 := hb3.cell 2
  have r3 := hb3.cell 3
  have r4 := hb3.cell 4
  have fr0 := hb3.frozen 0
  have fr1 := hb3.frozen 1
  have fr2 := hb3.frozen 2
  have fr3 := hb3.frozen 3
  have fr4 := hb3.frozen 4
  have fq1 := hq.frozen 1
  have Hq := Lib.hid hq
  have Hb := Lib.hid hb3
  have HB := Lib.hid hB3
  clear hq hb3 hB3
  have hok : ∀ hd : Int, InI64 hd → (⟨a0, hd, a2, kd, s⟩ : Qn).ok := fun hd hhd x hx => by
    simp [Qn.ints] at hx
    rcases hx with rfl | rfl | rfl | rfl | rfl
    · exact Hr0.out
    · exact hhd
    · exact Hr2.out
    · unfold InI64; omega
    · unfold InI64; omega
  have Hok := Lib.hid hok
  clear hok
  by_cases h3 : kd = 3
  · have hk3 : (kd == 3) = true := by simp [h3]
    have H3 := Lib.hid h3
    clear h3
    go_wp2_with fail
    have hg1 := grown_set' w4 ⟨gq, 1, none⟩ (I 40)
    have hb4 := Hb.out.setOther ⟨gq, 1, none⟩ (I 40) (by simpa using hne)
    generalize w4.setCell ⟨gq, 1, none⟩ (I 40) = w5 at hg1 hb4 ⊢
    obtain ⟨hb5, hg2⟩ := blk_put5 hb4 (I a0) (I 40) (I a2) (I kd) (I s)
    have hB5 := (HB.out.grown hg1 (by have := HB.out.size; omega) (fun j hj => by cases hj; have := Hg.out; show w.heap.size ≤ gq; omega)).grown hg2 (by have := hg1.size; have := HB.out.size; omega) (fun j hj => by cases hj; have := Hg.out; omega)
    generalize ((((w5.setCell ⟨g, 0, none⟩ (I a0)).setCell ⟨g, 1, none⟩ (I 40)).setCell ⟨g, 2, none⟩ (I a2)).setCell ⟨g, 3, none⟩ (I kd)).setCell ⟨g, 4, none⟩ (I s) = W5 at hb5 hg2 hB5 ⊢
    obtain ⟨t5, ht5⟩ := hb5
    have hr5 : ∀ tmps : Array Value, tmps.getD 4 undef = .pointer (some ⟨g, 0, none⟩) → (results Try.f65 tmps).run Try.prog W5 = .ok (.agg #[I a0, I 40, I a2, I kd, I s]) W5 := fun tmps hp => results_cell_row Try.results65 tmps W5 g t5 _ (0, 0) _ hp ht5 Try.underlying66 rfl (by kernel_rfl)
    refine bodyPost_ret (hr5 _ rfl) rfl ?_
    exact ⟨⟨a0, 40, a2, kd, s⟩, Hok.out 40 (by unfold InI64; omega), rfl, hB5⟩
  · have hk3 : (kd == 3) = false := by simp [h3]
    clear h3
    go_wp2_with fail
    obtain ⟨hb5, hg2⟩ := blk_put5 Hb.out (I a0) (I a1) (I a2) (I kd) (I s)
    have hB5 := HB.out.grown hg2 (by have := HB.out.size; omega) (fun j hj => by cases hj; have := Hg.out; omega)
    generalize ((((w4.setCell ⟨g, 0, none⟩ (I a0)).setCell ⟨g, 1, none⟩ (I a1)).setCell ⟨g, 2, none⟩ (I a2)).setCell ⟨g, 3, none⟩ (I kd)).setCell ⟨g, 4, none⟩ (I s) = W5 at hb5 hg2 hB5 ⊢
    obtain ⟨t5, ht5⟩ := hb5
    have hr5 : ∀ tmps : Array Value, tmps.getD 4 undef = .pointer (some ⟨g, 0, none⟩) → (results Try.f65 tmps).run Try.prog W5 = .ok (.agg #[I a0, I a1, I a2, I kd, I s]) W5 := fun tmps hp => results_cell_row Try.results65 tmps W5 g t5 _ (0, 0) _ hp ht5 Try.underlying66 rfl (by kernel_rfl)
    refine bodyPost_ret (hr5 _ rfl) rfl ?_
    exact ⟨⟨a0, a1, a2, kd, s⟩, Hok.out a1 Hr1.out, rfl, hB5⟩
end Go.Proofs.Ytjdhcdbjfbhogaa
