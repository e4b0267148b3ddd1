/- cut. -/
import Derived.Test.YtjdhcdbjfbhogaaX8
namespace Go.Proofs.Ytjdhcdbjfbhogaa
open Go.RowKit

theorem flat_cut {α : Type} {f : α → List Value} {k : Nat} (hf : ∀ x, (f x).length = k) {w : World} {a : Option Addr} {c : Nat} {l : List α} (h : Flat w k (.slice a l.length c) l.length (l.flatMap f)) (j : Nat) :
    Flat w k (.slice a (min (j : Int) (l.length : Int)).toNat c) (l.take j).length ((l.take j).flatMap f) := by
  have hm : (min (j : Int) (l.length : Int)).toNat = (l.take j).length := by rw [List.length_take]; omega
  have h1 := Flat.takeO (c' := c) h (j := (l.take j).length) (by rw [List.length_take]; omega)
  rw [flatMap_take hf, List.length_take, ← List.take_eq_take_min, ← List.length_take] at h1
  rw [hm]
  exact h1

set_option maxHeartbeats 4000000 in
set_option maxRecDepth 100000 in
theorem cutC (evs : List Ev) (l : List Ans) (k1 : Option Addr) (c1 : Nat) (k2 : Option Addr) (c2 : Nat) (w : World) (h : TapeIn w k1 c1 k2 c2 evs l) (hc1 : evs.length ≤ c1) (hc2 : l.length ≤ c2) :
    Calls Try.prog 13 #[tv k1 c1 k2 c2 evs l] w fun e w' => ∃ k c k2 c2, e = .returned (tv k c k2 c2 (evs.take 6) (l.take 6)) ∧ TapeIn w' k c k2 c2 (evs.take 6) (l.take 6) ∧ Below w.heap.size w w' := by
  obtain ⟨_, hn1, _⟩ := h.1
  obtain ⟨_, hn2, _⟩ := h.2
  have hb0 := Blk.new w #[.slice k1 evs.length c1, .slice k2 l.length c2] 26
  have hk0 : Kp2 w #[.slice k1 evs.length c1, .slice k2 l.length c2] #[.slice none 0 0, .slice none 0 0] ((w.alloc (.cells #[.slice k1 evs.length c1, .slice k2 l.length c2] 26)).alloc (.cells #[.slice none 0 0, .slice none 0 0] 26)) := Kp2.start w _ _ 26
  have hk1 := hk0.alloc (.cells #[.slice none 0 0, .slice none 0 0] 26)
  have hb3 := Blk.new ((w.alloc (.cells #[.slice k1 evs.length c1, .slice k2 l.length c2] 26)).alloc (.cells #[.slice none 0 0, .slice none 0 0] 26)) #[.slice none 0 0, .slice none 0 0] 26
  simp only [World.size_alloc] at hb3
  have hs0 : (((w.alloc (.cells #[.slice k1 evs.length c1, .slice k2 l.length c2] 26)).alloc (.cells #[.slice none 0 0, .slice none 0 0] 26)).alloc (.cells #[.slice none 0 0, .slice none 0 0] 26)).heap.size = w.heap.size + 3 := by simp
  have H := Lib.hid h
  have hl1 : (evs.take 6).length ≤ 6 := by rw [List.length_take]; omega
  have hl2 : (l.take 6).length ≤ 6 := by rw [List.length_take]; omega
  have q1 : (0 : Int) ≤ min 6 (evs.length : Int) := by omega
  have q2 : min 6 (evs.length : Int) ≤ (c1 : Int) := by omega
  have q3 : (0 : Int) ≤ min 6 (l.length : Int) := by omega
  have q4 : min 6 (l.length : Int) ≤ (c2 : Int) := by omega
  have HF1 := Lib.hid (fun (W : World) (hW : Below w.heap.size w W) => (show Flat W 8 (.slice k1 (min 6 (evs.length : Int)).toNat c1) (evs.take 6).length ((evs.take 6).flatMap ec) from flat_cut ec_length (EvSl.kept h.1 hW (Nat.le_refl _)) 6))
  have HF2 := Lib.hid (fun (W : World) (hW : Below w.heap.size w W) => (show Flat W 6 (.slice k2 (min 6 (l.length : Int)).toNat c2) (l.take 6).length ((l.take 6).flatMap ac) from flat_cut ac_length (AnsSl.kept h.2 hW (Nat.le_refl _)) 6))
  clear h hb0 H
  generalize evs.take 6 = E6 at HF1 hl1 ⊢
  generalize l.take 6 = L6 at HF2 hl2 ⊢
  go_enter Try.func13, Try.ntmps13
  go_upto_region 2 with fail
  generalize ((w.alloc (.cells #[.slice k1 evs.length c1, .slice k2 l.length c2] 26)).alloc (.cells #[.slice none 0 0, .slice none 0 0] 26)).alloc (.cells #[.slice none 0 0, .slice none 0 0] 26) = w3 at hk1 hb3 hs0 ⊢
  obtain ⟨hbT, hbR, hB0, _⟩ := hk1
  obtain ⟨g, hg⟩ : ∃ g, g = w.heap.size := ⟨_, rfl⟩
  rw [← hg] at hbT hbR hb3 hs0 ⊢
  have Hg := Lib.hid hg
  clear hg
  have hB3 : Below w.heap.size w w3 := hB0
  have Hs1 := Lib.hid (HF1.out w3.drew hB3.drew)
  have HB3 := Lib.hid hB3
  have HbT := Lib.hid hbT
  have HbR := Lib.hid hbR
  have Hb3 := Lib.hid hb3
  have hcT := hbT.cell
  have hc3 := hb3.cell
  clear hB3 hbT hbR hb3 hB0 hk0
  refine wp_region_ordN 9 [(0, true), (1, true), (2, true), (3, true), (4, true), (5, true), (6, true), (7, true), (8, true)] (fun w' => (∀ j, w'.cell? ⟨g, j, none⟩ = (#[.slice k1 evs.length c1, .slice k2 l.length c2] : Array Value)[j]?) ∧ (∀ j, w'.cell? ⟨g + 1 + 1, j, none⟩ = (#[.slice none 0 0, .slice none 0 0] : Array Value)[j]?)) (by kernel_rfl) rfl rfl (by kernel_rfl) ⟨hcT, hc3⟩ ?_
  iterate 9 (refine wpOrd_take ?_ (by rfl) ?_ ?_; rotate_left; (intro w hSw; (try dsimp only at hSw); go_simp; try with_reducible rfl); (try simp only [Act.put, List.setIfInBounds_toArray, List.set_cons_zero, List.set_cons_succ]))
  refine wpOrd_nil ?_
  refine wpList_appG rfl _ _ 23 (by rfl) 56 _ 8 64 Try.underlying23 info56 rfl (by omega) (by omega) (g + 3) (.slice none 0 0) 0 [] (by rfl) (World.ownsRow_nil _ _ _ _) _ (by rfl) E6.length _ Hs1.out (evs_one _) (by omega) (Nat.le_of_eq hs0.symm) ?_
  intro u4 w4 ho4 hgr4 hB4
  obtain ⟨k4, c4, rfl, _⟩ := (Flat.of_owns ho4).open
  rw [Nat.zero_add, List.nil_append] at ho4
  have hB34 : Below w3.heap.size w3 w4 := by rw [hs0]; exact ⟨hB4.os, hB4.tape, hB4.output, hB4.size, hB4.block⟩
  have hs4 := hB34.size
  have hb34 := Hb3.out.kept hB34 (by omega)
  have hbT4 := HbT.out.kept hB34 (by omega)
  have hbR4 := HbR.out.kept hB34 (by omega)
  have d0 := hb34.cell 0
  have d1 := hb34.cell 1
  have f0 := hb34.frozen 0
  have hHB4 := HB3.out.trans (hB34.mono (by have := HB3.out.size; omega))
  go_wp2_with fail
  refine NoPanic.normal ?_
  go_upto_region 3 with fail
  have hz4 : (w4.setCell ⟨g + 1 + 1, 0, none⟩ (.slice k4 E6.length c4)).heap.size = w4.heap.size := by simp
  have hgs4 := grown_set w4 ⟨g + 1 + 1, 0, none⟩ (.slice k4 E6.length c4)
  have HbT5 := Lib.hid (hbT4.setOther ⟨g + 1 + 1, 0, none⟩ (.slice k4 E6.length c4) (by simp <;> omega))
  have HbR5 := Lib.hid (hbR4.setOther ⟨g + 1 + 1, 0, none⟩ (.slice k4 E6.length c4) (by simp <;> omega))
  have Hb35 := Lib.hid (show Blk (w4.setCell ⟨g + 1 + 1, 0, none⟩ (.slice k4 E6.length c4)) (g + 1 + 1) #[.slice k4 E6.length c4, .slice none 0 0] from hb34.set 0 _)
  have Ho5 := Lib.hid (ho4.kept hgs4 (own_ne ho4 (by show g + 1 + 1 < g + 3; omega)))
  have HB5 := Lib.hid (hHB4.grown hgs4 (by have := Hg.out; omega) (fun j hj => by cases hj; have := Hg.out; show w.heap.size ≤ g + 1 + 1; omega))
  generalize w4.setCell ⟨g + 1 + 1, 0, none⟩ (.slice k4 E6.length c4) = w5 at hz4 HbT5 HbR5 Hb35 Ho5 HB5 ⊢
  clear hgs4 hHB4 d0 d1 f0 hbR4 hbT4 hb34 hB34 hgr4 hB4 ho4 hcT hc3 HB3 Hs1
  have Hs1 := Lib.hid (HF2.out w5.drew HB5.out.drew)
  have hcT := HbT5.out.cell
  have hc3 := Hb35.out.cell
  refine wp_region_ordN 9 [(0, true), (1, true), (2, true), (3, true), (4, true), (5, true), (6, true), (7, true), (8, true)] (fun w' => (∀ j, w'.cell? ⟨g, j, none⟩ = (#[.slice k1 evs.length c1, .slice k2 l.length c2] : Array Value)[j]?) ∧ (∀ j, w'.cell? ⟨g + 1 + 1, j, none⟩ = (#[.slice k4 E6.length c4, .slice none 0 0] : Array Value)[j]?)) (by kernel_rfl) rfl rfl (by kernel_rfl) ⟨hcT, hc3⟩ ?_
  iterate 9 (refine wpOrd_take ?_ (by rfl) ?_ ?_; rotate_left; (intro w hSw; (try dsimp only at hSw); go_simp; try with_reducible rfl); (try simp only [Act.put, List.setIfInBounds_toArray, List.set_cons_zero, List.set_cons_succ]))
  refine wpOrd_nil ?_
  refine wpList_appG rfl _ _ 24 (by rfl) 75 _ 6 48 Try.underlying24 info75 rfl (by omega) (by omega) w5.heap.size (.slice none 0 0) 0 [] (by rfl) (World.ownsRow_nil _ _ _ _) _ (by rfl) L6.length _ Hs1.out (ans_one _) (by omega) (Nat.le_refl _) ?_
  intro u6 w6 ho6 hgr6 hB6
  obtain ⟨k6, c6, rfl, _⟩ := (Flat.of_owns ho6).open
  rw [Nat.zero_add, List.nil_append] at ho6
  have hs6 := hB6.size
  have hB56 : Below w5.heap.size w5 w6 := ⟨hB6.os, hB6.tape, hB6.output, hB6.size, hB6.block⟩
  have hb36 := Hb35.out.kept hB56 (by omega)
  have hbR6 := HbR5.out.kept hB56 (by omega)
  have d0 := hb36.cell 0
  have d1 := hb36.cell 1
  have f1 := hb36.frozen 1
  have r0 := hbR6.cell 0
  have r1 := hbR6.cell 1
  have fr0 := hbR6.frozen 0
  have fr1 := hbR6.frozen 1
  have HbR6 := Lib.hid hbR6
  have Ho6 := Lib.hid ho6
  have Ho5' := Lib.hid (owns_below Ho5.out hB56)
  have HB6 := Lib.hid (Below.then HB5.out hB56)
  clear hbR6 ho6 hb36 hgr6 hB6 hB56 hcT hc3 Hs1 Ho5 HB5 HbT5 HbR5 Hb35
  go_wp2_with fail
  refine NoPanic.normal ?_
  go_wp2_with fail
  have hg7 := grown_set w6 ⟨g + 1 + 1, 1, none⟩ (.slice k6 L6.length c6)
  have HbR7 := Lib.hid (HbR6.out.setOther ⟨g + 1 + 1, 1, none⟩ (.slice k6 L6.length c6) (by simp))
  have Ho7 := Ho6.out.kept hg7 (own_ne Ho6.out (by show g + 1 + 1 < w5.heap.size; omega))
  have Ho7' := Ho5'.out.kept hg7 (own_ne Ho5'.out (by show g + 1 + 1 < g + 3; omega))
  have HB7 := HB6.out.grown hg7 (by have := HB6.out.size; omega) (fun j hj => by cases hj; have := Hg.out; show w.heap.size ≤ g + 1 + 1; omega)
  generalize w6.setCell ⟨g + 1 + 1, 1, none⟩ (.slice k6 L6.length c6) = w7 at hg7 HbR7 Ho7 Ho7' HB7 ⊢
  have hfin : Blk ((w7.setCell ⟨g + 1, 0, none⟩ (.slice k4 E6.length c4)).setCell ⟨g + 1, 1, none⟩ (.slice k6 L6.length c6)) (g + 1) #[.slice k4 E6.length c4, .slice k6 L6.length c6] := (HbR7.out.set 0 _).set 1 _
  have hgs : w7.grownBy ((w7.setCell ⟨g + 1, 0, none⟩ (.slice k4 E6.length c4)).setCell ⟨g + 1, 1, none⟩ (.slice k6 L6.length c6)) (some (g + 1)) := (grown_set w7 ⟨g + 1, 0, none⟩ _).trans (grown_set _ ⟨g + 1, 1, none⟩ _)
  have hua := Ho7.kept hgs (own_ne Ho7 (by omega))
  have hve := Ho7'.kept hgs (own_ne Ho7' (by omega))
  have hB8 := HB7.grown hgs (by have := HB7.size; omega) (fun j hj => by cases hj; have := Hg.out; omega)
  generalize (w7.setCell ⟨g + 1, 0, none⟩ (.slice k4 E6.length c4)).setCell ⟨g + 1, 1, none⟩ (.slice k6 L6.length c6) = W8 at hfin hgs hua hve hB8 ⊢
  obtain ⟨t8, ht8⟩ := hfin
  have hr : ∀ tmps : Array Value, tmps.getD 2 undef = .pointer (some ⟨g + 1, 0, none⟩) → (results Try.f13 tmps).run Try.prog W8 = .ok (.agg #[.slice k4 E6.length c4, .slice k6 L6.length c6]) W8 := fun tmps hp => results_cell_row Try.results13 tmps W8 (g + 1) t8 _ (0, 0) _ hp ht8 Try.underlying26 rfl (by kernel_rfl)
  refine bodyPost_ret (hr _ rfl) rfl ?_
  exact ⟨_, _, _, _, rfl, TapeIn.owns hve hua, hB8⟩
end Go.Proofs.Ytjdhcdbjfbhogaa
