/- The reference: With. -/
import Derived.Test.YtjdhcdbjfbhogaaX8
import Derived.Test.YtjdhcdbjfbhogaaF3
namespace Go.Proofs.Ytjdhcdbjfbhogaa
open Go.RowKit

set_option maxHeartbeats 4000000 in
set_option maxRecDepth 100000 in
theorem refWithR (evs : List Ev) (l : List Ans) (k1 : Option Addr) (c1 : Nat) (k2 : Option Addr) (c2 : Nat) (q : Qn) (n : Int) (w : World) (h : TapeIn w k1 c1 k2 c2 evs l) (hle : evs.length ≤ 1000000) (hl : l.length ≤ 100000) :
    Calls Try.prog 35 #[tv k1 c1 k2 c2 evs l, qv q, I n] w fun e w' => ∃ k c k2 c2, e = .returned (tv k c k2 c2 evs (normA (putL l q n))) ∧ w'.ownsRow w.heap.size 56 8 (.slice k evs.length c) evs.length (evs.flatMap ec) ∧ w'.ownsRow w.heap.size 75 6 (.slice k2 (normA (putL l q n)).length c2) (normA (putL l q n)).length ((normA (putL l q n)).flatMap ac) ∧ Below w.heap.size w w' := by
  have H := Lib.hid h
  have hk0 : Kp2 w #[.slice k1 evs.length c1, .slice k2 l.length c2] #[I q.node, I q.handler, I q.count, I q.kind, I q.index] ((w.alloc (.cells #[.slice k1 evs.length c1, .slice k2 l.length c2] 26)).alloc (.cells #[I q.node, I q.handler, I q.count, I q.kind, I q.index] 66)) := ⟨(Blk.new _ _ _).alloc _, ⟨_, heap_alloc2_new w _ _⟩, (by repeat (first | exact Below.refl _ _ | assumption | refine Below.drew ?_ | refine below_drewN ?_ _ | refine Below.alloc ?_ (by simp <;> omega) _ | refine Below.setCell ?_ (by simp <;> omega) _)), by simp⟩
  have kpT := hk0.alloc (.cells #[.slice none 0 0, .slice none 0 0] 26)
  have hres3 := Blk.new ((w.alloc (.cells #[.slice k1 evs.length c1, .slice k2 l.length c2] 26)).alloc (.cells #[I q.node, I q.handler, I q.count, I q.kind, I q.index] 66)) #[.slice none 0 0, .slice none 0 0] 26
  simp only [World.size_alloc] at hres3
  have hs3 : (((w.alloc (.cells #[.slice k1 evs.length c1, .slice k2 l.length c2] 26)).alloc (.cells #[I q.node, I q.handler, I q.count, I q.kind, I q.index] 66)).alloc (.cells #[.slice none 0 0, .slice none 0 0] 26)).heap.size = w.heap.size + 3 := by simp
  clear h hk0
  go_enter Try.func35, Try.ntmps35
  go_upto_region 1 with fail
  generalize ((w.alloc (.cells #[.slice k1 evs.length c1, .slice k2 l.length c2] 26)).alloc (.cells #[I q.node, I q.handler, I q.count, I q.kind, I q.index] 66)).alloc (.cells #[.slice none 0 0, .slice none 0 0] 26) = w3 at kpT hres3 hs3 ⊢
  obtain ⟨hT, hQ, hB3, _⟩ := kpT
  obtain ⟨g, hg⟩ : ∃ g, g = w.heap.size := ⟨_, rfl⟩
  rw [← hg] at hT hQ hres3 hs3 ⊢
  have Hg := Lib.hid hg
  clear hg
  have t1 := hT.cell 1
  have t1a := (hT.alloc (.cells #[] 75)).cell 1
  have HA := Lib.hid (show Flat (w3.alloc (.cells #[] 75)) 6 (.slice k2 l.length c2) l.length (l.flatMap ac) from AnsSl.kept H.out.2 (hB3.alloc hB3.size _) (Nat.le_refl _))
  go_upto_region 2 with (at_builtin; go_must (refine wpList_appG rfl _ _ 24 rfl 75 _ 6 48 Try.underlying24 info75 rfl (by omega) (by omega) (g + 3) (.slice (some ⟨g + 3, 0, none⟩) 0 0) 0 [] rfl (by rw [← hs3]; exact World.ownsRow_made w3 #[] 0 (Nat.le_refl _) (Nat.zero_le _) rfl) _ rfl l.length _ HA.out (ans_one l) (by omega) (by simp; omega) ?_); intro u w4 ho4 hgr4 hB4)
  obtain ⟨k4, c4, rfl, _⟩ := (Flat.of_owns ho4).open
  rw [Nat.zero_add, List.nil_append] at ho4
  rw [Nat.zero_add]
  have hB34 : Below (g + 3) w3 w4 := ((Below.refl _ w3).alloc (by omega) _).trans hB4
  have hT4 := hT.kept hB34 (by omega)
  have hQ4 := hQ.kept hB34 (by omega)
  have hr4 := hres3.kept hB34 (by omega)
  have hB4w : Below w.heap.size w w4 := hB3.trans (hB34.mono (by have := Hg.out; omega))
  have hz4 := hB34.size
  have hcT := hT4.cell
  have hcQ := hQ4.cell
  clear t1 t1a hgr4 hB4 HA hB3 hT hQ hres3
  refine wp_region_ordN 10 [(0, true), (1, true), (2, true), (3, true), (4, true), (5, true), (6, false), (7, false), (8, true), (9, false)] (fun w' => (∀ j, w'.cell? ⟨g, j, none⟩ = (#[.slice k1 evs.length c1, .slice k2 l.length c2] : Array Value)[j]?) ∧ (∀ j, w'.cell? ⟨g + 1, j, none⟩ = (#[I q.node, I q.handler, I q.count, I q.kind, I q.index] : Array Value)[j]?)) (by kernel_rfl) rfl rfl (by kernel_rfl) ⟨hcT, hcQ⟩ ?_
  iterate 6 (refine wpOrd_take ?_ (by rfl) ?_ ?_; rotate_left; (intro w hSw; (try dsimp only at hSw); go_simp; try with_reducible rfl); (try simp only [Act.put, List.setIfInBounds_toArray, List.set_cons_zero, List.set_cons_succ]))
  refine wpOrd_move (fun K hK => ?_)
  go_simp
  refine hK.out _ _ ⟨(hT4.drew.alloc _).cell, (hQ4.drew.alloc _).cell⟩ ?_
  clear hK K
  (try simp only [Act.put, List.setIfInBounds_toArray, List.set_cons_zero, List.set_cons_succ])
  refine step_appB (by rfl) _ _ 24 (by rfl) 75 _ 6 48 Try.underlying24 info75 rfl (by omega) (by omega) (g + 3) (.slice k4 l.length c4) l.length _ (by rfl) (ho4.drew.alloc _) w4.heap.size 1 1 #[I q.node, I q.handler, I q.count, I q.kind, I q.index, I n] 75 (by rfl) (heap_alloc_new w4.drew _) rfl rfl (by omega) (by omega) (by simp; omega) ?_
  intro g6 cap6 w6 hg6a hg6b hg6c ho6 hgr6 hB6
  have hB46 : Below (g + 3) w4 w6 := ((Below.refl _ w4).alloc (by omega) _).trans (show Below (g + 3) (w4.alloc _) w6 from ⟨hB6.os, hB6.tape, hB6.output, hB6.size, hB6.block⟩)
  have hT6 := hT4.kept hB46 (by omega)
  have hQ6 := hQ4.kept hB46 (by omega)
  have hr6 := hr4.kept hB46 (by omega)
  have hB6w : Below w.heap.size w w6 := hB4w.trans (hB46.mono (by have := Hg.out; omega))
  refine ⟨⟨hT6.cell, hQ6.cell⟩, ?_⟩
  have hans6 : AnsSl w6 (.slice (some ⟨g6, 0, none⟩) (l.length + 1) cap6) (putL l q n) := by
    have h := Flat.of_owns ho6
    unfold AnsSl putL
    rw [List.length_append, List.flatMap_append]
    exact h
  have HN := Lib.hid (refNormalF evs (putL l q n) (.slice k1 evs.length c1) (.slice (some ⟨g6, 0, none⟩) (l.length + 1) cap6) w6 (EvSl.kept H.out.1 hB6w (Nat.le_refl _)) hans6 hle (by simp [putL]; omega))
  clear hgr6 hB6 ho6 hans6 hcT hcQ hT4 hQ4
  (try simp only [Act.put, List.setIfInBounds_toArray, List.set_cons_zero, List.set_cons_succ])
  (refine wpOrd_take ?_ (by rfl) ?_ ?_; rotate_left; (intro w hSw; (try dsimp only at hSw); go_simp; try with_reducible rfl); (try simp only [Act.put, List.setIfInBounds_toArray, List.set_cons_zero, List.set_cons_succ]))
  refine wpOrd_move (fun K hK => ?_)
  go_simp
  go_at_call 32
  refine HN.out.mono ?_
  rintro e w8 ⟨ue, ua, rfl, hue, hua, hB8⟩
  obtain ⟨ke, ce, rfl, _⟩ := (Flat.of_owns hue).open
  obtain ⟨ka, ca, rfl, _⟩ := (Flat.of_owns hua).open
  have hr8 := hr6.kept hB8 hr6.lt
  have hz8 := hB8.size
  have hz6 := hB46.size
  have hBw8 := Below.then hB6w hB8
  refine hK.out _ _ ⟨(hT6.kept hB8 hT6.lt).cell, (hQ6.kept hB8 hQ6.lt).cell⟩ ?_
  clear hK K
  have r0 := hr8.cell 0
  have r1 := hr8.cell 1
  have fr0 := hr8.frozen 0
  have fr1 := hr8.frozen 1
  have HR := Lib.hid hr8
  have HBw := Lib.hid hBw8
  obtain ⟨r, er⟩ : ∃ r, r = normA (putL l q n) := ⟨_, rfl⟩
  rw [← er] at hua ⊢
  have Er := Lib.hid er
  clear er
  clear hr8 hBw8 hT6 hQ6 hr6 hB6w hB4w hr4
  (try simp only [Act.put, List.setIfInBounds_toArray, List.set_cons_zero, List.set_cons_succ])
  refine wpOrd_nil ?_
  go_wp2_with fail
  refine NoPanic.normal ?_
  go_wp2_with fail
  have hfin : Blk ((w8.setCell ⟨g + 1 + 1, 0, none⟩ (.slice ke evs.length ce)).setCell ⟨g + 1 + 1, 1, none⟩ (.slice ka r.length ca)) (g + 1 + 1) #[.slice ke evs.length ce, .slice ka r.length ca] := (HR.out.set 0 _).set 1 _
  have hgs : w8.grownBy ((w8.setCell ⟨g + 1 + 1, 0, none⟩ (.slice ke evs.length ce)).setCell ⟨g + 1 + 1, 1, none⟩ (.slice ka r.length ca)) (some (g + 1 + 1)) := (grown_set w8 ⟨g + 1 + 1, 0, none⟩ _).trans (grown_set _ ⟨g + 1 + 1, 1, none⟩ _)
  have hua' := hua.kept hgs (own_ne hua (by omega))
  have hue' := hue.kept hgs (own_ne hue (by omega))
  have hB9 := HBw.out.grown hgs (by have := HBw.out.size; omega) (fun j hj => by cases hj; have := Hg.out; omega)
  generalize (w8.setCell ⟨g + 1 + 1, 0, none⟩ (.slice ke evs.length ce)).setCell ⟨g + 1 + 1, 1, none⟩ (.slice ka r.length ca) = W5 at hfin hgs hua' hue' hB9 ⊢
  obtain ⟨t5, ht5⟩ := hfin
  have hr : ∀ tmps : Array Value, tmps.getD 6 undef = .pointer (some ⟨g + 1 + 1, 0, none⟩) → (results Try.f35 tmps).run Try.prog W5 = .ok (.agg #[.slice ke evs.length ce, .slice ka r.length ca]) W5 := fun tmps hp => results_cell_row Try.results35 tmps W5 (g + 1 + 1) t5 _ (0, 0) _ hp ht5 Try.underlying26 rfl (by kernel_rfl)
  refine bodyPost_ret (hr _ rfl) rfl ?_
  rw [← Er.out]
  exact ⟨_, _, _, _, rfl, owns_weaken hue' (by have := HBw.out.size; have := Hg.out; omega), owns_weaken hua' (by have := HBw.out.size; have := Hg.out; omega), hB9⟩
end Go.Proofs.Ytjdhcdbjfbhogaa
