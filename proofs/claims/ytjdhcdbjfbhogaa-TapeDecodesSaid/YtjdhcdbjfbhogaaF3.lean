/- The reference: Normal. -/
import Derived.Test.YtjdhcdbjfbhogaaF2
namespace Go.Proofs.Ytjdhcdbjfbhogaa
open Go.RowKit

set_option maxHeartbeats 4000000 in
set_option maxRecDepth 100000 in
theorem refNormalF (evs : List Ev) (l : List Ans) (ve va : Value) (w : World) (he : EvSl w ve evs) (ha : AnsSl w va l) (hle : evs.length ≤ 1000000) (hl : l.length ≤ 1000000) :
    Calls Try.prog 32 #[.agg #[ve, va]] w fun e w' => ∃ ue ua, e = .returned (.agg #[ue, ua]) ∧ w'.ownsRow w.heap.size 56 8 ue evs.length (evs.flatMap ec) ∧ w'.ownsRow w.heap.size 75 6 ua (normA l).length ((normA l).flatMap ac) ∧ Below w.heap.size w w' := by
  obtain ⟨ka, ca, rfl, hml⟩ := ha.open
  obtain ⟨ke0, ce0, rfl, _⟩ := he.open
  have hk0 : Kp2 w #[.slice ke0 evs.length ce0, .slice ka l.length ca] #[.slice none 0 0, .slice none 0 0] ((w.alloc (.cells #[.slice ke0 evs.length ce0, .slice ka l.length ca] 26)).alloc (.cells #[.slice none 0 0, .slice none 0 0] 26)) := Kp2.start w _ _ 26
  have hk1 := hk0.alloc (.cells #[.slice none 0 0, .slice none 0 0] 26)
  have hb3 := Blk.new ((w.alloc (.cells #[.slice ke0 evs.length ce0, .slice ka l.length ca] 26)).alloc (.cells #[.slice none 0 0, .slice none 0 0] 26)) #[.slice none 0 0, .slice none 0 0] 26
  simp only [World.size_alloc] at hb3
  have Hevs := Lib.hid (show Flat _ 8 _ _ (evs.flatMap ec) from EvSl.kept he hk1.2.2.1 (Nat.le_refl _))
  have hs0 : (((w.alloc (.cells #[.slice ke0 evs.length ce0, .slice ka l.length ca] 26)).alloc (.cells #[.slice none 0 0, .slice none 0 0] 26)).alloc (.cells #[.slice none 0 0, .slice none 0 0] 26)).heap.size = w.heap.size + 3 := by simp
  go_enter Try.func32, Try.ntmps32
  go_upto_region 3 with (at_builtin; go_must (refine wpList_appG rfl _ _ 23 rfl 56 _ 8 64 Try.underlying23 info56 rfl (by omega) (by omega) (w.heap.size + 3) _ 0 [] rfl (World.ownsRow_nil _ _ _ _) _ rfl evs.length _ Hevs.out (evs_one evs) (by omega) (Nat.le_of_eq hs0.symm) ?_); intro ue w1 hoe hgr hB1; obtain ⟨ke, ce, rfl, _⟩ := (Flat.of_owns hoe).open; have hb31 := hb3.kept hB1 (by omega); have c30 := hb31.cell 0; have f30 := hb31.frozen 0)
  have kp1 := hk1.call (show Below _ _ w1 from by rw [hs0]; exact hB1)
  rw [Nat.zero_add, List.nil_append] at hoe
  have hz1 := hB1.size
  rw [hs0] at hz1
  have hout1 := hb31.set 0 (.slice ke evs.length ce)
  have hbox1 := kp1.1.setOther ⟨w.heap.size + 1 + 1, 0, none⟩ (.slice ke evs.length ce) (by simp <;> omega)
  have hres1 := kp1.2.1.setOther ⟨w.heap.size + 1 + 1, 0, none⟩ (.slice ke evs.length ce) (by simp <;> omega)
  have hB2 : Below w.heap.size w (w1.setCell ⟨w.heap.size + 1 + 1, 0, none⟩ (.slice ke evs.length ce)) := kp1.2.2.1.setCell (by simp; omega) _
  have hoe2 := hoe.kept (grown_set w1 ⟨w.heap.size + 1 + 1, 0, none⟩ (.slice ke evs.length ce)) (by
        cases hv : (Value.slice ke evs.length ce).ownBlock with
        | none => exact .inl rfl
        | some g => exact .inr (fun e => by have := (hoe.lt g hv).1; simp at e; omega))
  have hs1 : (w1.setCell ⟨w.heap.size + 1 + 1, 0, none⟩ (.slice ke evs.length ce)).heap.size = w1.heap.size := by simp
  generalize w1.setCell ⟨w.heap.size + 1 + 1, 0, none⟩ (.slice ke evs.length ce) = w2 at hout1 hbox1 hres1 hB2 hoe2 hs1 ⊢
  have hout2 : Blk w2 (w.heap.size + 1 + 1) #[.slice ke evs.length ce, .slice none 0 0] := hout1
  have Hoe2 := Lib.hid hoe2
  have Hres2 := Lib.hid hres1
  have Ha := Lib.hid ha
  have Hbox2 := Lib.hid hbox1
  clear hoe hgr hB1 hb31 c30 f30 hout1 hbox1 hres1 hoe2 kp1 hk1 hk0 hb3 Hevs he ha
  go_wp2_with fail
  go_loopw [4] (fun i wr => ∃ (k : Nat) (v : Value), k ≤ l.length ∧ i = .int .i64 k ∧ Hid (wr.ownsRow w2.heap.size 75 6 v (foldA l (l.take k)).length ((foldA l (l.take k)).flatMap ac)) ∧ Blk wr (w.heap.size + 1 + 1) #[.slice ke evs.length ce, v] ∧ Hid (w2.grownBy wr (some (w.heap.size + 1 + 1)))) (fun i _ => l.length - (intOf i).toNat)
  case atStart => exact ⟨0, _, by omega, rfl, Lib.hid (World.ownsRow_nil _ _ _ _), hout2, Lib.hid (World.grownBy.refl _ _)⟩
  case round =>
    obtain ⟨k, v, hk, rfl, Hv, hblk, Hg⟩ := hrel
    have hzr := Hg.out.size
    have hbox : Blk wr w.heap.size #[.slice ke0 evs.length ce0, .slice ka l.length ca] := Hbox2.out.grown Hg.out (by simp <;> omega)
    have hBr : Below w.heap.size w wr := hB2.grown Hg.out (by omega) (fun g hg => by cases hg; omega)
    obtain ⟨kv, cv, rfl, _⟩ := (Flat.of_owns Hv.out).open
    by_cases hlt : k < l.length
    · obtain ⟨b, o, rfl, hr2⟩ := (AnsSl.kept Ha.out hBr (Nat.le_refl _)).at (i := k) (x := l[k]) (by simp [hlt])
      have hbw : b < wr.heap.size := by simpa using World.block_lt_of_cell? _ _ (hr2 0 _ rfl)
      have x0 : wr.cell? ⟨b, o + k * 6, none⟩ = _ := hr2 0 _ rfl
      have x1 := hr2 1 _ rfl
      have x2 := hr2 2 _ rfl
      have x3 := hr2 3 _ rfl
      have x4 := hr2 4 _ rfl
      have x5 := hr2 5 _ rfl
      have hboxc := hbox.cell
      have hfo := foldA_snoc l (l.take k) l[k]
      rw [← List.take_succ_eq_append_getElem hlt] at hfo
      have Hfo := Lib.hid hfo
      clear hr2 hfo
      have hGet := refGet l (.slice ke0 evs.length ce0) (.slice (some ⟨b, o, none⟩) l.length ca) l[k].q wr.drew (AnsSl.kept Ha.out hBr.drew (Nat.le_refl _))
      have HGet := Lib.hid hGet
      clear hGet
      go_upto_region 6 with fail
      refine wp_region_ordN 9 [(0, true), (1, true), (2, true), (3, true), (4, true), (5, true), (6, true), (7, false), (8, true)] (fun w' => (∀ j, w'.cell? ⟨w.heap.size, j, none⟩ = (#[.slice ke0 evs.length ce0, .slice (some ⟨b, o, none⟩) l.length ca] : Array Value)[j]?) ∧ (∀ j, w'.cell? ⟨w.heap.size + 1 + 1, j, none⟩ = (#[.slice ke evs.length ce, .slice kv (foldA l (l.take k)).length cv] : Array Value)[j]?) ∧ (∀ o, w'.cell? ⟨b, o, none⟩ = wr.cell? ⟨b, o, none⟩)) (by kernel_rfl) rfl rfl (by kernel_rfl) ⟨hbox.cell, hblk.cell, fun _ => rfl⟩ ?_
      iterate 7 (refine wpOrd_take ?_ (by rfl) ?_ ?_; rotate_left; (intro w hSw; (try dsimp only at hSw); go_simp; try with_reducible rfl); (try simp only [Act.put, List.setIfInBounds_toArray, List.set_cons_zero, List.set_cons_succ]))
      refine wpOrd_move (fun K hK => ?_)
      go_simp
      go_at_call 37
      refine HGet.out.mono ?_
      rintro e w3 ⟨rfl, hB3d⟩
      have hB3 : Below wr.heap.size wr w3 := ⟨hB3d.os, hB3d.tape, hB3d.output, hB3d.size, hB3d.block⟩
      have hbox3 := hbox.kept hB3 hbox.lt
      have hblk3 := hblk.kept hB3 hblk.lt
      refine hK.out _ _ ⟨hbox3.cell, hblk3.cell, fun o => bcell hB3 b o hbw⟩ ?_
      clear hK K
      (try simp only [Act.put, List.setIfInBounds_toArray, List.set_cons_zero, List.set_cons_succ])
      (refine wpOrd_take ?_ (by rfl) ?_ ?_; rotate_left; (intro w hSw; (try dsimp only at hSw); go_simp; try with_reducible rfl); (try simp only [Act.put, List.setIfInBounds_toArray, List.set_cons_zero, List.set_cons_succ]))
      refine wpOrd_nil ?_
      have y0 := (bcell hB3 b _ hbw).trans x0
      have y1 := (bcell hB3 b _ hbw).trans x1
      have y2 := (bcell hB3 b _ hbw).trans x2
      have y3 := (bcell hB3 b _ hbw).trans x3
      have y4 := (bcell hB3 b _ hbw).trans x4
      have hv3 := owns_below Hv.out hB3
      have hG3 := Hg.out.trans (grown_below hB3 (some (w.heap.size + 1 + 1)))
      have Hv3 := Lib.hid hv3
      have HG3 := Lib.hid hG3
      have hz3 := hB3.size
      obtain ⟨m, hm⟩ : ∃ m, m = getA l l[k].q := ⟨_, rfl⟩
      rw [← hm] at Hfo ⊢
      have Hm := Lib.hid hm
      clear hv3 hG3 x0 x1 x2 x3 x4 x5 hboxc HGet hB3d hm
      by_cases hpos : 0 < m
      · have p1 : decide (m > 0) = true := by simp [hpos]
        have Hpos := Lib.hid hpos
        have hfl : (foldA l (l.take k)).length ≤ 1000000 := Nat.le_trans (foldA_length _ _) (by simp; omega)
        have HPut := Lib.hid (refPut (foldA l (l.take k)) ⟨l[k].q, m⟩ w2.heap.size (.slice kv (foldA l (l.take k)).length cv) w3.drew Hv3.out (by simp; omega) hfl)
        clear hpos
        go_wp2_with fail
        refine NoPanic.normal ?_
        go_upto_region 8 with fail
        refine wp_region_ordN 11 [(0, true), (1, true), (2, true), (3, true), (4, true), (5, true), (6, true), (7, true), (8, true), (9, true), (10, false)] (fun w' => (∀ j, w'.cell? ⟨w.heap.size, j, none⟩ = (#[.slice ke0 evs.length ce0, .slice (some ⟨b, o, none⟩) l.length ca] : Array Value)[j]?) ∧ (∀ j, w'.cell? ⟨w.heap.size + 1 + 1, j, none⟩ = (#[.slice ke evs.length ce, .slice kv (foldA l (l.take k)).length cv] : Array Value)[j]?) ∧ (∀ o, w'.cell? ⟨b, o, none⟩ = w3.cell? ⟨b, o, none⟩)) (by kernel_rfl) rfl rfl (by kernel_rfl) ⟨hbox3.cell, hblk3.cell, fun _ => rfl⟩ ?_
        iterate 10 (refine wpOrd_take ?_ (by rfl) ?_ ?_; rotate_left; (intro w hSw; (try dsimp only at hSw); go_simp; try with_reducible rfl); (try simp only [Act.put, List.setIfInBounds_toArray, List.set_cons_zero, List.set_cons_succ]))
        refine wpOrd_move (fun K hK => ?_)
        go_simp
        go_at_call 66
        refine HPut.out.mono ?_
        rintro e w5 ⟨u, rfl, ho5, hB5d⟩
        obtain ⟨k5, c5, rfl, _⟩ := (Flat.of_owns ho5).open
        have hB5 : Below w3.heap.size w3 w5 := ⟨hB5d.os, hB5d.tape, hB5d.output, hB5d.size, hB5d.block⟩
        have hbox5 := hbox3.kept hB5 hbox3.lt
        have hblk5 := hblk3.kept hB5 hblk3.lt
        refine hK.out _ _ ⟨hbox5.cell, hblk5.cell, fun o => bcell hB5 b o (by omega)⟩ ?_
        clear hK K
        (try simp only [Act.put, List.setIfInBounds_toArray, List.set_cons_zero, List.set_cons_succ])
        refine wpOrd_nil ?_
        have hG5 := (HG3.out.trans (grown_below hB5 (some (w.heap.size + 1 + 1)))).trans (grown_set w5 ⟨w.heap.size + 1 + 1, 1, none⟩ (.slice k5 (putA (foldA l (l.take k)) ⟨l[k].q, m⟩).length c5))
        have hS5 := hblk5.set 1 (.slice k5 (putA (foldA l (l.take k)) ⟨l[k].q, m⟩).length c5)
        have ho5' := ho5.kept (grown_set w5 ⟨w.heap.size + 1 + 1, 1, none⟩ (.slice k5 (putA (foldA l (l.take k)) ⟨l[k].q, m⟩).length c5)) (by
          cases hv : (Value.slice k5 (putA (foldA l (l.take k)) ⟨l[k].q, m⟩).length c5).ownBlock with
          | none => exact .inl rfl
          | some g => exact .inr (fun e => by have := (ho5.lt g hv).1; simp at e; omega))
        have HG5 := Lib.hid hG5
        have HS5 := Lib.hid hS5
        have Ho5 := Lib.hid ho5'
        have c51 := hblk5.cell 1
        have f51 := hblk5.frozen 1
        clear hG5 hS5 ho5' ho5 HPut
        go_wp2_with fail
        refine NoPanic.normal ?_
        go_wp2_with fail
        go_roundw
        case rel => exact ⟨k + 1, _, by omega, by go_num, Lib.hid (by rw [Hfo.out, if_pos Hpos.out]; exact Ho5.out), HS5.out, HG5⟩
        case measure => simp [intOf]; omega
      · have p1 : decide (m > 0) = false := by simp; omega
        have Hpos := Lib.hid hpos
        clear hpos
        go_wp2_with fail
        refine NoPanic.normal ?_
        go_wp2_with fail
        go_roundw
        case rel => exact ⟨k + 1, .slice kv (foldA l (l.take k)).length cv, by omega, by go_num, Lib.hid (by rw [Hfo.out, if_neg (by have := Hpos.out; omega)]; exact Hv3.out), hblk3, HG3⟩
        case measure => simp [intOf]; omega
    · obtain rfl : k = l.length := by omega
      have hres : Blk wr (w.heap.size + 1) #[.slice none 0 0, .slice none 0 0] := Hres2.out.grown Hg.out (by simp <;> omega)
      have hboxc := hbox.cell
      have c0 := hblk.cell 0
      have c1 := hblk.cell 1
      have r0 := hres.cell 0
      have r1 := hres.cell 1
      have fr0 := hres.frozen 0
      have fr1 := hres.frozen 1
      have Hres := Lib.hid hres
      clear hres hblk
      go_wp2_with fail
      have hfin : Blk ((wr.setCell ⟨w.heap.size + 1, 0, none⟩ (.slice ke evs.length ce)).setCell ⟨w.heap.size + 1, 1, none⟩ (.slice kv (foldA l (l.take l.length)).length cv)) (w.heap.size + 1) #[.slice ke evs.length ce, .slice kv (foldA l (l.take l.length)).length cv] := (Hres.out.set 0 _).set 1 _
      have hgs : wr.grownBy ((wr.setCell ⟨w.heap.size + 1, 0, none⟩ (.slice ke evs.length ce)).setCell ⟨w.heap.size + 1, 1, none⟩ (.slice kv (foldA l (l.take l.length)).length cv)) (some (w.heap.size + 1)) := (grown_set wr ⟨w.heap.size + 1, 0, none⟩ _).trans (grown_set _ ⟨w.heap.size + 1, 1, none⟩ _)
      have hua := Hv.out.kept hgs (by
        cases hv : (Value.slice kv (foldA l (l.take l.length)).length cv).ownBlock with
        | none => exact .inl rfl
        | some g => exact .inr (fun e => by have := (Hv.out.lt g hv).1; simp at e; omega))
      have hue := (Hoe2.out.kept Hg.out (by
        cases hv : (Value.slice ke evs.length ce).ownBlock with
        | none => exact .inl rfl
        | some g => exact .inr (fun e => by have := (Hoe2.out.lt g hv).1; simp at e; omega))).kept hgs (by
        cases hv : (Value.slice ke evs.length ce).ownBlock with
        | none => exact .inl rfl
        | some g => exact .inr (fun e => by have := (Hoe2.out.lt g hv).1; simp at e; omega))
      have hB5 : Below w.heap.size w ((wr.setCell ⟨w.heap.size + 1, 0, none⟩ (.slice ke evs.length ce)).setCell ⟨w.heap.size + 1, 1, none⟩ (.slice kv (foldA l (l.take l.length)).length cv)) := hBr.grown hgs (by omega) (fun g hg => by cases hg; omega)
      have hnn : foldA l (l.take l.length) = normA l := by rw [List.take_of_length_le (Nat.le_refl _)]; rfl
      rw [hnn] at hua hfin hgs hue hB5
      rw [show foldA l l = normA l from rfl]
      generalize ((wr.setCell ⟨w.heap.size + 1, 0, none⟩ (.slice ke evs.length ce)).setCell ⟨w.heap.size + 1, 1, none⟩ (.slice kv (normA l).length cv)) = W5 at hfin hgs hua hue hB5 ⊢
      obtain ⟨t5, ht5⟩ := hfin
      have hr : ∀ tmps : Array Value, tmps.getD 2 undef = .pointer (some ⟨w.heap.size + 1, 0, none⟩) → (results Try.f32 tmps).run Try.prog W5 = .ok (.agg #[.slice ke evs.length ce, .slice kv (normA l).length cv]) W5 := fun tmps hp => results_cell_row Try.results32 tmps W5 (w.heap.size + 1) t5 _ (0, 0) _ hp ht5 Try.underlying26 rfl (by kernel_rfl)
      refine bodyPost_ret (hr _ rfl) rfl ?_
      exact ⟨_, _, rfl, owns_weaken hue (by omega), owns_weaken hua (by omega), hB5⟩

end Go.Proofs.Ytjdhcdbjfbhogaa
