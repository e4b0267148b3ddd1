/- The reference's Without. -/
import Derived.Test.YtjdhcdbjfbhogaaX4
import Derived.Test.YtjdhcdbjfbhogaaX2
namespace Go.Proofs.Ytjdhcdbjfbhogaa
open Go.RowKit

theorem dropAt_take {α : Type} (ps : List Int) (l : List α) (i k : Nat) (h : k < l.length) : dropAt ps i (l.take (k + 1)) = dropAt ps i (l.take k) ++ if ((i + k : Nat) : Int) ∈ ps then [] else [l[k]] := by
  unfold dropAt
  rw [dropP_take _ l i k h]
  by_cases e : ((i + k : Nat) : Int) ∈ ps <;> simp
theorem dropAt_yes {α : Type} {ps : List Int} {l : List α} {i k : Nat} (h : k < l.length) (e : ((i + k : Nat) : Int) ∈ ps) : dropAt ps i (l.take (k + 1)) = dropAt ps i (l.take k) := by
  rw [dropAt_take ps l i k h, if_pos e, List.append_nil]
theorem dropAt_no {α : Type} {ps : List Int} {l : List α} {i k : Nat} (h : k < l.length) (e : ¬ ((i + k : Nat) : Int) ∈ ps) : dropAt ps i (l.take (k + 1)) = dropAt ps i (l.take k) ++ [l[k]] := by
  rw [dropAt_take ps l i k h, if_neg e]

set_option maxHeartbeats 2000000 in
set_option maxRecDepth 100000 in
theorem refWithout (evs : List Ev) (l : List Ans) (ps : List Int) (ve va vp : Value) (w : World) (he : EvSl w ve evs) (ha : AnsSl w va l) (hp : IntSl w vp ps) (hle : evs.length ≤ 1000000) (hl : l.length ≤ 1000000) :
    Calls Try.prog 41 #[.agg #[ve, va], vp] w fun e w' => ∃ ue ua, e = .returned (.agg #[ue, ua]) ∧ w'.ownsRow w.heap.size 56 8 ue (dropAt ps 0 evs).length ((dropAt ps 0 evs).flatMap ec) ∧ w'.ownsRow w.heap.size 75 6 ua (dropAt ps evs.length (normA l)).length ((dropAt ps evs.length (normA l)).flatMap ac) ∧ Below w.heap.size w w' := by
  have hB0 : Below w.heap.size w ((w.alloc (.cells #[ve, va] 26)).alloc (.cells #[.slice none 0 0, .slice none 0 0] 26)) := (by repeat (first | exact Below.refl _ _ | assumption | refine Below.drew ?_ | refine below_drewN ?_ _ | refine Below.alloc ?_ (by simp <;> omega) _ | refine Below.setCell ?_ (by simp <;> omega) _))
  have hz0 : ((w.alloc (.cells #[ve, va] 26)).alloc (.cells #[.slice none 0 0, .slice none 0 0] 26)).heap.size = w.heap.size + 2 := by simp
  have hr0 : Blk ((w.alloc (.cells #[ve, va] 26)).alloc (.cells #[.slice none 0 0, .slice none 0 0] 26)) (w.heap.size + 1) #[.slice none 0 0, .slice none 0 0] := by
    have := Blk.new (w.alloc (.cells #[ve, va] 26)) #[.slice none 0 0, .slice none 0 0] 26
    simpa using this
  have HN := Lib.hid (refNormalF evs l ve va _ (he.kept hB0 (Nat.le_refl _)) (ha.kept hB0 (Nat.le_refl _)) hle hl)
  have hnl := normA_length l
  have Hp := Lib.hid hp
  obtain ⟨kp, cp, rfl, _⟩ := hp.open
  clear he ha hp
  generalize normA l = r at HN hnl ⊢
  go_enter Try.func41, Try.ntmps41
  go_upto_region 3 with (go_at_call 32; refine HN.out.mono ?_; rintro e w1 ⟨ue, ua, rfl, hue, hua, hB1⟩; obtain ⟨ke, ce, rfl, _⟩ := (Flat.of_owns hue).open; obtain ⟨ka, ca, rfl, _⟩ := (Flat.of_owns hua).open)
  have hzg : w.heap.size + 2 ≤ w1.heap.size := by have := hB1.size; omega
  have hb2 : Blk ((w1.alloc (.cells #[.slice ke evs.length ce, .slice ka r.length ca] 26)).alloc (.cells #[.slice none 0 0, .slice none 0 0] 26)) w1.heap.size #[.slice ke evs.length ce, .slice ka r.length ca] := (Blk.new _ _ _).alloc _
  have hr2 : Blk ((w1.alloc (.cells #[.slice ke evs.length ce, .slice ka r.length ca] 26)).alloc (.cells #[.slice none 0 0, .slice none 0 0] 26)) (w1.heap.size + 1) #[.slice none 0 0, .slice none 0 0] := by
    have := Blk.new (w1.alloc (.cells #[.slice ke evs.length ce, .slice ka r.length ca] 26)) #[.slice none 0 0, .slice none 0 0] 26
    simpa using this
  have hs2 : ((w1.alloc (.cells #[.slice ke evs.length ce, .slice ka r.length ca] 26)).alloc (.cells #[.slice none 0 0, .slice none 0 0] 26)).heap.size = w1.heap.size + 2 := by simp
  have hres2 := ((hr0.kept hB1 (by omega)).alloc (.cells #[.slice ke evs.length ce, .slice ka r.length ca] 26)).alloc (.cells #[.slice none 0 0, .slice none 0 0] 26)
  have hue2 := (hue.alloc (.cells #[.slice ke evs.length ce, .slice ka r.length ca] 26)).alloc (.cells #[.slice none 0 0, .slice none 0 0] 26)
  have hua2 := (hua.alloc (.cells #[.slice ke evs.length ce, .slice ka r.length ca] 26)).alloc (.cells #[.slice none 0 0, .slice none 0 0] 26)
  have hB12 : Below w1.heap.size w1 ((w1.alloc (.cells #[.slice ke evs.length ce, .slice ka r.length ca] 26)).alloc (.cells #[.slice none 0 0, .slice none 0 0] 26)) := (by repeat (first | exact Below.refl _ _ | assumption | refine Below.drew ?_ | refine below_drewN ?_ _ | refine Below.alloc ?_ (by simp <;> omega) _ | refine Below.setCell ?_ (by simp <;> omega) _))
  have hB2 := hB0.trans ((hB1.mono (by omega)).trans (hB12.mono (by omega)))
  have hueL : ∀ j, (Value.slice ke evs.length ce).ownBlock = some j → j < w1.heap.size := fun j h => (hue.lt j h).2
  have huaL : ∀ j, (Value.slice ka r.length ca).ownBlock = some j → j < w1.heap.size := fun j h => (hua.lt j h).2
  generalize (w1.alloc (.cells #[.slice ke evs.length ce, .slice ka r.length ca] 26)).alloc (.cells #[.slice none 0 0, .slice none 0 0] 26) = w2 at hb2 hr2 hs2 hres2 hue2 hua2 hB2 hB12 ⊢
  generalize w1.heap.size = g at hzg hb2 hr2 hs2 hres2 hue2 hua2 hB2 hB12 hueL huaL ⊢
  have Hb2 := Lib.hid hb2
  have Hres2 := Lib.hid hres2
  have Hue2 := Lib.hid (fun (wr : World) (hg : w2.grownBy wr (some (g + 1))) => show EvSl wr (.slice ke evs.length ce) evs from Flat.of_owns (hue2.kept hg (by
    cases hv : (Value.slice ke evs.length ce).ownBlock with
    | none => exact .inl rfl
    | some j => exact .inr (fun e => by have := hueL j hv; simp at e; omega))))
  have Hua2 := Lib.hid (fun (wr : World) (hg : w2.grownBy wr (some (g + 1))) => show AnsSl wr (.slice ka r.length ca) r from Flat.of_owns (hua2.kept hg (by
    cases hv : (Value.slice ka r.length ca).ownBlock with
    | none => exact .inl rfl
    | some j => exact .inr (fun e => by have := huaL j hv; simp at e; omega))))
  have HB2 := Lib.hid hB2
  clear hb2 hres2 hue2 hua2 hue hua hB2 hB12 HN hueL huaL hB1 hB0 hz0 hr0
  go_wp2_with fail
  go_loopw [7] (fun i wr => ∃ (k : Nat) (v : Value), k ≤ evs.length ∧ i = .int .i64 k ∧ Hid (wr.ownsRow w2.heap.size 56 8 v (dropAt ps 0 (evs.take k)).length ((dropAt ps 0 (evs.take k)).flatMap ec)) ∧ Blk wr (g + 1) #[v, .slice none 0 0] ∧ Hid (w2.grownBy wr (some (g + 1)))) (fun i _ => evs.length - (intOf i).toNat)
  case atStart => exact ⟨0, _, by omega, rfl, Lib.hid (World.ownsRow_nil _ _ _ _), hr2, Lib.hid (World.grownBy.refl _ _)⟩
  case round =>
    obtain ⟨k, v, hk, rfl, Hv, hblk, Hg⟩ := hrel
    have hzr := Hg.out.size
    have hall : Blk wr g #[.slice ke evs.length ce, .slice ka r.length ca] := Hb2.out.grown Hg.out (by simp <;> omega)
    have c0 := hall.cell 0
    have hBr : Below w.heap.size w wr := HB2.out.grown Hg.out (by omega) (fun j hj => by cases hj; omega)
    have Hh := Lib.hid (has_any ps k _ wr (IntSl.kept Hp.out hBr (Nat.le_refl _)))
    by_cases hlt : k < evs.length
    · by_cases hin : (k : Int) ∈ ps
      · have hin2 : decide ((k : Int) ∈ ps) = true := by simp [hin]
        have HD := Lib.hid (dropAt_yes (i := 0) hlt (by simpa using hin))
        go_wp2_with (go_at_call 42; refine Hh.out.mono ?_; rintro e w3 ⟨rfl, rfl⟩)
        go_roundw
        case rel => exact ⟨k + 1, v, by omega, by go_num, Lib.hid (by rw [HD.out]; exact Hv.out), hblk, Hg⟩
        case measure => simp [intOf]; omega
      · have hin2 : decide ((k : Int) ∈ ps) = false := by simp [hin]
        have HD := Lib.hid (dropAt_no (i := 0) hlt (by simpa using hin))
        have hdl : (dropAt ps 0 (evs.take k)).length ≤ 1000000 := Nat.le_trans (dropP_length _ _ _) (by simp; omega)
        obtain ⟨b, o, rfl, hr⟩ := EvSl.at (Hue2.out wr Hg.out) (i := k) (x := evs[k]) (by simp [hlt])
        have hbw : b < wr.heap.size := by simpa using World.block_lt_of_cell? _ _ (hr 0 _ rfl)
        have hb2l : b < w2.heap.size := by
          obtain ⟨b', o', e', hr'⟩ := EvSl.at (Hue2.out w2 (World.grownBy.refl _ _)) (i := k) (x := evs[k]) (by simp [hlt])
          simp at e'
          obtain ⟨rfl, rfl⟩ := e'
          simpa using World.block_lt_of_cell? _ _ (hr' 0 _ rfl)
        have x0 : wr.cell? ⟨b, o + k * 8, none⟩ = _ := hr 0 _ rfl
        have x1 := hr 1 _ rfl
        have x2 := hr 2 _ rfl
        have x3 := hr 3 _ rfl
        have x4 := hr 4 _ rfl
        have x5 := hr 5 _ rfl
        have x6 := hr 6 _ rfl
        have x7 := hr 7 _ rfl
        obtain ⟨kv, cv, rfl, _⟩ := (Flat.of_owns Hv.out).open
        obtain ⟨N, hN⟩ : ∃ N, N = (dropAt ps 0 (evs.take k)).length := ⟨_, rfl⟩
        rw [← hN] at hblk hdl Hv
        have HN := Lib.hid hN
        clear hr hin hN
        go_upto_region 7 with (go_at_call 42; refine Hh.out.mono ?_; rintro e w3 ⟨rfl, rfl⟩)
        refine wp_region_ordN 9 [(0, true), (1, true), (2, true), (3, true), (4, true), (5, true), (6, true), (7, false), (8, false)] (fun w' => (∀ j, w'.cell? ⟨g + 1, j, none⟩ = (#[.slice kv N cv, .slice none 0 0] : Array Value)[j]?) ∧ (∀ j, w'.cell? ⟨g, j, none⟩ = (#[.slice (some ⟨b, o, none⟩) evs.length ce, .slice ka r.length ca] : Array Value)[j]?) ∧ (∀ o, w'.cell? ⟨b, o, none⟩ = wr.cell? ⟨b, o, none⟩)) (by kernel_rfl) rfl rfl (by kernel_rfl) ⟨hblk.cell, hall.cell, fun _ => rfl⟩ ?_
        iterate 7 (refine wpOrd_take ?_ (by rfl) ?_ ?_; rotate_left; (intro w hSw; (try dsimp only at hSw); go_simp; try with_reducible rfl); (try simp only [Act.put, List.setIfInBounds_toArray, List.set_cons_zero, List.set_cons_succ]))
        refine wpOrd_move (fun K hK => ?_)
        go_simp
        refine hK.out _ _ ⟨(hblk.drew.alloc _).cell, (hall.drew.alloc _).cell, fun o => (by show (wr.alloc _).cell? _ = _; exact World.cell?_alloc_past _ _ _ (by simpa using hbw))⟩ ?_
        clear hK K
        (try simp only [Act.put, List.setIfInBounds_toArray, List.set_cons_zero, List.set_cons_succ])
        have hvB : ∀ k', (Value.slice kv N cv).ownBlock = some k' → w2.heap.size ≤ k' := fun k' h' => (Hv.out.lt k' h').1
        refine step_appB (by rfl) _ _ 23 (by rfl) 56 _ 8 64 Try.underlying23 info56 rfl (by omega) (by omega) w2.heap.size (.slice kv N cv) N _ (by rfl) (Hv.out.drew.alloc _) wr.heap.size 1 1 #[I evs[k].kind, I evs[k].node, I evs[k].arg, I evs[k].msg.node, I evs[k].msg.handler, I evs[k].msg.count, I evs[k].msg.index, I evs[k].msg.copy] 56 (by rfl) (heap_alloc_new wr.drew _) rfl rfl (by omega) (by omega) (by simp; omega) ?_
        intro g6 cap6 w6 hg6a hg6b hg6c ho6 hgr6 hB6
        have hblk6 : Blk w6 (g + 1) #[.slice kv N cv, .slice none 0 0] := (hblk.drew.alloc _).grown hgr6 (fun e => by have := hvB _ e; omega)
        have hall6 : Blk w6 g #[.slice (some ⟨b, o, none⟩) evs.length ce, .slice ka r.length ca] := (hall.drew.alloc _).grown hgr6 (fun e => by have := hvB _ e; omega)
        have hGd : w2.grownBy (wr.drew.alloc (.cells #[I evs[k].kind, I evs[k].node, I evs[k].arg, I evs[k].msg.node, I evs[k].msg.handler, I evs[k].msg.count, I evs[k].msg.index, I evs[k].msg.copy] 56)) (some (g + 1)) := by
          have h := Hg.out.trans (World.grownBy_alloc wr (.cells #[I evs[k].kind, I evs[k].node, I evs[k].arg, I evs[k].msg.node, I evs[k].msg.handler, I evs[k].msg.count, I evs[k].msg.index, I evs[k].msg.copy] 56) (some (g + 1)))
          exact ⟨h.os, h.tape, h.output, h.size, h.block⟩
        have hG6 : w2.grownBy w6 (some (g + 1)) := World.grownBy.andThen hGd hgr6 (fun j hj => .inl (hvB j hj))
        have hbc : ∀ o', w6.cell? ⟨b, o', none⟩ = wr.cell? ⟨b, o', none⟩ := fun o' => by
          refine (hgr6.cell_far ⟨b, o', none⟩ (by simp; omega) (fun e => by have := hvB b e.symm; omega)).trans ?_
          show (wr.alloc _).cell? _ = _
          exact World.cell?_alloc_past _ _ _ (by simpa using hbw)
        refine ⟨⟨hblk6.cell, hall6.cell, hbc⟩, ?_⟩
        have HS6 := Lib.hid (hblk6.set 0 (.slice (some ⟨g6, 0, none⟩) (N + 1) cap6))
        have HO7 := Lib.hid (ho6.kept (grown_set w6 ⟨g + 1, 0, none⟩ (.slice (some ⟨g6, 0, none⟩) (N + 1) cap6)) (.inr (by simp [Value.ownBlock]; omega)))
        have HG7 := Lib.hid (hG6.trans (grown_set w6 ⟨g + 1, 0, none⟩ (.slice (some ⟨g6, 0, none⟩) (N + 1) cap6)))
        have c61 := hblk6.cell 0
        have f61 := hblk6.frozen 0
        clear hbc hG6 hGd hall6 hblk6 hB6 hgr6 ho6 hvB
        (try simp only [Act.put, List.setIfInBounds_toArray, List.set_cons_zero, List.set_cons_succ])
        refine wpOrd_nil ?_
        go_wp2_with fail
        refine NoPanic.normal ?_
        go_wp2_with fail
        go_roundw
        case rel => exact ⟨k + 1, _, by omega, by go_num, Lib.hid (by rw [HD.out, List.length_append, List.flatMap_append, ← HN.out]; exact HO7.out), HS6.out, HG7⟩
        case measure => simp [intOf]; omega
    · obtain rfl : k = evs.length := by omega
      obtain ⟨wo, rfl⟩ : ∃ wo, wo = wr := ⟨_, rfl⟩
      have hve := Hv.out
      rw [List.take_of_length_le (Nat.le_refl _)] at hve
      obtain ⟨kv, cv, rfl, _⟩ := (Flat.of_owns hve).open
      have HBr := Lib.hid hBr
      obtain ⟨N, hN⟩ : ∃ N, N = (dropAt ps 0 evs).length := ⟨_, rfl⟩
      rw [← hN] at hve hblk
      have Hve := Lib.hid hve
      have HNe := Lib.hid hN
      clear hve Hv Hh hBr hN
      go_wp2_with fail
      go_loopw [8] (fun i wr => ∃ (k : Nat) (v : Value), k ≤ r.length ∧ i = .int .i64 k ∧ Hid (wr.ownsRow wo.heap.size 75 6 v (dropAt ps evs.length (r.take k)).length ((dropAt ps evs.length (r.take k)).flatMap ac)) ∧ Blk wr (g + 1) #[.slice kv N cv, v] ∧ Hid (wo.grownBy wr (some (g + 1)))) (fun i _ => r.length - (intOf i).toNat)
      case atStart => exact ⟨0, _, by omega, rfl, Lib.hid (World.ownsRow_nil _ _ _ _), hblk, Lib.hid (World.grownBy.refl _ _)⟩
      case round =>
        clear hblk
        obtain ⟨k, v, hk, rfl, Hv, hblk, Hg2⟩ := hrel
        have hzr2 := Hg2.out.size
        have hG2a := Hg.out.trans Hg2.out
        have hall : Blk wr g #[.slice ke evs.length ce, .slice ka r.length ca] := Hb2.out.grown hG2a (by simp <;> omega)
        have c0 := hall.cell 0
        have c1 := hall.cell 1
        have hBr : Below w.heap.size w wr := HB2.out.grown hG2a (by omega) (fun j hj => by cases hj; omega)
        have Hh := Lib.hid (has_any ps ((evs.length : Int) + k) _ wr (IntSl.kept Hp.out hBr (Nat.le_refl _)))
        have HG2a := Lib.hid hG2a
        clear hG2a
        by_cases hlt : k < r.length
        · by_cases hin : ((evs.length : Int) + k) ∈ ps
          · have hin2 : decide (((evs.length : Int) + k) ∈ ps) = true := by simp [hin]
            have HD := Lib.hid (dropAt_yes (i := evs.length) hlt (by simpa using hin))
            go_wp2_with (go_at_call 42; refine Hh.out.mono ?_; rintro e w3 ⟨rfl, rfl⟩)
            go_roundw
            case rel => exact ⟨k + 1, v, by omega, by go_num, Lib.hid (by rw [HD.out]; exact Hv.out), hblk, Hg2⟩
            case measure => simp [intOf]; omega
          · have hin2 : decide (((evs.length : Int) + k) ∈ ps) = false := by simp [hin]
            have HD := Lib.hid (dropAt_no (i := evs.length) hlt (by simpa using hin))
            have hdl : (dropAt ps evs.length (r.take k)).length ≤ 1000000 := Nat.le_trans (dropP_length _ _ _) (by simp; omega)
            obtain ⟨b, o, rfl, hr⟩ := AnsSl.at (Hua2.out wr HG2a.out) (i := k) (x := r[k]) (by simp [hlt])
            have hbw : b < wr.heap.size := by simpa using World.block_lt_of_cell? _ _ (hr 0 _ rfl)
            have hb2l : b < w2.heap.size := by
              obtain ⟨b', o', e', hr'⟩ := AnsSl.at (Hua2.out w2 (World.grownBy.refl _ _)) (i := k) (x := r[k]) (by simp [hlt])
              simp at e'
              obtain ⟨rfl, rfl⟩ := e'
              simpa using World.block_lt_of_cell? _ _ (hr' 0 _ rfl)
            have x0 : wr.cell? ⟨b, o + k * 6, none⟩ = _ := hr 0 _ rfl
            have x1 := hr 1 _ rfl
            have x2 := hr 2 _ rfl
            have x3 := hr 3 _ rfl
            have x4 := hr 4 _ rfl
            have x5 := hr 5 _ rfl
            obtain ⟨kw, cw, rfl, _⟩ := (Flat.of_owns Hv.out).open
            obtain ⟨M, hM⟩ : ∃ M, M = (dropAt ps evs.length (r.take k)).length := ⟨_, rfl⟩
            rw [← hM] at hblk hdl Hv
            have HM := Lib.hid hM
            clear hr hin hM
            go_upto_region 12 with (go_at_call 42; refine Hh.out.mono ?_; rintro e w3 ⟨rfl, rfl⟩)
            refine wp_region_ordN 9 [(0, true), (1, true), (2, true), (3, true), (4, true), (5, true), (6, true), (7, false), (8, false)] (fun w' => (∀ j, w'.cell? ⟨g + 1, j, none⟩ = (#[.slice kv N cv, .slice kw M cw] : Array Value)[j]?) ∧ (∀ j, w'.cell? ⟨g, j, none⟩ = (#[.slice ke evs.length ce, .slice (some ⟨b, o, none⟩) r.length ca] : Array Value)[j]?) ∧ (∀ o, w'.cell? ⟨b, o, none⟩ = wr.cell? ⟨b, o, none⟩)) (by kernel_rfl) rfl rfl (by kernel_rfl) ⟨hblk.cell, hall.cell, fun _ => rfl⟩ ?_
            iterate 7 (refine wpOrd_take ?_ (by rfl) ?_ ?_; rotate_left; (intro w hSw; (try dsimp only at hSw); go_simp; try with_reducible rfl); (try simp only [Act.put, List.setIfInBounds_toArray, List.set_cons_zero, List.set_cons_succ]))
            refine wpOrd_move (fun K hK => ?_)
            go_simp
            refine hK.out _ _ ⟨(hblk.drew.alloc _).cell, (hall.drew.alloc _).cell, fun o => (by show (wr.alloc _).cell? _ = _; exact World.cell?_alloc_past _ _ _ (by simpa using hbw))⟩ ?_
            clear hK K
            (try simp only [Act.put, List.setIfInBounds_toArray, List.set_cons_zero, List.set_cons_succ])
            have hvB : ∀ k', (Value.slice kw M cw).ownBlock = some k' → wo.heap.size ≤ k' := fun k' h' => (Hv.out.lt k' h').1
            refine step_appB (by rfl) _ _ 24 (by rfl) 75 _ 6 48 Try.underlying24 info75 rfl (by omega) (by omega) wo.heap.size (.slice kw M cw) M _ (by rfl) (Hv.out.drew.alloc _) wr.heap.size 1 1 #[I r[k].q.node, I r[k].q.handler, I r[k].q.count, I r[k].q.kind, I r[k].q.index, I r[k].n] 75 (by rfl) (heap_alloc_new wr.drew _) rfl rfl (by omega) (by omega) (by simp; omega) ?_
            intro g6 cap6 w6 hg6a hg6b hg6c ho6 hgr6 hB6
            have hblk6 : Blk w6 (g + 1) #[.slice kv N cv, .slice kw M cw] := (hblk.drew.alloc _).grown hgr6 (fun e => by have := hvB _ e; omega)
            have hall6 : Blk w6 g #[.slice ke evs.length ce, .slice (some ⟨b, o, none⟩) r.length ca] := (hall.drew.alloc _).grown hgr6 (fun e => by have := hvB _ e; omega)
            have hGd : wo.grownBy (wr.drew.alloc (.cells #[I r[k].q.node, I r[k].q.handler, I r[k].q.count, I r[k].q.kind, I r[k].q.index, I r[k].n] 75)) (some (g + 1)) := by
              have h := Hg2.out.trans (World.grownBy_alloc wr (.cells #[I r[k].q.node, I r[k].q.handler, I r[k].q.count, I r[k].q.kind, I r[k].q.index, I r[k].n] 75) (some (g + 1)))
              exact ⟨h.os, h.tape, h.output, h.size, h.block⟩
            have hG6 : wo.grownBy w6 (some (g + 1)) := World.grownBy.andThen hGd hgr6 (fun j hj => .inl (hvB j hj))
            have hbc : ∀ o', w6.cell? ⟨b, o', none⟩ = wr.cell? ⟨b, o', none⟩ := fun o' => by
              refine (hgr6.cell_far ⟨b, o', none⟩ (by simp; omega) (fun e => by have := hvB b e.symm; omega)).trans ?_
              show (wr.alloc _).cell? _ = _
              exact World.cell?_alloc_past _ _ _ (by simpa using hbw)
            refine ⟨⟨hblk6.cell, hall6.cell, hbc⟩, ?_⟩
            have HS6 := Lib.hid (hblk6.set 1 (.slice (some ⟨g6, 0, none⟩) (M + 1) cap6))
            have HO7 := Lib.hid (ho6.kept (grown_set w6 ⟨g + 1, 1, none⟩ (.slice (some ⟨g6, 0, none⟩) (M + 1) cap6)) (.inr (by simp [Value.ownBlock]; omega)))
            have HG7 := Lib.hid (hG6.trans (grown_set w6 ⟨g + 1, 1, none⟩ (.slice (some ⟨g6, 0, none⟩) (M + 1) cap6)))
            have c61 := hblk6.cell 1
            have f61 := hblk6.frozen 1
            clear hbc hG6 hGd hall6 hblk6 hB6 hgr6 ho6 hvB
            (try simp only [Act.put, List.setIfInBounds_toArray, List.set_cons_zero, List.set_cons_succ])
            refine wpOrd_nil ?_
            go_wp2_with fail
            refine NoPanic.normal ?_
            go_wp2_with fail
            go_roundw
            case rel => exact ⟨k + 1, _, by omega, by go_num, Lib.hid (by rw [HD.out, List.length_append, List.flatMap_append, ← HM.out]; exact HO7.out), HS6.out, HG7⟩
            case measure => simp [intOf]; omega
        · obtain rfl : k = r.length := by omega
          have hua := Hv.out
          rw [List.take_of_length_le (Nat.le_refl _)] at hua
          obtain ⟨kw, cw, rfl, _⟩ := (Flat.of_owns hua).open
          obtain ⟨M, hM⟩ : ∃ M, M = (dropAt ps evs.length r).length := ⟨_, rfl⟩
          rw [← hM] at hua hblk
          have hres : Blk wr (w.heap.size + 1) #[.slice none 0 0, .slice none 0 0] := Hres2.out.grown HG2a.out (by simp; omega)
          have d0 := hblk.cell 0
          have d1 := hblk.cell 1
          have r0 := hres.cell 0
          have r1 := hres.cell 1
          have fr0 := hres.frozen 0
          have fr1 := hres.frozen 1
          have Hres := Lib.hid hres
          have Hua := Lib.hid hua
          have HM := Lib.hid hM
          have HBr2 := Lib.hid hBr
          clear hres hblk hua hM Hv hBr hall
          go_wp2_with fail
          have hfin : Blk ((wr.setCell ⟨w.heap.size + 1, 0, none⟩ (.slice kv N cv)).setCell ⟨w.heap.size + 1, 1, none⟩ (.slice kw M cw)) (w.heap.size + 1) #[.slice kv N cv, .slice kw M cw] := (Hres.out.set 0 _).set 1 _
          have hgs : wr.grownBy ((wr.setCell ⟨w.heap.size + 1, 0, none⟩ (.slice kv N cv)).setCell ⟨w.heap.size + 1, 1, none⟩ (.slice kw M cw)) (some (w.heap.size + 1)) := (grown_set wr ⟨w.heap.size + 1, 0, none⟩ _).trans (grown_set _ ⟨w.heap.size + 1, 1, none⟩ _)
          have hua' := Hua.out.kept hgs (by
            cases hv : (Value.slice kw M cw).ownBlock with
            | none => exact .inl rfl
            | some j => exact .inr (fun e => by have := (Hua.out.lt j hv).1; simp at e; omega))
          have hve' := (Hve.out.kept Hg2.out (by
            cases hv : (Value.slice kv N cv).ownBlock with
            | none => exact .inl rfl
            | some j => exact .inr (fun e => by have := (Hve.out.lt j hv).1; simp at e; omega))).kept hgs (by
            cases hv : (Value.slice kv N cv).ownBlock with
            | none => exact .inl rfl
            | some j => exact .inr (fun e => by have := (Hve.out.lt j hv).1; simp at e; omega))
          have hB5 : Below w.heap.size w ((wr.setCell ⟨w.heap.size + 1, 0, none⟩ (.slice kv N cv)).setCell ⟨w.heap.size + 1, 1, none⟩ (.slice kw M cw)) := HBr2.out.grown hgs (by omega) (fun j hj => by cases hj; omega)
          generalize ((wr.setCell ⟨w.heap.size + 1, 0, none⟩ (.slice kv N cv)).setCell ⟨w.heap.size + 1, 1, none⟩ (.slice kw M cw)) = W5 at hfin hgs hua' hve' hB5 ⊢
          obtain ⟨t5, ht5⟩ := hfin
          have hr : ∀ tmps : Array Value, tmps.getD 4 undef = .pointer (some ⟨w.heap.size + 1, 0, none⟩) → (results Try.f41 tmps).run Try.prog W5 = .ok (.agg #[.slice kv N cv, .slice kw M cw]) W5 := fun tmps hp => results_cell_row Try.results41 tmps W5 (w.heap.size + 1) t5 _ (0, 0) _ hp ht5 Try.underlying26 rfl (by kernel_rfl)
          refine bodyPost_ret (hr _ rfl) rfl ?_
          rw [← HNe.out, ← HM.out]
          exact ⟨_, _, rfl, owns_weaken hve' (by omega), owns_weaken hua' (by omega), hB5⟩
end Go.Proofs.Ytjdhcdbjfbhogaa
