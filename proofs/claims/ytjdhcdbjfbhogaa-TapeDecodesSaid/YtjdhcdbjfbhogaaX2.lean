/- The reference's Encode. -/
import Derived.Test.YtjdhcdbjfbhogaaX1
import Derived.Test.YtjdhcdbjfbhogaaF3
namespace Go.Proofs.Ytjdhcdbjfbhogaa
open Go.RowKit

/-- numbers, at a row that a literal has just laid. -/
theorem refNums (l : List Int) (W : World) (hok : ∀ n ∈ l, InI64 n) (hl : l.length ≤ 1000) :
    Calls Try.prog 46 #[.slice (some ⟨W.heap.size, 0, none⟩) l.length l.length] (W.alloc (.cells (iv l).toArray 3)) fun e w' => ∃ k N c, e = .returned (.slice k N c) ∧ Hid (N = (l.flatMap encI).length) ∧ N ≤ l.length * 10 ∧ Bytes w' W.heap.size (.slice k N c) (l.flatMap encI) ∧ Below W.heap.size W w' := by
  have hw : IntSl (W.alloc (.cells (iv l).toArray 3)) (.slice (some ⟨W.heap.size, 0, none⟩) l.length l.length) l := Flat.of_cells (by simp [iv]) (by omega) (fun j v hv => by
    rw [Nat.zero_add, (Blk.new W (iv l).toArray 3).cell]
    simpa using hv)
  refine (refNumbers l _ _ hok hw (by omega)).mono ?_
  rintro e w' ⟨u, rfl, h1, h2⟩
  obtain ⟨k, N, c, rfl, HN⟩ := h1.open'
  refine ⟨k, N, c, rfl, HN, ?_, h1.weaken (by simp), ((Below.refl _ _).alloc (Nat.le_refl _) _).trans (h2.mono (by simp))⟩
  have := encIs_length l hok
  have := HN.out
  omega

set_option maxHeartbeats 4000000 in
set_option maxRecDepth 100000 in
theorem refEncodeF (evs : List Ev) (l : List Ans) (ve va : Value) (w : World) (he : EvSl w ve evs) (ha : AnsSl w va l) (hok : ∀ a ∈ l, a.ok) (hev : ∀ e ∈ evs, e.ok) (hle : evs.length ≤ 50000) (hl : l.length ≤ 50000) :
    Calls Try.prog 16 #[.agg #[ve, va]] w fun e w' => ∃ u, e = .returned u ∧ Bytes w' w.heap.size u (encP evs (normA l)) ∧ Below w.heap.size w w' := by
  have hB0 : Below w.heap.size w (w.alloc (.cells #[ve, va] 26)) := (by repeat (first | exact Below.refl _ _ | assumption | refine Below.drew ?_ | refine below_drewN ?_ _ | refine Below.alloc ?_ (by simp <;> omega) _ | refine Below.setCell ?_ (by simp <;> omega) _))
  have hz0 : (w.alloc (.cells #[ve, va] 26)).heap.size = w.heap.size + 1 := World.size_alloc _ _
  have HN := Lib.hid (refNormalF evs l ve va (w.alloc (.cells #[ve, va] 26)) (he.kept hB0 (Nat.le_refl _)) (ha.kept hB0 (Nat.le_refl _)) (by omega) (by omega))
  have hnl := normA_length l
  have Hok := Lib.hid (normA_ok hok)
  have Hev := Lib.hid hev
  clear he ha hok hev
  generalize normA l = r at HN hnl Hok ⊢
  go_enter Try.func16, Try.ntmps16
  go_upto_region 2 with (go_at_call 32; refine HN.out.mono ?_; rintro e w1 ⟨ue, ua, rfl, hue, hua, hB1⟩; obtain ⟨ke, ce, rfl, _⟩ := (Flat.of_owns hue).open; obtain ⟨ka, ca, rfl, _⟩ := (Flat.of_owns hua).open)
  have hb2 : Blk (w1.alloc (.cells #[.slice ke evs.length ce, .slice ka r.length ca] 26)) w1.heap.size #[.slice ke evs.length ce, .slice ka r.length ca] := Blk.new _ _ _
  have hua2 := hua.alloc (.cells #[.slice ke evs.length ce, .slice ka r.length ca] 26)
  have hue2 := hue.alloc (.cells #[.slice ke evs.length ce, .slice ka r.length ca] 26)
  have hB2 : Below w.heap.size w (w1.alloc (.cells #[.slice ke evs.length ce, .slice ka r.length ca] 26)) := (hB0.trans (hB1.mono (by omega))).alloc (by have := hB1.size; omega) _
  generalize w1.alloc (.cells #[.slice ke evs.length ce, .slice ka r.length ca] 26) = w2 at hb2 hua2 hue2 hB2 ⊢
  have Hb2 := Lib.hid hb2
  have Hua2 := Lib.hid (show AnsSl w2 (.slice ka r.length ca) r from Flat.of_owns hua2)
  have Hue2 := Lib.hid (show EvSl w2 (.slice ke evs.length ce) evs from Flat.of_owns hue2)
  have HB2 := Lib.hid hB2
  have hz2 := hB2.size
  have hlt2 := hb2.lt
  have c0 := hb2.cell 0
  clear hb2 hua2 hue2 hB2 hue hua HN hB1 hB0 hz0
  generalize w1.heap.size = g at Hb2 hlt2 c0 ⊢
  have Hu := Lib.hid (refUint evs.length w2 (by omega))
  go_upto_region 3 with (go_at_call 45; refine Hu.out.mono ?_; rintro e w4 ⟨v4, rfl, ho4, hB24⟩; obtain ⟨k4, c4, rfl⟩ := ho4.open)
  have Ho4 := Lib.hid ho4
  have HB24 := Lib.hid hB24
  clear ho4 hB24 c0 Hu
  have hel : (encU evs.length).length ≤ 10 := encU_length _ 9 (by omega)
  go_wp2_with fail
  go_loopw [4, 5] (fun u i wr => ∃ k : Nat, k ≤ evs.length ∧ i = .int .i64 k ∧ Hid (Bytes wr w2.heap.size u (encU evs.length ++ (evs.take k).flatMap encEv)) ∧ Hid (Below w2.heap.size w2 wr)) (fun _ i _ => evs.length - (intOf i).toNat)
  case atStart => exact ⟨0, by omega, rfl, Lib.hid (by simpa using Ho4.out), HB24⟩
  case round =>
    clear Ho4 HB24
    obtain ⟨k, hk, rfl, Ho, HB⟩ := hrel
    have hz := HB.out.size
    obtain ⟨ku, N, cu, rfl, HN⟩ := Ho.out.open'
    have c0 := (Hb2.out.kept HB.out hlt2).cell 0
    by_cases hlt : k < evs.length
    · obtain ⟨b, o, rfl, hr⟩ := (Hue2.out.kept HB.out (Nat.le_refl _)).at (i := k) (x := evs[k]) (by simp [hlt])
      have Hr := Lib.hid hr
      clear hr
      have hN : N ≤ 5000000 := by
        have h1 := encEvs_length (evs.take k) (fun e he => Hev.out e (List.mem_of_mem_take he))
        rw [List.length_take] at h1
        have := HN.out
        rw [List.length_append] at this
        omega
      go_upto_region 7 with ((with_reducible refine wpList_load56 rfl _ rfl b (o + k * 8) [I evs[k].kind, I evs[k].node, I evs[k].arg, I evs[k].msg.node, I evs[k].msg.handler, I evs[k].msg.count, I evs[k].msg.index, I evs[k].msg.copy] rfl ?_ ?_ ?_); (rfl); (exact Hr.out))
      have hq : Blk (wr.alloc (.cells #[I evs[k].kind, I evs[k].node, I evs[k].arg, I evs[k].msg.node, I evs[k].msg.handler, I evs[k].msg.count, I evs[k].msg.index, I evs[k].msg.copy] 56)) wr.heap.size #[I evs[k].kind, I evs[k].node, I evs[k].arg, I evs[k].msg.node, I evs[k].msg.handler, I evs[k].msg.count, I evs[k].msg.index, I evs[k].msg.copy] := Blk.new _ _ _
      have hBq : Below wr.heap.size wr (wr.alloc (.cells #[I evs[k].kind, I evs[k].node, I evs[k].arg, I evs[k].msg.node, I evs[k].msg.handler, I evs[k].msg.count, I evs[k].msg.index, I evs[k].msg.copy] 56)) := (Below.refl _ _).alloc (Nat.le_refl _) _
      generalize wr.alloc (.cells #[I evs[k].kind, I evs[k].node, I evs[k].arg, I evs[k].msg.node, I evs[k].msg.handler, I evs[k].msg.count, I evs[k].msg.index, I evs[k].msg.copy] 56) = wq at hq hBq ⊢
      have q3 := hq.cell 3
      have q4 := hq.cell 4
      have q5 := hq.cell 5
      have Hq := Lib.hid hq
      have hltq := hq.lt
      clear hq c0
      go_upto_region 8 with fail
      have hc : Blk (wq.alloc (.cells #[I evs[k].msg.node, I evs[k].msg.handler, I evs[k].msg.count] 52)) wq.heap.size #[I evs[k].msg.node, I evs[k].msg.handler, I evs[k].msg.count] := Blk.new _ _ _
      have hBc : Below wq.heap.size wq (wq.alloc (.cells #[I evs[k].msg.node, I evs[k].msg.handler, I evs[k].msg.count] 52)) := (Below.refl _ _).alloc (Nat.le_refl _) _
      generalize wq.alloc (.cells #[I evs[k].msg.node, I evs[k].msg.handler, I evs[k].msg.count] 52) = wc at hc hBc ⊢
      have hqc := Hq.out.kept hBc hltq
      have q0 := hqc.cell 0
      have q1 := hqc.cell 1
      have q2 := hqc.cell 2
      have q6 := hqc.cell 6
      have q7 := hqc.cell 7
      have k0 := hc.cell 0
      have k1 := hc.cell 1
      have k2 := hc.cell 2
      have hBrc : Below wr.heap.size wr wc := hBq.trans (hBc.mono hBq.size)
      have hzc := hBrc.size
      have Hi := Lib.hid (refNums evs[k].ints wc (fun n hn => Hev.out _ (List.getElem_mem hlt) n hn) (by simp [Ev.ints]))
      clear hc hqc hBq hBc q3 q4 q5
      go_wp2_with (first | (go_at_call 46; refine Hi.out.mono ?_; rintro e w5 ⟨ky, M, cy, rfl, HM, hM, hy, hB5⟩; simp only [Ev.ints, List.length_cons, List.length_nil] at hM; have hz5 := hB5.size) | (at_builtin; go_must (refine wpList_appG rfl _ _ 30 rfl 5 _ 1 1 Try.underlying30 info5 rfl (by omega) (by omega) w2.heap.size (.slice ku N cu) N _ rfl ((Ho.out.below (hBrc.trans (hB5.mono hzc))).own HN) (.slice ky M cy) rfl M _ (Flat.of_owns (hy.own HM)) (bv_one _) (by omega) (by omega) ?_); intro y2 w6 ho6 hgr6 hB6))
      go_roundw
      case rel => exact ⟨k + 1, by omega, by go_num, Lib.hid (by rw [List.take_succ_eq_append_getElem hlt, List.flatMap_append, ← List.append_assoc]; simpa [encEv] using Bytes.join HN.out HM.out ho6), Lib.hid (HB.out.trans (((hBrc.trans (hB5.mono hzc)).mono hz).trans hB6))⟩
      case measure => simp [intOf]; omega
    · obtain rfl : k = evs.length := by omega
      obtain ⟨wo, rfl⟩ : ∃ wo, wo = wr := ⟨_, rfl⟩
      have d1 := (Hb2.out.kept HB.out hlt2).cell 1
      have h1 := Ho.out
      rw [List.take_of_length_le (Nat.le_refl _)] at h1
      have hN : N ≤ 5000000 := by
        have h1 := encEvs_length evs Hev.out
        have := HN.out
        rw [List.take_of_length_le (Nat.le_refl _), List.length_append] at this
        omega
      have HN' : Hid (N = (encU evs.length ++ evs.flatMap encEv).length) := Lib.hid (by have := HN.out; rwa [List.take_of_length_le (Nat.le_refl _)] at this)
      have H1 := Lib.hid h1
      have Hu := Lib.hid (refUint r.length wo (by omega))
      have hrl : (encU r.length).length ≤ 10 := encU_length _ 9 (by omega)
      clear h1 Ho HN
      go_upto_region 10 with (first | (go_at_call 45; refine Hu.out.mono ?_; rintro e w5 ⟨v5, rfl, h5, hB5⟩; obtain ⟨k5, M, c5, rfl, HM⟩ := h5.open'; have hM : M ≤ 10 := by (have := HM.out; omega)) | (at_builtin; go_must (refine wpList_appG rfl _ _ 30 rfl 5 _ 1 1 Try.underlying30 info5 rfl (by omega) (by omega) w2.heap.size (.slice ku N cu) N _ rfl ((H1.out.below hB5).own HN') (.slice k5 M c5) rfl M _ (Flat.of_owns (h5.own HM)) (bv_one _) (by omega) (by have := hB5.size; omega) ?_); intro y6 w6 ho6 hgr6 hB6))
      have HO6 := Lib.hid (Bytes.join HN'.out HM.out ho6)
      have HB6 := Lib.hid (HB.out.trans ((hB5.mono hz).trans hB6))
      clear ho6 hgr6 hB6 hB5 h5 c0 d1 HB H1 Hu
      go_wp2_with fail
      go_loopw [4, 8] (fun u i wr => ∃ k : Nat, k ≤ r.length ∧ i = .int .i64 k ∧ Hid (Bytes wr w2.heap.size u (encU evs.length ++ evs.flatMap encEv ++ encU r.length ++ (r.take k).flatMap encAns)) ∧ Hid (Below w2.heap.size w2 wr)) (fun _ i _ => r.length - (intOf i).toNat)
      case atStart => exact ⟨0, by omega, rfl, Lib.hid (by simpa using HO6.out), HB6⟩
      case round =>
        clear HO6 HB6
        obtain ⟨k, hk, rfl, Ho, HB⟩ := hrel
        have hz := HB.out.size
        obtain ⟨ku, N, cu, rfl, HN⟩ := Ho.out.open'
        have c1 := (Hb2.out.kept HB.out hlt2).cell 1
        by_cases hlt : k < r.length
        · obtain ⟨b, o, rfl, hr⟩ := (Hua2.out.kept HB.out (Nat.le_refl _)).at (i := k) (x := r[k]) (by simp [hlt])
          have hra := hr 5 _ rfl
          have hb2l : b < w2.heap.size := by
            obtain ⟨b', o', e', hr'⟩ := Hua2.out.at (i := k) (x := r[k]) (by simp [hlt])
            simp at e'
            obtain ⟨rfl, rfl⟩ := e'
            have := hr' 5 _ rfl
            simpa using World.block_lt_of_cell? _ _ this
          have hbl : b < wr.heap.size := by simpa using World.block_lt_of_cell? _ _ hra
          have Hr := Lib.hid (show wr.rangeAt b (o + k * 6) [I r[k].q.node, I r[k].q.handler, I r[k].q.count, I r[k].q.kind, I r[k].q.index] from fun j u hu => hr j u (by
            have : j < 5 := (List.getElem?_eq_some_iff.1 hu).1
            have : j = 0 ∨ j = 1 ∨ j = 2 ∨ j = 3 ∨ j = 4 := by omega
            rcases this with rfl | rfl | rfl | rfl | rfl <;> exact hu))
          clear hr
          have hN : N ≤ 9000000 := by
            have h1 := encAs_length (r.take k) (fun e he => Hok.out e (List.mem_of_mem_take he))
            have h2 := encEvs_length evs Hev.out
            rw [List.length_take] at h1
            have := HN.out
            rw [List.length_append, List.length_append, List.length_append] at this
            omega
          go_upto_region 14 with ((with_reducible refine wpList_load66 rfl _ rfl b (o + k * 6) [I r[k].q.node, I r[k].q.handler, I r[k].q.count, I r[k].q.kind, I r[k].q.index] rfl ?_ ?_ ?_); (rfl); (exact Hr.out))
          have hq : Blk (wr.alloc (.cells #[I r[k].q.node, I r[k].q.handler, I r[k].q.count, I r[k].q.kind, I r[k].q.index] 66)) wr.heap.size #[I r[k].q.node, I r[k].q.handler, I r[k].q.count, I r[k].q.kind, I r[k].q.index] := Blk.new _ _ _
          have hBq : Below wr.heap.size wr (wr.alloc (.cells #[I r[k].q.node, I r[k].q.handler, I r[k].q.count, I r[k].q.kind, I r[k].q.index] 66)) := (Below.refl _ _).alloc (Nat.le_refl _) _
          generalize wr.alloc (.cells #[I r[k].q.node, I r[k].q.handler, I r[k].q.count, I r[k].q.kind, I r[k].q.index] 66) = wq at hq hBq ⊢
          have hzq := hBq.size
          have hbA := (Hb2.out.kept HB.out hlt2).kept hBq (by omega)
          have hA := (bcell hBq b (o + k * 6 + 5) hbl).trans hra
          have hltq := hq.lt
          have hltA := hbA.lt
          have hzA : (0 : Int) ≤ k := by omega
          have hgw : g < wr.heap.size := by omega
          clear c1 hra
          have Hi := Lib.hid (refNums r[k].ints wq.drew ((Ans.ok_iff _).1 (Hok.out _ (List.getElem_mem hlt))) (by simp [Ans.ints]))
          have HbA := Lib.hid hbA
          have HBq := Lib.hid hBq
          have S0 : ((∀ j, wq.cell? ⟨g, j, none⟩ = (#[.slice ke evs.length ce, .slice (some ⟨b, o, none⟩) r.length ca] : Array Value)[j]?) ∧ (∀ j, wq.cell? ⟨wr.heap.size, j, none⟩ = (#[I r[k].q.node, I r[k].q.handler, I r[k].q.count, I r[k].q.kind, I r[k].q.index] : Array Value)[j]?) ∧ wq.cell? ⟨b, o + k * 6 + 5, none⟩ = some (I r[k].n)) := ⟨hbA.cell, hq.cell, hA⟩
          refine wp_region_ordN 23 [(0, true), (1, true), (2, true), (3, true), (4, true), (5, true), (6, true), (7, true), (8, true), (9, true), (10, true), (11, true), (12, true), (13, true), (14, true), (15, true), (16, true), (17, true), (18, true), (19, true), (20, false), (21, false), (22, false)] (fun w' => (∀ j, w'.cell? ⟨g, j, none⟩ = (#[.slice ke evs.length ce, .slice (some ⟨b, o, none⟩) r.length ca] : Array Value)[j]?) ∧ (∀ j, w'.cell? ⟨wr.heap.size, j, none⟩ = (#[I r[k].q.node, I r[k].q.handler, I r[k].q.count, I r[k].q.kind, I r[k].q.index] : Array Value)[j]?) ∧ w'.cell? ⟨b, o + k * 6 + 5, none⟩ = some (I r[k].n)) (by kernel_rfl) rfl rfl (by kernel_rfl) S0 ?_
          iterate 20 (refine wpOrd_take ?_ (by rfl) ?_ ?_; rotate_left; (intro w hSw; (try dsimp only at hSw); go_simp; try with_reducible rfl); (try simp only [Act.put, List.setIfInBounds_toArray, List.set_cons_zero, List.set_cons_succ]))
          refine wpOrd_move (fun K hK => ?_)
          go_simp
          refine hK.out _ _ ⟨(hbA.alloc _).cell, (hq.alloc _).cell, (bcell ((Below.refl _ _).alloc (Nat.le_refl _) _) b _ (by omega)).trans hA⟩ ?_
          clear hK K
          (try simp only [Act.put, List.setIfInBounds_toArray, List.set_cons_zero, List.set_cons_succ])
          refine wpOrd_move (fun K hK => ?_)
          go_simp
          go_at_call 46
          refine Hi.out.mono ?_
          rintro e w7 ⟨ky, M7, cy, rfl, HM7, hM7, hy, hB7⟩
          have hB7' : Below wq.heap.size wq w7 := ⟨hB7.os, hB7.tape, hB7.output, hB7.size, hB7.block⟩
          simp only [Ans.ints, List.length_cons, List.length_nil] at hM7
          have hz7 := hB7'.size
          refine hK.out _ _ ⟨(hbA.kept hB7' hltA).cell, (hq.kept hB7' hltq).cell, (bcell hB7' b _ (by omega)).trans hA⟩ ?_
          clear hK K
          (try simp only [Act.put, List.setIfInBounds_toArray, List.set_cons_zero, List.set_cons_succ])
          have hM1 : 0 < M7 := by
            have h1 : 0 < (encI r[k].q.node).length := by
              unfold encI
              by_cases h : zig r[k].q.node < 128
              · rw [encU_small h]; simp
              · rw [encU_big h]; simp
            have h2 := HM7.out
            simp only [Ans.ints, List.flatMap_cons, List.length_append] at h2
            omega
          have hown7 := hy.own HM7
          obtain ⟨b7, o7, e7, hnews⟩ := (Flat.of_owns hown7).cells (by rw [bv_length]; have := HM7.out; omega)
          subst e7
          have hfl7 := (Flat.of_owns hown7).1
          have Ho7 := Ho.out.below (hBq.trans (hB7'.mono hzq))
          refine step_app (by rfl) _ _ 30 (by rfl) 5 _ 1 1 Try.underlying30 info5 rfl (by omega) (by omega) w2.heap.size (.slice ku N cu) N _ (by rfl) (Ho7.own HN) b7 o7 M7 cy _ (by rfl) hfl7 hnews (bv_one _) hM1 (by omega) (by omega) ?_
          intro g8 cap8 w8 hg8a hg8b hg8c ho8 hgr8 hB8
          have hvB : ∀ k', (Value.slice ku N cu).ownBlock = some k' → w2.heap.size ≤ k' ∧ k' < wr.heap.size := Ho.out.lt
          have hbA8 : Blk w8 g #[.slice ke evs.length ce, .slice (some ⟨b, o, none⟩) r.length ca] := (hbA.kept hB7' hltA).grown hgr8 (fun e => by have := hvB _ e; omega)
          have hq8 : Blk w8 wr.heap.size #[I r[k].q.node, I r[k].q.handler, I r[k].q.count, I r[k].q.kind, I r[k].q.index] := (hq.kept hB7' hltq).grown hgr8 (fun e => by have := hvB _ e; omega)
          have hA8 : w8.cell? ⟨b, o + k * 6 + 5, none⟩ = some (I r[k].n) := hgr8.cell ((bcell hB7' b _ (by omega)).trans hA) (fun e => by have := hvB b e.symm; omega)
          refine ⟨⟨hbA8.cell, hq8.cell, hA8⟩, ?_⟩
          have HO8 := Lib.hid (Bytes.join HN.out HM7.out ho8)
          have HB8 := Lib.hid (HB.out.trans (((hBq.trans (hB7'.mono hzq)).mono hz).trans hB8))
          clear ho8 hgr8 hB8 hvB hbA8 hq8 hA8 S0 Ho7 hown7 hy hB7 hB7' hnews hfl7 HM7 Hi HN
          (try simp only [Act.put, List.setIfInBounds_toArray, List.set_cons_zero, List.set_cons_succ])
          refine wpOrd_nil ?_
          go_wp2_with fail
          refine NoPanic.normal ?_
          go_wp2_with fail
          go_roundw
          case rel => exact ⟨k + 1, by omega, by go_num, Lib.hid (by rw [List.take_succ_eq_append_getElem hlt, List.flatMap_append, ← List.append_assoc]; simpa [encAns] using HO8.out), HB8⟩
          case measure => simp [intOf]; omega
        · obtain rfl : k = r.length := by omega
          have h1 := Ho.out
          rw [List.take_of_length_le (Nat.le_refl _)] at h1
          have He : encP evs r = encU evs.length ++ evs.flatMap encEv ++ encU r.length ++ r.flatMap encAns := by simp [encP]
          rw [← He] at h1
          have H1 := Lib.hid h1
          clear h1 He Ho HN
          go_wp2_with fail
          go_ret
          exact ⟨_, rfl, H1.out.weaken (by omega), HB2.out.trans (HB.out.mono (by omega))⟩

end Go.Proofs.Ytjdhcdbjfbhogaa
