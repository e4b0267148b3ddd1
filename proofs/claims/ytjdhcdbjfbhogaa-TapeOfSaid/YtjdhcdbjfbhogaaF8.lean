/- The reference's Of. -/
import Derived.Test.YtjdhcdbjfbhogaaG18
import Derived.Test.YtjdhcdbjfbhogaaF3
namespace Go.Proofs.Ytjdhcdbjfbhogaa
open Go.RowKit

theorem refNormR (evs : List Ev) (l : List Ans) (k : Option Addr) (c : Nat) (k2 : Option Addr) (c2 : Nat) (w : World) (h : TapeIn w k c k2 c2 evs l) (hle : evs.length ≤ 1000000) (hl : l.length ≤ 1000000) :
    Calls Try.prog 32 #[tv k c k2 c2 evs l] w fun e w' => ∃ k c k2 c2, e = .returned (tv k c k2 c2 evs (normA l)) ∧ w'.ownsRow w.heap.size 56 8 (.slice k evs.length c) evs.length (evs.flatMap ec) ∧ w'.ownsRow w.heap.size 75 6 (.slice k2 (normA l).length c2) (normA l).length ((normA l).flatMap ac) ∧ Below w.heap.size w w' := by
  refine (refNormalF evs l _ _ w h.1 h.2 hle hl).mono ?_
  rintro e w' ⟨ue, ua, rfl, h1, h2, h3⟩
  obtain ⟨k, c, k2, c2, rfl, rfl, h⟩ := TapeIn.of h1 h2
  exact ⟨k, c, k2, c2, rfl, h1, h2, h3⟩

set_option maxHeartbeats 4000000 in
set_option maxRecDepth 100000 in
theorem refOfF (run : List Stp) (v : Value) (w : World) (h : StpSl w v run) (hrl : run.length ≤ 100) (hal : ∀ s ∈ run, s.asks.length ≤ 100) :
    Calls Try.prog 30 #[v] w fun e w' => ∃ k c k2 c2, e = .returned (tv k c k2 c2 (runEv run) (normA (runAns run))) ∧ TapeIn w' k c k2 c2 (runEv run) (normA (runAns run)) ∧ Below w.heap.size w w' := by
  obtain ⟨kr, cr, rfl, hmr⟩ := h.open
  have hB0 : Below w.heap.size w ((w.alloc (.cells #[.slice none 0 0, .slice none 0 0] 26)).alloc (.cells #[.slice none 0 0, .slice none 0 0] 26)) := (by repeat (first | exact Below.refl _ _ | assumption | refine Below.drew ?_ | refine below_drewN ?_ _ | refine Below.alloc ?_ (by simp <;> omega) _ | refine Below.setCell ?_ (by simp <;> omega) _))
  have hz0 : ((w.alloc (.cells #[.slice none 0 0, .slice none 0 0] 26)).alloc (.cells #[.slice none 0 0, .slice none 0 0] 26)).heap.size = w.heap.size + 2 := by simp
  have hr0 : Blk ((w.alloc (.cells #[.slice none 0 0, .slice none 0 0] 26)).alloc (.cells #[.slice none 0 0, .slice none 0 0] 26)) w.heap.size #[.slice none 0 0, .slice none 0 0] := (Blk.new _ _ _).alloc _
  have ht0 : Blk ((w.alloc (.cells #[.slice none 0 0, .slice none 0 0] 26)).alloc (.cells #[.slice none 0 0, .slice none 0 0] 26)) (w.heap.size + 1) #[.slice none 0 0, .slice none 0 0] := ⟨_, heap_alloc2_new w _ _⟩
  have H := Lib.hid h
  have Hal := Lib.hid hal
  have Hans := Lib.hid (runAns_length run 100 hal)
  clear h hal
  go_enter Try.func30, Try.ntmps30
  go_wp2_with fail
  generalize (w.alloc (.cells #[.slice none 0 0, .slice none 0 0] 26)).alloc (.cells #[.slice none 0 0, .slice none 0 0] 26) = W0 at hB0 hz0 hr0 ht0 ⊢
  obtain ⟨gt, egt⟩ : ∃ g, g = w.heap.size + 1 := ⟨_, rfl⟩
  rw [← egt] at ht0 ⊢
  have Hgt := Lib.hid egt
  have Hr0 := Lib.hid hr0
  have HB0 := Lib.hid hB0
  have hTw : Two W0 W0 gt (.slice none 0 0) (.slice none 0 0) (runEv (run.take 0)) (runAns (run.take 0)) := ⟨ht0, World.ownsRow_nil _ _ _ _, World.ownsRow_nil _ _ _ _, fun j hj => by simp [Value.ownBlock] at hj, Below.refl _ _⟩
  have HTw := Lib.hid hTw
  clear hTw hr0 hB0 ht0 egt
  go_loopw [4] (fun i wr => ∃ (k : Nat) (ve va : Value), k ≤ run.length ∧ i = .int .i64 k ∧ Hid (Two W0 wr gt ve va (runEv (run.take k)) (runAns (run.take k)))) (fun i _ => run.length - (intOf i).toNat)
  case atStart => exact ⟨0, _, _, by omega, rfl, HTw⟩
  case round =>
    clear HTw
    obtain ⟨k, ve, va, hk, rfl, HT⟩ := hrel
    have hzr := HT.out.below.size
    have hBr : Below w.heap.size w wr := HB0.out.trans (HT.out.below.mono (by have := Hgt.out; omega))
    by_cases hlt : k < run.length
    · have hst : run[k]? = some run[k] := by simp [hlt]
      obtain ⟨b, o, vk, km, nm, cm, hkr, hask, hrng⟩ := H.out.range hst
      have hkr := hkr.symm
      subst hkr
      have hsk := runEv_snoc hlt
      have hsa := runAns_snoc hlt
      have Hoka := Lib.hid (Hal.out _ (List.getElem_mem hlt))
      generalize run[k] = s at hst hask hrng hsk hsa Hoka
      obtain ⟨ka, ca, rfl, hma⟩ := hask.open
      have Hask := Lib.hid hask
      have hbw0 : b < w.heap.size := by simpa using World.block_lt_of_cell? _ _ (hrng 0 _ rfl)
      have Hrng := Lib.hid (fun (W : World) (hW : Below w.heap.size w W) => rangeAt_below hrng hW)
      have Hsk := Lib.hid hsk
      have Hsa := Lib.hid hsa
      have hlE : (runEv (run.take k)).length ≤ 100 := by rw [runEv_length, List.length_take]; omega
      have hlA : (runAns (run.take k)).length ≤ 10000 := by
        have := runAns_length (run.take k) 100 (fun t ht => Hal.out t (List.mem_of_mem_take ht))
        rw [List.length_take] at this
        omega
      have hr1 := Hrng.out wr hBr
      have x0 : wr.cell? ⟨b, o + k * 11, none⟩ = _ := hr1 0 _ rfl
      have x1 := hr1 1 _ rfl
      have x2 := hr1 2 _ rfl
      have x3 := hr1 3 _ rfl
      have x4 := hr1 4 _ rfl
      have x5 := hr1 5 _ rfl
      have x6 := hr1 6 _ rfl
      have x7 := hr1 7 _ rfl
      clear hst hask hrng hsk hsa hr1
      obtain ⟨N, hN⟩ : ∃ N, N = (runEv (run.take k)).length := ⟨_, rfl⟩
      obtain ⟨ke, ce, rfl, _⟩ := (Flat.of_owns HT.out.oe).open
      obtain ⟨kv, cv, rfl, _⟩ := (Flat.of_owns HT.out.oa).open
      have hblk := HT.out.blk
      rw [← hN] at HT hlE hblk
      have HN := Lib.hid hN
      have hbw : b < wr.heap.size := by have := HB0.out.size; omega
      clear hN
      have hgtl := hblk.lt
      go_upto_region 5 with fail
      refine wp_region_ordN 9 [(0, true), (1, true), (2, true), (3, true), (4, true), (5, true), (6, true), (7, false), (8, false)] (fun w' => (∀ j, w'.cell? ⟨gt, j, none⟩ = (#[.slice ke N ce, .slice kv (runAns (run.take k)).length cv] : Array Value)[j]?) ∧ (∀ o, w'.cell? ⟨b, o, none⟩ = wr.cell? ⟨b, o, none⟩)) (by kernel_rfl) rfl rfl (by kernel_rfl) ⟨hblk.cell, fun _ => rfl⟩ ?_
      iterate 7 (refine wpOrd_take ?_ (by rfl) ?_ ?_; rotate_left; (intro w hSw; (try dsimp only at hSw); go_simp; try with_reducible rfl); (try simp only [Act.put, List.setIfInBounds_toArray, List.set_cons_zero, List.set_cons_succ]))
      obtain ⟨hq, Bq, zq⟩ := boxed wr.drew #[I s.ev.kind, I s.ev.node, I s.ev.arg, I s.ev.msg.node, I s.ev.msg.handler, I s.ev.msg.count, I s.ev.msg.index, I s.ev.msg.copy] 56
      have Bq' : Below wr.heap.size wr (wr.drew.alloc (.cells #[I s.ev.kind, I s.ev.node, I s.ev.arg, I s.ev.msg.node, I s.ev.msg.handler, I s.ev.msg.count, I s.ev.msg.index, I s.ev.msg.copy] 56)) := (Below.refl _ wr).drew.alloc (by simp) _
      refine wpOrd_move (fun K hK => ?_)
      go_simp
      refine hK.out _ _ ⟨(hblk.drew.alloc _).cell, fun o => bcell Bq' b o hbw⟩ ?_
      clear hK K
      (try simp only [Act.put, List.setIfInBounds_toArray, List.set_cons_zero, List.set_cons_succ])
      have hTd := HT.out.later Bq'
      have hob := (owns_len HT.out.oe HN.out)
      refine step_appB (by rfl) _ _ 23 (by rfl) 56 _ 8 64 Try.underlying23 info56 rfl (by omega) (by omega) (gt + 1) (.slice ke N ce) N _ (by rfl) (hob.drew.alloc _) wr.heap.size 1 1 #[I s.ev.kind, I s.ev.node, I s.ev.arg, I s.ev.msg.node, I s.ev.msg.handler, I s.ev.msg.count, I s.ev.msg.index, I s.ev.msg.copy] 56 (by rfl) (heap_alloc_new wr.drew _) rfl rfl (by omega) (by omega) (by simp; omega) ?_
      intro g6 cap6 w6 hg6a hg6b hg6c ho6 hgr6 hB6
      have hb6 := hTd.blk.grown hgr6 (fun e => by have := (HT.out.oe.lt gt e).1; omega)
      have hT6 := hTd.appE s.ev hg6c ho6 HN.out hgr6
      rw [← Hsk.out] at hT6
      refine ⟨⟨hb6.cell, fun o' => ?_⟩, ?_⟩
      · refine (hgr6.cell_far ⟨b, o', none⟩ (by simp; omega) (fun e => by have := (HT.out.oe.lt b e.symm).1; have := Hgt.out; omega)).trans ?_
        exact bcell Bq' b o' hbw
      have c60 := hb6.cell 0
      have f60 := hb6.frozen 0
      have HT6 := Lib.hid hT6
      clear hb6 hT6 hTd hob hgr6 ho6 hB6 hq Bq Bq' zq x0 x1 x2 x3 x4 x5 x6 x7 hblk HT hg6a hg6b hg6c
      (try simp only [Act.put, List.setIfInBounds_toArray, List.set_cons_zero, List.set_cons_succ])
      refine wpOrd_nil ?_
      go_wp2_with fail
      refine NoPanic.normal ?_
      go_wp2_with fail
      generalize w6.setCell ⟨gt, 0, none⟩ (.slice (some ⟨g6, 0, none⟩) (N + 1) cap6) = w7 at HT6 ⊢
      go_loopw [5] (fun i wr => ∃ (j : Nat) (va : Value), j ≤ s.asks.length ∧ i = .int .i64 j ∧ Hid (Two W0 wr gt (.slice (some ⟨g6, 0, none⟩) (N + 1) cap6) va (runEv (run.take (k + 1))) (runAns (run.take k) ++ (s.asks.take j).map Ask.ans))) (fun i _ => s.asks.length - (intOf i).toNat)
      case atStart => exact ⟨0, _, by omega, rfl, Lib.hid (by simpa using HT6.out)⟩
      case round =>
        clear HT6
        obtain ⟨j, va, hj, rfl, HT⟩ := hrel
        have hBr2 : Below w.heap.size w wr := HB0.out.trans (HT.out.below.mono (by have := Hgt.out; omega))
        have x8 : wr.cell? ⟨b, o + k * 11 + 8, none⟩ = _ := Hrng.out wr hBr2 8 _ rfl
        by_cases hlj : j < s.asks.length
        · have hst : s.asks[j]? = some s.asks[j] := by simp [hlj]
          obtain ⟨b2, o2, hka, hrng⟩ := Hask.out.range hst
          have hka := hka.symm
          subst hka
          have Has := Lib.hid (asks_snoc hlj (runAns (run.take k)))
          generalize s.asks[j] = x at hst hrng Has
          have hr2 := rangeAt_below hrng hBr2
          have y0 : wr.cell? ⟨b2, o2 + j * 7, none⟩ = _ := hr2 0 _ rfl
          have y1 := hr2 1 _ rfl
          have y2 := hr2 2 _ rfl
          have y3 := hr2 3 _ rfl
          have y4 := hr2 4 _ rfl
          have y6 := hr2 6 _ rfl
          have hb2w0 : b2 < w.heap.size := by simpa using World.block_lt_of_cell? _ _ (hrng 0 _ rfl)
          have hzw := hBr2.size
          have hlm : (runAns (run.take k) ++ (s.asks.take j).map Ask.ans).length ≤ 20000 := by
            have := Hoka.out
            rw [List.length_append, List.length_map, List.length_take]
            omega
          clear hst hrng hr2
          obtain ⟨M, hM⟩ : ∃ M, M = (runAns (run.take k) ++ (s.asks.take j).map Ask.ans).length := ⟨_, rfl⟩
          obtain ⟨kv, cv, rfl, _⟩ := (Flat.of_owns HT.out.oa).open
          have hblk := HT.out.blk
          rw [← hM] at HT hlm hblk
          have HM := Lib.hid hM
          have hgtl := hblk.lt
          clear hM
          go_upto_region 9 with fail
          refine wp_region_ordN 23 [(0, true), (1, true), (2, true), (3, true), (4, true), (5, true), (6, true), (7, true), (8, true), (9, true), (10, true), (11, true), (12, true), (13, true), (14, true), (15, true), (16, true), (17, true), (18, true), (19, true), (20, true), (21, false), (22, false)] (fun w' => (∀ j', w'.cell? ⟨gt, j', none⟩ = (#[.slice (some ⟨g6, 0, none⟩) (N + 1) cap6, .slice kv M cv] : Array Value)[j']?) ∧ (∀ o, w'.cell? ⟨b, o, none⟩ = wr.cell? ⟨b, o, none⟩) ∧ (∀ o, w'.cell? ⟨b2, o, none⟩ = wr.cell? ⟨b2, o, none⟩)) (by kernel_rfl) rfl rfl (by kernel_rfl) ⟨hblk.cell, fun _ => rfl, fun _ => rfl⟩ ?_
          iterate 21 (refine wpOrd_take ?_ (by rfl) ?_ ?_; rotate_left; (intro w hSw; (try dsimp only at hSw); go_simp; try with_reducible rfl); (try simp only [Act.put, List.setIfInBounds_toArray, List.set_cons_zero, List.set_cons_succ]))
          have Bq' : Below wr.heap.size wr (wr.drew.alloc (.cells #[I x.node, I x.handler, I x.count, I x.kind, I x.index, I x.n] 75)) := (Below.refl _ wr).drew.alloc (by simp) _
          refine wpOrd_move (fun K hK => ?_)
          go_simp
          refine hK.out _ _ ⟨(hblk.drew.alloc _).cell, fun o => bcell Bq' b o (by omega), fun o => bcell Bq' b2 o (by omega)⟩ ?_
          clear hK K
          (try simp only [Act.put, List.setIfInBounds_toArray, List.set_cons_zero, List.set_cons_succ])
          have hTd := HT.out.later Bq'
          have hob := (owns_len HT.out.oa HM.out)
          refine step_appB (by rfl) _ _ 24 (by rfl) 75 _ 6 48 Try.underlying24 info75 rfl (by omega) (by omega) (gt + 1) (.slice kv M cv) M _ (by rfl) (hob.drew.alloc _) wr.heap.size 1 1 #[I x.node, I x.handler, I x.count, I x.kind, I x.index, I x.n] 75 (by rfl) (heap_alloc_new wr.drew _) rfl rfl (by omega) (by omega) (by simp; omega) ?_
          intro g8 cap8 w8 hg8a hg8b hg8c ho8 hgr8 hB8
          have hb8 := hTd.blk.grown hgr8 (fun e => by have := (HT.out.oa.lt gt e).1; omega)
          have hT8 := hTd.appA x.ans hg8c ho8 HM.out hgr8
          rw [← Has.out] at hT8
          refine ⟨⟨hb8.cell, fun o' => ?_, fun o' => ?_⟩, ?_⟩
          · refine (hgr8.cell_far ⟨b, o', none⟩ (by simp; omega) (fun e => by have := (HT.out.oa.lt b e.symm).1; have := Hgt.out; omega)).trans ?_
            exact bcell Bq' b o' (by omega)
          · refine (hgr8.cell_far ⟨b2, o', none⟩ (by simp; omega) (fun e => by have := (HT.out.oa.lt b2 e.symm).1; have := Hgt.out; omega)).trans ?_
            exact bcell Bq' b2 o' (by omega)
          have c81 := hb8.cell 1
          have f81 := hb8.frozen 1
          have HT8 := Lib.hid hT8
          clear hb8 hT8 hTd hob hgr8 ho8 hB8 Bq' y0 y1 y2 y3 y4 y6 hblk HT x8 hg8a hg8b hg8c
          (try simp only [Act.put, List.setIfInBounds_toArray, List.set_cons_zero, List.set_cons_succ])
          refine wpOrd_nil ?_
          go_wp2_with fail
          refine NoPanic.normal ?_
          go_wp2_with fail
          go_roundw
          case rel => exact ⟨j + 1, _, by omega, by go_num, HT8⟩
          case measure => simp [intOf]; omega
        · obtain rfl : j = s.asks.length := by omega
          have hT := HT.out
          rw [List.take_of_length_le (Nat.le_refl _), ← Hsa.out] at hT
          have HTz := Lib.hid hT
          clear hT HT
          go_wp2_with fail
          go_roundw
          case rel => exact ⟨k + 1, _, _, by omega, by go_num, HTz⟩
          case measure => simp [intOf]; omega
    · obtain rfl : k = run.length := by omega
      have hT := HT.out
      rw [List.take_of_length_le (Nat.le_refl _)] at hT
      obtain ⟨ke, ce, rfl, _⟩ := (Flat.of_owns hT.oe).open
      obtain ⟨kv, cv, rfl, _⟩ := (Flat.of_owns hT.oa).open
      have d0 := hT.blk.cell 0
      have d1 := hT.blk.cell 1
      have hlA := Hans.out
      have HN := Lib.hid (refNormR (runEv run) (runAns run) ke ce kv cv wr (TapeIn.owns hT.oe hT.oa) (by rw [runEv_length]; omega) (by omega))
      have hres := Hr0.out.kept hT.below (by have := Hgt.out; omega)
      have hBw := Lib.hid hBr
      have Hres := Lib.hid hres
      have hgr := hres.lt
      clear hT HT hres
      go_wp2_with (go_at_call 32; refine HN.out.mono ?_; rintro e w8 ⟨k8, c8, k9, c9, rfl, h8, h9, B8⟩; have hr8 := Hres.out.kept B8 hgr; have r0 := hr8.cell 0; have r1 := hr8.cell 1; have fr0 := hr8.frozen 0; have fr1 := hr8.frozen 1)
      have hgs : w8.grownBy ((w8.setCell ⟨w.heap.size, 0, none⟩ (.slice k8 (runEv run).length c8)).setCell ⟨w.heap.size, 1, none⟩ (.slice k9 (normA (runAns run)).length c9)) (some w.heap.size) := (grown_set w8 ⟨w.heap.size, 0, none⟩ _).trans (grown_set _ ⟨w.heap.size, 1, none⟩ _)
      have h8' := h8.kept hgs (own_ne h8 hgr)
      have h9' := h9.kept hgs (own_ne h9 hgr)
      have hB9 := (Below.then hBw.out B8).grown hgs (by have := (Below.then hBw.out B8).size; omega) (fun j hj => by cases hj; omega)
      obtain ⟨t5, ht5⟩ := (hr8.set 0 (.slice k8 (runEv run).length c8)).set 1 (.slice k9 (normA (runAns run)).length c9)
      refine bodyPost_ret (results_cell_row Try.results30 _ _ w.heap.size t5 _ (0, 0) _ rfl ht5 Try.underlying26 rfl (by kernel_rfl)) rfl ?_
      exact ⟨_, _, _, _, rfl, TapeIn.owns h8' h9', hB9⟩
end Go.Proofs.Ytjdhcdbjfbhogaa
