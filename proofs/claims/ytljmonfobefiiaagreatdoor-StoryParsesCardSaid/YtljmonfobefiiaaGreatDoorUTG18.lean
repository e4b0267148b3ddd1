import Derived.Test.YtljmonfobefiiaaGreatDoorUTQ3
import Derived.Test.YtljmonfobefiiaaGreatDoorUTG11
import Derived.Test.YtljmonfobefiiaaGreatDoorUTF2
import Derived.Test.YtljmonfobefiiaaGreatDoorUN8
import Derived.Test.YtljmonfobefiiaaGreatDoorUTS2
import Derived.Test.YtljmonfobefiiaaGreatDoorUTX7
import Derived.ArgAppend
/- tape.Of. -/
namespace Go.Proofs.YtljmonfobefiiaaGreatDoor
open Go.RowKit

section
variable {ops : Array Oper} {Q : Exit → Act → World → Prop} {rest : List Oper} {o : Oper} {a : Act} {w : World}
end
theorem StpSl.range {w : World} {a : Option Addr} {n c : Nat} {l : List Stp} (h : StpSl w (.slice a n c) l) {i : Nat} {s : Stp} (hi : l[i]? = some s) :
    ∃ b o va km nm cm, a = some ⟨b, o, none⟩ ∧ AskSl w va s.asks ∧ w.rangeAt b (o + i * 11) [I s.ev.kind, I s.ev.node, I s.ev.arg, I s.ev.msg.node, I s.ev.msg.handler, I s.ev.msg.count, I s.ev.msg.index, I s.ev.msg.copy, va, .bool s.obs, .slice km nm cm] := by
  obtain ⟨xs, h1, h2⟩ := h
  obtain ⟨va, vs, g1, g2, g3⟩ := h1.at hi
  obtain ⟨km, cm, rfl, _⟩ := g2.open
  have hlt := (List.getElem?_eq_some_iff.1 hi).1
  obtain ⟨b, o, ha, hc⟩ := h2.cells (by rw [h1.length]; omega)
  refine ⟨b, o, va, km, s.sent.length, cm, ha, g1, fun j u hu => ?_⟩
  have := hc _ u (g3 j u hu)
  rwa [← Nat.add_assoc] at this
theorem AskSl.range {w : World} {a : Option Addr} {n c : Nat} {l : List Ask} (h : AskSl w (.slice a n c) l) {i : Nat} {x : Ask} (hi : l[i]? = some x) :
    ∃ b o, a = some ⟨b, o, none⟩ ∧ w.rangeAt b (o + i * 7) [I x.node, I x.handler, I x.count, I x.kind, I x.index, I x.arity, I x.n] := by
  obtain ⟨b, o, ha, hc⟩ := flat_at Ask.cells_length (by omega) h hi
  exact ⟨b, o, ha, fun j v hv => hc j v hv⟩
theorem rangeAt_below {w w' : World} {b off : Nat} {cs : List Value} (h : w.rangeAt b off cs) (hb : Below w.heap.size w w') : w'.rangeAt b off cs := fun j v hv => by
  have h0 := h j v hv
  have := World.block_lt_of_cell? _ _ h0
  rw [hb.cell (by simpa using this)]
  exact h0

theorem owns_len {W : World} {B n m k : Nat} {e : TypeId} {v : Value} {xs : List Value} (h : W.ownsRow B e k v n xs) (hn : m = n) : W.ownsRow B e k v m xs := by
  subst hn
  exact h

end Go.Proofs.YtljmonfobefiiaaGreatDoor

/- The reference's Of. -/
namespace Go.Proofs.YtljmonfobefiiaaGreatDoor
open Go.RowKit

theorem refNormR (evs : List Ev) (l : List Ans) (k : Option Addr) (c : Nat) (k2 : Option Addr) (c2 : Nat) (w : World) (h : TapeIn w k c k2 c2 evs l) (hle : evs.length ≤ 1000000) (hl : l.length ≤ 1000000) :
    Calls Tryz.prog 27 #[tv k c k2 c2 evs l] w fun e w' => ∃ k c k2 c2, e = .returned (tv k c k2 c2 evs (normA l)) ∧ w'.ownsRow w.heap.size 49 8 (.slice k evs.length c) evs.length (evs.flatMap ec) ∧ w'.ownsRow w.heap.size 78 6 (.slice k2 (normA l).length c2) (normA l).length ((normA l).flatMap ac) ∧ Below w.heap.size w w' := by
  refine (refNormalF evs l _ _ w h.1 h.2 hle hl).mono ?_
  rintro e w' ⟨ue, ua, rfl, h1, h2, h3⟩
  obtain ⟨k, c, k2, c2, rfl, rfl, h⟩ := TapeIn.of h1 h2
  exact ⟨k, c, k2, c2, rfl, h1, h2, h3⟩

set_option maxHeartbeats 4000000 in
set_option maxRecDepth 100000 in
theorem refOfF (run : List Stp) (v : Value) (w : World) (h : StpSl w v run) (hrl : run.length ≤ 100) (hal : ∀ s ∈ run, s.asks.length ≤ 100) :
    Calls Tryz.prog 29 #[v] w fun e w' => ∃ k c k2 c2, e = .returned (tv k c k2 c2 (runEv run) (normA (runAns run))) ∧ TapeIn w' k c k2 c2 (runEv run) (normA (runAns run)) ∧ Below w.heap.size w w' := by
  obtain ⟨kr, cr, rfl, hmr⟩ := h.open
  have hB0 : Below w.heap.size w ((w.alloc (.cells #[.slice none 0 0, .slice none 0 0] 32)).alloc (.cells #[.slice none 0 0, .slice none 0 0] 32)) := (by repeat (first | exact Below.refl _ _ | assumption | refine Below.drew ?_ | refine below_drewN ?_ _ | refine Below.alloc ?_ (by simp <;> omega) _ | refine Below.setCell ?_ (by simp <;> omega) _))
  have hz0 : ((w.alloc (.cells #[.slice none 0 0, .slice none 0 0] 32)).alloc (.cells #[.slice none 0 0, .slice none 0 0] 32)).heap.size = w.heap.size + 2 := by simp
  have hr0 : Blk ((w.alloc (.cells #[.slice none 0 0, .slice none 0 0] 32)).alloc (.cells #[.slice none 0 0, .slice none 0 0] 32)) w.heap.size #[.slice none 0 0, .slice none 0 0] := (Blk.new _ _ _).alloc _
  have ht0 : Blk ((w.alloc (.cells #[.slice none 0 0, .slice none 0 0] 32)).alloc (.cells #[.slice none 0 0, .slice none 0 0] 32)) (w.heap.size + 1) #[.slice none 0 0, .slice none 0 0] := ⟨_, heap_alloc2_new w _ _⟩
  have H := Lib.hid h
  have Hal := Lib.hid hal
  have Hans := Lib.hid (runAns_length run 100 hal)
  clear h hal
  go_enter Tryz.func29, Tryz.ntmps29
  go_wp2_with fail
  generalize (w.alloc (.cells #[.slice none 0 0, .slice none 0 0] 32)).alloc (.cells #[.slice none 0 0, .slice none 0 0] 32) = W0 at hB0 hz0 hr0 ht0 ⊢
  obtain ⟨gt, egt⟩ : ∃ g, g = w.heap.size + 1 := ⟨_, rfl⟩
  rw [← egt] at ht0 ⊢
  have Hgt := Lib.hid egt
  have Hr0 := Lib.hid hr0
  have HB0 := Lib.hid hB0
  have hTw : Two W0 W0 gt (.slice none 0 0) (.slice none 0 0) (runEv (run.take 0)) (runAns (run.take 0)) := ⟨ht0, World.ownsRow_nil _ _ _ _, World.ownsRow_nil _ _ _ _, fun j hj => by simp [Value.ownBlock] at hj, Below.refl _ _⟩
  have HTw := Lib.hid hTw
  clear hTw hr0 hB0 ht0 egt
  go_loopw [4] (fun i wr => ∃ (k : Nat) (ve va : Value), k ≤ run.length ∧ i = .int .i64 k ∧ Hid (Two W0 wr gt ve va (runEv (run.take k)) (runAns (run.take k)))) (fun i _ => run.length - (intOf i).toNat)
  case atStart => exact ⟨0, _, _, by omega, rfl, HTw⟩
  case round =>
    clear HTw
    obtain ⟨k, ve, va, hk, rfl, HT⟩ := hrel
    have hzr := HT.out.below.size
    have hBr : Below w.heap.size w wr := HB0.out.trans (HT.out.below.mono (by have := Hgt.out; omega))
    by_cases hlt : k < run.length
    · have hst : run[k]? = some run[k] := by simp [hlt]
      obtain ⟨b, o, vk, km, nm, cm, hkr, hask, hrng⟩ := H.out.range hst
      have hkr := hkr.symm
      subst hkr
      have hsk := runEv_snoc hlt
      have hsa := runAns_snoc hlt
      have Hoka := Lib.hid (Hal.out _ (List.getElem_mem hlt))
      generalize run[k] = s at hst hask hrng hsk hsa Hoka
      obtain ⟨ka, ca, rfl, hma⟩ := hask.open
      have Hask := Lib.hid hask
      have hbw0 : b < w.heap.size := by simpa using World.block_lt_of_cell? _ _ (hrng 0 _ rfl)
      have Hrng := Lib.hid (fun (W : World) (hW : Below w.heap.size w W) => rangeAt_below hrng hW)
      have Hsk := Lib.hid hsk
      have Hsa := Lib.hid hsa
      have hlE : (runEv (run.take k)).length ≤ 100 := by rw [runEv_length, List.length_take]; omega
      have hlA : (runAns (run.take k)).length ≤ 10000 := by
        have := runAns_length (run.take k) 100 (fun t ht => Hal.out t (List.mem_of_mem_take ht))
        rw [List.length_take] at this
        omega
      have hr1 := Hrng.out wr hBr
      have x0 : wr.cell? ⟨b, o + k * 11, none⟩ = _ := hr1 0 _ rfl
      have x1 := hr1 1 _ rfl
      have x2 := hr1 2 _ rfl
      have x3 := hr1 3 _ rfl
      have x4 := hr1 4 _ rfl
      have x5 := hr1 5 _ rfl
      have x6 := hr1 6 _ rfl
      have x7 := hr1 7 _ rfl
      clear hst hask hrng hsk hsa hr1
      obtain ⟨N, hN⟩ : ∃ N, N = (runEv (run.take k)).length := ⟨_, rfl⟩
      obtain ⟨ke, ce, rfl, _⟩ := (Flat.of_owns HT.out.oe).open
      obtain ⟨kv, cv, rfl, _⟩ := (Flat.of_owns HT.out.oa).open
      have hblk := HT.out.blk
      rw [← hN] at HT hlE hblk
      have HN := Lib.hid hN
      have hbw : b < wr.heap.size := by have := HB0.out.size; omega
      clear hN
      have hgtl := hblk.lt
      go_upto_region 5 with fail
      refine wp_region_ordN 9 [(0, true), (1, true), (2, true), (3, true), (4, true), (5, true), (6, true), (7, false), (8, false)] (fun w' => (∀ j, w'.cell? ⟨gt, j, none⟩ = (#[.slice ke N ce, .slice kv (runAns (run.take k)).length cv] : Array Value)[j]?) ∧ (∀ o, w'.cell? ⟨b, o, none⟩ = wr.cell? ⟨b, o, none⟩)) (by kernel_rfl) rfl rfl (by kernel_rfl) ⟨hblk.cell, fun _ => rfl⟩ ?_
      iterate 7 (refine wpOrd_take ?_ (by rfl) ?_ ?_; rotate_left; (intro w hSw; (try dsimp only at hSw); go_simp; try with_reducible rfl); (try simp only [Act.put, List.setIfInBounds_toArray, List.set_cons_zero, List.set_cons_succ]))
      obtain ⟨hq, Bq, zq⟩ := boxed wr.drew #[I s.ev.kind, I s.ev.node, I s.ev.arg, I s.ev.msg.node, I s.ev.msg.handler, I s.ev.msg.count, I s.ev.msg.index, I s.ev.msg.copy] 49
      have Bq' : Below wr.heap.size wr (wr.drew.alloc (.cells #[I s.ev.kind, I s.ev.node, I s.ev.arg, I s.ev.msg.node, I s.ev.msg.handler, I s.ev.msg.count, I s.ev.msg.index, I s.ev.msg.copy] 49)) := (Below.refl _ wr).drew.alloc (by simp) _
      refine wpOrd_move (fun K hK => ?_)
      go_simp
      refine hK.out _ _ ⟨(hblk.drew.alloc _).cell, fun o => bcell Bq' b o hbw⟩ ?_
      clear hK K
      (try simp only [Act.put, List.setIfInBounds_toArray, List.set_cons_zero, List.set_cons_succ])
      have hTd := HT.out.later Bq'
      have hob := (owns_len HT.out.oe HN.out)
      refine step_appB (by rfl) _ _ 29 (by rfl) 49 _ 8 64 Tryz.underlying29 info_Event rfl (by omega) (by omega) (gt + 1) (.slice ke N ce) N _ (by rfl) (hob.drew.alloc _) wr.heap.size 1 1 #[I s.ev.kind, I s.ev.node, I s.ev.arg, I s.ev.msg.node, I s.ev.msg.handler, I s.ev.msg.count, I s.ev.msg.index, I s.ev.msg.copy] 49 (by rfl) (heap_alloc_new wr.drew _) rfl rfl (by omega) (by omega) (by simp; omega) ?_
      intro g6 cap6 w6 hg6a hg6b hg6c ho6 hgr6 hB6
      have hb6 := hTd.blk.grown hgr6 (fun e => by have := (HT.out.oe.lt gt e).1; omega)
      have hT6 := hTd.appE s.ev hg6c ho6 HN.out hgr6
      rw [← Hsk.out] at hT6
      refine ⟨⟨hb6.cell, fun o' => ?_⟩, ?_⟩
      · refine (hgr6.cell_far ⟨b, o', none⟩ (by simp; omega) (fun e => by have := (HT.out.oe.lt b e.symm).1; have := Hgt.out; omega)).trans ?_
        exact bcell Bq' b o' hbw
      have c60 := hb6.cell 0
      have f60 := hb6.frozen 0
      have HT6 := Lib.hid hT6
      clear hb6 hT6 hTd hob hgr6 ho6 hB6 hq Bq Bq' zq x0 x1 x2 x3 x4 x5 x6 x7 hblk HT hg6a hg6b hg6c
      (try simp only [Act.put, List.setIfInBounds_toArray, List.set_cons_zero, List.set_cons_succ])
      refine wpOrd_nil ?_
      go_wp2_with fail
      refine NoPanic.normal ?_
      go_wp2_with fail
      generalize w6.setCell ⟨gt, 0, none⟩ (.slice (some ⟨g6, 0, none⟩) (N + 1) cap6) = w7 at HT6 ⊢
      go_loopw [5] (fun i wr => ∃ (j : Nat) (va : Value), j ≤ s.asks.length ∧ i = .int .i64 j ∧ Hid (Two W0 wr gt (.slice (some ⟨g6, 0, none⟩) (N + 1) cap6) va (runEv (run.take (k + 1))) (runAns (run.take k) ++ (s.asks.take j).map Ask.ans))) (fun i _ => s.asks.length - (intOf i).toNat)
      case atStart => exact ⟨0, _, by omega, rfl, Lib.hid (by simpa using HT6.out)⟩
      case round =>
        clear HT6
        obtain ⟨j, va, hj, rfl, HT⟩ := hrel
        have hBr2 : Below w.heap.size w wr := HB0.out.trans (HT.out.below.mono (by have := Hgt.out; omega))
        have x8 : wr.cell? ⟨b, o + k * 11 + 8, none⟩ = _ := Hrng.out wr hBr2 8 _ rfl
        by_cases hlj : j < s.asks.length
        · have hst : s.asks[j]? = some s.asks[j] := by simp [hlj]
          obtain ⟨b2, o2, hka, hrng⟩ := Hask.out.range hst
          have hka := hka.symm
          subst hka
          have Has := Lib.hid (asks_snoc hlj (runAns (run.take k)))
          generalize s.asks[j] = x at hst hrng Has
          have hr2 := rangeAt_below hrng hBr2
          have y0 : wr.cell? ⟨b2, o2 + j * 7, none⟩ = _ := hr2 0 _ rfl
          have y1 := hr2 1 _ rfl
          have y2 := hr2 2 _ rfl
          have y3 := hr2 3 _ rfl
          have y4 := hr2 4 _ rfl
          have y6 := hr2 6 _ rfl
          have hb2w0 : b2 < w.heap.size := by simpa using World.block_lt_of_cell? _ _ (hrng 0 _ rfl)
          have hzw := hBr2.size
          have hlm : (runAns (run.take k) ++ (s.asks.take j).map Ask.ans).length ≤ 20000 := by
            have := Hoka.out
            rw [List.length_append, List.length_map, List.length_take]
            omega
          clear hst hrng hr2
          obtain ⟨M, hM⟩ : ∃ M, M = (runAns (run.take k) ++ (s.asks.take j).map Ask.ans).length := ⟨_, rfl⟩
          obtain ⟨kv, cv, rfl, _⟩ := (Flat.of_owns HT.out.oa).open
          have hblk := HT.out.blk
          rw [← hM] at HT hlm hblk
          have HM := Lib.hid hM
          have hgtl := hblk.lt
          clear hM
          go_upto_region 9 with fail
          refine wp_region_ordN 23 [(0, true), (1, true), (2, true), (3, true), (4, true), (5, true), (6, true), (7, true), (8, true), (9, true), (10, true), (11, true), (12, true), (13, true), (14, true), (15, true), (16, true), (17, true), (18, true), (19, true), (20, true), (21, false), (22, false)] (fun w' => (∀ j', w'.cell? ⟨gt, j', none⟩ = (#[.slice (some ⟨g6, 0, none⟩) (N + 1) cap6, .slice kv M cv] : Array Value)[j']?) ∧ (∀ o, w'.cell? ⟨b, o, none⟩ = wr.cell? ⟨b, o, none⟩) ∧ (∀ o, w'.cell? ⟨b2, o, none⟩ = wr.cell? ⟨b2, o, none⟩)) (by kernel_rfl) rfl rfl (by kernel_rfl) ⟨hblk.cell, fun _ => rfl, fun _ => rfl⟩ ?_
          iterate 21 (refine wpOrd_take ?_ (by rfl) ?_ ?_; rotate_left; (intro w hSw; (try dsimp only at hSw); go_simp; try with_reducible rfl); (try simp only [Act.put, List.setIfInBounds_toArray, List.set_cons_zero, List.set_cons_succ]))
          have Bq' : Below wr.heap.size wr (wr.drew.alloc (.cells #[I x.node, I x.handler, I x.count, I x.kind, I x.index, I x.n] 78)) := (Below.refl _ wr).drew.alloc (by simp) _
          refine wpOrd_move (fun K hK => ?_)
          go_simp
          refine hK.out _ _ ⟨(hblk.drew.alloc _).cell, fun o => bcell Bq' b o (by omega), fun o => bcell Bq' b2 o (by omega)⟩ ?_
          clear hK K
          (try simp only [Act.put, List.setIfInBounds_toArray, List.set_cons_zero, List.set_cons_succ])
          have hTd := HT.out.later Bq'
          have hob := (owns_len HT.out.oa HM.out)
          refine step_appB (by rfl) _ _ 30 (by rfl) 78 _ 6 48 Tryz.underlying30 info_Answer rfl (by omega) (by omega) (gt + 1) (.slice kv M cv) M _ (by rfl) (hob.drew.alloc _) wr.heap.size 1 1 #[I x.node, I x.handler, I x.count, I x.kind, I x.index, I x.n] 78 (by rfl) (heap_alloc_new wr.drew _) rfl rfl (by omega) (by omega) (by simp; omega) ?_
          intro g8 cap8 w8 hg8a hg8b hg8c ho8 hgr8 hB8
          have hb8 := hTd.blk.grown hgr8 (fun e => by have := (HT.out.oa.lt gt e).1; omega)
          have hT8 := hTd.appA x.ans hg8c ho8 HM.out hgr8
          rw [← Has.out] at hT8
          refine ⟨⟨hb8.cell, fun o' => ?_, fun o' => ?_⟩, ?_⟩
          · refine (hgr8.cell_far ⟨b, o', none⟩ (by simp; omega) (fun e => by have := (HT.out.oa.lt b e.symm).1; have := Hgt.out; omega)).trans ?_
            exact bcell Bq' b o' (by omega)
          · refine (hgr8.cell_far ⟨b2, o', none⟩ (by simp; omega) (fun e => by have := (HT.out.oa.lt b2 e.symm).1; have := Hgt.out; omega)).trans ?_
            exact bcell Bq' b2 o' (by omega)
          have c81 := hb8.cell 1
          have f81 := hb8.frozen 1
          have HT8 := Lib.hid hT8
          clear hb8 hT8 hTd hob hgr8 ho8 hB8 Bq' y0 y1 y2 y3 y4 y6 hblk HT x8 hg8a hg8b hg8c
          (try simp only [Act.put, List.setIfInBounds_toArray, List.set_cons_zero, List.set_cons_succ])
          refine wpOrd_nil ?_
          go_wp2_with fail
          refine NoPanic.normal ?_
          go_wp2_with fail
          go_roundw
          case rel => exact ⟨j + 1, _, by omega, by go_num, HT8⟩
          case measure => simp [intOf]; omega
        · obtain rfl : j = s.asks.length := by omega
          have hT := HT.out
          rw [List.take_of_length_le (Nat.le_refl _), ← Hsa.out] at hT
          have HTz := Lib.hid hT
          clear hT HT
          go_wp2_with fail
          go_roundw
          case rel => exact ⟨k + 1, _, _, by omega, by go_num, HTz⟩
          case measure => simp [intOf]; omega
    · obtain rfl : k = run.length := by omega
      have hT := HT.out
      rw [List.take_of_length_le (Nat.le_refl _)] at hT
      obtain ⟨ke, ce, rfl, _⟩ := (Flat.of_owns hT.oe).open
      obtain ⟨kv, cv, rfl, _⟩ := (Flat.of_owns hT.oa).open
      have d0 := hT.blk.cell 0
      have d1 := hT.blk.cell 1
      have hlA := Hans.out
      have HN := Lib.hid (refNormR (runEv run) (runAns run) ke ce kv cv wr (TapeIn.owns hT.oe hT.oa) (by rw [runEv_length]; omega) (by omega))
      have hres := Hr0.out.kept hT.below (by have := Hgt.out; omega)
      have hBw := Lib.hid hBr
      have Hres := Lib.hid hres
      have hgr := hres.lt
      clear hT HT hres
      go_wp2_with (go_at_call 27; refine HN.out.mono ?_; rintro e w8 ⟨k8, c8, k9, c9, rfl, h8, h9, B8⟩; have hr8 := Hres.out.kept B8 hgr; have r0 := hr8.cell 0; have r1 := hr8.cell 1; have fr0 := hr8.frozen 0; have fr1 := hr8.frozen 1)
      have hgs : w8.grownBy ((w8.setCell ⟨w.heap.size, 0, none⟩ (.slice k8 (runEv run).length c8)).setCell ⟨w.heap.size, 1, none⟩ (.slice k9 (normA (runAns run)).length c9)) (some w.heap.size) := (grown_set w8 ⟨w.heap.size, 0, none⟩ _).trans (grown_set _ ⟨w.heap.size, 1, none⟩ _)
      have h8' := h8.kept hgs (own_ne h8 hgr)
      have h9' := h9.kept hgs (own_ne h9 hgr)
      have hB9 := (Below.then hBw.out B8).grown hgs (by have := (Below.then hBw.out B8).size; omega) (fun j hj => by cases hj; omega)
      obtain ⟨t5, ht5⟩ := (hr8.set 0 (.slice k8 (runEv run).length c8)).set 1 (.slice k9 (normA (runAns run)).length c9)
      refine bodyPost_ret (results_cell_row Tryz.results29 _ _ w.heap.size t5 _ (0, 0) _ rfl ht5 Tryz.underlying32 rfl (by kernel_rfl)) rfl ?_
      exact ⟨_, _, _, _, rfl, TapeIn.owns h8' h9', hB9⟩
end Go.Proofs.YtljmonfobefiiaaGreatDoor

/- lives: the example of the section, on the two fixed runs. -/
namespace Go.Proofs.YtljmonfobefiiaaGreatDoor
open Go.RowKit

def ls1 : Stp := ⟨⟨1, 0, 0, ⟨0, 0, 0, 0, 0⟩⟩, [], false, []⟩
def ls2 : Stp := ⟨⟨4, 0, 0, ⟨0, 0, 0, 0, 0⟩⟩, [⟨0, 2, 0, 1, 0, 3, 2⟩], true, []⟩
def lrow1 : Array Value := #[I 1, I 0, I 0, I 0, I 0, I 0, I 0, I 0, .slice none 0 0, .bool false, .slice none 0 0]
def lt1 : Str := [48, 58, 32, 115, 116, 97, 114, 116, 32, 48, 32, 48, 10]
def lt2 : Str := [48, 58, 32, 115, 116, 97, 114, 116, 32, 48, 32, 48, 10, 49, 58, 32, 116, 105, 109, 101, 114, 32, 48, 32, 48, 32, 91, 100, 114, 97, 119, 32, 48, 46, 50, 46, 48, 32, 48, 32, 61, 32, 50, 47, 51, 93, 32, 42, 32, 97, 102, 116, 101, 114, 32, 48, 10]
theorem story_l1 : storyT (normS [ls1]) = lt1 := by decide +kernel
theorem story_l2 : storyT (normS [ls1, ls2]) = lt2 := by decide +kernel
theorem why_l2 : whyL [ls1, ls2] 1 = [0, 1] := by decide +kernel
theorem parse_l2 : (story lt2).evs = runEv [ls1, ls2] ∧ (story lt2).ans = normA (runAns [ls1, ls2]) ∧ (story lt2).code = 0 := by decide +kernel

theorem ls_int : ∀ s ∈ [ls1, ls2], StpI s := by
  intro s hs
  simp only [List.mem_cons, List.not_mem_nil, or_false] at hs
  rcases hs with rfl | rfl
  · refine ⟨?_, ?_, by decide⟩
    · intro x hx
      simp [ls1, Ev.ints] at hx
      unfold InI64
      omega
    · intro a ha
      simp [ls1] at ha
  · refine ⟨?_, ?_, by decide⟩
    · intro x hx
      simp [ls2, Ev.ints] at hx
      unfold InI64
      omega
    · intro a ha
      simp [ls2] at ha
      subst ha
      intro x hx
      simp [Ask.ints] at hx
      unfold InI64
      omega
theorem ls1_int : ∀ s ∈ [ls1], StpI s := fun s hs => ls_int s (List.mem_cons.2 (.inl (by simpa using hs)))
theorem sl_one {W : World} {b : Nat} (h : Blk W b lrow1) : StpSl W (.slice (some ⟨b, 0, none⟩) 1 1) [ls1] :=
  ⟨lrow1.toList, ⟨.slice none 0 0, .slice none 0 0, [], rfl, Flat.nil _ _ _ _, Flat.nil _ _ _ _, rfl⟩, Flat.of_cells rfl (by decide) (fun j u hu => by rw [Nat.zero_add, h.cell j, ← hu]; simp)⟩

set_option maxHeartbeats 8000000 in
set_option maxRecDepth 100000 in
theorem livesC (w : World) (hg : Gl w) : LivesOk w := by
  unfold LivesOk
  have Hg := Lib.hid hg
  clear hg
  obtain ⟨i0, hi, hz0, hz1, hz2⟩ := info_parts info_Step
  go_enter Tryz.func12, Tryz.ntmps12
  go_upto_region 3 with fail
  obtain ⟨w2, hw2⟩ : ∃ w2, w2 = (w.alloc (.cells #[I 1, I 0, I 0, I 0, I 0, I 0, I 0, I 0, .slice none 0 0, .bool false, .slice none 0 0] 53)).alloc (.cells #[I 0, I 2, I 0, I 1, I 0] 58) := ⟨_, rfl⟩
  have hr1 : Blk w2 w.heap.size lrow1 := by rw [hw2]; exact (Blk.new _ _ _).alloc _
  have hq : Blk w2 (w.heap.size + 1) #[I 0, I 2, I 0, I 1, I 0] := by
    rw [hw2]
    have := Blk.new (w.alloc (.cells #[I 1, I 0, I 0, I 0, I 0, I 0, I 0, I 0, .slice none 0 0, .bool false, .slice none 0 0] 53)) #[I 0, I 2, I 0, I 1, I 0] 58
    simpa using this
  have hB2 : Below w.heap.size w w2 := by rw [hw2]; exact ((Below.refl _ _).alloc (Nat.le_refl _) _).alloc (by simp) _
  have hz2 : w2.heap.size = w.heap.size + 2 := by rw [hw2]; simp
  rw [← hw2]
  clear hw2
  obtain ⟨A, hA⟩ : ∃ A, A = w.heap.size := ⟨_, rfl⟩
  rw [← hA] at hr1 hq hB2 hz2 ⊢
  have HA := Lib.hid hA
  clear hA
  have q0 := hq.cell 0; have q1 := hq.cell 1; have q2 := hq.cell 2; have q3 := hq.cell 3; have q4 := hq.cell 4
  obtain ⟨w4, hw4⟩ : ∃ w4, w4 = (w2.alloc (.cells #[I 0, I 2, I 0, I 1, I 0, I 3, I 2] 60)).alloc (.cells #[I 4, I 0, I 0, I 0, I 0, I 0, I 0, I 0, .slice (some ⟨w2.heap.size, 0, none⟩) 1 1, .bool true, .slice none 0 0] 53) := ⟨_, rfl⟩
  have hB4 : Below w2.heap.size w2 w4 := by rw [hw4]; exact ((Below.refl _ _).alloc (Nat.le_refl _) _).alloc (by simp) _
  have hak : Blk w4 w2.heap.size #[I 0, I 2, I 0, I 1, I 0, I 3, I 2] := by rw [hw4]; exact (Blk.new _ _ _).alloc _
  have hr2 : Blk w4 (w2.heap.size + 1) #[I 4, I 0, I 0, I 0, I 0, I 0, I 0, I 0, .slice (some ⟨w2.heap.size, 0, none⟩) 1 1, .bool true, .slice none 0 0] := by
    rw [hw4]
    have := Blk.new (w2.alloc (.cells #[I 0, I 2, I 0, I 1, I 0, I 3, I 2] 60)) #[I 4, I 0, I 0, I 0, I 0, I 0, I 0, I 0, .slice (some ⟨w2.heap.size, 0, none⟩) 1 1, .bool true, .slice none 0 0] 53
    simpa using this
  have hz4 : w4.heap.size = w2.heap.size + 2 := by rw [hw4]; simp
  have hr14 := hr1.kept hB4 hr1.lt
  have Hr14 := Lib.hid hr14
  have Hr2 := Lib.hid hr2
  have Hak := Lib.hid hak
  have HB4 := Lib.hid hB4
  have HB2 := Lib.hid hB2
  have Hw4 := Lib.hid hw4
  have Hz2 := Lib.hid hz2
  have Hz4 := Lib.hid hz4
  clear hr1 hr14 hr2 hak hB4 hB2 hq hw4 hz2 hz4
  go_wp2_with (at_builtin; go_must (rw [← Hw4.out]; refine wpList_append_arg _ rfl _ _ 24 rfl 53 i0 _ 11 _ Tryz.underlying24 hi hz0 hz1 hz2 rfl (by decide) A 0 1 1 #[I 1, I 0, I 0, I 0, I 0, I 0, I 0, I 0, .slice none 0 0, .bool false, .slice none 0 0].toList rfl rfl ?olds ⟨w2.heap.size + 1, 0, none⟩ 1 1 [I 4, I 0, I 0, I 0, I 0, I 0, I 0, I 0, .slice (some ⟨w2.heap.size, 0, none⟩) 1 1, .bool true, .slice none 0 0] rfl rfl ?c1 ?c2 ?spare ?b1 ?b2 ?room ?grow))
  case olds => intro j u hu; rw [Hr14.out.cell j, ← hu]; simp [lrow1]
  case c1 => intro j u hu; rw [Addr.add_lit, Nat.zero_add, Hr2.out.cell j, ← hu]; simp
  case c2 => exact List.all_eq_true.1 rfl
  case spare => intro h; omega
  case b1 => unfold maxLen; omega
  case b2 => omega
  case grow =>
    intro v5 w5 ho5 hg5
    have hB45 : Below w4.heap.size w4 w5 := (Below.refl _ _).grown hg5 (Nat.le_refl _) (fun k hk => by cases hk)
    have hf5 := Flat.of_owns ho5
    obtain ⟨ka, kc, rfl, _⟩ := hf5.open
    have hak5 := Hak.out.kept hB45 Hak.out.lt
    have hsl2 : StpSl w5 (.slice ka 2 kc) [ls1, ls2] :=
      ⟨_, ⟨.slice none 0 0, .slice none 0 0, _, rfl, Flat.nil _ _ _ _, Flat.nil _ _ _ _, ⟨.slice (some ⟨w2.heap.size, 0, none⟩) 1 1, .slice none 0 0, [], rfl, Flat.of_cells rfl (by decide) (fun j u hu => by rw [Nat.zero_add, hak5.cell j, ← hu]; simp [ls2, Ask.cells, Ask.ints, iv]), Flat.nil _ _ _ _, rfl⟩⟩, hf5⟩
    have hsl1 : StpSl w5 (.slice (some ⟨A, 0, none⟩) 1 1) [ls1] := sl_one (Hr14.out.kept hB45 Hr14.out.lt)
    have hBw5 : Below A w w5 := HB2.out.trans ((HB4.out.trans (hB45.mono (by have := Hz4.out; omega))).mono (by have := Hz2.out; omega))
    have HBw5 := Lib.hid (show Below w.heap.size w w5 by rw [← HA.out]; exact hBw5)
    have Hg5 := Lib.hid (Hg.out.below HBw5.out)
    have Hs1 := Lib.hid hsl1
    have Hs2 := Lib.hid hsl2
    have Hp := Lib.hid (parseC lt2 w5 Hg5.out (by decide))
    unfold ParseP at Hp
    obtain ⟨p1, p2, p3⟩ := parse_l2
    rw [p1, p2, p3] at Hp
    clear p1 p2 p3
    obtain ⟨E, hE⟩ : ∃ E, E = runEv [ls1, ls2] := ⟨_, rfl⟩
    obtain ⟨L, hL⟩ : ∃ L, L = normA (runAns [ls1, ls2]) := ⟨_, rfl⟩
    rw [← hE, ← hL] at Hp
    have hEl : E.length = 2 := by rw [hE]; decide
    have hLl : L.length = 1 := by rw [hL]; decide +kernel
    have HOf : Hid (∀ X, StpSl X (.slice ka 2 kc) [ls1, ls2] → Calls Tryz.prog 29 #[.slice ka 2 kc] X fun e w' => ∃ k c k2 c2, e = .returned (.agg #[.slice k 2 c, .slice k2 1 c2]) ∧ TapeIn w' k c k2 c2 E L ∧ Below X.heap.size X w') := Lib.hid (fun X h => by
      have h1 := refOfF [ls1, ls2] (.slice ka 2 kc) X h (by decide) (by decide)
      rw [← hE, ← hL] at h1
      unfold tv at h1
      rw [hEl, hLl] at h1
      exact h1)
    have HSm : Hid (∀ X k c k2 c2 k3 c3 k4 c4, TapeIn X k c k2 c2 E L → TapeIn X k3 c3 k4 c4 E L → Calls Tryz.prog 11 #[.agg #[.slice k 2 c, .slice k2 1 c2], .agg #[.slice k3 2 c3, .slice k4 1 c4]] X fun e w' => e = .returned (.bool true) ∧ Below X.heap.size X w') := Lib.hid (fun X k c k2 c2 k3 c3 k4 c4 h1 h2 => by
      have h := sameB E E L L k c k2 c2 k3 c3 k4 c4 X h1 h2 true (by simp)
      unfold tv at h
      rw [hEl, hLl] at h
      exact h)
    have HP1 : Hid (∀ X, Below w5.heap.size w5 X → Calls Tryz.prog 28 #[.slice (some ⟨A, 0, none⟩) 1 1] X fun e w' => e = .returned (.string ⟨List.toArray [48, 58, 32, 115, 116, 97, 114, 116, 32, 48, 32, 48, 10]⟩) ∧ Below X.heap.size X w') := Lib.hid (fun X hX => by
      have h := printC [ls1] (.slice (some ⟨A, 0, none⟩) 1 1) X (Hs1.out.kept hX (Nat.le_refl _)) (by decide) ls1_int (by decide) (Hg5.out.below hX)
      rw [story_l1] at h
      exact h)
    have HP2 : Hid (∀ X, Below w5.heap.size w5 X → Calls Tryz.prog 28 #[.slice ka 2 kc] X fun e w' => e = .returned (.string ⟨List.toArray [48, 58, 32, 115, 116, 97, 114, 116, 32, 48, 32, 48, 10, 49, 58, 32, 116, 105, 109, 101, 114, 32, 48, 32, 48, 32, 91, 100, 114, 97, 119, 32, 48, 46, 50, 46, 48, 32, 48, 32, 61, 32, 50, 47, 51, 93, 32, 42, 32, 97, 102, 116, 101, 114, 32, 48, 10]⟩) ∧ Below X.heap.size X w') := Lib.hid (fun X hX => by
      have h := printC [ls1, ls2] (.slice ka 2 kc) X (Hs2.out.kept hX (Nat.le_refl _)) (by decide) ls_int (by decide) (Hg5.out.below hX)
      rw [story_l2] at h
      exact h)
    have HWy : Hid (∀ X, Below w5.heap.size w5 X → Calls Tryz.prog 31 #[.slice ka 2 kc, I 1] X fun e w' => ∃ u, e = .returned u ∧ IntSl w' u [0, 1] ∧ Below X.heap.size X w') := Lib.hid (fun X hX => by
      have h := whyC [ls1, ls2] (.slice ka 2 kc) X (Hs2.out.kept hX (Nat.le_refl _)) (by decide) 1 (by decide)
      rw [why_l2] at h
      exact h)
    clear hE hL ho5 hg5 hB45 hf5 hak5 hsl1 hsl2 hBw5 Hr14 Hr2 Hak HB4 HB2 Hw4 Hz2 Hz4 q0 q1 q2 q3 q4
    unfold tv at Hp
    rw [hEl, hLl] at Hp
    go_wp2_with (go_at_call 9; refine Hp.out.mono ?_; rintro e w6 ⟨⟨k, c, k2, c2, rfl, hT⟩, hB6⟩)
    have hB7 : Below w5.heap.size w5 (w6.alloc (.cells #[.slice k 2 c, .slice k2 1 c2] 32)) := hB6.alloc hB6.size _
    have hb7 : Blk (w6.alloc (.cells #[.slice k 2 c, .slice k2 1 c2] 32)) w6.heap.size #[.slice k 2 c, .slice k2 1 c2] := Blk.new _ _ _
    have hT7 : TapeIn (w6.alloc (.cells #[.slice k 2 c, .slice k2 1 c2] 32)) k c k2 c2 E L := hT.kept ((Below.refl _ _).alloc (Nat.le_refl _) _)
    obtain ⟨V0, hV0⟩ : ∃ V0, V0 = w6.alloc (.cells #[.slice k 2 c, .slice k2 1 c2] 32) := ⟨_, rfl⟩
    obtain ⟨G, hG⟩ : ∃ G, G = w6.heap.size := ⟨_, rfl⟩
    rw [← hV0] at hB7 hb7 hT7 ⊢
    rw [← hG] at hb7 ⊢
    clear hV0 hG
    obtain ⟨V, hV⟩ : ∃ V, V = V0.drew := ⟨_, rfl⟩
    have HBV := Lib.hid (show Below w5.heap.size w5 V by rw [hV]; exact hB7.drew)
    have HbV := Lib.hid (show Blk V G #[.slice k 2 c, .slice k2 1 c2] by rw [hV]; exact hb7.drew)
    have HTV := Lib.hid (show TapeIn V k c k2 c2 E L by rw [hV]; exact hT7.kept ((Below.refl _ _).drew))
    have HTc : Hid (∀ X, Below V.heap.size V X → X.cell? ⟨G, 0, none⟩ = some (.slice k 2 c) ∧ X.cell? ⟨G, 1, none⟩ = some (.slice k2 1 c2)) := Lib.hid (fun X hX => ⟨(HbV.out.kept hX HbV.out.lt).cell 0, (HbV.out.kept hX HbV.out.lt).cell 1⟩)
    have HD := Lib.hid (Below.refl V.heap.size V)
    have hSV := HTc.out _ HD.out
    clear hB7 hb7 hT7 hT hB6 hEl hLl
    refine wp_region_T 22 (.take 0 (.move 1 (.take 2 (.take 3 (.take 4 (.move 5 (.take 6 (.take 7 (.take 8 (.take 9 (.take 10 (.take 11 (.take 12 (.take 13 (.take 14 (.move 15 (.move 16 (.take 17 (.take 18 (.take 19 (.fork 20 21 (.move 21 .nil) (.move 20 .nil)))))))))))))))))))))) (fun X => X.cell? ⟨G, 0, none⟩ = some (.slice k 2 c) ∧ X.cell? ⟨G, 1, none⟩ = some (.slice k2 1 c2)) (by kernel_rfl) rfl (by kernel_rfl) (by rw [← hV]; exact hSV) ?_
    rw [← hV]
    clear hV hSV
    iterate 1 (refine wpT_take rfl ?_ (by rfl) ?_ ?_; rotate_left; (intro w hSw; (try dsimp only at hSw); go_simp; try with_reducible rfl); (try simp only [Act.put, List.setIfInBounds_toArray, List.set_cons_zero, List.set_cons_succ]))
    refine wpT_move rfl (fun K hK => ?_)
    go_simp
    go_at_call 28
    refine (HP1.out _ (HBV.out.trans (HD.out.mono HBV.out.size))).mono ?_
    rintro e V1 ⟨rfl, F⟩
    replace HD := Lib.hid (HD.out.trans (F.mono HD.out.size))
    refine hK.out _ _ (HTc.out _ HD.out) ?_
    clear hK K F
    (try simp only [Act.put, List.setIfInBounds_toArray, List.set_cons_zero, List.set_cons_succ])
    iterate 3 (refine wpT_take rfl ?_ (by rfl) ?_ ?_; rotate_left; (intro w hSw; (try dsimp only at hSw); go_simp; try with_reducible rfl); (try simp only [Act.put, List.setIfInBounds_toArray, List.set_cons_zero, List.set_cons_succ]))
    refine wpT_move rfl (fun K hK => ?_)
    go_simp
    go_at_call 28
    refine (HP2.out _ (HBV.out.trans (HD.out.mono HBV.out.size))).mono ?_
    rintro e V2 ⟨rfl, F⟩
    replace HD := Lib.hid (HD.out.trans (F.mono HD.out.size))
    refine hK.out _ _ (HTc.out _ HD.out) ?_
    clear hK K F
    (try simp only [Act.put, List.setIfInBounds_toArray, List.set_cons_zero, List.set_cons_succ])
    iterate 9 (refine wpT_take rfl ?_ (by rfl) ?_ ?_; rotate_left; (intro w hSw; (try dsimp only at hSw); go_simp; try with_reducible rfl); (try simp only [Act.put, List.setIfInBounds_toArray, List.set_cons_zero, List.set_cons_succ]))
    refine wpT_move rfl (fun K hK => ?_)
    go_simp
    go_at_call 29
    refine (HOf.out _ (Hs2.out.kept (HBV.out.trans (HD.out.mono HBV.out.size)) (Nat.le_refl _))).mono ?_
    rintro e V3 ⟨k3, c3, k4, c4, rfl, hT3, F⟩
    have HT3 := Lib.hid hT3
    clear hT3
    replace HD := Lib.hid (HD.out.trans (F.mono HD.out.size))
    refine hK.out _ _ (HTc.out _ HD.out) ?_
    clear hK K F
    (try simp only [Act.put, List.setIfInBounds_toArray, List.set_cons_zero, List.set_cons_succ])
    refine wpT_move rfl (fun K hK => ?_)
    go_simp
    go_at_call 11
    refine (HSm.out _ k c k2 c2 k3 c3 k4 c4 (HTV.out.kept HD.out) HT3.out).mono ?_
    rintro e V4 ⟨rfl, F⟩
    replace HD := Lib.hid (HD.out.trans (F.mono HD.out.size))
    refine hK.out _ _ (HTc.out _ HD.out) ?_
    clear hK K F
    (try simp only [Act.put, List.setIfInBounds_toArray, List.set_cons_zero, List.set_cons_succ])
    iterate 3 (refine wpT_take rfl ?_ (by rfl) ?_ ?_; rotate_left; (intro w hSw; (try dsimp only at hSw); go_simp; try with_reducible rfl); (try simp only [Act.put, List.setIfInBounds_toArray, List.set_cons_zero, List.set_cons_succ]))
    refine wpT_fork ?_ ?_
    · refine wpT_move rfl (fun K hK => ?_)
      go_simp
      go_at_call 31
      refine (HWy.out _ (HBV.out.trans (HD.out.mono HBV.out.size))).mono ?_
      rintro e V5 ⟨u, rfl, hI, F⟩
      obtain ⟨ku, cu, rfl, _⟩ := hI.open
      have HI := Lib.hid hI
      clear hI
      replace HD := Lib.hid (HD.out.trans (F.mono HD.out.size))
      refine hK.out _ _ (HTc.out _ HD.out) ?_
      clear hK K F
      (try simp only [Act.put, List.setIfInBounds_toArray, List.set_cons_zero, List.set_cons_succ])
      refine wpT_move rfl (fun K hK => ?_)
      go_simp
      have F : Below V5.heap.size V5 (V5.alloc (.cells #[I 0, I 1] 3)) := (Below.refl _ _).alloc (Nat.le_refl _) _
      have HJ : Hid (IntSl (V5.alloc (.cells #[I 0, I 1] 3)) (.slice (some ⟨V5.heap.size, 0, none⟩) 2 2) [0, 1]) := Lib.hid (Flat.of_cells rfl (by decide) (fun j u hu => by rw [Nat.zero_add, (Blk.new V5 #[I 0, I 1] 3).cell j, ← hu]; simp [iv]))
      replace HI := Lib.hid (IntSl.kept HI.out F (Nat.le_refl _))
      replace HD := Lib.hid (HD.out.trans (F.mono HD.out.size))
      refine hK.out _ _ (HTc.out _ HD.out) ?_
      clear hK K F
      (try simp only [Act.put, List.setIfInBounds_toArray, List.set_cons_zero, List.set_cons_succ])
      refine wpT_nil ?_
      have Hf := Lib.hid (sameInts [0, 1] [0, 1] _ _ _ HI.out HJ.out)
      rw [show decide (([0, 1] : List Int) = [0, 1]) = true from by decide] at Hf
      go_wp2_with (go_at_call 30; refine Hf.out.mono ?_; rintro e V9 ⟨rfl, q, rfl⟩)
      refine NoPanic.normal ?_
      go_wp2_with fail
      go_ret
      exact ⟨rfl, below_drewN (HBw5.out.trans ((HBV.out.trans (HD.out.mono HBV.out.size)).mono HBw5.out.size)) _⟩
    · refine wpT_move rfl (fun K hK => ?_)
      go_simp
      have F : Below V4.heap.size V4 (V4.alloc (.cells #[I 0, I 1] 3)) := (Below.refl _ _).alloc (Nat.le_refl _) _
      have HJ : Hid (IntSl (V4.alloc (.cells #[I 0, I 1] 3)) (.slice (some ⟨V4.heap.size, 0, none⟩) 2 2) [0, 1]) := Lib.hid (Flat.of_cells rfl (by decide) (fun j u hu => by rw [Nat.zero_add, (Blk.new V4 #[I 0, I 1] 3).cell j, ← hu]; simp [iv]))
      obtain ⟨V5, hV5⟩ : ∃ V5, V5 = V4.alloc (.cells #[I 0, I 1] 3) := ⟨_, rfl⟩
      rw [← hV5] at F HJ ⊢
      clear hV5
      replace HD := Lib.hid (HD.out.trans (F.mono HD.out.size))
      refine hK.out _ _ (HTc.out _ HD.out) ?_
      clear hK K F
      (try simp only [Act.put, List.setIfInBounds_toArray, List.set_cons_zero, List.set_cons_succ])
      refine wpT_move rfl (fun K hK => ?_)
      go_simp
      go_at_call 31
      refine (HWy.out _ (HBV.out.trans (HD.out.mono HBV.out.size))).mono ?_
      rintro e V6 ⟨u, rfl, hI, F⟩
      obtain ⟨ku, cu, rfl, _⟩ := hI.open
      have HI := Lib.hid hI
      clear hI
      replace HJ := Lib.hid (IntSl.kept HJ.out F (Nat.le_refl _))
      replace HD := Lib.hid (HD.out.trans (F.mono HD.out.size))
      refine hK.out _ _ (HTc.out _ HD.out) ?_
      clear hK K F
      (try simp only [Act.put, List.setIfInBounds_toArray, List.set_cons_zero, List.set_cons_succ])
      refine wpT_nil ?_
      have Hf := Lib.hid (sameInts [0, 1] [0, 1] _ _ _ HI.out HJ.out)
      rw [show decide (([0, 1] : List Int) = [0, 1]) = true from by decide] at Hf
      go_wp2_with (go_at_call 30; refine Hf.out.mono ?_; rintro e V9 ⟨rfl, q, rfl⟩)
      refine NoPanic.normal ?_
      go_wp2_with fail
      go_ret
      exact ⟨rfl, below_drewN (HBw5.out.trans ((HBV.out.trans (HD.out.mono HBV.out.size)).mono HBw5.out.size)) _⟩

end Go.Proofs.YtljmonfobefiiaaGreatDoor
