/- tape.Of. -/
import Derived.Test.YtjdhcdbjfbhogaaX12
import Derived.Test.YtjdhcdbjfbhogaaW6
namespace Go.Proofs.Ytjdhcdbjfbhogaa
open Go.RowKit

theorem size60 : (Try.prog.info? 60).map (·.size) = some 11 := by kernel_rfl
theorem size111 : (Try.prog.info? 111).map (·.size) = some 7 := by kernel_rfl
section
variable {ops : Array Oper} {Q : Exit → Act → World → Prop} {rest : List Oper} {o : Oper} {a : Act} {w : World}
theorem wpList_load60 (hgd : o.guard = none) (x : Operand) (ho : o.op = .load 60 x) (b off : Nat) (cs : List Value) (hl : cs.length = 11) (hx : a.eval x = .pointer (some ⟨b, off, none⟩)) (hc : w.rangeAt b off cs)
    (h : wpList Try.prog ops Q rest (a.put o.dst (.agg cs.toArray)) w) : wpList Try.prog ops Q (o :: rest) a w :=
  wpList_load_mid hgd 60 x ho b off hx cs _ hc Try.underlying60 rfl (by rw [hl]; exact size60) h
theorem wpList_load111 (hgd : o.guard = none) (x : Operand) (ho : o.op = .load 111 x) (b off : Nat) (cs : List Value) (hl : cs.length = 7) (hx : a.eval x = .pointer (some ⟨b, off, none⟩)) (hc : w.rangeAt b off cs)
    (h : wpList Try.prog ops Q rest (a.put o.dst (.agg cs.toArray)) w) : wpList Try.prog ops Q (o :: rest) a w :=
  wpList_load_mid hgd 111 x ho b off hx cs _ hc Try.underlying111 rfl (by rw [hl]; exact size111) h
end
theorem StpSl.range {w : World} {a : Option Addr} {n c : Nat} {l : List Stp} (h : StpSl w (.slice a n c) l) {i : Nat} {s : Stp} (hi : l[i]? = some s) :
    ∃ b o va km nm cm, a = some ⟨b, o, none⟩ ∧ AskSl w va s.asks ∧ w.rangeAt b (o + i * 11) [I s.ev.kind, I s.ev.node, I s.ev.arg, I s.ev.msg.node, I s.ev.msg.handler, I s.ev.msg.count, I s.ev.msg.index, I s.ev.msg.copy, va, .bool s.obs, .slice km nm cm] := by
  obtain ⟨xs, h1, h2⟩ := h
  obtain ⟨va, vs, g1, g2, g3⟩ := h1.at hi
  obtain ⟨km, cm, rfl, _⟩ := g2.open
  have hlt := (List.getElem?_eq_some_iff.1 hi).1
  obtain ⟨b, o, ha, hc⟩ := h2.cells (by rw [h1.length]; omega)
  refine ⟨b, o, va, km, s.sent.length, cm, ha, g1, fun j u hu => ?_⟩
  have := hc _ u (g3 j u hu)
  rwa [← Nat.add_assoc] at this
theorem AskSl.range {w : World} {a : Option Addr} {n c : Nat} {l : List Ask} (h : AskSl w (.slice a n c) l) {i : Nat} {x : Ask} (hi : l[i]? = some x) :
    ∃ b o, a = some ⟨b, o, none⟩ ∧ w.rangeAt b (o + i * 7) [I x.node, I x.handler, I x.count, I x.kind, I x.index, I x.arity, I x.n] := by
  obtain ⟨b, o, ha, hc⟩ := flat_at Ask.cells_length (by omega) h hi
  exact ⟨b, o, ha, fun j v hv => hc j v hv⟩
theorem rangeAt_below {w w' : World} {b off : Nat} {cs : List Value} (h : w.rangeAt b off cs) (hb : Below w.heap.size w w') : w'.rangeAt b off cs := fun j v hv => by
  have h0 := h j v hv
  have := World.block_lt_of_cell? _ _ h0
  rw [hb.cell (by simpa using this)]
  exact h0

theorem owns_len {W : World} {B n m k : Nat} {e : TypeId} {v : Value} {xs : List Value} (h : W.ownsRow B e k v n xs) (hn : m = n) : W.ownsRow B e k v m xs := by
  subst hn
  exact h

set_option maxHeartbeats 4000000 in
set_option maxRecDepth 100000 in
theorem ofF (run : List Stp) (v : Value) (w : World) (h : StpSl w v run) (hok : ∀ s ∈ run, ∀ a ∈ s.asks, a.ans.ok) (hrl : run.length ≤ 100) (hal : ∀ s ∈ run, s.asks.length ≤ 100) :
    Calls Try.prog 29 #[v] w fun e w' => ∃ k c k2 c2, e = .returned (tv k c k2 c2 (runEv run) (normA (runAns run))) ∧ TapeIn w' k c k2 c2 (runEv run) (normA (runAns run)) ∧ Below w.heap.size w w' := by
  obtain ⟨kr, cr, rfl, hmr⟩ := h.open
  have hB0 : Below w.heap.size w ((w.alloc (.cells #[.slice none 0 0, .slice none 0 0] 26)).alloc (.cells #[.slice none 0 0, .slice none 0 0] 26)) := (by repeat (first | exact Below.refl _ _ | assumption | refine Below.drew ?_ | refine below_drewN ?_ _ | refine Below.alloc ?_ (by simp <;> omega) _ | refine Below.setCell ?_ (by simp <;> omega) _))
  have hz0 : ((w.alloc (.cells #[.slice none 0 0, .slice none 0 0] 26)).alloc (.cells #[.slice none 0 0, .slice none 0 0] 26)).heap.size = w.heap.size + 2 := by simp
  have hr0 : Blk ((w.alloc (.cells #[.slice none 0 0, .slice none 0 0] 26)).alloc (.cells #[.slice none 0 0, .slice none 0 0] 26)) w.heap.size #[.slice none 0 0, .slice none 0 0] := (Blk.new _ _ _).alloc _
  have ht0 : Blk ((w.alloc (.cells #[.slice none 0 0, .slice none 0 0] 26)).alloc (.cells #[.slice none 0 0, .slice none 0 0] 26)) (w.heap.size + 1) #[.slice none 0 0, .slice none 0 0] := ⟨_, heap_alloc2_new w _ _⟩
  have H := Lib.hid h
  have Hok := Lib.hid hok
  have Hal := Lib.hid hal
  have Hans := Lib.hid (runAns_length run 100 hal)
  have Hansok := Lib.hid (show ∀ a ∈ runAns run, a.ok from fun a ha => by
    obtain ⟨s, hs, ha⟩ := List.mem_flatMap.1 ha
    obtain ⟨x, hx, rfl⟩ := List.mem_map.1 ha
    exact hok s hs x hx)
  clear h hok hal
  go_enter Try.func29, Try.ntmps29
  go_wp2_with fail
  generalize (w.alloc (.cells #[.slice none 0 0, .slice none 0 0] 26)).alloc (.cells #[.slice none 0 0, .slice none 0 0] 26) = W0 at hB0 hz0 hr0 ht0 ⊢
  obtain ⟨gt, egt⟩ : ∃ g, g = w.heap.size + 1 := ⟨_, rfl⟩
  rw [← egt] at ht0 ⊢
  have Hgt := Lib.hid egt
  have Hr0 := Lib.hid hr0
  have HB0 := Lib.hid hB0
  have hTw : Two W0 W0 gt (.slice none 0 0) (.slice none 0 0) (runEv (run.take 0)) (runAns (run.take 0)) := ⟨ht0, World.ownsRow_nil _ _ _ _, World.ownsRow_nil _ _ _ _, fun j hj => by simp [Value.ownBlock] at hj, Below.refl _ _⟩
  have HTw := Lib.hid hTw
  clear hTw hr0 hB0 ht0 egt
  go_loopw [10] (fun i wr => ∃ (k : Nat) (ve va : Value), k ≤ run.length ∧ i = .int .i64 k ∧ Hid (Two W0 wr gt ve va (runEv (run.take k)) (runAns (run.take k)))) (fun i _ => run.length - (intOf i).toNat)
  case atStart => exact ⟨0, _, _, by omega, rfl, HTw⟩
  case round =>
    clear HTw
    obtain ⟨k, ve, va, hk, rfl, HT⟩ := hrel
    have hzr := HT.out.below.size
    have hBr : Below w.heap.size w wr := HB0.out.trans (HT.out.below.mono (by have := Hgt.out; omega))
    by_cases hlt : k < run.length
    · have hst : run[k]? = some run[k] := by simp [hlt]
      obtain ⟨b, o, vk, km, nm, cm, hkr, hask, hrng⟩ := H.out.range hst
      have hkr := hkr.symm
      subst hkr
      have hsk := runEv_snoc hlt
      have hsa := runAns_snoc hlt
      have Hoka := Lib.hid (Hal.out _ (List.getElem_mem hlt))
      generalize run[k] = s at hst hask hrng hsk hsa Hoka
      obtain ⟨ka, ca, rfl, hma⟩ := hask.open
      have Hask := Lib.hid hask
      have Hrng := Lib.hid (rangeAt_below hrng hBr)
      have Hsk := Lib.hid hsk
      have Hsa := Lib.hid hsa
      have hlE : (runEv (run.take k)).length ≤ 100 := by rw [runEv_length, List.length_take]; omega
      have hlA : (runAns (run.take k)).length ≤ 10000 := by
        have := runAns_length (run.take k) 100 (fun t ht => Hal.out t (List.mem_of_mem_take ht))
        rw [List.length_take] at this
        omega
      clear hst hask hrng hsk hsa
      obtain ⟨N, hN⟩ : ∃ N, N = (runEv (run.take k)).length := ⟨_, rfl⟩
      obtain ⟨ke, ce, rfl, _⟩ := (Flat.of_owns HT.out.oe).open
      obtain ⟨kv, cv, rfl, _⟩ := (Flat.of_owns HT.out.oa).open
      go_upto_region 5 with ((with_reducible refine wpList_load60 rfl _ rfl b (o + k * 11) [I s.ev.kind, I s.ev.node, I s.ev.arg, I s.ev.msg.node, I s.ev.msg.handler, I s.ev.msg.count, I s.ev.msg.index, I s.ev.msg.copy, .slice ka s.asks.length ca, .bool s.obs, .slice km nm cm] rfl ?_ ?_ ?_); (rfl); (exact Hrng.out))
      obtain ⟨hq, Bq, zq⟩ := boxed wr #[I s.ev.kind, I s.ev.node, I s.ev.arg, I s.ev.msg.node, I s.ev.msg.handler, I s.ev.msg.count, I s.ev.msg.index, I s.ev.msg.copy, .slice ka s.asks.length ca, .bool s.obs, .slice km nm cm] 60
      generalize wr.alloc (.cells #[I s.ev.kind, I s.ev.node, I s.ev.arg, I s.ev.msg.node, I s.ev.msg.handler, I s.ev.msg.count, I s.ev.msg.index, I s.ev.msg.copy, .slice ka s.asks.length ca, .bool s.obs, .slice km nm cm] 60) = wq at hq Bq zq ⊢
      have hTq := HT.out.later Bq
      obtain ⟨gq, egq⟩ : ∃ g, g = wr.heap.size := ⟨_, rfl⟩
      rw [← egq] at hq ⊢
      have hgq1 : gt < gq := by have := HT.out.blk.lt; omega
      have hgqe : ∀ j, (Value.slice ke (runEv (run.take k)).length ce).ownBlock = some j → j < gq := fun j hj => by have := (HT.out.oe.lt j hj).2; omega
      have d0 := hTq.blk.cell 0
      have HTq := Lib.hid hTq
      have Hq := Lib.hid hq
      have Hgqe := Lib.hid hgqe
      have zq' : wq.heap.size = gq + 1 := by omega
      have Hev8 := Lib.hid (show wq.rangeAt gq 0 [I s.ev.kind, I s.ev.node, I s.ev.arg, I s.ev.msg.node, I s.ev.msg.handler, I s.ev.msg.count, I s.ev.msg.index, I s.ev.msg.copy] from blk_range hq 0 _ (fun j v hv => by
        have hj : j < 8 := (List.getElem?_eq_some_iff.1 hv).1
        have : j = 0 ∨ j = 1 ∨ j = 2 ∨ j = 3 ∨ j = 4 ∨ j = 5 ∨ j = 6 ∨ j = 7 := by omega
        rcases this with rfl | rfl | rfl | rfl | rfl | rfl | rfl | rfl <;> simpa using hv))
      clear hTq hq hgqe egq Hrng zq Bq HT
      rw [← hN] at Hgqe d0 HTq hlE
      have HN := Lib.hid hN
      clear hN
      go_upto_region 6 with (first | ((with_reducible refine wpList_load56 rfl _ rfl gq 0 [I s.ev.kind, I s.ev.node, I s.ev.arg, I s.ev.msg.node, I s.ev.msg.handler, I s.ev.msg.count, I s.ev.msg.index, I s.ev.msg.copy] rfl ?_ ?_ ?_); (rfl); (exact Hev8.out)) | (at_builtin; go_must (refine wpList_appB rfl _ _ 23 rfl 56 _ 8 64 Try.underlying23 info56 rfl (by omega) (by omega) (gt + 1) (.slice ke N ce) N _ rfl ((owns_len HTq.out.oe HN.out).alloc _) (gq + 1) 1 1 #[I s.ev.kind, I s.ev.node, I s.ev.arg, I s.ev.msg.node, I s.ev.msg.handler, I s.ev.msg.count, I s.ev.msg.index, I s.ev.msg.copy] 56 rfl (by rw [← zq']; exact heap_alloc_new _ _) rfl rfl (by omega) (by omega) (by simp; omega) ?_); intro g6 cap6 w6 hg6a hg6b hg6c ho6 hgr6 hB6; have hb6 := (HTq.out.blk.alloc (.cells #[I s.ev.kind, I s.ev.node, I s.ev.arg, I s.ev.msg.node, I s.ev.msg.handler, I s.ev.msg.count, I s.ev.msg.index, I s.ev.msg.copy] 56)).grown hgr6 (fun e => by have := (HTq.out.oe.lt gt e).1; omega); have c60 := hb6.cell 0; have f60 := hb6.frozen 0))
      have hT6 := (HTq.out.later (boxed wq #[I s.ev.kind, I s.ev.node, I s.ev.arg, I s.ev.msg.node, I s.ev.msg.handler, I s.ev.msg.count, I s.ev.msg.index, I s.ev.msg.copy] 56).2.1).appE s.ev hg6c ho6 HN.out hgr6
      rw [← Hsk.out] at hT6
      have hq6 := ((Hq.out.alloc (.cells #[I s.ev.kind, I s.ev.node, I s.ev.arg, I s.ev.msg.node, I s.ev.msg.handler, I s.ev.msg.count, I s.ev.msg.index, I s.ev.msg.copy] 56)).grown hgr6 (fun e => by have := Hgqe.out _ e; omega)).setOther ⟨gt, 0, none⟩ (.slice (some ⟨g6, 0, none⟩) (N + 1) cap6) (by show gt ≠ gq; omega)
      generalize w6.setCell ⟨gt, 0, none⟩ (.slice (some ⟨g6, 0, none⟩) (N + 1) cap6) = w7 at hT6 hq6 ⊢
      have q8 := hq6.cell 8
      have HT7 := Lib.hid hT6
      clear hT6 hq6 hgr6 ho6 hB6 hg6c hg6a hg6b hb6 c60 f60 d0 HTq Hq Hev8
      go_wp2_with fail
      clear q8
      go_loopw [24] (fun i wr => ∃ (j : Nat) (va : Value), j ≤ s.asks.length ∧ i = .int .i64 j ∧ Hid (Two W0 wr gt (.slice (some ⟨g6, 0, none⟩) (N + 1) cap6) va (runEv (run.take (k + 1))) (runAns (run.take k) ++ (s.asks.take j).map Ask.ans))) (fun i _ => s.asks.length - (intOf i).toNat)
      case atStart => exact ⟨0, _, by omega, rfl, Lib.hid (by simpa using HT7.out)⟩
      case round =>
        clear HT7
        obtain ⟨j, va, hj, rfl, HT⟩ := hrel
        have hBr2 : Below w.heap.size w wr := HB0.out.trans (HT.out.below.mono (by have := Hgt.out; omega))
        by_cases hlj : j < s.asks.length
        · have hst : s.asks[j]? = some s.asks[j] := by simp [hlj]
          obtain ⟨b2, o2, hka, hrng⟩ := Hask.out.range hst
          have hka := hka.symm
          subst hka
          have Has := Lib.hid (asks_snoc hlj (runAns (run.take k)))
          generalize s.asks[j] = x at hst hrng Has
          have Hrng := Lib.hid (rangeAt_below hrng hBr2)
          have hlm : (runAns (run.take k) ++ (s.asks.take j).map Ask.ans).length ≤ 20000 := by
            have := Hoka.out
            rw [List.length_append, List.length_map, List.length_take]
            omega
          clear hst hrng
          obtain ⟨M, hM⟩ : ∃ M, M = (runAns (run.take k) ++ (s.asks.take j).map Ask.ans).length := ⟨_, rfl⟩
          obtain ⟨kv, cv, rfl, _⟩ := (Flat.of_owns HT.out.oa).open
          go_upto_region 9 with ((with_reducible refine wpList_load111 rfl _ rfl b2 (o2 + j * 7) [I x.node, I x.handler, I x.count, I x.kind, I x.index, I x.arity, I x.n] rfl ?_ ?_ ?_); (rfl); (exact Hrng.out))
          obtain ⟨hq, Bq, zq⟩ := boxed wr #[I x.node, I x.handler, I x.count, I x.kind, I x.index, I x.arity, I x.n] 111
          generalize wr.alloc (.cells #[I x.node, I x.handler, I x.count, I x.kind, I x.index, I x.arity, I x.n] 111) = wq at hq Bq zq ⊢
          have hTq := HT.out.later Bq
          obtain ⟨gq2, egq⟩ : ∃ g, g = wr.heap.size := ⟨_, rfl⟩
          rw [← egq] at hq ⊢
          have d1 := hTq.blk.cell 1
          have q6 := hq.cell 6
          have HTq := Lib.hid hTq
          have zq' : wq.heap.size = gq2 + 1 := by omega
          have hgq2 : gt < gq2 := by have := HT.out.blk.lt; omega
          have Hq5 := Lib.hid (show wq.rangeAt gq2 0 [I x.node, I x.handler, I x.count, I x.kind, I x.index] from blk_range hq 0 _ (fun j v hv => by
            have hj : j < 5 := (List.getElem?_eq_some_iff.1 hv).1
            have : j = 0 ∨ j = 1 ∨ j = 2 ∨ j = 3 ∨ j = 4 := by omega
            rcases this with rfl | rfl | rfl | rfl | rfl <;> simpa using hv))
          clear hTq hq egq Hrng zq Bq HT
          rw [← hM] at d1 HTq hlm
          have HM := Lib.hid hM
          clear hM
          go_wp2_with (first | ((with_reducible refine wpList_load66 rfl _ rfl gq2 0 [I x.node, I x.handler, I x.count, I x.kind, I x.index] rfl ?_ ?_ ?_); (rfl); (exact Hq5.out)) | (at_builtin; go_must (refine wpList_appB rfl _ _ 24 rfl 75 _ 6 48 Try.underlying24 info75 rfl (by omega) (by omega) (gt + 1) (.slice kv M cv) M _ rfl ((owns_len HTq.out.oa HM.out).alloc _) (gq2 + 1) 1 1 #[I x.node, I x.handler, I x.count, I x.kind, I x.index, I x.n] 75 rfl (by rw [← zq']; exact heap_alloc_new _ _) rfl rfl (by omega) (by omega) (by simp; omega) ?_); intro g8 cap8 w8 hg8a hg8b hg8c ho8 hgr8 hB8; have hb8 := (HTq.out.blk.alloc (.cells #[I x.node, I x.handler, I x.count, I x.kind, I x.index, I x.n] 75)).grown hgr8 (fun e => by have := (HTq.out.oa.lt gt e).1; omega); have c81 := hb8.cell 1; have f81 := hb8.frozen 1))
          have hT8 := (HTq.out.later (boxed wq #[I x.node, I x.handler, I x.count, I x.kind, I x.index, I x.n] 75).2.1).appA x.ans hg8c ho8 HM.out hgr8
          rw [← Has.out] at hT8
          have HT8 := Lib.hid hT8
          clear hT8
          go_roundw
          case rel => exact ⟨j + 1, _, by omega, by go_num, HT8⟩
          case measure => simp [intOf]; omega
        · obtain rfl : j = s.asks.length := by omega
          have hT := HT.out
          rw [List.take_of_length_le (Nat.le_refl _), ← Hsa.out] at hT
          have HTz := Lib.hid hT
          clear hT HT
          go_wp2_with fail
          go_roundw
          case rel => exact ⟨k + 1, _, _, by omega, by go_num, HTz⟩
          case measure => simp [intOf]; omega
    · obtain rfl : k = run.length := by omega
      have hT := HT.out
      rw [List.take_of_length_le (Nat.le_refl _)] at hT
      obtain ⟨ke, ce, rfl, _⟩ := (Flat.of_owns hT.oe).open
      obtain ⟨kv, cv, rfl, _⟩ := (Flat.of_owns hT.oa).open
      have d0 := hT.blk.cell 0
      have d1 := hT.blk.cell 1
      have hlA := Hans.out
      have HN := Lib.hid (normR (runEv run) (runAns run) ke ce kv cv wr (TapeIn.owns hT.oe hT.oa) Hansok.out (by rw [runEv_length]; omega) (by omega))
      have hres := Hr0.out.kept hT.below (by have := Hgt.out; omega)
      have hBw := Lib.hid hBr
      have Hres := Lib.hid hres
      have hgr := hres.lt
      clear hT HT hres
      go_wp2_with (go_at_call 26; refine HN.out.mono ?_; rintro e w8 ⟨k8, c8, k9, c9, rfl, h8, h9, B8⟩; have hr8 := Hres.out.kept B8 hgr; have r0 := hr8.cell 0; have r1 := hr8.cell 1; have fr0 := hr8.frozen 0; have fr1 := hr8.frozen 1)
      have hgs : w8.grownBy ((w8.setCell ⟨w.heap.size, 0, none⟩ (.slice k8 (runEv run).length c8)).setCell ⟨w.heap.size, 1, none⟩ (.slice k9 (normA (runAns run)).length c9)) (some w.heap.size) := (grown_set w8 ⟨w.heap.size, 0, none⟩ _).trans (grown_set _ ⟨w.heap.size, 1, none⟩ _)
      have h8' := h8.kept hgs (own_ne h8 hgr)
      have h9' := h9.kept hgs (own_ne h9 hgr)
      have hB9 := (Below.then hBw.out B8).grown hgs (by have := (Below.then hBw.out B8).size; omega) (fun j hj => by cases hj; omega)
      obtain ⟨t5, ht5⟩ := (hr8.set 0 (.slice k8 (runEv run).length c8)).set 1 (.slice k9 (normA (runAns run)).length c9)
      refine bodyPost_ret (results_cell_row Try.results29 _ _ w.heap.size t5 _ (0, 0) _ rfl ht5 Try.underlying26 rfl (by kernel_rfl)) rfl ?_
      exact ⟨_, _, _, _, rfl, TapeIn.owns h8' h9', hB9⟩
end Go.Proofs.Ytjdhcdbjfbhogaa
