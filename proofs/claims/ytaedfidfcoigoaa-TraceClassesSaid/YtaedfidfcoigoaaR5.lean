/- The reference's key of a step, and its comparison of steps. -/
import Derived.Test.YtaedfidfcoigoaaR4
namespace Go.Proofs.Ytaedfidfcoigoaa
open Go.RowKit

/-- What a call that makes blocks of its own alone leaves to a row. -/
theorem owns_below {w w1 : World} {B k n : Nat} {e : TypeId} {v : Value} {xs : List Value} (h : w.ownsRow B e k v n xs) (hB : Below w.heap.size w w1) : w1.ownsRow B e k v n xs :=
  h.kept (row := none) ⟨hB.os, hB.tape, hB.output, hB.size, fun k' hk _ => hB.block k' hk⟩ (by cases hv : v.ownBlock <;> simp)
theorem blk_of_heap {w : World} {g : Nat} {cs : Array Value} {t : TypeId} (h : w.heap[g]? = some (.cells cs t (0, 0))) : Blk w g cs := ⟨t, h⟩
theorem heap_lt {w : World} {g : Nat} {x : Obj} (h : w.heap[g]? = some x) : g < w.heap.size := (Array.getElem?_eq_some_iff.1 h).1

/-- What a region of a function with one box (just above w's blocks) may lean on: the box, and all that lay below it. -/
def Kp (w : World) (cs : Array Value) (X : World) : Prop := Blk X w.heap.size cs ∧ Below w.heap.size w X ∧ w.heap.size + 1 ≤ X.heap.size
theorem Kp.S {w X : World} {cs : Array Value} (h : Kp w cs X) : (∀ j, X.cell? ⟨w.heap.size, j, none⟩ = cs[j]?) ∧ (∀ b o, b < w.heap.size → X.cell? ⟨b, o, none⟩ = w.cell? ⟨b, o, none⟩) :=
  ⟨h.1.cell, fun b o hb => h.2.1.cell (p := ⟨b, o, none⟩) hb⟩
theorem Kp.drew {w X : World} {cs : Array Value} (h : Kp w cs X) : Kp w cs X.drew := ⟨h.1, h.2.1.drew, h.2.2⟩
theorem Kp.alloc {w X : World} {cs : Array Value} (h : Kp w cs X) (o : Obj) : Kp w cs (X.alloc o) := ⟨h.1.alloc o, h.2.1.alloc (by have := h.2.2; omega) o, by have := h.2.2; simp; omega⟩
theorem Kp.call {w X w1 : World} {cs : Array Value} (h : Kp w cs X) (hB : Below X.heap.size X w1) : Kp w cs w1 :=
  ⟨h.1.kept hB (by have := h.2.2; omega), h.2.1.trans (hB.mono (by have := h.2.2; omega)), by have := h.2.2; have := hB.size; omega⟩
theorem Kp.app {w X w1 : World} {cs : Array Value} (h : Kp w cs X) {row : Option Nat} (hg : X.grownBy w1 row) (hne : row ≠ some w.heap.size) (hB : Below (w.heap.size + 1) X w1) : Kp w cs w1 :=
  ⟨h.1.grown hg hne, h.2.1.trans (hB.mono (by omega)), by have := h.2.2; have := hB.size; omega⟩
theorem owns_ne {w : World} {B k n : Nat} {e : TypeId} {v : Value} {xs : List Value} (h : w.ownsRow B e k v n xs) {g : Nat} (hg : g < B) : v.ownBlock ≠ some g := by
  intro hv
  have := (h.lt g hv).1
  omega

set_option maxHeartbeats 1600000 in
set_option maxRecDepth 100000 in
theorem stepKey (s : Stp) (v : Value) (w : World) (hs : s.In w v) (hsm : s.asks.length ≤ 1000000) : Calls Try.prog 75 #[v] w fun r w' =>
    ∃ u, r = .returned u ∧ IntSl w' u s.key ∧ Below w.heap.size w w' := by
  obtain ⟨va, vs, rfl, hsa, hss⟩ := hs
  obtain ⟨ka, ca, rfl, hma⟩ := hsa.open
  simp only [Stp.val, Stp.row]
  go_enter Try.func75, Try.ntmps75
  go_wp2_with fail
  refine (eventKey s.ev _).mono ?_
  rintro e w1 ⟨g, c, rfl, hg, hown1, hB1⟩
  have hk1 : Blk w1 w.heap.size #[I s.ev.kind, I s.ev.node, I s.ev.arg, I s.ev.msg.node, I s.ev.msg.handler, I s.ev.msg.count, I s.ev.msg.index, I s.ev.msg.copy, .slice ka s.asks.length ca, .bool s.obs, vs] := (Blk.new _ _ _).kept hB1 (by simp)
  have hBw := Below.then (w := w) (by repeat (first | exact Below.refl _ _ | assumption | refine Below.drew ?_ | refine below_drewN ?_ _ | refine Below.alloc ?_ (by simp <;> omega) _ | refine Below.setCell ?_ (by simp <;> omega) _)) hB1
  have hz1 := hB1.size
  simp only [World.size_alloc] at hown1 hg hz1
  clear hB1
  go_wp2_with fail
  go_loopw [3, 4] (fun v i wr => ∃ (k m : Nat) (xs : List Int), k ≤ s.asks.length ∧ i = .int .i64 k ∧ m = 8 + k * 6 ∧ wr.ownsRow (w.heap.size + 1) 3 1 v m (iv xs) ∧ Hid (xs = s.ev.ints ++ (s.asks.take k).flatMap Ask.key) ∧
      Below w.heap.size w wr ∧ w.heap.size + 1 ≤ wr.heap.size ∧
      Blk wr w.heap.size #[I s.ev.kind, I s.ev.node, I s.ev.arg, I s.ev.msg.node, I s.ev.msg.handler, I s.ev.msg.count, I s.ev.msg.index, I s.ev.msg.copy, .slice ka s.asks.length ca, .bool s.obs, vs]) (fun _ i _ => s.asks.length - (intOf i).toNat)
  case atStart => exact ⟨0, 8, s.ev.ints, by omega, rfl, rfl, hown1, Lib.hid (by simp), hBw, hz1, hk1⟩
  case round =>
    obtain ⟨k, m, xs, hk, rfl, hm, hown, Hxs, hB, hz, hkb⟩ := hrel
    have Hm := Lib.hid hm
    have hmm : m ≤ 6000010 := by omega
    clear hm
    have hcb := hkb.cell
    by_cases hlt : k < s.asks.length
    · obtain ⟨b, o, rfl, x0, x1, x2, x3, x4, x5, x6⟩ := hsa.at (i := k) (x := s.asks[k]) (by simp [hlt])
      have hbl : b < w.heap.size := by simpa using World.block_lt_of_cell? _ _ x0
      have hlen : (iv xs).length = m := by have := hown.1; simpa using this
      have hkp : Kp w #[I s.ev.kind, I s.ev.node, I s.ev.arg, I s.ev.msg.node, I s.ev.msg.handler, I s.ev.msg.count, I s.ev.msg.index, I s.ev.msg.copy, .slice (some ⟨b, o, none⟩) s.asks.length ca, .bool s.obs, vs] wr := ⟨hkb, hB, hz⟩
      have hxs' : s.ev.ints ++ (s.asks.take (k + 1)).flatMap Ask.key = (s.ev.ints ++ (s.asks.take k).flatMap Ask.key) ++ s.asks[k].key := by
        rw [List.take_succ_eq_append_getElem hlt, List.flatMap_append, ← List.append_assoc]; simp
      have Hxs' := Lib.hid hxs'
      clear hxs' hlen hcb hkb
      have hS0 := hkp.S
      have hcb := hS0.1
      have hcw := hS0.2
      go_wp2_with fail
      go_region_held3 (fun w' => (∀ j, w'.cell? ⟨w.heap.size, j, none⟩ = (#[I s.ev.kind, I s.ev.node, I s.ev.arg, I s.ev.msg.node, I s.ev.msg.handler, I s.ev.msg.count, I s.ev.msg.index, I s.ev.msg.copy, .slice (some ⟨b, o, none⟩) s.asks.length ca, .bool s.obs, vs] : Array Value)[j]?) ∧ (∀ b o, b < w.heap.size → w'.cell? ⟨b, o, none⟩ = w.cell? ⟨b, o, none⟩))
        ((first | exact Kp.S hkp | exact Kp.S hkp.drew | exact Kp.S kp3 | exact Kp.S kp2 | exact Kp.S (kp2.alloc _) | exact Kp.S kp1 | exact Kp.S (kp1.alloc _) | exact Kp.S (hkp.alloc _).drew | exact Kp.S (hkp.alloc _)))
        (first
          | (go_at_call 53; refine (questionKey _ _ _ _ _ _).mono ?_; rintro e w1 ⟨gq, rfl, hgq, hbq, hB1⟩
             have kp1 : Kp w #[I s.ev.kind, I s.ev.node, I s.ev.arg, I s.ev.msg.node, I s.ev.msg.handler, I s.ev.msg.count, I s.ev.msg.index, I s.ev.msg.copy, .slice (some ⟨b, o, none⟩) s.asks.length ca, .bool s.obs, vs] w1 := by first | exact Kp.call hkp.drew hB1 | exact Kp.call (hkp.alloc _).drew hB1
             have ho1 : w1.ownsRow (w.heap.size + 1) 3 1 u3 m (iv xs) := by first | exact owns_below (w := wr.drew) hown hB1 | exact owns_below (w := (wr.alloc (.cells #[I s.asks[k].n] 3)).drew) (hown.alloc _) hB1
             have hz1 := hB1.size
             simp only [heap_drew, World.size_alloc] at hz1 hgq)
          | (refine step_appB (by rfl) _ _ 22 (by rfl) 3 _ 1 8 Try.underlying22 info3 rfl (by omega) (by omega) (w.heap.size + 1) u3 m (iv xs) (by rfl) (by first | exact ho1 | exact ho1.alloc _) gq 5 5 #[I s.asks[k].node, I s.asks[k].handler, I s.asks[k].count, I s.asks[k].kind, I s.asks[k].index] 3 (by rfl) (by first | exact hbq | exact (Below.heap_alloc w1 _ _ (heap_lt hbq)).trans hbq) rfl rfl (by omega) (by omega) (by first | omega | (simp only [World.size_alloc]; omega)) ?_
             intro g2 cap2 w2 hg1 hg2 hg3 ho2 hgr2 hB2
             have kp2 : Kp w #[I s.ev.kind, I s.ev.node, I s.ev.arg, I s.ev.msg.node, I s.ev.msg.handler, I s.ev.msg.count, I s.ev.msg.index, I s.ev.msg.copy, .slice (some ⟨b, o, none⟩) s.asks.length ca, .bool s.obs, vs] w2 := by first | exact kp1.app hgr2 (owns_ne ho1 (by omega)) hB2 | exact (kp1.alloc _).app hgr2 (owns_ne ho1 (by omega)) hB2
             have hz2 := hB2.size
             try simp only [World.size_alloc] at hz2)
          | (refine step_appB (by rfl) _ _ 22 (by rfl) 3 _ 1 8 Try.underlying22 info3 rfl (by omega) (by omega) (w.heap.size + 1) (.slice (some ⟨g2, 0, none⟩) (m + 5) cap2) (m + 5) _ (by rfl) (by first | exact ho2 | exact ho2.alloc _) _ 1 1 #[I s.asks[k].n] 3 (by rfl)
               (by first | exact heap_alloc_new w2 _ | exact (hgr2.block _ (by simp only [World.size_alloc]; omega) (fun e => by have := (ho1.lt _ e.symm).2; omega)).trans (heap_alloc_new w1 _) | exact (hgr2.block _ (by omega) (fun e => by have := (hown.lt _ e.symm).2; omega)).trans ((hB1.block _ (by simp only [heap_drew, World.size_alloc]; omega)).trans (heap_alloc_new wr _)))
               rfl rfl (by omega) (by omega) (by first | omega | (simp only [World.size_alloc]; omega)) ?_
             intro g3 cap3 w3 hg31 hg32 hg33 ho3 hgr3 hB3
             have kp3 : Kp w #[I s.ev.kind, I s.ev.node, I s.ev.arg, I s.ev.msg.node, I s.ev.msg.handler, I s.ev.msg.count, I s.ev.msg.index, I s.ev.msg.copy, .slice (some ⟨b, o, none⟩) s.asks.length ca, .bool s.obs, vs] w3 := by first | exact kp2.app hgr3 (owns_ne ho2 (by omega)) hB3 | exact (kp2.alloc _).app hgr3 (owns_ne ho2 (by omega)) hB3))
      all_goals
        go_wp2_with fail
        go_roundw
        case rel =>
          refine ⟨k + 1, m + 5 + 1, xs ++ s.asks[k].key, by omega, by go_num, by have := Hm.out; omega, ?_, ?_, kp3.2.1, kp3.2.2, kp3.1⟩
          · have : iv (xs ++ s.asks[k].key) = iv xs ++ #[I s.asks[k].node, I s.asks[k].handler, I s.asks[k].count, I s.asks[k].kind, I s.asks[k].index].toList ++ #[I s.asks[k].n].toList := by simp [iv, Ask.key]
            rw [this]
            exact ho3
          · exact Lib.hid (by rw [Hxs'.out, Hxs.out])
        case measure => simp [intOf]; omega
    · go_wp2
      go_ret
      refine ⟨_, rfl, ?_, hB⟩
      have hkk : k = s.asks.length := by omega
      have hxs : xs = s.key := by rw [Hxs.out, List.take_of_length_le (by omega)]; rfl
      have := Flat.of_owns hown
      unfold IntSl
      have hl : s.key.length = m := by rw [← hxs]; simpa [iv] using hown.1
      rw [hl, ← hxs]
      exact this

theorem compareStep (s t : Stp) (v u : Value) (w : World) (hs : s.In w v) (ht : t.In w u) (hsm : s.asks.length ≤ 1000000) (htm : t.asks.length ≤ 1000000) : Calls Try.prog 47 #[v, u] w fun r w' =>
    r = .returned (I (lexL s.key t.key)) ∧ Below w.heap.size w w' := by
  have hsk := hs
  have htk := ht
  obtain ⟨va, vs, rfl, hsa, hss⟩ := hs
  obtain ⟨ka, ca, rfl, hma⟩ := hsa.open
  obtain ⟨kb, cb, rfl, _⟩ := hss.open
  obtain ⟨ua, us, rfl, hta, hts⟩ := ht
  obtain ⟨kc, cc, rfl, _⟩ := hta.open
  obtain ⟨kd, cd, rfl, _⟩ := hts.open
  have c1 : ∀ W, Below w.heap.size w W → Calls Try.prog 75 #[s.val (.slice ka s.asks.length ca) (.slice kb s.sent.length cb)] W fun r w' => ∃ u, r = .returned u ∧ IntSl w' u s.key ∧ Below W.heap.size W w' := fun W h => stepKey s _ W (hsk.kept h (Nat.le_refl _)) hsm
  have c2 : ∀ W, Below w.heap.size w W → Calls Try.prog 75 #[t.val (.slice kc t.asks.length cc) (.slice kd t.sent.length cd)] W fun r w' => ∃ u, r = .returned u ∧ IntSl w' u t.key ∧ Below W.heap.size W w' := fun W h => stepKey t _ W (htk.kept h (Nat.le_refl _)) htm
  simp only [Stp.val, Stp.row] at c1 c2 ⊢
  have C1 := Lib.hid c1
  have C2 := Lib.hid c2
  clear c1 c2 hsk htk
  go_enter Try.func47, Try.ntmps47
  go_wp2_with fail
  have hA : Blk ((w.alloc (.cells #[I s.ev.kind, I s.ev.node, I s.ev.arg, I s.ev.msg.node, I s.ev.msg.handler, I s.ev.msg.count, I s.ev.msg.index, I s.ev.msg.copy, .slice ka s.asks.length ca, .bool s.obs, .slice kb s.sent.length cb] 55)).alloc (.cells #[I t.ev.kind, I t.ev.node, I t.ev.arg, I t.ev.msg.node, I t.ev.msg.handler, I t.ev.msg.count, I t.ev.msg.index, I t.ev.msg.copy, .slice kc t.asks.length cc, .bool t.obs, .slice kd t.sent.length cd] 55)) w.heap.size #[I s.ev.kind, I s.ev.node, I s.ev.arg, I s.ev.msg.node, I s.ev.msg.handler, I s.ev.msg.count, I s.ev.msg.index, I s.ev.msg.copy, .slice ka s.asks.length ca, .bool s.obs, .slice kb s.sent.length cb] := (Blk.new _ _ _).alloc _
  have hA' : Blk ((w.alloc (.cells #[I s.ev.kind, I s.ev.node, I s.ev.arg, I s.ev.msg.node, I s.ev.msg.handler, I s.ev.msg.count, I s.ev.msg.index, I s.ev.msg.copy, .slice ka s.asks.length ca, .bool s.obs, .slice kb s.sent.length cb] 55)).alloc (.cells #[I t.ev.kind, I t.ev.node, I t.ev.arg, I t.ev.msg.node, I t.ev.msg.handler, I t.ev.msg.count, I t.ev.msg.index, I t.ev.msg.copy, .slice kc t.asks.length cc, .bool t.obs, .slice kd t.sent.length cd] 55)) (w.heap.size + 1) #[I t.ev.kind, I t.ev.node, I t.ev.arg, I t.ev.msg.node, I t.ev.msg.handler, I t.ev.msg.count, I t.ev.msg.index, I t.ev.msg.copy, .slice kc t.asks.length cc, .bool t.obs, .slice kd t.sent.length cd] := blk_of_heap (heap_alloc2_new w _ _)
  have hac := hA.cell
  have hac' := hA'.cell
  go_region_held3 (fun w' => (∀ j, w'.cell? ⟨w.heap.size, j, none⟩ = (#[I s.ev.kind, I s.ev.node, I s.ev.arg, I s.ev.msg.node, I s.ev.msg.handler, I s.ev.msg.count, I s.ev.msg.index, I s.ev.msg.copy, .slice ka s.asks.length ca, .bool s.obs, .slice kb s.sent.length cb] : Array Value)[j]?) ∧ (∀ j, w'.cell? ⟨w.heap.size + 1, j, none⟩ = (#[I t.ev.kind, I t.ev.node, I t.ev.arg, I t.ev.msg.node, I t.ev.msg.handler, I t.ev.msg.count, I t.ev.msg.index, I t.ev.msg.copy, .slice kc t.asks.length cc, .bool t.obs, .slice kd t.sent.length cd] : Array Value)[j]?)) ((first | exact ⟨hac, hac'⟩ | exact ⟨hbc, hbc'⟩ | exact ⟨hcc, hcc'⟩ | exact ⟨fun j => hdc j, fun j => hdc' j⟩))
    (first
      | (go_at_call_of 75 (s.ev.kind); refine (C1.out _ (by repeat (first | exact Below.refl _ _ | assumption | refine Below.drew ?_ | refine below_drewN ?_ _ | refine Below.alloc ?_ (by simp <;> omega) _ | refine Below.setCell ?_ (by simp <;> omega) _))).mono ?_; rintro e w1 ⟨u1, rfl, hu1, hB1⟩; have hBB1 := Below.then (w := w) (by repeat (first | exact Below.refl _ _ | assumption | refine Below.drew ?_ | refine below_drewN ?_ _ | refine Below.alloc ?_ (by simp <;> omega) _ | refine Below.setCell ?_ (by simp <;> omega) _)) hB1; have hb := hA.drew.kept hB1 (by simp only [heap_drew, World.size_alloc]; omega); have hb' := hA'.drew.kept hB1 (by simp only [heap_drew, World.size_alloc]; omega); have hz1 := hB1.size; simp only [heap_drew, World.size_alloc] at hz1; have hbc := hb.cell; have hbc' := hb'.cell)
      | (go_at_call_of 75 (t.ev.kind); refine (C2.out _ hBB1).mono ?_; rintro e w2 ⟨u2, rfl, hu2, hB2⟩; have hBB2 := Below.then (w := w) hBB1 hB2; have hc := hb.kept hB2 (by omega); have hc' := hb'.kept hB2 (by omega); have hcc := hc.cell; have hcc' := hc'.cell)
      | (go_at_call 74; refine (lists_any s.key t.key _ _ _ (hu1.kept hB2 (Nat.le_refl _)) hu2).mono ?_; rintro e w3 ⟨rfl, n3, rfl⟩; have hdc := (hc.drewN n3).cell; have hdc' := (hc'.drewN n3).cell))
  go_wp2_with fail
  go_ret
  exact ⟨rfl, below_drewN hBB2 _⟩

end Go.Proofs.Ytaedfidfcoigoaa
