/- The reference's projections, keys and comparisons of steps. -/
import Derived.Test.YtaedfidfcoigoaaR1
import Derived.Deep.RegionHeld3
namespace Go.Proofs.Ytaedfidfcoigoaa
open Go.RowKit

theorem Below.then {w W w1 : World} (h : Below w.heap.size w W) (h1 : Below W.heap.size W w1) : Below w.heap.size w w1 := h.trans (h1.mono h.size)
theorem bcell {W w1 : World} (hb : Below W.heap.size W w1) : ∀ b o, b < W.heap.size → w1.cell? ⟨b, o, none⟩ = W.cell? ⟨b, o, none⟩ := fun b o h => hb.cell (p := ⟨b, o, none⟩) h

/-- Does step b consume a message that step a sent? -/
def feedsB (a b : Stp) : Bool := (b.ev.kind == 3 || b.ev.kind == 5 || b.ev.kind == 6) &&
  a.sent.any fun m => m.copy == 0 && m.node == b.ev.msg.node && m.handler == b.ev.msg.handler && m.count == b.ev.msg.count && m.index == b.ev.msg.index
def depB (a b : Stp) : Bool := a.ev.node == b.ev.node || (a.obs && b.obs) || feedsB a b || feedsB b a

set_option maxHeartbeats 400000 in
theorem msgKey (m : Msg) (w : World) : Calls Try.prog 54 #[.agg #[I m.node, I m.handler, I m.count, I m.index, I m.copy]] w fun e w' =>
    ∃ g, e = .returned (.slice (some ⟨g, 0, none⟩) 5 5) ∧ w.heap.size ≤ g ∧ w'.heap[g]? = some (.cells #[I m.node, I m.handler, I m.count, I m.index, I m.copy] 3 (0, 0)) ∧ Below w.heap.size w w' := by
  go_enter Try.func54, Try.ntmps54
  go_wp2
  go_ret
  exact ⟨_, rfl, by simp, heap_alloc2_new _ _ _, (by repeat (first | exact Below.refl _ _ | assumption | refine Below.drew ?_ | refine below_drewN ?_ _ | refine Below.alloc ?_ (by simp <;> omega) _ | refine Below.setCell ?_ (by simp <;> omega) _))⟩

set_option maxHeartbeats 400000 in
theorem questionKey (a0 a1 a2 a3 a4 : Int) (w : World) : Calls Try.prog 53 #[.agg #[I a0, I a1, I a2, I a3, I a4]] w fun e w' =>
    ∃ g, e = .returned (.slice (some ⟨g, 0, none⟩) 5 5) ∧ w.heap.size ≤ g ∧ w'.heap[g]? = some (.cells #[I a0, I a1, I a2, I a3, I a4] 3 (0, 0)) ∧ Below w.heap.size w w' := by
  go_enter Try.func53, Try.ntmps53
  go_wp2
  go_ret
  exact ⟨_, rfl, by simp, heap_alloc2_new _ _ _, (by repeat (first | exact Below.refl _ _ | assumption | refine Below.drew ?_ | refine below_drewN ?_ _ | refine Below.alloc ?_ (by simp <;> omega) _ | refine Below.setCell ?_ (by simp <;> omega) _))⟩

set_option maxHeartbeats 400000 in
theorem refProject (l : List Stp) (n : Int) (v : Value) (w : World) (hl : StpSl w v l) (hs : l.length ≤ 1000000) :
    Calls Try.prog 17 #[v, I n] w fun e w' => ∃ u, e = .returned u ∧ StpSl w' u (l.filter fun s => s.ev.node == n) ∧ Below w.heap.size w w' := by
  obtain ⟨ka, ca, rfl, hml⟩ := hl.open
  go_enter Try.func17, Try.ntmps17
  go_wp2
  go_loopw [5, 6] (fun v i wr => ∃ (k m : Nat) (xs : List Value), k ≤ l.length ∧ i = .int .i64 k ∧ m ≤ k ∧ wr.ownsRow w.heap.size 55 11 v m xs ∧ m = ((l.take k).filter fun s => s.ev.node == n).length ∧
      StpCells w ((l.take k).filter fun s => s.ev.node == n) xs ∧ Below w.heap.size w wr) (fun _ i _ => l.length - (intOf i).toNat)
  case atStart => exact ⟨0, 0, [], by omega, rfl, by omega, World.ownsRow_nil _ _ _ _, rfl, rfl, Below.refl _ _⟩
  case round =>
    obtain ⟨k, m, xs, hk, rfl, hmk, hown, hm, hcs, hB⟩ := hrel
    have Hm := Lib.hid hm
    clear hm
    by_cases hlt : k < l.length
    · obtain ⟨b, o, va, vs, rfl, hva, hvs, x0, x1, x2, x3, x4, x5, x6, x7, x8, x9, x10⟩ := hl.at (i := k) (s := l[k]) (by simp [hlt])
      obtain ⟨qa, da, rfl, _⟩ := hva.open
      obtain ⟨qs, ds, rfl, _⟩ := hvs.open
      have hcc := bcell hB
      have hlB := hB.size
      have hbl : b < w.heap.size := by simpa using World.block_lt_of_cell? _ _ x0
      have htk : l.take (k + 1) = l.take k ++ [l[k]] := by rw [List.take_succ_eq_append_getElem hlt]
      by_cases hx : l[k].ev.node = n
      · have hq : (l[k].ev.node == n) = true := by simp [hx]
        have Hx := Lib.hid hx
        have Ht := Lib.hid htk
        clear hx htk
        go_wp2_with (at_builtin; refine wpList_appB rfl _ _ 23 rfl 55 _ 11 120 Try.underlying23 info55 rfl (by omega) (by omega) w.heap.size _ m xs rfl (hown.alloc _) wr.heap.size 1 1 _ 55 rfl (heap_alloc_new _ _) rfl rfl (by omega) (by omega) (by simp; omega) ?_; intro g cap w1 hg1 hg2 hg3 hown1 hgr hB1)
        go_roundw
        case rel =>
          refine ⟨k + 1, m + 1, _, by omega, by go_num, by omega, hown1, ?_, ?_, (hB.alloc hlB _).trans hB1⟩
          · rw [Ht.out, List.filter_append, List.length_append, ← Hm.out]
            simp [Hx.out]
          · rw [Ht.out, List.filter_append]
            refine StpCells.append hcs ?_
            simp only [List.filter_cons, Hx.out, beq_self_eq_true, if_true, List.filter_nil]
            have h1 := StpCells.one hva hvs
            unfold Stp.row at h1
            rw [Hx.out] at h1
            exact h1
        case measure => simp [intOf]; omega
      · have hq : (l[k].ev.node == n) = false := by simp [hx]
        have Ht := Lib.hid htk
        clear hx htk
        go_wp2
        go_roundw
        case rel =>
          refine ⟨k + 1, m, xs, by omega, by go_num, by omega, hown, ?_, ?_, hB⟩
          · rw [Ht.out, List.filter_append, List.length_append, ← Hm.out]
            simp [hq]
          · rw [Ht.out, List.filter_append]
            simpa [List.filter_cons, hq] using hcs
        case measure => simp [intOf]; omega
    · go_wp2
      go_ret
      refine ⟨_, rfl, ?_, hB⟩
      rw [List.take_of_length_le (by omega)] at hcs Hm
      exact StpSl.of_owns hown Hm.out hcs hB (Nat.le_refl _)

set_option maxHeartbeats 400000 in
theorem refObservable (l : List Stp) (v : Value) (w : World) (hl : StpSl w v l) (hs : l.length ≤ 1000000) :
    Calls Try.prog 19 #[v] w fun e w' => ∃ u, e = .returned u ∧ StpSl w' u (l.filter fun s => s.obs) ∧ Below w.heap.size w w' := by
  obtain ⟨ka, ca, rfl, hml⟩ := hl.open
  go_enter Try.func19, Try.ntmps19
  go_wp2
  go_loopw [3, 4] (fun v i wr => ∃ (k m : Nat) (xs : List Value), k ≤ l.length ∧ i = .int .i64 k ∧ m ≤ k ∧ wr.ownsRow w.heap.size 55 11 v m xs ∧ m = ((l.take k).filter fun s => s.obs).length ∧
      StpCells w ((l.take k).filter fun s => s.obs) xs ∧ Below w.heap.size w wr) (fun _ i _ => l.length - (intOf i).toNat)
  case atStart => exact ⟨0, 0, [], by omega, rfl, by omega, World.ownsRow_nil _ _ _ _, rfl, rfl, Below.refl _ _⟩
  case round =>
    obtain ⟨k, m, xs, hk, rfl, hmk, hown, hm, hcs, hB⟩ := hrel
    have Hm := Lib.hid hm
    clear hm
    by_cases hlt : k < l.length
    · obtain ⟨b, o, va, vs, rfl, hva, hvs, x0, x1, x2, x3, x4, x5, x6, x7, x8, x9, x10⟩ := hl.at (i := k) (s := l[k]) (by simp [hlt])
      obtain ⟨qa, da, rfl, _⟩ := hva.open
      obtain ⟨qs, ds, rfl, _⟩ := hvs.open
      have hcc := bcell hB
      have hlB := hB.size
      have hbl : b < w.heap.size := by simpa using World.block_lt_of_cell? _ _ x0
      have htk : l.take (k + 1) = l.take k ++ [l[k]] := by rw [List.take_succ_eq_append_getElem hlt]
      by_cases hx : l[k].obs = true
      · have hq : l[k].obs = true := hx
        have Hx := Lib.hid hx
        have Ht := Lib.hid htk
        clear hx htk
        go_wp2_with (at_builtin; refine wpList_appB rfl _ _ 23 rfl 55 _ 11 120 Try.underlying23 info55 rfl (by omega) (by omega) w.heap.size _ m xs rfl (hown.alloc _) wr.heap.size 1 1 _ 55 rfl (heap_alloc_new _ _) rfl rfl (by omega) (by omega) (by simp; omega) ?_; intro g cap w1 hg1 hg2 hg3 hown1 hgr hB1)
        go_roundw
        case rel =>
          refine ⟨k + 1, m + 1, _, by omega, by go_num, by omega, hown1, ?_, ?_, (hB.alloc hlB _).trans hB1⟩
          · rw [Ht.out, List.filter_append, List.length_append, ← Hm.out]
            simp [Hx.out]
          · rw [Ht.out, List.filter_append]
            refine StpCells.append hcs ?_
            simp only [List.filter_cons, Hx.out, if_true, List.filter_nil]
            have h1 := StpCells.one hva hvs
            unfold Stp.row at h1
            rw [Hx.out] at h1
            exact h1
        case measure => simp [intOf]; omega
      · have hq : l[k].obs = false := by simpa using hx
        have Ht := Lib.hid htk
        clear hx htk
        go_wp2
        go_roundw
        case rel =>
          refine ⟨k + 1, m, xs, by omega, by go_num, by omega, hown, ?_, ?_, hB⟩
          · rw [Ht.out, List.filter_append, List.length_append, ← Hm.out]
            simp [hq]
          · rw [Ht.out, List.filter_append]
            simpa [List.filter_cons, hq] using hcs
        case measure => simp [intOf]; omega
    · go_wp2
      go_ret
      refine ⟨_, rfl, ?_, hB⟩
      rw [List.take_of_length_le (by omega)] at hcs Hm
      exact StpSl.of_owns hown Hm.out hcs hB (Nat.le_refl _)

end Go.Proofs.Ytaedfidfcoigoaa
