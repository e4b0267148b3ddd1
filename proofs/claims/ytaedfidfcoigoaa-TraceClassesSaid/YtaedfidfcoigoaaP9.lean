/- trace.sift at its two conditions; trace.Project, trace.Observable. -/
import Derived.Test.YtaedfidfcoigoaaP8
namespace Go.Proofs.Ytaedfidfcoigoaa
open Go.RowKit

theorem bool_eq_int (a b : Int) : (a == b) = decide (a = b) := rfl

set_option maxHeartbeats 400000 in
theorem fnProject (s : Stp) (qa qs : Option Addr) (na da ns ds q : Nat) (n : Int) (w : World) (hq : w.cell? ⟨q, 0, none⟩ = some (I n)) :
    Calls Try.prog 37 #[s.val (.slice qa na da) (.slice qs ns ds), .pointer (some ⟨q, 0, none⟩)] w fun e w' => e = .returned (.bool (s.ev.node == n)) ∧ Below w.heap.size w w' := by
  have hql : q < w.heap.size := by simpa using World.block_lt_of_cell? _ _ hq
  simp only [Stp.val, Stp.row]
  go_enter Try.func37, Try.ntmps37
  go_wp2_with fail
  go_ret
  exact ⟨by simp, (by repeat (first | exact Below.refl _ _ | assumption | refine Below.drew ?_ | refine below_drewN ?_ _ | refine Below.alloc ?_ (by simp <;> omega) _ | refine Below.setCell ?_ (by simp <;> omega) _))⟩

set_option maxHeartbeats 400000 in
theorem fnObservable (s : Stp) (qa qs : Option Addr) (na da ns ds : Nat) (w : World) :
    Calls Try.prog 38 #[s.val (.slice qa na da) (.slice qs ns ds)] w fun e w' => e = .returned (.bool s.obs) ∧ Below w.heap.size w w' := by
  simp only [Stp.val, Stp.row]
  go_enter Try.func38, Try.ntmps38
  go_wp2_with fail
  go_ret
  exact ⟨rfl, (by repeat (first | exact Below.refl _ _ | assumption | refine Below.drew ?_ | refine below_drewN ?_ _ | refine Below.alloc ?_ (by simp <;> omega) _ | refine Below.setCell ?_ (by simp <;> omega) _))⟩

set_option maxHeartbeats 1600000 in
set_option maxRecDepth 100000 in
theorem siftProject (l : List Stp) (q : Nat) (n : Int) (v : Value) (w : World) (hl : StpSl w v l) (hq : w.cell? ⟨q, 0, none⟩ = some (I n)) (hs : l.length ≤ 1000000) :
    Calls Try.prog 35 #[v, .func (.func 37) #[] #[.pointer (some ⟨q, 0, none⟩)]] w fun e w' => ∃ u, e = .returned u ∧ StpSl w' u (l.filter fun s => (s.ev.node == n)) ∧ Below w.heap.size w w' := by
  have c : ∀ (s : Stp) (qa qs : Option Addr) (na da ns ds : Nat) (x : Bool) (hx : (s.ev.node == n) = x) (W : World), Below w.heap.size w W → Calls Try.prog 37 #[s.val (.slice qa na da) (.slice qs ns ds), .pointer (some ⟨q, 0, none⟩)] W fun e w' => e = .returned (.bool x) ∧ Below W.heap.size W w' := fun s qa qs na da ns ds x hx W hB => hx ▸ fnProject s qa qs na da ns ds q n W ((hB.cell (p := ⟨q, 0, none⟩) (by simpa using World.block_lt_of_cell? _ _ hq)).trans hq)
  simp only [Stp.val, Stp.row] at c
  have C := Lib.hid c
  clear c hq
  obtain ⟨ka, ca, rfl, hml⟩ := hl.open
  go_enter Try.func35, Try.ntmps35
  go_wp2_with fail
  go_loopw [5, 10] (fun v i wr => ∃ (k m : Nat) (xs : List Value), k ≤ l.length ∧ i = .int .i64 k ∧ m ≤ k ∧ wr.ownsRow w.heap.size 55 11 v m xs ∧ m = ((l.take k).filter fun s => (s.ev.node == n)).length ∧
      StpCells w ((l.take k).filter fun s => (s.ev.node == n)) xs ∧ Below w.heap.size w wr) (fun _ i _ => l.length - (intOf i).toNat)
  case atStart => exact ⟨0, 0, [], by omega, rfl, by omega, World.ownsRow_nil _ _ _ _, rfl, rfl, Below.refl _ _⟩
  case round =>
    obtain ⟨k, m, xs, hk, rfl, hmk, hown, hm, hcs, hB⟩ := hrel
    have Hm := Lib.hid hm
    clear hm
    by_cases hlt : k < l.length
    · obtain ⟨b, o, va, vs, rfl, hva, hvs, x0, x1, x2, x3, x4, x5, x6, x7, x8, x9, x10⟩ := hl.at (i := k) (s := l[k]) (by simp [hlt])
      obtain ⟨qa, da, rfl, _⟩ := hva.open
      obtain ⟨qs, ds, rfl, _⟩ := hvs.open
      have hcc := bcell hB
      have hlB := hB.size
      have hbl : b < w.heap.size := by simpa using World.block_lt_of_cell? _ _ x0
      have htk : l.take (k + 1) = l.take k ++ [l[k]] := by rw [List.take_succ_eq_append_getElem hlt]
      by_cases hx : (l[k].ev.node == n) = true
      · have hc := C.out l[k] qa qs l[k].asks.length da l[k].sent.length ds true hx
        have Hc := Lib.hid hc
        have Hx := Lib.hid hx
        have Ht := Lib.hid htk
        clear hx htk hc
        go_wp2_with fail
        refine (Hc.out _ (hB.alloc hlB _)).mono ?_
        rintro e w1 ⟨rfl, hB1⟩
        have hz1 := hB1.size
        simp only [World.size_alloc] at hz1
        have hb1 := (Blk.new wr #[I l[k].ev.kind, I l[k].ev.node, I l[k].ev.arg, I l[k].ev.msg.node, I l[k].ev.msg.handler, I l[k].ev.msg.count, I l[k].ev.msg.index, I l[k].ev.msg.copy, .slice qa l[k].asks.length da, .bool l[k].obs, .slice qs l[k].sent.length ds] 55).kept hB1 (by simp)
        have hbc1 := hb1.cell
        have ho1 := owns_below (hown.alloc _) hB1
        have hBw1 := (hB.alloc hlB (.cells #[I l[k].ev.kind, I l[k].ev.node, I l[k].ev.arg, I l[k].ev.msg.node, I l[k].ev.msg.handler, I l[k].ev.msg.count, I l[k].ev.msg.index, I l[k].ev.msg.copy, .slice qa l[k].asks.length da, .bool l[k].obs, .slice qs l[k].sent.length ds] 55)).trans (hB1.mono (by simp only [World.size_alloc]; omega))
        clear hcc
        go_wp2_with (at_builtin; refine wpList_appB rfl _ _ 23 rfl 55 _ 11 120 Try.underlying23 info55 rfl (by omega) (by omega) w.heap.size _ m xs rfl (ho1.alloc _) w1.heap.size 1 1 _ 55 rfl (heap_alloc_new _ _) rfl rfl (by omega) (by omega) (by simp; omega) ?_; intro g cap w2 hg1 hg2 hg3 hown1 hgr hB2)
        go_roundw
        case rel =>
          refine ⟨k + 1, m + 1, _, by omega, by go_num, by omega, hown1, ?_, ?_, (hBw1.alloc (by omega) _).trans hB2⟩
          · rw [Ht.out, List.filter_append, List.length_append, ← Hm.out]
            simp [Hx.out]
          · rw [Ht.out, List.filter_append]
            refine StpCells.append hcs ?_
            have h1 := StpCells.one hva hvs
            unfold Stp.row at h1
            simpa [List.filter_cons, Hx.out] using h1
        case measure => simp [intOf]; omega
      · have hq : ((l[k].ev.node == n)) = false := by simpa using hx
        have hc := C.out l[k] qa qs l[k].asks.length da l[k].sent.length ds false hq
        have Hc := Lib.hid hc
        have Hq := Lib.hid hq
        have Ht := Lib.hid htk
        clear hx htk hc hq
        go_wp2_with fail
        refine (Hc.out _ (hB.alloc hlB _)).mono ?_
        rintro e w1 ⟨rfl, hB1⟩
        have hz1 := hB1.size
        simp only [World.size_alloc] at hz1
        have ho1 := owns_below (hown.alloc _) hB1
        have hBw1 := (hB.alloc hlB (.cells #[I l[k].ev.kind, I l[k].ev.node, I l[k].ev.arg, I l[k].ev.msg.node, I l[k].ev.msg.handler, I l[k].ev.msg.count, I l[k].ev.msg.index, I l[k].ev.msg.copy, .slice qa l[k].asks.length da, .bool l[k].obs, .slice qs l[k].sent.length ds] 55)).trans (hB1.mono (by simp only [World.size_alloc]; omega))
        go_wp2_with fail
        go_roundw
        case rel =>
          refine ⟨k + 1, m, xs, by omega, by go_num, by omega, ho1, ?_, ?_, hBw1⟩
          · rw [Ht.out, List.filter_append, List.length_append, ← Hm.out]
            simp [Hq.out]
          · rw [Ht.out, List.filter_append]
            simpa [List.filter_cons, Hq.out] using hcs
        case measure => simp [intOf]; omega
    · go_wp2_with fail
      go_ret
      refine ⟨_, rfl, ?_, hB⟩
      rw [List.take_of_length_le (by omega)] at hcs Hm
      exact StpSl.of_owns hown Hm.out hcs hB (Nat.le_refl _)

set_option maxHeartbeats 1600000 in
set_option maxRecDepth 100000 in
theorem siftObservable (l : List Stp) (v : Value) (w : World) (hl : StpSl w v l) (hs : l.length ≤ 1000000) :
    Calls Try.prog 35 #[v, .func (.func 38) #[] #[]] w fun e w' => ∃ u, e = .returned u ∧ StpSl w' u (l.filter fun s => s.obs) ∧ Below w.heap.size w w' := by
  have c : ∀ (s : Stp) (qa qs : Option Addr) (na da ns ds : Nat) (x : Bool) (hx : s.obs = x) (W : World), Below w.heap.size w W → Calls Try.prog 38 #[s.val (.slice qa na da) (.slice qs ns ds)] W fun e w' => e = .returned (.bool x) ∧ Below W.heap.size W w' := fun s qa qs na da ns ds x hx W hB => hx ▸ fnObservable s qa qs na da ns ds W
  simp only [Stp.val, Stp.row] at c
  have C := Lib.hid c
  clear c
  obtain ⟨ka, ca, rfl, hml⟩ := hl.open
  go_enter Try.func35, Try.ntmps35
  go_wp2_with fail
  go_loopw [5, 10] (fun v i wr => ∃ (k m : Nat) (xs : List Value), k ≤ l.length ∧ i = .int .i64 k ∧ m ≤ k ∧ wr.ownsRow w.heap.size 55 11 v m xs ∧ m = ((l.take k).filter fun s => s.obs).length ∧
      StpCells w ((l.take k).filter fun s => s.obs) xs ∧ Below w.heap.size w wr) (fun _ i _ => l.length - (intOf i).toNat)
  case atStart => exact ⟨0, 0, [], by omega, rfl, by omega, World.ownsRow_nil _ _ _ _, rfl, rfl, Below.refl _ _⟩
  case round =>
    obtain ⟨k, m, xs, hk, rfl, hmk, hown, hm, hcs, hB⟩ := hrel
    have Hm := Lib.hid hm
    clear hm
    by_cases hlt : k < l.length
    · obtain ⟨b, o, va, vs, rfl, hva, hvs, x0, x1, x2, x3, x4, x5, x6, x7, x8, x9, x10⟩ := hl.at (i := k) (s := l[k]) (by simp [hlt])
      obtain ⟨qa, da, rfl, _⟩ := hva.open
      obtain ⟨qs, ds, rfl, _⟩ := hvs.open
      have hcc := bcell hB
      have hlB := hB.size
      have hbl : b < w.heap.size := by simpa using World.block_lt_of_cell? _ _ x0
      have htk : l.take (k + 1) = l.take k ++ [l[k]] := by rw [List.take_succ_eq_append_getElem hlt]
      by_cases hx : l[k].obs = true
      · have hc := C.out l[k] qa qs l[k].asks.length da l[k].sent.length ds true hx
        have Hc := Lib.hid hc
        have Hx := Lib.hid hx
        have Ht := Lib.hid htk
        clear hx htk hc
        go_wp2_with fail
        refine (Hc.out _ (hB.alloc hlB _)).mono ?_
        rintro e w1 ⟨rfl, hB1⟩
        have hz1 := hB1.size
        simp only [World.size_alloc] at hz1
        have hb1 := (Blk.new wr #[I l[k].ev.kind, I l[k].ev.node, I l[k].ev.arg, I l[k].ev.msg.node, I l[k].ev.msg.handler, I l[k].ev.msg.count, I l[k].ev.msg.index, I l[k].ev.msg.copy, .slice qa l[k].asks.length da, .bool l[k].obs, .slice qs l[k].sent.length ds] 55).kept hB1 (by simp)
        have hbc1 := hb1.cell
        have ho1 := owns_below (hown.alloc _) hB1
        have hBw1 := (hB.alloc hlB (.cells #[I l[k].ev.kind, I l[k].ev.node, I l[k].ev.arg, I l[k].ev.msg.node, I l[k].ev.msg.handler, I l[k].ev.msg.count, I l[k].ev.msg.index, I l[k].ev.msg.copy, .slice qa l[k].asks.length da, .bool l[k].obs, .slice qs l[k].sent.length ds] 55)).trans (hB1.mono (by simp only [World.size_alloc]; omega))
        clear hcc
        go_wp2_with (at_builtin; refine wpList_appB rfl _ _ 23 rfl 55 _ 11 120 Try.underlying23 info55 rfl (by omega) (by omega) w.heap.size _ m xs rfl (ho1.alloc _) w1.heap.size 1 1 _ 55 rfl (heap_alloc_new _ _) rfl rfl (by omega) (by omega) (by simp; omega) ?_; intro g cap w2 hg1 hg2 hg3 hown1 hgr hB2)
        go_roundw
        case rel =>
          refine ⟨k + 1, m + 1, _, by omega, by go_num, by omega, hown1, ?_, ?_, (hBw1.alloc (by omega) _).trans hB2⟩
          · rw [Ht.out, List.filter_append, List.length_append, ← Hm.out]
            simp [Hx.out]
          · rw [Ht.out, List.filter_append]
            refine StpCells.append hcs ?_
            have h1 := StpCells.one hva hvs
            unfold Stp.row at h1
            simpa [List.filter_cons, Hx.out] using h1
        case measure => simp [intOf]; omega
      · have hq : (l[k].obs) = false := by simpa using hx
        have hc := C.out l[k] qa qs l[k].asks.length da l[k].sent.length ds false hq
        have Hc := Lib.hid hc
        have Hq := Lib.hid hq
        have Ht := Lib.hid htk
        clear hx htk hc hq
        go_wp2_with fail
        refine (Hc.out _ (hB.alloc hlB _)).mono ?_
        rintro e w1 ⟨rfl, hB1⟩
        have hz1 := hB1.size
        simp only [World.size_alloc] at hz1
        have ho1 := owns_below (hown.alloc _) hB1
        have hBw1 := (hB.alloc hlB (.cells #[I l[k].ev.kind, I l[k].ev.node, I l[k].ev.arg, I l[k].ev.msg.node, I l[k].ev.msg.handler, I l[k].ev.msg.count, I l[k].ev.msg.index, I l[k].ev.msg.copy, .slice qa l[k].asks.length da, .bool l[k].obs, .slice qs l[k].sent.length ds] 55)).trans (hB1.mono (by simp only [World.size_alloc]; omega))
        go_wp2_with fail
        go_roundw
        case rel =>
          refine ⟨k + 1, m, xs, by omega, by go_num, by omega, ho1, ?_, ?_, hBw1⟩
          · rw [Ht.out, List.filter_append, List.length_append, ← Hm.out]
            simp [Hq.out]
          · rw [Ht.out, List.filter_append]
            simpa [List.filter_cons, Hq.out] using hcs
        case measure => simp [intOf]; omega
    · go_wp2_with fail
      go_ret
      refine ⟨_, rfl, ?_, hB⟩
      rw [List.take_of_length_le (by omega)] at hcs Hm
      exact StpSl.of_owns hown Hm.out hcs hB (Nat.le_refl _)

set_option maxHeartbeats 800000 in
theorem trProject (l : List Stp) (n : Int) (v : Value) (w : World) (hl : StpSl w v l) (hs : l.length ≤ 1000000) (hask : ∀ s ∈ l, s.asks.length ≤ 1000000) (hsent : ∀ s ∈ l, s.sent.length ≤ 1000000) :
    Calls Try.prog 16 #[v, I n] w fun e w' => ∃ u, e = .returned u ∧ StpSl w' u (l.filter fun s => s.ev.node == n) ∧ Below w.heap.size w w' := by
  have hb : Below w.heap.size w (w.alloc (.cells #[I n] 3)) := (by repeat (first | exact Below.refl _ _ | assumption | refine Below.drew ?_ | refine below_drewN ?_ _ | refine Below.alloc ?_ (by simp <;> omega) _ | refine Below.setCell ?_ (by simp <;> omega) _))
  have C := Lib.hid (trOwn l v _ (hl.kept hb (Nat.le_refl _)) hs hask hsent)
  have hq : (w.alloc (.cells #[I n] 3)).cell? ⟨w.heap.size, 0, none⟩ = some (I n) := (Blk.new w #[I n] 3).cell 0
  have Hq := Lib.hid hq
  obtain ⟨ka, ca, rfl, hml⟩ := hl.open
  clear hq
  go_enter Try.func16, Try.ntmps16
  go_wp2_with fail
  refine C.out.mono ?_
  rintro e w1 ⟨u, rfl, hu, hB1⟩
  go_wp2_with fail
  refine (siftProject l _ _ _ _ hu ((hB1.cell (p := ⟨w.heap.size, 0, none⟩) (by simp)).trans Hq.out) hs).mono ?_
  rintro e w2 ⟨u2, rfl, hu2, hB2⟩
  go_wp2_with fail
  go_ret
  exact ⟨_, rfl, hu2, Below.then (Below.then hb hB1) hB2⟩

set_option maxHeartbeats 800000 in
theorem trObservable (l : List Stp) (v : Value) (w : World) (hl : StpSl w v l) (hs : l.length ≤ 1000000) (hask : ∀ s ∈ l, s.asks.length ≤ 1000000) (hsent : ∀ s ∈ l, s.sent.length ≤ 1000000) :
    Calls Try.prog 18 #[v] w fun e w' => ∃ u, e = .returned u ∧ StpSl w' u (l.filter fun s => s.obs) ∧ Below w.heap.size w w' := by
  have C := Lib.hid (trOwn l v _ hl hs hask hsent)
  obtain ⟨ka, ca, rfl, hml⟩ := hl.open
  go_enter Try.func18, Try.ntmps18
  go_wp2_with fail
  refine C.out.mono ?_
  rintro e w1 ⟨u, rfl, hu, hB1⟩
  go_wp2_with fail
  refine (siftObservable l _ _ hu hs).mono ?_
  rintro e w2 ⟨u2, rfl, hu2, hB2⟩
  go_wp2_with fail
  go_ret
  exact ⟨_, rfl, hu2, Below.then hB1 hB2⟩

end Go.Proofs.Ytaedfidfcoigoaa
