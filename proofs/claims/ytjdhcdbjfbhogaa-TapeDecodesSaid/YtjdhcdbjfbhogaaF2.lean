/- The reference: put. -/
import Derived.Test.YtjdhcdbjfbhogaaF1
import Derived.Test.YtjdhcdbjfbhogaaG8
import Derived.Test.YtjdhcdbjfbhogaaG9
import Derived.Test.YtjdhcdbjfbhogaaG11
namespace Go.Proofs.Ytjdhcdbjfbhogaa
open Go.RowKit

/-- Where the new answer goes. -/
theorem putA_at : ∀ (l : List Ans) (a : Ans) (k : Nat), k ≤ l.length → (∀ j (h : j < l.length), j < k → l[j].q.cmp a.q < 0) → (∀ h : k < l.length, ¬ l[k].q.cmp a.q < 0) →
    putA l a = if ∃ h : k < l.length, l[k].q = a.q then l else l.take k ++ a :: l.drop k
  | [], a, k, hk, _, _ => by
    simp at hk
    subst hk
    simp [putA]
  | b :: l, a, 0, _, _, h2 => by
    have := h2 (by simp)
    unfold putA
    rw [if_neg (by simpa using this)]
    by_cases e : b.q = a.q
    · rw [if_pos e, if_pos ⟨by simp, by simpa using e⟩]
    · rw [if_neg e, if_neg (fun ⟨_, h⟩ => e (by simpa using h))]
      simp
  | b :: l, a, k + 1, hk, h1, h2 => by
    have h0 := h1 0 (by simp) (by omega)
    unfold putA
    rw [if_pos (by simpa using h0), putA_at l a k (by simpa using hk) (fun j hj hjk => h1 (j + 1) (by simpa using hj) (by omega)) (fun h => h2 (by simpa using h))]
    by_cases e : ∃ h : k < l.length, l[k].q = a.q
    · rw [if_pos e, if_pos (by obtain ⟨h, e⟩ := e; exact ⟨by simpa using h, by simpa using e⟩)]
    · rw [if_neg e, if_neg (fun ⟨h, e2⟩ => e ⟨by simpa using h, by simpa using e2⟩)]
      simp

theorem put_row {w : World} {B k : Nat} {u : Value} {l : List Ans} {x : Ans} (hk : k ≤ l.length) (h : w.ownsRow B 75 6 u (k + 1 + (l.length - k)) (((l.take k).flatMap ac ++ #[I x.q.node, I x.q.handler, I x.q.count, I x.q.kind, I x.q.index, I x.n].toList) ++ (l.drop k).flatMap ac)) :
    w.ownsRow B 75 6 u (l.take k ++ x :: l.drop k).length ((l.take k ++ x :: l.drop k).flatMap ac) := by
  have e1 : (l.take k ++ x :: l.drop k).length = k + 1 + (l.length - k) := by simp; omega
  rw [e1, List.flatMap_append, List.flatMap_cons, ← List.append_assoc]
  exact h

set_option maxHeartbeats 4000000 in
set_option maxRecDepth 100000 in
theorem refPut_some (l : List Ans) (x : Ans) (B g c : Nat) (w : World) (hown : w.ownsRow B 75 6 (.slice (some ⟨g, 0, none⟩) l.length c) l.length (l.flatMap ac)) (hB : B ≤ w.heap.size) (hl : l.length ≤ 1000000) :
    Calls Try.prog 66 #[.slice (some ⟨g, 0, none⟩) l.length c, .agg #[I x.q.node, I x.q.handler, I x.q.count, I x.q.kind, I x.q.index, I x.n]] w fun e w' => ∃ u, e = .returned u ∧ w'.ownsRow B 75 6 u (putA l x).length ((putA l x).flatMap ac) ∧ Below w.heap.size w w' := by
  have Hown := Lib.hid hown
  have hcap := (owns_cap hown).2
  have hfl : AnsSl w (.slice (some ⟨g, 0, none⟩) l.length c) l := Flat.of_owns hown
  clear hown
  go_enter Try.func66, Try.ntmps66
  go_wp2_with fail
  go_loopw [5] (fun i wr => ∃ k : Nat, k ≤ l.length ∧ i = .int .i64 k ∧ Hid (∀ j (h : j < l.length), j < k → l[j].q.cmp x.q < 0) ∧ Blk wr w.heap.size #[I x.q.node, I x.q.handler, I x.q.count, I x.q.kind, I x.q.index, I x.n] ∧ Below w.heap.size w wr) (fun i _ => l.length - (intOf i).toNat)
  case atStart => exact ⟨0, by omega, rfl, Lib.hid (fun j _ h => by omega), Blk.new _ _ _, (by repeat (first | exact Below.refl _ _ | assumption | refine Below.drew ?_ | refine below_drewN ?_ _ | refine Below.alloc ?_ (by simp <;> omega) _ | refine Below.setCell ?_ (by simp <;> omega) _))⟩
  case round =>
    obtain ⟨k, hk, rfl, HE, hblk, hBw⟩ := hrel
    have hzr := hBw.size
    have hbc := hblk.cell
    by_cases hlt : k < l.length
    · obtain ⟨b, o, e0, hr⟩ := (hfl.kept hBw (Nat.le_refl _)).at (i := k) (x := l[k]) (by simp [hlt])
      simp at e0
      obtain ⟨rfl, rfl⟩ := e0
      have x0 : wr.cell? ⟨g, 0 + k * 6, none⟩ = _ := hr 0 _ rfl
      have x1 := hr 1 _ rfl
      have x2 := hr 2 _ rfl
      have x3 := hr 3 _ rfl
      have x4 := hr 4 _ rfl
      simp only [Nat.zero_add] at x0 x1 x2 x3 x4
      have hgl : g < wr.heap.size := by simpa using World.block_lt_of_cell? _ _ x0
      have Hr := Lib.hid hr
      clear hr
      have q1 : decide ((k : Int) < l.length) = true := by simp; omega
      go_wp2_with fail
      refine wp_region_ordN 15 [(0, true), (1, true), (2, true), (3, true), (4, true), (5, true), (6, true), (7, true), (8, true), (9, true), (10, true), (11, true), (12, false), (13, true), (14, true)] (fun w' => (∀ j, w'.cell? ⟨w.heap.size, j, none⟩ = (#[I x.q.node, I x.q.handler, I x.q.count, I x.q.kind, I x.q.index, I x.n] : Array Value)[j]?) ∧ (∀ o, w'.cell? ⟨g, o, none⟩ = wr.cell? ⟨g, o, none⟩)) (by kernel_rfl) rfl rfl (by kernel_rfl) ⟨hbc, fun _ => rfl⟩ ?_
      iterate 12 (refine wpOrd_take ?_ (by rfl) ?_ ?_; rotate_left; (intro w hSw; (try dsimp only at hSw); go_simp; try with_reducible rfl); (try simp only [Act.put, List.setIfInBounds_toArray, List.set_cons_zero, List.set_cons_succ]))
      refine wpOrd_move (fun K hK => ?_)
      go_simp
      go_at_call 56
      refine (refCmpQ l[k].q x.q _).mono ?_
      rintro e w1 ⟨rfl, hB1d⟩
      have hB1 : Below wr.heap.size wr w1 := ⟨hB1d.os, hB1d.tape, hB1d.output, hB1d.size, hB1d.block⟩
      have hblk1 := hblk.kept hB1 hblk.lt
      refine hK.out _ _ ⟨hblk1.cell, fun o => bcell hB1 g o hgl⟩ ?_
      clear hK K
      (try simp only [Act.put, List.setIfInBounds_toArray, List.set_cons_zero, List.set_cons_succ])
      iterate 2 (refine wpOrd_take ?_ (by rfl) ?_ ?_; rotate_left; (intro w hSw; (try dsimp only at hSw); go_simp; try with_reducible rfl); (try simp only [Act.put, List.setIfInBounds_toArray, List.set_cons_zero, List.set_cons_succ]))
      refine wpOrd_nil ?_
      have hBw1 := Below.then hBw hB1
      by_cases hc : l[k].q.cmp x.q < 0
      · have Hc := Lib.hid hc
        have p1 : decide (l[k].q.cmp x.q < 0) = true := by simp [hc]
        clear hc
        simp only [p1]
        go_wp2_with fail
        refine NoPanic.normal ?_
        go_wp2_with fail
        go_roundw
        case rel => exact ⟨k + 1, by omega, by go_num, Lib.hid (fun j h hj => by
            by_cases e : j = k
            · subst e; exact Hc.out
            · exact HE.out j h (by omega)), hblk1, hBw1⟩
        case measure => simp [intOf]; omega
      · have Hc := Lib.hid hc
        have p1 : decide (l[k].q.cmp x.q < 0) = false := by simp [hc]
        clear hc
        simp only [p1]
        go_wp2_with fail
        refine NoPanic.normal ?_
        go_wp2_with fail
        have y0 := (bcell hB1 g (k * 6) hgl).trans x0
        have y1 := (bcell hB1 g (k * 6 + 1) hgl).trans x1
        have y2 := (bcell hB1 g (k * 6 + 2) hgl).trans x2
        have y3 := (bcell hB1 g (k * 6 + 3) hgl).trans x3
        have y4 := (bcell hB1 g (k * 6 + 4) hgl).trans x4
        have hb1c := hblk1.cell
        clear x0 x1 x2 x3 x4 hbc
        by_cases he : l[k].q = x.q
        · have hq : eqL [l[k].q.node, l[k].q.handler, l[k].q.count, l[k].q.kind, l[k].q.index] [x.q.node, x.q.handler, x.q.count, x.q.kind, x.q.index] = true := eqL_true (Qn.ints_inj.2 he)
          have hp := putA_at l x k hk HE.out (fun _ => by have := Hc.out; omega)
          rw [if_pos ⟨hlt, he⟩] at hp
          have Hp := Lib.hid hp
          clear he hp
          refine wp_region_ordN 8 [(0, true), (1, true), (2, true), (3, true), (4, true), (5, true), (6, true), (7, true)] (fun w' => ∀ a, w'.cell? a = w1.cell? a) (by kernel_rfl) rfl rfl (by kernel_rfl) (fun _ => rfl) ?_
          iterate 8 (refine wpOrd_take ?_ (by rfl) ?_ ?_; rotate_left; (intro w hSw; (try dsimp only at hSw); go_simp; try with_reducible rfl); (try simp only [Act.put, List.setIfInBounds_toArray, List.set_cons_zero, List.set_cons_succ]))
          refine wpOrd_nil ?_
          (try simp only [hq])
          go_wp2_with fail
          refine NoPanic.normal ?_
          go_wp2_with fail
          go_ret
          rw [Hp.out]
          exact ⟨_, rfl, owns_below Hown.out hBw1.drew, hBw1.drew⟩
        · have hq : eqL [l[k].q.node, l[k].q.handler, l[k].q.count, l[k].q.kind, l[k].q.index] [x.q.node, x.q.handler, x.q.count, x.q.kind, x.q.index] = false := eqL_false (fun h => he (Qn.ints_inj.1 h))
          have hp := putA_at l x k hk HE.out (fun _ => by have := Hc.out; omega)
          rw [if_neg (fun ⟨_, h⟩ => he h)] at hp
          have Hp := Lib.hid hp
          clear he hp
          refine wp_region_ordN 8 [(0, true), (1, true), (2, true), (3, true), (4, true), (5, true), (6, true), (7, true)] (fun w' => ∀ a, w'.cell? a = w1.cell? a) (by kernel_rfl) rfl rfl (by kernel_rfl) (fun _ => rfl) ?_
          iterate 8 (refine wpOrd_take ?_ (by rfl) ?_ ?_; rotate_left; (intro w hSw; (try dsimp only at hSw); go_simp; try with_reducible rfl); (try simp only [Act.put, List.setIfInBounds_toArray, List.set_cons_zero, List.set_cons_succ]))
          refine wpOrd_nil ?_
          (try simp only [hq])
          go_wp2_with fail
          refine NoPanic.normal ?_
          have hflD : Flat w1.drew 6 (.slice (some ⟨g, 0, none⟩) l.length c) l.length (l.flatMap ac) := AnsSl.kept hfl hBw1.drew (Nat.le_refl _)
          have hT := flatMap_take ac_length l k ▸ Flat.take (c' := c) hflD hk
          have hD := flatMap_drop ac_length l k ▸ Flat.drop (c' := c - k) hflD hk
          have hblkD := hblk1.drew
          have hBwD := hBw1.drew
          generalize w1.drew = w7 at hT hD hblkD hBwD ⊢
          simp only [Nat.zero_add] at hD
          have hT1 := Lib.hid hT
          have hD1 := Lib.hid hD
          have hz7 := hBwD.size
          clear hflD hT hD
          go_upto_region 9 with (at_builtin; go_must (refine wpList_appG rfl _ _ 24 rfl 75 _ 6 48 Try.underlying24 info75 rfl (by omega) (by omega) w7.heap.size _ 0 [] rfl (World.ownsRow_nil _ _ _ _) _ rfl k _ hT1.out (ans_one _) (by omega) (Nat.le_refl _) ?_); intro u8 w8 ho8 hgr8 hB8; obtain ⟨k8, c8, rfl, _⟩ := (Flat.of_owns ho8).open)
          have hblk8 := hblkD.kept hB8 hblkD.lt
          have hz8 := hB8.size
          rw [Nat.zero_add, List.nil_append] at ho8
          have Hblk8 := Lib.hid hblk8
          clear hblkD
          go_upto_region 10 with (first | ((with_reducible refine wpList_load75 rfl _ rfl w.heap.size 0 [I x.q.node, I x.q.handler, I x.q.count, I x.q.kind, I x.q.index, I x.n] rfl ?_ ?_ ?_); (rfl); (exact blk_range Hblk8.out 0 _ (fun j v hv => by simpa using hv))) | (at_builtin; go_must (refine wpList_appB rfl _ _ 24 rfl 75 _ 6 48 Try.underlying24 info75 rfl (by omega) (by omega) w7.heap.size _ k _ rfl (ho8.alloc _) w8.heap.size 1 1 #[I x.q.node, I x.q.handler, I x.q.count, I x.q.kind, I x.q.index, I x.n] 75 rfl (heap_alloc_new _ _) rfl rfl (by omega) (by omega) (by simp; omega) ?_); intro g9 cap9 w9 hg9a hg9b hg9c ho9 hgr9 hB9))
          have hB79 : Below w7.heap.size w7 w9 := (hB8.alloc hz8 _).trans hB9
          have hck : ¬ (c = k) := by omega
          have hz9 := hB79.size
          clear hgr8 hgr9 hg9c hB8 hB9 ho8
          go_wp2_with (at_builtin; go_must (refine wpList_appG rfl _ _ 24 rfl 75 _ 6 48 Try.underlying24 info75 rfl (by omega) (by omega) w7.heap.size _ (k + 1) _ rfl ho9 _ rfl (l.length - k) _ (Flat.kept hD1.out hB79 (Nat.le_refl _)) (ans_one _) (by omega) hz9 ?_); intro u10 w10 ho10 hgr10 hB10)
          go_ret
          rw [Hp.out]
          exact ⟨_, rfl, put_row hk (owns_weaken ho10 (by omega)), hBwD.trans ((hB79.trans hB10).mono hz7)⟩
    · obtain rfl : k = l.length := by omega
      have q1 : decide ((l.length : Int) < l.length) = false := by simp
      have hp := putA_at l x l.length hk HE.out (fun h => absurd h hlt)
      rw [if_neg (fun ⟨h, _⟩ => hlt h)] at hp
      have Hp := Lib.hid hp
      clear hp
      go_wp2_with fail
      go_quiet (fail)
      go_upto_region 8 with fail
      have hflD : Flat (wr.drewN nq) 6 (.slice (some ⟨g, 0, none⟩) l.length c) l.length (l.flatMap ac) := AnsSl.kept hfl (below_drewN hBw nq) (Nat.le_refl _)
      have hT := flatMap_take ac_length l l.length ▸ Flat.take (c' := c) hflD hk
      have hblkD := hblk.drewN nq
      have hBwD := below_drewN hBw nq
      generalize wr.drewN nq = w7 at hT hblkD hBwD ⊢
      have hT1 := Lib.hid hT
      have hz7 := hBwD.size
      clear hflD hT
      go_upto_region 9 with (at_builtin; go_must (refine wpList_appG rfl _ _ 24 rfl 75 _ 6 48 Try.underlying24 info75 rfl (by omega) (by omega) w7.heap.size _ 0 [] rfl (World.ownsRow_nil _ _ _ _) _ rfl l.length _ hT1.out (ans_one _) (by omega) (Nat.le_refl _) ?_); intro u8 w8 ho8 hgr8 hB8; obtain ⟨k8, c8, rfl, _⟩ := (Flat.of_owns ho8).open)
      have hblk8 := hblkD.kept hB8 hblkD.lt
      have hz8 := hB8.size
      rw [Nat.zero_add, List.nil_append] at ho8
      have Hblk8 := Lib.hid hblk8
      clear hblkD
      go_upto_region 10 with (first | ((with_reducible refine wpList_load75 rfl _ rfl w.heap.size 0 [I x.q.node, I x.q.handler, I x.q.count, I x.q.kind, I x.q.index, I x.n] rfl ?_ ?_ ?_); (rfl); (exact blk_range Hblk8.out 0 _ (fun j v hv => by simpa using hv))) | (at_builtin; go_must (refine wpList_appB rfl _ _ 24 rfl 75 _ 6 48 Try.underlying24 info75 rfl (by omega) (by omega) w7.heap.size _ l.length _ rfl (ho8.alloc _) w8.heap.size 1 1 #[I x.q.node, I x.q.handler, I x.q.count, I x.q.kind, I x.q.index, I x.n] 75 rfl (heap_alloc_new _ _) rfl rfl (by omega) (by omega) (by simp; omega) ?_); intro g9 cap9 w9 hg9a hg9b hg9c ho9 hgr9 hB9))
      have hB79 : Below w7.heap.size w7 w9 := (hB8.alloc hz8 _).trans hB9
      have hz9 := hB79.size
      clear hgr8 hgr9 hg9c hB8 hB9 ho8
      go_wp2_with (at_builtin; go_must (refine wpList_appG rfl _ _ 24 rfl 75 _ 6 48 Try.underlying24 info75 rfl (by omega) (by omega) w7.heap.size _ (l.length + 1) _ rfl ho9 _ rfl 0 [] (Flat.nil _ _ _ _) (by simp) (by omega) hz9 ?_); intro u10 w10 ho10 hgr10 hB10)
      all_goals
        go_ret
        rw [Hp.out]
        exact ⟨_, rfl, put_row hk (owns_weaken (by simpa using ho10) (by omega)), hBwD.trans ((hB79.trans hB10).mono hz7)⟩

set_option maxRecDepth 100000 in
theorem refPut_nil (x : Ans) (B : Nat) (w : World) (hB : B ≤ w.heap.size) :
    Calls Try.prog 66 #[.slice none 0 0, .agg #[I x.q.node, I x.q.handler, I x.q.count, I x.q.kind, I x.q.index, I x.n]] w fun e w' => ∃ u, e = .returned u ∧ w'.ownsRow B 75 6 u 1 (ac x) ∧ Below w.heap.size w w' := by
  have hblk0 := Blk.new w #[I x.q.node, I x.q.handler, I x.q.count, I x.q.kind, I x.q.index, I x.n] 75
  go_enter Try.func66, Try.ntmps66
  go_wp2_with fail
  refine wp_loop_rounds 1 ?_
  rw [rounds_succ]
  go_wp2_with fail
  go_quiet (fail)
  go_upto_region 9 with fail
  have hblk1 := hblk0.drewN nq
  have hB1 : Below w.heap.size w ((w.alloc (.cells #[I x.q.node, I x.q.handler, I x.q.count, I x.q.kind, I x.q.index, I x.n] 75)).drewN nq) := (by repeat (first | exact Below.refl _ _ | assumption | refine Below.drew ?_ | refine below_drewN ?_ _ | refine Below.alloc ?_ (by simp <;> omega) _ | refine Below.setCell ?_ (by simp <;> omega) _))
  generalize (w.alloc (.cells #[I x.q.node, I x.q.handler, I x.q.count, I x.q.kind, I x.q.index, I x.n] 75)).drewN nq = w7 at hblk1 hB1 ⊢
  have Hblk1 := Lib.hid hblk1
  have hz7 := hB1.size
  go_upto_region 10 with (first | ((with_reducible refine wpList_load75 rfl _ rfl w.heap.size 0 [I x.q.node, I x.q.handler, I x.q.count, I x.q.kind, I x.q.index, I x.n] rfl ?_ ?_ ?_); (rfl); (exact blk_range Hblk1.out 0 _ (fun j v hv => by simpa using hv))) | (at_builtin; go_must (refine wpList_appB rfl _ _ 24 rfl 75 _ 6 48 Try.underlying24 info75 rfl (by omega) (by omega) w7.heap.size _ 0 [] rfl (World.ownsRow_nil _ _ _ _) w7.heap.size 1 1 #[I x.q.node, I x.q.handler, I x.q.count, I x.q.kind, I x.q.index, I x.n] 75 rfl (heap_alloc_new _ _) rfl rfl (by omega) (by omega) (by simp) ?_); intro g9 cap9 w9 hg9a hg9b hg9c ho9 hgr9 hB9))
  have hB79 : Below w7.heap.size w7 w9 := ((Below.refl _ w7).alloc (Nat.le_refl _) _).trans hB9
  have hz9 := hB79.size
  clear hgr9 hg9c hB9
  go_wp2_with (at_builtin; go_must (refine wpList_appG rfl _ _ 24 rfl 75 _ 6 48 Try.underlying24 info75 rfl (by omega) (by omega) w7.heap.size _ _ _ rfl ho9 _ rfl 0 [] (Flat.nil _ _ _ _) (by simp) (by omega) hz9 ?_); intro u10 w10 ho10 hgr10 hB10)
  go_ret
  exact ⟨_, rfl, owns_weaken (by simpa [ac, Ans.ints, iv] using ho10) (by omega), hB1.trans ((hB79.trans hB10).mono hz7)⟩

theorem refPut (l : List Ans) (x : Ans) (B : Nat) (v : Value) (w : World) (hown : w.ownsRow B 75 6 v l.length (l.flatMap ac)) (hB : B ≤ w.heap.size) (hl : l.length ≤ 1000000) :
    Calls Try.prog 66 #[v, .agg #[I x.q.node, I x.q.handler, I x.q.count, I x.q.kind, I x.q.index, I x.n]] w fun e w' => ∃ u, e = .returned u ∧ w'.ownsRow B 75 6 u (putA l x).length ((putA l x).flatMap ac) ∧ Below w.heap.size w w' := by
  have h2 := hown
  obtain ⟨_, ⟨rfl, hn⟩ | ⟨g, cap, cur, rfl, _⟩⟩ := h2
  · have hx : l = [] := List.length_eq_zero_iff.1 hn
    subst hx
    refine (refPut_nil x B w hB).mono ?_
    rintro e w' ⟨u, rfl, h1, h2⟩
    exact ⟨u, rfl, by simpa [putA] using h1, h2⟩
  · exact refPut_some l x B g cap w hown hB hl

end Go.Proofs.Ytjdhcdbjfbhogaa
