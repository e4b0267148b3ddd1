import Derived.Test.YtljmonfobefiiaaGreatDoorUTF1
import Derived.Test.YtljmonfobefiiaaGreatDoorUTG6
import Derived.Test.YtljmonfobefiiaaGreatDoorUTG9
import Derived.Test.YtljmonfobefiiaaGreatDoorUTG11
import Derived.Test.YtljmonfobefiiaaGreatDoorUTQ3
/- The reference: put. -/
namespace Go.Proofs.YtljmonfobefiiaaGreatDoor
open Go.RowKit

/-- Where the new answer goes. -/
theorem putA_at : ∀ (l : List Ans) (a : Ans) (k : Nat), k ≤ l.length → (∀ j (h : j < l.length), j < k → l[j].q.cmp a.q < 0) → (∀ h : k < l.length, ¬ l[k].q.cmp a.q < 0) →
    putA l a = if ∃ h : k < l.length, l[k].q = a.q then l else l.take k ++ a :: l.drop k
  | [], a, k, hk, _, _ => by
    simp at hk
    subst hk
    simp [putA]
  | b :: l, a, 0, _, _, h2 => by
    have := h2 (by simp)
    unfold putA
    rw [if_neg (by simpa using this)]
    by_cases e : b.q = a.q
    · rw [if_pos e, if_pos ⟨by simp, by simpa using e⟩]
    · rw [if_neg e, if_neg (fun ⟨_, h⟩ => e (by simpa using h))]
      simp
  | b :: l, a, k + 1, hk, h1, h2 => by
    have h0 := h1 0 (by simp) (by omega)
    unfold putA
    rw [if_pos (by simpa using h0), putA_at l a k (by simpa using hk) (fun j hj hjk => h1 (j + 1) (by simpa using hj) (by omega)) (fun h => h2 (by simpa using h))]
    by_cases e : ∃ h : k < l.length, l[k].q = a.q
    · rw [if_pos e, if_pos (by obtain ⟨h, e⟩ := e; exact ⟨by simpa using h, by simpa using e⟩)]
    · rw [if_neg e, if_neg (fun ⟨h, e2⟩ => e ⟨by simpa using h, by simpa using e2⟩)]
      simp

theorem put_row {w : World} {B k : Nat} {u : Value} {l : List Ans} {x : Ans} (hk : k ≤ l.length) (h : w.ownsRow B 78 6 u (k + 1 + (l.length - k)) (((l.take k).flatMap ac ++ #[I x.q.node, I x.q.handler, I x.q.count, I x.q.kind, I x.q.index, I x.n].toList) ++ (l.drop k).flatMap ac)) :
    w.ownsRow B 78 6 u (l.take k ++ x :: l.drop k).length ((l.take k ++ x :: l.drop k).flatMap ac) := by
  have e1 : (l.take k ++ x :: l.drop k).length = k + 1 + (l.length - k) := by simp; omega
  rw [e1, List.flatMap_append, List.flatMap_cons, ← List.append_assoc]
  exact h

set_option maxHeartbeats 4000000 in
set_option maxRecDepth 100000 in
theorem refPut_some (l : List Ans) (x : Ans) (B g c : Nat) (w : World) (hown : w.ownsRow B 78 6 (.slice (some ⟨g, 0, none⟩) l.length c) l.length (l.flatMap ac)) (hB : B ≤ w.heap.size) (hl : l.length ≤ 1000000) :
    Calls Tryz.prog 62 #[.slice (some ⟨g, 0, none⟩) l.length c, .agg #[I x.q.node, I x.q.handler, I x.q.count, I x.q.kind, I x.q.index, I x.n]] w fun e w' => ∃ u, e = .returned u ∧ w'.ownsRow B 78 6 u (putA l x).length ((putA l x).flatMap ac) ∧ Below w.heap.size w w' := by
  have Hown := Lib.hid hown
  have hcap := (owns_cap hown).2
  have hfl : AnsSl w (.slice (some ⟨g, 0, none⟩) l.length c) l := Flat.of_owns hown
  clear hown
  go_enter Tryz.func62, Tryz.ntmps62
  go_wp2_with fail
  go_loopw [5] (fun i wr => ∃ k : Nat, k ≤ l.length ∧ i = .int .i64 k ∧ Hid (∀ j (h : j < l.length), j < k → l[j].q.cmp x.q < 0) ∧ Blk wr w.heap.size #[I x.q.node, I x.q.handler, I x.q.count, I x.q.kind, I x.q.index, I x.n] ∧ Below w.heap.size w wr) (fun i _ => l.length - (intOf i).toNat)
  case atStart => exact ⟨0, by omega, rfl, Lib.hid (fun j _ h => by omega), Blk.new _ _ _, (by repeat (first | exact Below.refl _ _ | assumption | refine Below.drew ?_ | refine below_drewN ?_ _ | refine Below.alloc ?_ (by simp <;> omega) _ | refine Below.setCell ?_ (by simp <;> omega) _))⟩
  case round =>
    obtain ⟨k, hk, rfl, HE, hblk, hBw⟩ := hrel
    have hzr := hBw.size
    have hbc := hblk.cell
    by_cases hlt : k < l.length
    · obtain ⟨b, o, e0, hr⟩ := (hfl.kept hBw (Nat.le_refl _)).at (i := k) (x := l[k]) (by simp [hlt])
      simp at e0
      obtain ⟨rfl, rfl⟩ := e0
      have x0 : wr.cell? ⟨g, 0 + k * 6, none⟩ = _ := hr 0 _ rfl
      have x1 := hr 1 _ rfl
      have x2 := hr 2 _ rfl
      have x3 := hr 3 _ rfl
      have x4 := hr 4 _ rfl
      simp only [Nat.zero_add] at x0 x1 x2 x3 x4
      have hgl : g < wr.heap.size := by simpa using World.block_lt_of_cell? _ _ x0
      have Hr := Lib.hid hr
      clear hr
      have q1 : decide ((k : Int) < l.length) = true := by simp; omega
      go_wp2_with fail
      refine wp_region_ordN 15 [(0, true), (1, true), (2, true), (3, true), (4, true), (5, true), (6, true), (7, true), (8, true), (9, true), (10, true), (11, true), (12, false), (13, true), (14, true)] (fun w' => (∀ j, w'.cell? ⟨w.heap.size, j, none⟩ = (#[I x.q.node, I x.q.handler, I x.q.count, I x.q.kind, I x.q.index, I x.n] : Array Value)[j]?) ∧ (∀ o, w'.cell? ⟨g, o, none⟩ = wr.cell? ⟨g, o, none⟩)) (by kernel_rfl) rfl rfl (by kernel_rfl) ⟨hbc, fun _ => rfl⟩ ?_
      iterate 12 (refine wpOrd_take ?_ (by rfl) ?_ ?_; rotate_left; (intro w hSw; (try dsimp only at hSw); go_simp; try with_reducible rfl); (try simp only [Act.put, List.setIfInBounds_toArray, List.set_cons_zero, List.set_cons_succ]))
      refine wpOrd_move (fun K hK => ?_)
      go_simp
      go_at_call 96
      refine (refCmpQ l[k].q x.q _).mono ?_
      rintro e w1 ⟨rfl, hB1d⟩
      have hB1 : Below wr.heap.size wr w1 := ⟨hB1d.os, hB1d.tape, hB1d.output, hB1d.size, hB1d.block⟩
      have hblk1 := hblk.kept hB1 hblk.lt
      refine hK.out _ _ ⟨hblk1.cell, fun o => bcell hB1 g o hgl⟩ ?_
      clear hK K
      (try simp only [Act.put, List.setIfInBounds_toArray, List.set_cons_zero, List.set_cons_succ])
      iterate 2 (refine wpOrd_take ?_ (by rfl) ?_ ?_; rotate_left; (intro w hSw; (try dsimp only at hSw); go_simp; try with_reducible rfl); (try simp only [Act.put, List.setIfInBounds_toArray, List.set_cons_zero, List.set_cons_succ]))
      refine wpOrd_nil ?_
      have hBw1 := Below.then hBw hB1
      by_cases hc : l[k].q.cmp x.q < 0
      · have Hc := Lib.hid hc
        have p1 : decide (l[k].q.cmp x.q < 0) = true := by simp [hc]
        clear hc
        simp only [p1]
        go_wp2_with fail
        refine NoPanic.normal ?_
        go_wp2_with fail
        go_roundw
        case rel => exact ⟨k + 1, by omega, by go_num, Lib.hid (fun j h hj => by
            by_cases e : j = k
            · subst e; exact Hc.out
            · exact HE.out j h (by omega)), hblk1, hBw1⟩
        case measure => simp [intOf]; omega
      · have Hc := Lib.hid hc
        have p1 : decide (l[k].q.cmp x.q < 0) = false := by simp [hc]
        clear hc
        simp only [p1]
        go_wp2_with fail
        refine NoPanic.normal ?_
        go_wp2_with fail
        have y0 := (bcell hB1 g (k * 6) hgl).trans x0
        have y1 := (bcell hB1 g (k * 6 + 1) hgl).trans x1
        have y2 := (bcell hB1 g (k * 6 + 2) hgl).trans x2
        have y3 := (bcell hB1 g (k * 6 + 3) hgl).trans x3
        have y4 := (bcell hB1 g (k * 6 + 4) hgl).trans x4
        have hb1c := hblk1.cell
        clear x0 x1 x2 x3 x4 hbc
        by_cases he : l[k].q = x.q
        · have hq : eqL [l[k].q.node, l[k].q.handler, l[k].q.count, l[k].q.kind, l[k].q.index] [x.q.node, x.q.handler, x.q.count, x.q.kind, x.q.index] = true := eqL_true (Qn.ints_inj.2 he)
          have hp := putA_at l x k hk HE.out (fun _ => by have := Hc.out; omega)
          rw [if_pos ⟨hlt, he⟩] at hp
          have Hp := Lib.hid hp
          clear he hp
          refine wp_region_ordN 8 [(0, true), (1, true), (2, true), (3, true), (4, true), (5, true), (6, true), (7, true)] (fun w' => ∀ a, w'.cell? a = w1.cell? a) (by kernel_rfl) rfl rfl (by kernel_rfl) (fun _ => rfl) ?_
          iterate 8 (refine wpOrd_take ?_ (by rfl) ?_ ?_; rotate_left; (intro w hSw; (try dsimp only at hSw); go_simp; try with_reducible rfl); (try simp only [Act.put, List.setIfInBounds_toArray, List.set_cons_zero, List.set_cons_succ]))
          refine wpOrd_nil ?_
          (try simp only [hq])
          go_wp2_with fail
          refine NoPanic.normal ?_
          go_wp2_with fail
          go_ret
          rw [Hp.out]
          exact ⟨_, rfl, owns_below Hown.out hBw1.drew, hBw1.drew⟩
        · have hq : eqL [l[k].q.node, l[k].q.handler, l[k].q.count, l[k].q.kind, l[k].q.index] [x.q.node, x.q.handler, x.q.count, x.q.kind, x.q.index] = false := eqL_false (fun h => he (Qn.ints_inj.1 h))
          have hp := putA_at l x k hk HE.out (fun _ => by have := Hc.out; omega)
          rw [if_neg (fun ⟨_, h⟩ => he h)] at hp
          have Hp := Lib.hid hp
          clear he hp
          refine wp_region_ordN 8 [(0, true), (1, true), (2, true), (3, true), (4, true), (5, true), (6, true), (7, true)] (fun w' => ∀ a, w'.cell? a = w1.cell? a) (by kernel_rfl) rfl rfl (by kernel_rfl) (fun _ => rfl) ?_
          iterate 8 (refine wpOrd_take ?_ (by rfl) ?_ ?_; rotate_left; (intro w hSw; (try dsimp only at hSw); go_simp; try with_reducible rfl); (try simp only [Act.put, List.setIfInBounds_toArray, List.set_cons_zero, List.set_cons_succ]))
          refine wpOrd_nil ?_
          (try simp only [hq])
          go_wp2_with fail
          refine NoPanic.normal ?_
          have hflD : Flat w1.drew 6 (.slice (some ⟨g, 0, none⟩) l.length c) l.length (l.flatMap ac) := AnsSl.kept hfl hBw1.drew (Nat.le_refl _)
          have hT := flatMap_take ac_length l k ▸ Flat.take (c' := c) hflD hk
          have hD := flatMap_drop ac_length l k ▸ Flat.drop (c' := c - k) hflD hk
          have hblkD := hblk1.drew
          have hBwD := hBw1.drew
          generalize w1.drew = w7 at hT hD hblkD hBwD ⊢
          simp only [Nat.zero_add] at hD
          have hT1 := Lib.hid hT
          have hD1 := Lib.hid hD
          have hz7 := hBwD.size
          clear hflD hT hD
          go_upto_region 9 with (at_builtin; go_must (refine wpList_appG rfl _ _ 30 rfl 78 _ 6 48 Tryz.underlying30 info_Answer rfl (by omega) (by omega) w7.heap.size _ 0 [] rfl (World.ownsRow_nil _ _ _ _) _ rfl k _ hT1.out (ans_one _) (by omega) (Nat.le_refl _) ?_); intro u8 w8 ho8 hgr8 hB8; obtain ⟨k8, c8, rfl, _⟩ := (Flat.of_owns ho8).open)
          have hblk8 := hblkD.kept hB8 hblkD.lt
          have hz8 := hB8.size
          rw [Nat.zero_add, List.nil_append] at ho8
          have Hblk8 := Lib.hid hblk8
          clear hblkD
          go_upto_region 10 with (first | ((with_reducible refine wpList_load75 rfl _ rfl w.heap.size 0 [I x.q.node, I x.q.handler, I x.q.count, I x.q.kind, I x.q.index, I x.n] rfl ?_ ?_ ?_); (rfl); (exact blk_range Hblk8.out 0 _ (fun j v hv => by simpa using hv))) | (at_builtin; go_must (refine wpList_appB rfl _ _ 30 rfl 78 _ 6 48 Tryz.underlying30 info_Answer rfl (by omega) (by omega) w7.heap.size _ k _ rfl (ho8.alloc _) w8.heap.size 1 1 #[I x.q.node, I x.q.handler, I x.q.count, I x.q.kind, I x.q.index, I x.n] 78 rfl (heap_alloc_new _ _) rfl rfl (by omega) (by omega) (by simp; omega) ?_); intro g9 cap9 w9 hg9a hg9b hg9c ho9 hgr9 hB9))
          have hB79 : Below w7.heap.size w7 w9 := (hB8.alloc hz8 _).trans hB9
          have hck : ¬ (c = k) := by omega
          have hz9 := hB79.size
          clear hgr8 hgr9 hg9c hB8 hB9 ho8
          go_wp2_with (at_builtin; go_must (refine wpList_appG rfl _ _ 30 rfl 78 _ 6 48 Tryz.underlying30 info_Answer rfl (by omega) (by omega) w7.heap.size _ (k + 1) _ rfl ho9 _ rfl (l.length - k) _ (Flat.kept hD1.out hB79 (Nat.le_refl _)) (ans_one _) (by omega) hz9 ?_); intro u10 w10 ho10 hgr10 hB10)
          go_ret
          rw [Hp.out]
          exact ⟨_, rfl, put_row hk (owns_weaken ho10 (by omega)), hBwD.trans ((hB79.trans hB10).mono hz7)⟩
    · obtain rfl : k = l.length := by omega
      have q1 : decide ((l.length : Int) < l.length) = false := by simp
      have hp := putA_at l x l.length hk HE.out (fun h => absurd h hlt)
      rw [if_neg (fun ⟨h, _⟩ => hlt h)] at hp
      have Hp := Lib.hid hp
      clear hp
      go_wp2_with fail
      go_quiet (fail)
      go_upto_region 8 with fail
      have hflD : Flat (wr.drewN nq) 6 (.slice (some ⟨g, 0, none⟩) l.length c) l.length (l.flatMap ac) := AnsSl.kept hfl (below_drewN hBw nq) (Nat.le_refl _)
      have hT := flatMap_take ac_length l l.length ▸ Flat.take (c' := c) hflD hk
      have hblkD := hblk.drewN nq
      have hBwD := below_drewN hBw nq
      generalize wr.drewN nq = w7 at hT hblkD hBwD ⊢
      have hT1 := Lib.hid hT
      have hz7 := hBwD.size
      clear hflD hT
      go_upto_region 9 with (at_builtin; go_must (refine wpList_appG rfl _ _ 30 rfl 78 _ 6 48 Tryz.underlying30 info_Answer rfl (by omega) (by omega) w7.heap.size _ 0 [] rfl (World.ownsRow_nil _ _ _ _) _ rfl l.length _ hT1.out (ans_one _) (by omega) (Nat.le_refl _) ?_); intro u8 w8 ho8 hgr8 hB8; obtain ⟨k8, c8, rfl, _⟩ := (Flat.of_owns ho8).open)
      have hblk8 := hblkD.kept hB8 hblkD.lt
      have hz8 := hB8.size
      rw [Nat.zero_add, List.nil_append] at ho8
      have Hblk8 := Lib.hid hblk8
      clear hblkD
      go_upto_region 10 with (first | ((with_reducible refine wpList_load75 rfl _ rfl w.heap.size 0 [I x.q.node, I x.q.handler, I x.q.count, I x.q.kind, I x.q.index, I x.n] rfl ?_ ?_ ?_); (rfl); (exact blk_range Hblk8.out 0 _ (fun j v hv => by simpa using hv))) | (at_builtin; go_must (refine wpList_appB rfl _ _ 30 rfl 78 _ 6 48 Tryz.underlying30 info_Answer rfl (by omega) (by omega) w7.heap.size _ l.length _ rfl (ho8.alloc _) w8.heap.size 1 1 #[I x.q.node, I x.q.handler, I x.q.count, I x.q.kind, I x.q.index, I x.n] 78 rfl (heap_alloc_new _ _) rfl rfl (by omega) (by omega) (by simp; omega) ?_); intro g9 cap9 w9 hg9a hg9b hg9c ho9 hgr9 hB9))
      have hB79 : Below w7.heap.size w7 w9 := (hB8.alloc hz8 _).trans hB9
      have hz9 := hB79.size
      clear hgr8 hgr9 hg9c hB8 hB9 ho8
      go_wp2_with (at_builtin; go_must (refine wpList_appG rfl _ _ 30 rfl 78 _ 6 48 Tryz.underlying30 info_Answer rfl (by omega) (by omega) w7.heap.size _ (l.length + 1) _ rfl ho9 _ rfl 0 [] (Flat.nil _ _ _ _) (by simp) (by omega) hz9 ?_); intro u10 w10 ho10 hgr10 hB10)
      all_goals
        go_ret
        rw [Hp.out]
        exact ⟨_, rfl, put_row hk (owns_weaken (by simpa using ho10) (by omega)), hBwD.trans ((hB79.trans hB10).mono hz7)⟩

set_option maxRecDepth 100000 in
theorem refPut_nil (x : Ans) (B : Nat) (w : World) (hB : B ≤ w.heap.size) :
    Calls Tryz.prog 62 #[.slice none 0 0, .agg #[I x.q.node, I x.q.handler, I x.q.count, I x.q.kind, I x.q.index, I x.n]] w fun e w' => ∃ u, e = .returned u ∧ w'.ownsRow B 78 6 u 1 (ac x) ∧ Below w.heap.size w w' := by
  have hblk0 := Blk.new w #[I x.q.node, I x.q.handler, I x.q.count, I x.q.kind, I x.q.index, I x.n] 78
  go_enter Tryz.func62, Tryz.ntmps62
  go_wp2_with fail
  refine wp_loop_rounds 1 ?_
  rw [rounds_succ]
  go_wp2_with fail
  go_quiet (fail)
  go_upto_region 9 with fail
  have hblk1 := hblk0.drewN nq
  have hB1 : Below w.heap.size w ((w.alloc (.cells #[I x.q.node, I x.q.handler, I x.q.count, I x.q.kind, I x.q.index, I x.n] 78)).drewN nq) := (by repeat (first | exact Below.refl _ _ | assumption | refine Below.drew ?_ | refine below_drewN ?_ _ | refine Below.alloc ?_ (by simp <;> omega) _ | refine Below.setCell ?_ (by simp <;> omega) _))
  generalize (w.alloc (.cells #[I x.q.node, I x.q.handler, I x.q.count, I x.q.kind, I x.q.index, I x.n] 78)).drewN nq = w7 at hblk1 hB1 ⊢
  have Hblk1 := Lib.hid hblk1
  have hz7 := hB1.size
  go_upto_region 10 with (first | ((with_reducible refine wpList_load75 rfl _ rfl w.heap.size 0 [I x.q.node, I x.q.handler, I x.q.count, I x.q.kind, I x.q.index, I x.n] rfl ?_ ?_ ?_); (rfl); (exact blk_range Hblk1.out 0 _ (fun j v hv => by simpa using hv))) | (at_builtin; go_must (refine wpList_appB rfl _ _ 30 rfl 78 _ 6 48 Tryz.underlying30 info_Answer rfl (by omega) (by omega) w7.heap.size _ 0 [] rfl (World.ownsRow_nil _ _ _ _) w7.heap.size 1 1 #[I x.q.node, I x.q.handler, I x.q.count, I x.q.kind, I x.q.index, I x.n] 78 rfl (heap_alloc_new _ _) rfl rfl (by omega) (by omega) (by simp) ?_); intro g9 cap9 w9 hg9a hg9b hg9c ho9 hgr9 hB9))
  have hB79 : Below w7.heap.size w7 w9 := ((Below.refl _ w7).alloc (Nat.le_refl _) _).trans hB9
  have hz9 := hB79.size
  clear hgr9 hg9c hB9
  go_wp2_with (at_builtin; go_must (refine wpList_appG rfl _ _ 30 rfl 78 _ 6 48 Tryz.underlying30 info_Answer rfl (by omega) (by omega) w7.heap.size _ _ _ rfl ho9 _ rfl 0 [] (Flat.nil _ _ _ _) (by simp) (by omega) hz9 ?_); intro u10 w10 ho10 hgr10 hB10)
  go_ret
  exact ⟨_, rfl, owns_weaken (by simpa [ac, Ans.ints, iv] using ho10) (by omega), hB1.trans ((hB79.trans hB10).mono hz7)⟩

theorem refPut (l : List Ans) (x : Ans) (B : Nat) (v : Value) (w : World) (hown : w.ownsRow B 78 6 v l.length (l.flatMap ac)) (hB : B ≤ w.heap.size) (hl : l.length ≤ 1000000) :
    Calls Tryz.prog 62 #[v, .agg #[I x.q.node, I x.q.handler, I x.q.count, I x.q.kind, I x.q.index, I x.n]] w fun e w' => ∃ u, e = .returned u ∧ w'.ownsRow B 78 6 u (putA l x).length ((putA l x).flatMap ac) ∧ Below w.heap.size w w' := by
  have h2 := hown
  obtain ⟨_, ⟨rfl, hn⟩ | ⟨g, cap, cur, rfl, _⟩⟩ := h2
  · have hx : l = [] := List.length_eq_zero_iff.1 hn
    subst hx
    refine (refPut_nil x B w hB).mono ?_
    rintro e w' ⟨u, rfl, h1, h2⟩
    exact ⟨u, rfl, by simpa [putA] using h1, h2⟩
  · exact refPut_some l x B g cap w hown hB hl

end Go.Proofs.YtljmonfobefiiaaGreatDoor

/- The reference: Normal. -/
namespace Go.Proofs.YtljmonfobefiiaaGreatDoor
open Go.RowKit

set_option maxHeartbeats 4000000 in
set_option maxRecDepth 100000 in
theorem refNormalF (evs : List Ev) (l : List Ans) (ve va : Value) (w : World) (he : EvSl w ve evs) (ha : AnsSl w va l) (hle : evs.length ≤ 1000000) (hl : l.length ≤ 1000000) :
    Calls Tryz.prog 27 #[.agg #[ve, va]] w fun e w' => ∃ ue ua, e = .returned (.agg #[ue, ua]) ∧ w'.ownsRow w.heap.size 49 8 ue evs.length (evs.flatMap ec) ∧ w'.ownsRow w.heap.size 78 6 ua (normA l).length ((normA l).flatMap ac) ∧ Below w.heap.size w w' := by
  obtain ⟨ka, ca, rfl, hml⟩ := ha.open
  obtain ⟨ke0, ce0, rfl, _⟩ := he.open
  have hk0 : Kp2 w #[.slice ke0 evs.length ce0, .slice ka l.length ca] #[.slice none 0 0, .slice none 0 0] ((w.alloc (.cells #[.slice ke0 evs.length ce0, .slice ka l.length ca] 32)).alloc (.cells #[.slice none 0 0, .slice none 0 0] 32)) := Kp2.start w _ _ 32
  have hk1 := hk0.alloc (.cells #[.slice none 0 0, .slice none 0 0] 32)
  have hb3 := Blk.new ((w.alloc (.cells #[.slice ke0 evs.length ce0, .slice ka l.length ca] 32)).alloc (.cells #[.slice none 0 0, .slice none 0 0] 32)) #[.slice none 0 0, .slice none 0 0] 32
  simp only [World.size_alloc] at hb3
  have Hevs := Lib.hid (show Flat _ 8 _ _ (evs.flatMap ec) from EvSl.kept he hk1.2.2.1 (Nat.le_refl _))
  have hs0 : (((w.alloc (.cells #[.slice ke0 evs.length ce0, .slice ka l.length ca] 32)).alloc (.cells #[.slice none 0 0, .slice none 0 0] 32)).alloc (.cells #[.slice none 0 0, .slice none 0 0] 32)).heap.size = w.heap.size + 3 := by simp
  go_enter Tryz.func27, Tryz.ntmps27
  go_upto_region 3 with (at_builtin; go_must (refine wpList_appG rfl _ _ 29 rfl 49 _ 8 64 Tryz.underlying29 info_Event rfl (by omega) (by omega) (w.heap.size + 3) _ 0 [] rfl (World.ownsRow_nil _ _ _ _) _ rfl evs.length _ Hevs.out (evs_one evs) (by omega) (Nat.le_of_eq hs0.symm) ?_); intro ue w1 hoe hgr hB1; obtain ⟨ke, ce, rfl, _⟩ := (Flat.of_owns hoe).open; have hb31 := hb3.kept hB1 (by omega); have c30 := hb31.cell 0; have f30 := hb31.frozen 0)
  have kp1 := hk1.call (show Below _ _ w1 from by rw [hs0]; exact hB1)
  rw [Nat.zero_add, List.nil_append] at hoe
  have hz1 := hB1.size
  rw [hs0] at hz1
  have hout1 := hb31.set 0 (.slice ke evs.length ce)
  have hbox1 := kp1.1.setOther ⟨w.heap.size + 1 + 1, 0, none⟩ (.slice ke evs.length ce) (by simp <;> omega)
  have hres1 := kp1.2.1.setOther ⟨w.heap.size + 1 + 1, 0, none⟩ (.slice ke evs.length ce) (by simp <;> omega)
  have hB2 : Below w.heap.size w (w1.setCell ⟨w.heap.size + 1 + 1, 0, none⟩ (.slice ke evs.length ce)) := kp1.2.2.1.setCell (by simp; omega) _
  have hoe2 := hoe.kept (grown_set w1 ⟨w.heap.size + 1 + 1, 0, none⟩ (.slice ke evs.length ce)) (by
        cases hv : (Value.slice ke evs.length ce).ownBlock with
        | none => exact .inl rfl
        | some g => exact .inr (fun e => by have := (hoe.lt g hv).1; simp at e; omega))
  have hs1 : (w1.setCell ⟨w.heap.size + 1 + 1, 0, none⟩ (.slice ke evs.length ce)).heap.size = w1.heap.size := by simp
  generalize w1.setCell ⟨w.heap.size + 1 + 1, 0, none⟩ (.slice ke evs.length ce) = w2 at hout1 hbox1 hres1 hB2 hoe2 hs1 ⊢
  have hout2 : Blk w2 (w.heap.size + 1 + 1) #[.slice ke evs.length ce, .slice none 0 0] := hout1
  have Hoe2 := Lib.hid hoe2
  have Hres2 := Lib.hid hres1
  have Ha := Lib.hid ha
  have Hbox2 := Lib.hid hbox1
  clear hoe hgr hB1 hb31 c30 f30 hout1 hbox1 hres1 hoe2 kp1 hk1 hk0 hb3 Hevs he ha
  go_wp2_with fail
  go_loopw [4] (fun i wr => ∃ (k : Nat) (v : Value), k ≤ l.length ∧ i = .int .i64 k ∧ Hid (wr.ownsRow w2.heap.size 78 6 v (foldA l (l.take k)).length ((foldA l (l.take k)).flatMap ac)) ∧ Blk wr (w.heap.size + 1 + 1) #[.slice ke evs.length ce, v] ∧ Hid (w2.grownBy wr (some (w.heap.size + 1 + 1)))) (fun i _ => l.length - (intOf i).toNat)
  case atStart => exact ⟨0, _, by omega, rfl, Lib.hid (World.ownsRow_nil _ _ _ _), hout2, Lib.hid (World.grownBy.refl _ _)⟩
  case round =>
    obtain ⟨k, v, hk, rfl, Hv, hblk, Hg⟩ := hrel
    have hzr := Hg.out.size
    have hbox : Blk wr w.heap.size #[.slice ke0 evs.length ce0, .slice ka l.length ca] := Hbox2.out.grown Hg.out (by simp <;> omega)
    have hBr : Below w.heap.size w wr := hB2.grown Hg.out (by omega) (fun g hg => by cases hg; omega)
    obtain ⟨kv, cv, rfl, _⟩ := (Flat.of_owns Hv.out).open
    by_cases hlt : k < l.length
    · obtain ⟨b, o, rfl, hr2⟩ := (AnsSl.kept Ha.out hBr (Nat.le_refl _)).at (i := k) (x := l[k]) (by simp [hlt])
      have hbw : b < wr.heap.size := by simpa using World.block_lt_of_cell? _ _ (hr2 0 _ rfl)
      have x0 : wr.cell? ⟨b, o + k * 6, none⟩ = _ := hr2 0 _ rfl
      have x1 := hr2 1 _ rfl
      have x2 := hr2 2 _ rfl
      have x3 := hr2 3 _ rfl
      have x4 := hr2 4 _ rfl
      have x5 := hr2 5 _ rfl
      have hboxc := hbox.cell
      have hfo := foldA_snoc l (l.take k) l[k]
      rw [← List.take_succ_eq_append_getElem hlt] at hfo
      have Hfo := Lib.hid hfo
      clear hr2 hfo
      have hGet := refGet l (.slice ke0 evs.length ce0) (.slice (some ⟨b, o, none⟩) l.length ca) l[k].q wr.drew (AnsSl.kept Ha.out hBr.drew (Nat.le_refl _))
      have HGet := Lib.hid hGet
      clear hGet
      go_upto_region 6 with fail
      refine wp_region_ordN 9 [(0, true), (1, true), (2, true), (3, true), (4, true), (5, true), (6, true), (7, false), (8, true)] (fun w' => (∀ j, w'.cell? ⟨w.heap.size, j, none⟩ = (#[.slice ke0 evs.length ce0, .slice (some ⟨b, o, none⟩) l.length ca] : Array Value)[j]?) ∧ (∀ j, w'.cell? ⟨w.heap.size + 1 + 1, j, none⟩ = (#[.slice ke evs.length ce, .slice kv (foldA l (l.take k)).length cv] : Array Value)[j]?) ∧ (∀ o, w'.cell? ⟨b, o, none⟩ = wr.cell? ⟨b, o, none⟩)) (by kernel_rfl) rfl rfl (by kernel_rfl) ⟨hbox.cell, hblk.cell, fun _ => rfl⟩ ?_
      iterate 7 (refine wpOrd_take ?_ (by rfl) ?_ ?_; rotate_left; (intro w hSw; (try dsimp only at hSw); go_simp; try with_reducible rfl); (try simp only [Act.put, List.setIfInBounds_toArray, List.set_cons_zero, List.set_cons_succ]))
      refine wpOrd_move (fun K hK => ?_)
      go_simp
      go_at_call 61
      refine HGet.out.mono ?_
      rintro e w3 ⟨rfl, hB3d⟩
      have hB3 : Below wr.heap.size wr w3 := ⟨hB3d.os, hB3d.tape, hB3d.output, hB3d.size, hB3d.block⟩
      have hbox3 := hbox.kept hB3 hbox.lt
      have hblk3 := hblk.kept hB3 hblk.lt
      refine hK.out _ _ ⟨hbox3.cell, hblk3.cell, fun o => bcell hB3 b o hbw⟩ ?_
      clear hK K
      (try simp only [Act.put, List.setIfInBounds_toArray, List.set_cons_zero, List.set_cons_succ])
      (refine wpOrd_take ?_ (by rfl) ?_ ?_; rotate_left; (intro w hSw; (try dsimp only at hSw); go_simp; try with_reducible rfl); (try simp only [Act.put, List.setIfInBounds_toArray, List.set_cons_zero, List.set_cons_succ]))
      refine wpOrd_nil ?_
      have y0 := (bcell hB3 b _ hbw).trans x0
      have y1 := (bcell hB3 b _ hbw).trans x1
      have y2 := (bcell hB3 b _ hbw).trans x2
      have y3 := (bcell hB3 b _ hbw).trans x3
      have y4 := (bcell hB3 b _ hbw).trans x4
      have hv3 := owns_below Hv.out hB3
      have hG3 := Hg.out.trans (grown_below hB3 (some (w.heap.size + 1 + 1)))
      have Hv3 := Lib.hid hv3
      have HG3 := Lib.hid hG3
      have hz3 := hB3.size
      obtain ⟨m, hm⟩ : ∃ m, m = getA l l[k].q := ⟨_, rfl⟩
      rw [← hm] at Hfo ⊢
      have Hm := Lib.hid hm
      clear hv3 hG3 x0 x1 x2 x3 x4 x5 hboxc HGet hB3d hm
      by_cases hpos : 0 < m
      · have p1 : decide (m > 0) = true := by simp [hpos]
        have Hpos := Lib.hid hpos
        have hfl : (foldA l (l.take k)).length ≤ 1000000 := Nat.le_trans (foldA_length _ _) (by simp; omega)
        have HPut := Lib.hid (refPut (foldA l (l.take k)) ⟨l[k].q, m⟩ w2.heap.size (.slice kv (foldA l (l.take k)).length cv) w3.drew Hv3.out (by simp; omega) hfl)
        clear hpos
        go_wp2_with fail
        refine NoPanic.normal ?_
        go_upto_region 8 with fail
        refine wp_region_ordN 11 [(0, true), (1, true), (2, true), (3, true), (4, true), (5, true), (6, true), (7, true), (8, true), (9, true), (10, false)] (fun w' => (∀ j, w'.cell? ⟨w.heap.size, j, none⟩ = (#[.slice ke0 evs.length ce0, .slice (some ⟨b, o, none⟩) l.length ca] : Array Value)[j]?) ∧ (∀ j, w'.cell? ⟨w.heap.size + 1 + 1, j, none⟩ = (#[.slice ke evs.length ce, .slice kv (foldA l (l.take k)).length cv] : Array Value)[j]?) ∧ (∀ o, w'.cell? ⟨b, o, none⟩ = w3.cell? ⟨b, o, none⟩)) (by kernel_rfl) rfl rfl (by kernel_rfl) ⟨hbox3.cell, hblk3.cell, fun _ => rfl⟩ ?_
        iterate 10 (refine wpOrd_take ?_ (by rfl) ?_ ?_; rotate_left; (intro w hSw; (try dsimp only at hSw); go_simp; try with_reducible rfl); (try simp only [Act.put, List.setIfInBounds_toArray, List.set_cons_zero, List.set_cons_succ]))
        refine wpOrd_move (fun K hK => ?_)
        go_simp
        go_at_call 62
        refine HPut.out.mono ?_
        rintro e w5 ⟨u, rfl, ho5, hB5d⟩
        obtain ⟨k5, c5, rfl, _⟩ := (Flat.of_owns ho5).open
        have hB5 : Below w3.heap.size w3 w5 := ⟨hB5d.os, hB5d.tape, hB5d.output, hB5d.size, hB5d.block⟩
        have hbox5 := hbox3.kept hB5 hbox3.lt
        have hblk5 := hblk3.kept hB5 hblk3.lt
        refine hK.out _ _ ⟨hbox5.cell, hblk5.cell, fun o => bcell hB5 b o (by omega)⟩ ?_
        clear hK K
        (try simp only [Act.put, List.setIfInBounds_toArray, List.set_cons_zero, List.set_cons_succ])
        refine wpOrd_nil ?_
        have hG5 := (HG3.out.trans (grown_below hB5 (some (w.heap.size + 1 + 1)))).trans (grown_set w5 ⟨w.heap.size + 1 + 1, 1, none⟩ (.slice k5 (putA (foldA l (l.take k)) ⟨l[k].q, m⟩).length c5))
        have hS5 := hblk5.set 1 (.slice k5 (putA (foldA l (l.take k)) ⟨l[k].q, m⟩).length c5)
        have ho5' := ho5.kept (grown_set w5 ⟨w.heap.size + 1 + 1, 1, none⟩ (.slice k5 (putA (foldA l (l.take k)) ⟨l[k].q, m⟩).length c5)) (by
          cases hv : (Value.slice k5 (putA (foldA l (l.take k)) ⟨l[k].q, m⟩).length c5).ownBlock with
          | none => exact .inl rfl
          | some g => exact .inr (fun e => by have := (ho5.lt g hv).1; simp at e; omega))
        have HG5 := Lib.hid hG5
        have HS5 := Lib.hid hS5
        have Ho5 := Lib.hid ho5'
        have c51 := hblk5.cell 1
        have f51 := hblk5.frozen 1
        clear hG5 hS5 ho5' ho5 HPut
        go_wp2_with fail
        refine NoPanic.normal ?_
        go_wp2_with fail
        go_roundw
        case rel => exact ⟨k + 1, _, by omega, by go_num, Lib.hid (by rw [Hfo.out, if_pos Hpos.out]; exact Ho5.out), HS5.out, HG5⟩
        case measure => simp [intOf]; omega
      · have p1 : decide (m > 0) = false := by simp; omega
        have Hpos := Lib.hid hpos
        clear hpos
        go_wp2_with fail
        refine NoPanic.normal ?_
        go_wp2_with fail
        go_roundw
        case rel => exact ⟨k + 1, .slice kv (foldA l (l.take k)).length cv, by omega, by go_num, Lib.hid (by rw [Hfo.out, if_neg (by have := Hpos.out; omega)]; exact Hv3.out), hblk3, HG3⟩
        case measure => simp [intOf]; omega
    · obtain rfl : k = l.length := by omega
      have hres : Blk wr (w.heap.size + 1) #[.slice none 0 0, .slice none 0 0] := Hres2.out.grown Hg.out (by simp <;> omega)
      have hboxc := hbox.cell
      have c0 := hblk.cell 0
      have c1 := hblk.cell 1
      have r0 := hres.cell 0
      have r1 := hres.cell 1
      have fr0 := hres.frozen 0
      have fr1 := hres.frozen 1
      have Hres := Lib.hid hres
      clear hres hblk
      go_wp2_with fail
      have hfin : Blk ((wr.setCell ⟨w.heap.size + 1, 0, none⟩ (.slice ke evs.length ce)).setCell ⟨w.heap.size + 1, 1, none⟩ (.slice kv (foldA l (l.take l.length)).length cv)) (w.heap.size + 1) #[.slice ke evs.length ce, .slice kv (foldA l (l.take l.length)).length cv] := (Hres.out.set 0 _).set 1 _
      have hgs : wr.grownBy ((wr.setCell ⟨w.heap.size + 1, 0, none⟩ (.slice ke evs.length ce)).setCell ⟨w.heap.size + 1, 1, none⟩ (.slice kv (foldA l (l.take l.length)).length cv)) (some (w.heap.size + 1)) := (grown_set wr ⟨w.heap.size + 1, 0, none⟩ _).trans (grown_set _ ⟨w.heap.size + 1, 1, none⟩ _)
      have hua := Hv.out.kept hgs (by
        cases hv : (Value.slice kv (foldA l (l.take l.length)).length cv).ownBlock with
        | none => exact .inl rfl
        | some g => exact .inr (fun e => by have := (Hv.out.lt g hv).1; simp at e; omega))
      have hue := (Hoe2.out.kept Hg.out (by
        cases hv : (Value.slice ke evs.length ce).ownBlock with
        | none => exact .inl rfl
        | some g => exact .inr (fun e => by have := (Hoe2.out.lt g hv).1; simp at e; omega))).kept hgs (by
        cases hv : (Value.slice ke evs.length ce).ownBlock with
        | none => exact .inl rfl
        | some g => exact .inr (fun e => by have := (Hoe2.out.lt g hv).1; simp at e; omega))
      have hB5 : Below w.heap.size w ((wr.setCell ⟨w.heap.size + 1, 0, none⟩ (.slice ke evs.length ce)).setCell ⟨w.heap.size + 1, 1, none⟩ (.slice kv (foldA l (l.take l.length)).length cv)) := hBr.grown hgs (by omega) (fun g hg => by cases hg; omega)
      have hnn : foldA l (l.take l.length) = normA l := by rw [List.take_of_length_le (Nat.le_refl _)]; rfl
      rw [hnn] at hua hfin hgs hue hB5
      rw [show foldA l l = normA l from rfl]
      generalize ((wr.setCell ⟨w.heap.size + 1, 0, none⟩ (.slice ke evs.length ce)).setCell ⟨w.heap.size + 1, 1, none⟩ (.slice kv (normA l).length cv)) = W5 at hfin hgs hua hue hB5 ⊢
      obtain ⟨t5, ht5⟩ := hfin
      have hr : ∀ tmps : Array Value, tmps.getD 2 undef = .pointer (some ⟨w.heap.size + 1, 0, none⟩) → (results Tryz.f27 tmps).run Tryz.prog W5 = .ok (.agg #[.slice ke evs.length ce, .slice kv (normA l).length cv]) W5 := fun tmps hp => results_cell_row Tryz.results27 tmps W5 (w.heap.size + 1) t5 _ (0, 0) _ hp ht5 Tryz.underlying32 rfl (by kernel_rfl)
      refine bodyPost_ret (hr _ rfl) rfl ?_
      exact ⟨_, _, rfl, owns_weaken hue (by omega), owns_weaken hua (by omega), hB5⟩

end Go.Proofs.YtljmonfobefiiaaGreatDoor

/- The reference's Parse. -/
namespace Go.Proofs.YtljmonfobefiiaaGreatDoor
open Go.RowKit

theorem refAsks_len : ∀ (f : Nat) (ok : Bool) (rest : Str) (out : List Ans) (ok2 : Bool) (rest2 : Str) (out2 : List Ans), refAsks f ok rest out = some (ok2, rest2, out2) → out2.length + rest2.length ≤ out.length + rest.length
  | 0, _, _, _, _, _, _, h => by simp [refAsks] at h
  | f + 1, ok, rest, out, ok2, rest2, out2, h => by
    unfold refAsks at h
    split at h
    · rename_i hc
      split at h
      · cases h
      · rename_i hne
        have h1 := refAsks_len f _ _ _ _ _ _ h
        have h2 : 0 < ((rest.drop 2).drop (cutAt [[93]] (rest.drop 2))).length := List.length_pos_iff.2 hne
        simp only [List.length_append, List.length_cons, List.length_nil, List.length_drop] at h1 h2
        omega
    · injection h with h
      injection h with h1 h2
      injection h2 with h2 h3
      subst h1 h2 h3
      exact Nat.le_refl _
theorem refLine_len {i : Nat} {s : Str} {e : Ev} {out : List Ans} (h : refLine i s = some (e, out)) : out.length ≤ s.length := by
  unfold refLine at h
  split at h
  · unfold refRest at h
    split at h
    · cases h
    · rename_i hra
      split at h
      · injection h with h
        injection h with h1 h2
        have := refAsks_len _ _ _ _ _ _ _ hra
        simp only [List.length_nil, List.length_drop] at this
        subst h2
        omega
      · cases h
  · cases h
def refLines : Nat → Nat → Str → Option (List Ev × List Ans)
  | 0, _, _ => none
  | f + 1, i, s =>
    if s = [] then some ([], [])
    else match refLine i (s.take (cutAt [[10]] s)) with
      | none => none
      | some (e, a) => if s.drop (cutAt [[10]] s) = [] then none else match refLines f (i + 1) ((s.drop (cutAt [[10]] s)).drop 1) with
        | none => none
        | some (es, more) => some (e :: es, a ++ more)
def refParse (s : Str) : PRes :=
  if 5000 < s.count 10 then .limit else match refLines (s.length + 1) 0 s with
    | some (e, a) => .ok e a
    | none => .form

theorem refFin {w W : World} {r : PRes} {tmps : Array Value} {k k2 : Option Addr} {c c2 : Nat} (hb : Blk W w.heap.size #[.slice k r.evs.length c, .slice k2 r.ans.length c2]) (hT : TapeIn W k c k2 c2 r.evs r.ans) (hB : Below w.heap.size w W)
    (h2 : tmps.getD 2 undef = .pointer (some ⟨w.heap.size, 0, none⟩)) (h3 : tmps.getD 3 undef = I r.code) :
    bodyPost Tryz.prog Tryz.f10 (ParseP w r) .ret { tmps := tmps, defers := [] } W := by
  have hr := results_c2 Tryz.results10 tmps W w.heap.size _ (loadTp hb rfl) h2
  rw [h3] at hr
  exact bodyPost_ret hr rfl ⟨⟨k, c, k2, c2, rfl, hT⟩, hB⟩
theorem refZero {w W : World} {r : PRes} {tmps : Array Value} (hr : r.evs = [] ∧ r.ans = []) (hb : Blk W w.heap.size #[.slice none 0 0, .slice none 0 0]) (hB : Below w.heap.size w W)
    (h2 : tmps.getD 2 undef = .pointer (some ⟨w.heap.size, 0, none⟩)) (h3 : tmps.getD 3 undef = I r.code) :
    bodyPost Tryz.prog Tryz.f10 (ParseP w r) .ret { tmps := tmps, defers := [] } W :=
  refFin (k := none) (c := 0) (k2 := none) (c2 := 0) (by rw [hr.1, hr.2]; exact hb) (by rw [hr.1, hr.2]; exact ⟨Flat.nil _ _ _ _, Flat.nil _ _ _ _⟩) hB h2 h3

set_option maxHeartbeats 16000000 in
set_option maxRecDepth 100000 in
theorem refParseC (s : Str) (w : World) (hs : s.length ≤ 10000) :
    Calls Tryz.prog 10 #[sv s] w (ParseP w (refParse s)) := by
  have HR := Lib.hid (show refParse s = if 5000 < s.count 10 then .limit else (match refLines (s.length + 1) 0 s with | some (e, a) => .ok e a | none => .form) from rfl)
  obtain ⟨r, hr⟩ : ∃ r, r = refParse s := ⟨_, rfl⟩
  rw [← hr] at HR ⊢
  clear hr
  have HRz := Lib.hid (show ∀ X, X = w.alloc (.cells #[.slice none 0 0, .slice none 0 0] 32) → Blk X w.heap.size #[.slice none 0 0, .slice none 0 0] ∧ Below w.heap.size w X ∧ X.heap.size = w.heap.size + 1 from fun X e => by subst e; exact ⟨Blk.new _ _ _, (Below.refl _ _).alloc (Nat.le_refl _) _, World.size_alloc _ _⟩)
  unfold sv
  go_enter Tryz.func10, Tryz.ntmps10
  go_upto_block 0 with fail
  obtain ⟨W0, hW0⟩ : ∃ W, W = w.alloc (.cells #[.slice none 0 0, .slice none 0 0] 32) := ⟨_, rfl⟩
  obtain ⟨hR0, hB0, hz0⟩ := HRz.out W0 hW0
  rw [← hW0]
  clear hW0 HRz
  have HR0 := Lib.hid hR0
  have HB0 := Lib.hid hB0
  have Hz0 := Lib.hid hz0
  clear hR0 hB0 hz0
  go_cut [4] from 5 (fun v4 wc => v4 = .int .i64 ((s.count 10 : Nat) : Int) ∧ W0 = wc)
  case first =>
    go_wp2_with fail
    go_loop [4, 5] (fun v4 v5 => ∃ i : Nat, v4 = .int .i64 (((s.take i).count 10 : Nat) : Int) ∧ v5 = .int .i64 i ∧ i ≤ s.length) (fun _ v5 => s.length - (intOf v5).toNat)
    case atStart => exact ⟨0, rfl, rfl, by omega⟩
    case round =>
      obtain ⟨i, rfl, rfl, hi⟩ := hrel
      by_cases hlt : i < s.length
      · have hb : (⟨s.toArray⟩ : ByteArray)[i]'(by show i < s.toArray.size; simpa using hlt) = s[i] := rfl
        have hcl : (s.take i).count 10 ≤ 10000 := Nat.le_trans List.count_le_length (by simp; omega)
        have hst : (s.take (i + 1)).count 10 = (s.take i).count 10 + (if s[i] = 10 then 1 else 0) := by
          rw [List.take_succ_eq_append_getElem hlt, List.count_append]
          congr 1
          by_cases h : s[i] = 10
          · simp [h]
          · simp [h]
        have Hst := Lib.hid hst
        clear hst
        generalize (s.take i).count 10 = n at Hst hcl
        obtain ⟨d, hdd⟩ : ∃ d : Int, ((s[i]).toNat : Int) = d := ⟨_, rfl⟩
        by_cases h10 : s[i] = 10
        · have h10d : d = 10 := by rw [← hdd, h10]; rfl
          have HF := Lib.hid (show (s.take (i + 1)).count 10 = n + 1 by rw [Hst.out, if_pos h10])
          subst h10d
          clear Hst h10
          go_wp2_with fail
          go_round
          case rel => exact ⟨i + 1, by rw [HF.out]; go_num, by go_num, by omega⟩
          case measure => simp [intOf]; omega
        · have h10d : ¬ d = 10 := fun h => h10 (by
            have : (s[i]).toNat = 10 := by omega
            exact UInt8.toNat_inj.1 this)
          have hbd : (d == 10) = false := beq_eq_false_iff_ne.2 h10d
          have HF := Lib.hid (show (s.take (i + 1)).count 10 = n by rw [Hst.out, if_neg h10]; rfl)
          clear Hst h10
          go_wp2_with fail
          go_round
          case rel => exact ⟨i + 1, by rw [HF.out], by go_num, by omega⟩
          case measure => simp [intOf]; omega
      · obtain rfl : i = s.length := by omega
        rw [List.take_length]
        go_wp2_with fail
        go_meet
        exact ⟨rfl, rfl⟩
  case rest =>
    obtain ⟨rfl, rfl⟩ := hcut
    by_cases hc : 5000 < s.count 10
    · have hrr := HR.out
      rw [if_pos hc] at hrr
      subst hrr
      have hc' : (5000 : Int) < ((s.count 10 : Nat) : Int) := by omega
      generalize s.count 10 = n at hc hc'
      have z0 := HR0.out.cell 0; have z1 := HR0.out.cell 1
      have f0 := HR0.out.frozen 0; have f1 := HR0.out.frozen 1
      go_wp2_with fail
      have h1 := (HR0.out.set 0 (.slice none 0 0)).set 1 (.slice none 0 0)
      have hg := (grownSet W0 ⟨w.heap.size, 0, none⟩ (.slice none 0 0)).trans (grownSet _ ⟨w.heap.size, 1, none⟩ (.slice none 0 0))
      exact refZero ⟨rfl, rfl⟩ h1 (HB0.out.grown hg HB0.out.size (fun j hj => by have h := Option.some.inj hj; change w.heap.size = j at h; omega)) rfl rfl
    · have hc' : ¬ (5000 : Int) < ((s.count 10 : Nat) : Int) := by omega
      have Hrr := Lib.hid (HR.out.trans (if_neg hc))
      clear HR
      generalize s.count 10 = n at hc hc'
      obtain ⟨T, hT⟩ : ∃ T, T = refLines (s.length + 1) 0 s := ⟨_, rfl⟩
      have HT := Lib.hid hT
      rw [← hT] at Hrr
      clear hT
      have hz0 := Hz0.out
      have Htw := Lib.hid (show Two W0 (W0.alloc (.cells #[.slice none 0 0, .slice none 0 0] 32)) (w.heap.size + 1) (.slice none 0 0) (.slice none 0 0) [] [] by
        refine ⟨?_, World.ownsRow_nil _ _ _ _, World.ownsRow_nil _ _ _ _, fun j hj => by simp [Value.ownBlock] at hj, (Below.refl _ _).alloc (by omega) _⟩
        have := Blk.new W0 #[.slice none 0 0, .slice none 0 0] 32
        rw [hz0] at this
        exact this)
      go_upto_region 10 with fail
      clear hz0
      generalize hX0 : W0.alloc (.cells #[.slice none 0 0, .slice none 0 0] 32) = X0 at Htw ⊢
      clear hX0
      go_wp2_with fail
      go_loopw [0, 7] (fun v0 v7 wr => ∃ (t : Str) (k : Nat) (ke : Option Addr) (ce : Nat) (ka : Option Addr) (ca : Nat) (E : List Ev) (A : List Ans) (f : Nat), v0 = .string ⟨t.toArray⟩ ∧ v7 = .int .i64 k ∧ t.length < f ∧ k + t.length ≤ 10000 ∧ A.length + t.length ≤ 10000 ∧ Hid (E.length = k) ∧ Hid (Two W0 wr (w.heap.size + 1) (.slice ke k ce) (.slice ka A.length ca) E A) ∧ Hid (T = match refLines f k t with | none => none | some (es, more) => some (E ++ es, A ++ more))) (fun v0 _ _ => strLen v0)
      case atStart => exact ⟨s, 0, none, 0, none, 0, [], [], s.length + 1, rfl, rfl, by omega, by omega, by simpa using hs, Lib.hid rfl, Htw, Lib.hid (by rw [HT.out]; cases refLines (s.length + 1) 0 s with | none => rfl | some x => rfl)⟩
      case round =>
        clear HT Htw
        obtain ⟨t, k, ke, ce, ka, ca, E, A, f, rfl, rfl, hf, hkt, hAt, HE, Htw, HT⟩ := hrel
        obtain ⟨f, rfl⟩ : ∃ f', f = f' + 1 := ⟨f - 1, by omega⟩
        have hgt := Htw.out.blk.lt
        have Hz := Hz0.out
        have HRr := Lib.hid (HR0.out.kept Htw.out.below (by omega))
        have HBr := Lib.hid (HB0.out.trans (Htw.out.below.mono (by omega)))
        clear Hz
        by_cases ht : t = []
        · subst ht
          have HF := Lib.hid (show T = some (E, A) by rw [HT.out]; simp [refLines])
          have Hrk := Lib.hid (show r = .ok E A by rw [Hrr.out, HF.out])
          have hE := HE.out
          subst hE
          have hTIn : EvSl wr (.slice ke E.length ce) E ∧ AnsSl wr (.slice ka A.length ca) A := ⟨Flat.of_owns Htw.out.oe, Flat.of_owns Htw.out.oa⟩
          have Hnf := Lib.hid (refNormalF E A (.slice ke E.length ce) (.slice ka A.length ca) wr hTIn.1 hTIn.2 (by omega) (by omega))
          have t0 : wr.cell? ⟨w.heap.size + 1, 0, none⟩ = some (.slice ke E.length ce) := Htw.out.blk.cell 0
          have t1 : wr.cell? ⟨w.heap.size + 1, 1, none⟩ = some (.slice ka A.length ca) := Htw.out.blk.cell 1
          clear hTIn Htw Hrr HT
          go_wp2_with (go_at_call 27; refine Hnf.out.mono ?_; rintro e w2 ⟨ue, ua, rfl, oe, oa, hb2⟩; obtain ⟨kx, cx, kx2, cx2, rfl, rfl, hT⟩ := TapeIn.of oe oa; have h2 := HRr.out.kept hb2 HRr.out.lt; have z0 := h2.cell 0; have z1 := h2.cell 1; have f0 := h2.frozen 0; have f1 := h2.frozen 1)
          have hg := (grownSet w2 ⟨w.heap.size, 0, none⟩ (.slice kx E.length cx)).trans (grownSet _ ⟨w.heap.size, 1, none⟩ (.slice kx2 (normA A).length cx2))
          have hbl := (h2.set 0 (.slice kx E.length cx)).set 1 (.slice kx2 (normA A).length cx2)
          have hr := Hrk.out
          subst hr
          have hBf : Below w.heap.size w w2 := HBr.out.trans (hb2.mono HBr.out.size)
          have hlw : w.heap.size < wr.heap.size := by omega
          have oe1 := Flat.of_owns (owns_step oe hg hlw)
          have oa1 := Flat.of_owns (owns_step oa hg hlw)
          exact refFin (r := .ok E A) hbl ⟨oe1, oa1⟩ (hBf.grown hg hBf.size (fun j hj => by have h := Option.some.inj hj; change w.heap.size = j at h; omega)) rfl rfl
        · have hemp : List.isEmpty t = false := by cases t with | nil => exact absurd rfl ht | cons a b => rfl
          have Hst := Lib.hid (show T = match (match refLine k (t.take (cutAt [[10]] t)) with
            | none => none
            | some (e, a) => if t.drop (cutAt [[10]] t) = [] then none else match refLines f (k + 1) ((t.drop (cutAt [[10]] t)).drop 1) with
              | none => none
              | some (es, more) => some (e :: es, a ++ more)) with
            | none => none
            | some (es, more) => some (E ++ es, A ++ more) by
            rw [HT.out]
            conv => lhs; unfold refLines
            rw [if_neg ht])
          clear HT ht
          have Hbf := Lib.hid (fun g V h => beforeC t [[10]] g V h (by simp) (by omega) (by simp))
          have hol : (t.take (cutAt [[10]] t)).length ≤ 10000 := by simp; omega
          have hrl : (t.drop (cutAt [[10]] t)).length + (t.take (cutAt [[10]] t)).length = t.length := by
            rw [Nat.add_comm, ← List.length_append, List.take_append_drop]
          generalize t.take (cutAt [[10]] t) = one at Hst Hbf hol hrl
          generalize t.drop (cutAt [[10]] t) = rest at Hst Hbf hrl
          have Hlc := Lib.hid (fun V => refLineC k one V (by omega) (by omega))
          have Hlen := Lib.hid (fun e out (h : refLine k one = some (e, out)) => refLine_len h)
          have HkI := Lib.hid (show k ≤ 10000 by omega)
          unfold sv at Hbf Hlc
          cases hlr : refLine k one with
          | none =>
            rw [hlr] at Hst Hlc
            have HF := Lib.hid (show r = .form by rw [Hrr.out, Hst.out])
            clear hlr Hst Hlen
            unfold LineRes at Hlc
            dsimp only at Hlc
            go_upto_region 14 with (go_at_call 25; refine (Hbf.out _ _ (heap_alloc_new _ _)).mono ?_; rintro e w1 ⟨rfl, D1⟩)
            have hBW1 : Below wr.heap.size wr w1 := ((Below.refl _ _).alloc (Nat.le_refl _) _).trans (D1.mono (by rw [World.size_alloc]; omega))
            have HR1 := Lib.hid (HRr.out.kept hBW1 HRr.out.lt)
            have HB1 := Lib.hid (HBr.out.trans (hBW1.mono HBr.out.size))
            clear D1 hBW1 HRr HBr Htw
            go_upto_region 15 with (go_at_call 26; refine (Hlc.out w1).mono ?_; rintro e w2 ⟨⟨ev, a0, n0, c0, rfl⟩, D2⟩; unfold eva)
            have hR2 := (HR1.out.kept D2 HR1.out.lt).alloc (.cells #[I ev.kind, I ev.node, I ev.arg, I ev.msg.node, I ev.msg.handler, I ev.msg.count, I ev.msg.index, I ev.msg.copy] 49)
            have hB2 := (HB1.out.trans (D2.mono HB1.out.size)).alloc (by have := HB1.out.size; have := D2.size; omega) (.cells #[I ev.kind, I ev.node, I ev.arg, I ev.msg.node, I ev.msg.handler, I ev.msg.count, I ev.msg.index, I ev.msg.copy] 49)
            generalize w2.alloc (.cells #[I ev.kind, I ev.node, I ev.arg, I ev.msg.node, I ev.msg.handler, I ev.msg.count, I ev.msg.index, I ev.msg.copy] 49) = V at hR2 hB2 ⊢
            clear HR1 HB1 D2
            have z0 := hR2.cell 0; have z1 := hR2.cell 1
            have f0 := hR2.frozen 0; have f1 := hR2.frozen 1
            have HR2 := Lib.hid hR2
            have HB2 := Lib.hid hB2
            clear hR2 hB2
            go_wp2_with fail
            have h1 := (HR2.out.set 0 (.slice none 0 0)).set 1 (.slice none 0 0)
            have hg := (grownSet V ⟨w.heap.size, 0, none⟩ (.slice none 0 0)).trans (grownSet _ ⟨w.heap.size, 1, none⟩ (.slice none 0 0))
            have hfr := HF.out
            subst hfr
            exact refZero ⟨rfl, rfl⟩ h1 (HB2.out.grown hg HB2.out.size (fun j hj => by have h := Option.some.inj hj; change w.heap.size = j at h; omega)) rfl rfl
          | some p =>
            obtain ⟨ev, out⟩ := p
            have houtl := Hlen.out ev out hlr
            rw [hlr] at Hst Hlc
            clear hlr Hlen
            unfold LineRes at Hlc
            dsimp only at Hlc Hst
            go_upto_region 14 with (go_at_call 25; refine (Hbf.out _ _ (heap_alloc_new _ _)).mono ?_; rintro e w1 ⟨rfl, D1⟩)
            have hBW1 : Below wr.heap.size wr w1 := ((Below.refl _ _).alloc (Nat.le_refl _) _).trans (D1.mono (by rw [World.size_alloc]; omega))
            have HR1 := Lib.hid (HRr.out.kept hBW1 HRr.out.lt)
            have HB1 := Lib.hid (HBr.out.trans (hBW1.mono HBr.out.size))
            have HT1 := Lib.hid (Htw.out.later hBW1)
            have hw1z := hBW1.size
            have hoe1 := Lib.hid (fun j hj => (Htw.out.oe.lt j hj).2)
            clear D1 hBW1 HRr HBr Htw
            go_upto_region 15 with (go_at_call 26; refine (Hlc.out w1).mono ?_; rintro e w2 ⟨⟨qa, qc, rfl, hsl, hfr⟩, D2⟩; unfold eva)
            have hTw1 := (HT1.out.later D2).later ((Below.refl w2.heap.size w2).alloc (Nat.le_refl _) (.cells #[I ev.kind, I ev.node, I ev.arg, I ev.msg.node, I ev.msg.handler, I ev.msg.count, I ev.msg.index, I ev.msg.copy] 49))
            have hsl1 : AnsSl (w2.alloc (.cells #[I ev.kind, I ev.node, I ev.arg, I ev.msg.node, I ev.msg.handler, I ev.msg.count, I ev.msg.index, I ev.msg.copy] 49)) (.slice qa out.length qc) out := hsl.kept ((Below.refl _ _).alloc (Nat.le_refl _) _) (Nat.le_refl _)
            have hR1 : Blk (w2.alloc (.cells #[I ev.kind, I ev.node, I ev.arg, I ev.msg.node, I ev.msg.handler, I ev.msg.count, I ev.msg.index, I ev.msg.copy] 49)) w.heap.size #[.slice none 0 0, .slice none 0 0] := (HR1.out.kept D2 HR1.out.lt).alloc _
            have hB1 : Below w.heap.size w (w2.alloc (.cells #[I ev.kind, I ev.node, I ev.arg, I ev.msg.node, I ev.msg.handler, I ev.msg.count, I ev.msg.index, I ev.msg.copy] 49)) := (HB1.out.trans (D2.mono HB1.out.size)).alloc (by have := HB1.out.size; have := D2.size; omega) _
            have hev1 : Blk (w2.alloc (.cells #[I ev.kind, I ev.node, I ev.arg, I ev.msg.node, I ev.msg.handler, I ev.msg.count, I ev.msg.index, I ev.msg.copy] 49)) w2.heap.size #[I ev.kind, I ev.node, I ev.arg, I ev.msg.node, I ev.msg.handler, I ev.msg.count, I ev.msg.index, I ev.msg.copy] := Blk.new _ _ _
            have hzV : (w2.alloc (.cells #[I ev.kind, I ev.node, I ev.arg, I ev.msg.node, I ev.msg.handler, I ev.msg.count, I ev.msg.index, I ev.msg.copy] 49)).heap.size = w2.heap.size + 1 := World.size_alloc _ _
            have hw2z := D2.size
            obtain ⟨V, hV⟩ : ∃ V, V = w2.alloc (.cells #[I ev.kind, I ev.node, I ev.arg, I ev.msg.node, I ev.msg.handler, I ev.msg.count, I ev.msg.index, I ev.msg.copy] 49) := ⟨_, rfl⟩
            rw [← hV] at hTw1 hsl1 hR1 hB1 hev1 hzV ⊢
            have Hzv := Lib.hid hzV
            have HTw1 := Lib.hid hTw1
            have Hsl1 := Lib.hid hsl1
            have HR2 := Lib.hid hR1
            have HB2 := Lib.hid hB1
            have Hev1 := Lib.hid hev1
            clear hV hsl D2 hTw1 hsl1 hR1 hB1 hev1 hzV HR1 HB1 HT1
            cases rest with
            | nil =>
              have HF := Lib.hid (show r = .form by rw [Hrr.out, Hst.out]; simp)
              clear Hst Hrr
              have z0 := HR2.out.cell 0; have z1 := HR2.out.cell 1
              have f0 := HR2.out.frozen 0; have f1 := HR2.out.frozen 1
              go_wp2_with fail
              have h1 := (HR2.out.set 0 (.slice none 0 0)).set 1 (.slice none 0 0)
              have hg := (grownSet V ⟨w.heap.size, 0, none⟩ (.slice none 0 0)).trans (grownSet _ ⟨w.heap.size, 1, none⟩ (.slice none 0 0))
              have hfr := HF.out
              subst hfr
              exact refZero ⟨rfl, rfl⟩ h1 (HB2.out.grown hg HB2.out.size (fun j hj => by have h := Option.some.inj hj; change w.heap.size = j at h; omega)) rfl rfl
            | cons c rest' =>
              have HL3 := Lib.hid (show T = match refLines f (k + 1) rest' with | none => none | some (es, more) => some ((E ++ [ev]) ++ es, (A ++ out) ++ more) by
                rw [Hst.out]
                simp only [reduceCtorEq, if_false, List.drop_succ_cons, List.drop_zero]
                cases refLines f (k + 1) rest' with
                | none => rfl
                | some x => simp)
              have hexr : (⟨(c :: rest').toArray⟩ : ByteArray).extract 1 (rest'.length + 1) = ⟨rest'.toArray⟩ := ext_drop (c :: rest') 1
              have hrl2 : rest'.length + 1 + one.length = t.length := by simpa using hrl
              have Hrl2 := Lib.hid hrl2
              clear hrl hrl2 Hst
              have t0 : V.cell? ⟨w.heap.size + 1, 0, none⟩ = some (.slice ke k ce) := HTw1.out.blk.cell 0
              have m0 := Hev1.out.cell 0; have m1 := Hev1.out.cell 1; have m2 := Hev1.out.cell 2; have m3 := Hev1.out.cell 3; have m4 := Hev1.out.cell 4; have m5 := Hev1.out.cell 5; have m6 := Hev1.out.cell 6; have m7 := Hev1.out.cell 7
              have hk4 : k ≤ 10000 := HkI.out
              go_upto_region 18 with (at_builtin; go_must (refine wpList_appB rfl _ _ 29 rfl 49 _ 8 64 Tryz.underlying29 info_Event rfl (by omega) (by omega) (w.heap.size + 1 + 1) (.slice ke k ce) k (E.flatMap ec) rfl (by have h := HTw1.out.oe; rw [HE.out] at h; exact h.alloc _) V.heap.size 1 1 #[I ev.kind, I ev.node, I ev.arg, I ev.msg.node, I ev.msg.handler, I ev.msg.count, I ev.msg.index, I ev.msg.copy] 49 rfl (heap_alloc_new _ _) rfl rfl (by omega) (by omega) (by rw [World.size_alloc]; have := Hzv.out; omega) ?_); intro g6 cap6 w6 hg1 hg2 hg3 ho6 hgr6 hB6; have hb6 := (HTw1.out.later ((Below.refl _ _).alloc (Nat.le_refl _) (.cells #[I ev.kind, I ev.node, I ev.arg, I ev.msg.node, I ev.msg.handler, I ev.msg.count, I ev.msg.index, I ev.msg.copy] 49))).blk.grown hgr6 (fun e => by have := (HTw1.out.oe.lt _ e).1; omega); have x0 := hb6.cell 0; have y0 := hb6.frozen 0)
              have HTwA := HTw1.out.later ((Below.refl _ _).alloc (Nat.le_refl _) (.cells #[I ev.kind, I ev.node, I ev.arg, I ev.msg.node, I ev.msg.handler, I ev.msg.count, I ev.msg.index, I ev.msg.copy] 49))
              have hTwY := HTwA.appE ev hg3 (by simpa [ec, iv, Ev.ints] using ho6) HE.out.symm hgr6
              have hVA : (V.alloc (.cells #[I ev.kind, I ev.node, I ev.arg, I ev.msg.node, I ev.msg.handler, I ev.msg.count, I ev.msg.index, I ev.msg.copy] 49)).heap.size = V.heap.size + 1 := World.size_alloc _ _
              have hslA := Hsl1.out.kept ((Below.refl V.heap.size V).alloc (Nat.le_refl _) (.cells #[I ev.kind, I ev.node, I ev.arg, I ev.msg.node, I ev.msg.handler, I ev.msg.count, I ev.msg.index, I ev.msg.copy] 49)) (Nat.le_refl _)
              have hsl6 : AnsSl w6 (.slice qa out.length qc) out := Flat.grownO hslA hgr6 (fun x hx hrow => by
                have h1 := hfr x hx
                have h2 := hoe1.out _ hrow
                omega)
              have hslY : AnsSl (w6.setCell ⟨w.heap.size + 1, 0, none⟩ (.slice (some ⟨g6, 0, none⟩) (k + 1) cap6)) (.slice qa out.length qc) out := Flat.grownO hsl6 (grownSet w6 ⟨w.heap.size + 1, 0, none⟩ (.slice (some ⟨g6, 0, none⟩) (k + 1) cap6)) (fun x hx hrow => by
                have h1 := hfr x hx
                have h2 := Option.some.inj hrow
                change w.heap.size + 1 = x.block at h2
                omega)
              have h6z := hgr6.size
              have hYz : (w6.setCell ⟨w.heap.size + 1, 0, none⟩ (.slice (some ⟨g6, 0, none⟩) (k + 1) cap6)).heap.size = w6.heap.size := by simp
              obtain ⟨Y, hY⟩ : ∃ Y, Y = w6.setCell ⟨w.heap.size + 1, 0, none⟩ (.slice (some ⟨g6, 0, none⟩) (k + 1) cap6) := ⟨_, rfl⟩
              rw [← hY] at hTwY hslY hYz ⊢
              have hYs : w.heap.size + 1 + 1 ≤ Y.heap.size := by have := Hzv.out; omega
              have HTwY := Lib.hid hTwY
              have HslY := Lib.hid hslY
              clear hY hTwY hslY hYz hsl6 hslA HTwA hVA h6z ho6 hgr6 hB6 hb6 x0 y0 t0 m0 m1 m2 m3 m4 m5 m6 m7 hg3
              have t1 : Y.cell? ⟨w.heap.size + 1, 1, none⟩ = some (.slice ka A.length ca) := HTwY.out.blk.cell 1
              have hlaA : A.length + out.length ≤ 10000 := by have := Hrl2.out; omega
              go_wp2_with (at_builtin; go_must (refine wpList_appG rfl _ _ 30 rfl 78 _ 6 48 Tryz.underlying30 info_Answer rfl (by omega) (by omega) (w.heap.size + 1 + 1) (.slice ka A.length ca) A.length (A.flatMap ac) rfl HTwY.out.oa (.slice qa out.length qc) rfl out.length (out.flatMap ac) HslY.out (by intro u hu; obtain ⟨x, _, hx⟩ := List.mem_flatMap.1 hu; simp [ac, iv, Ans.ints] at hx; rcases hx with rfl | rfl | rfl | rfl | rfl | rfl <;> rfl) (by omega) hYs ?_); intro u w7 ho7 hgr7 hB7; have hb7 := HTwY.out.blk.grown hgr7 (fun e => by have := (HTwY.out.oa.lt _ e).1; omega); have x1 := hb7.cell 1; have y1 := hb7.frozen 1; obtain ⟨ub, uc, rfl, _⟩ := (Flat.of_owns ho7).open)
              go_roundw
              case rel =>
                refine ⟨rest', k + 1, some ⟨g6, 0, none⟩, cap6, ub, uc, E ++ [ev], A ++ out, f, rfl, by go_num, by have := Hrl2.out; omega, by have := Hrl2.out; omega, ?_, Lib.hid (by simp [HE.out]), ?_, HL3⟩
                · have := Hrl2.out
                  rw [List.length_append]; omega
                · rw [List.length_append]
                  exact Lib.hid (HTwY.out.appAs ho7 rfl rfl hgr7)
              case measure => have := Hrl2.out; show rest'.length < t.length; omega

end Go.Proofs.YtljmonfobefiiaaGreatDoor

/- Plain laws: cutting and splitting; the lines. -/
namespace Go.Proofs.YtljmonfobefiiaaGreatDoor
open Go.RowKit

theorem pre_app (c : UInt8) (b : Str) : ∀ (p a : Str), c ∉ p → p.isPrefixOf (a ++ c :: b) = p.isPrefixOf a
  | [], _, _ => by simp [List.isPrefixOf]
  | q :: p, [], h => by
    have h1 : (q == c) = false := beq_eq_false_iff_ne.2 (fun e => h (by rw [e]; simp))
    simp [List.isPrefixOf, h1]
  | q :: p, x :: a, h => by
    have ih := pre_app c b p a (fun e => h (List.mem_cons_of_mem _ e))
    simp only [List.cons_append, List.isPrefixOf, ih]
theorem occ_app {c : UInt8} {p : Str} (hc : c ∉ p) (a b : Str) {j : Nat} (hj : j ≤ a.length) : Lib.occAt (a ++ c :: b) p j = Lib.occAt a p j := by
  unfold Lib.occAt
  rw [List.drop_append_of_le_length hj]
  exact pre_app c b p _ hc
theorem index_app {c : UInt8} {p : Str} (hc : c ∉ p) (_hp : p ≠ []) (a b : Str) :
    (∃ i : Nat, Lib.index a p = i ∧ Lib.index (a ++ c :: b) p = i ∧ i + p.length ≤ a.length) ∨ (Lib.index a p = -1 ∧ (Lib.index (a ++ c :: b) p = -1 ∨ ∃ i : Nat, Lib.index (a ++ c :: b) p = i ∧ a.length < i)) := by
  rcases Lib.index_spec a p with ⟨h1, h2⟩ | ⟨i, h1, h2, h3, h4⟩
  · refine .inr ⟨h1, ?_⟩
    rcases Lib.index_spec (a ++ c :: b) p with ⟨g1, _⟩ | ⟨i, g1, g2, g3, g4⟩
    · exact .inl g1
    · refine .inr ⟨i, g1, ?_⟩
      by_cases hi : i ≤ a.length
      · rw [occ_app hc a b hi, h2 i hi] at g3
        cases g3
      · omega
  · have hr := Lib.index_room a p (by rw [h1]; omega)
    rw [h1] at hr
    refine .inl ⟨i, h1, Lib.index_hit (fun j hj => ?_) (by simp; omega) (by rw [occ_app hc a b h2]; exact h3), by omega⟩
    rw [occ_app hc a b (by omega)]
    exact h4 j hj
theorem index_mem {c : UInt8} {a : Str} (h : c ∉ a) (b : Str) : Lib.index (a ++ c :: b) [c] = a.length := by
  induction a with
  | nil => exact index_cons_eq c b
  | cons x a ih =>
    rw [List.cons_append, index_cons_ne x c _ (fun e => h (by rw [e]; simp)), ih (fun e => h (List.mem_cons_of_mem _ e))]
    have : ((a.length : Int) == -1) = false := beq_eq_false_iff_ne.2 (by omega)
    rw [this]
    simp
theorem index_notin {c : UInt8} {a : Str} (h : c ∉ a) : Lib.index a [c] = -1 := by
  induction a with
  | nil => rfl
  | cons x a ih =>
    rw [index_cons_ne x c _ (fun e => h (by rw [e]; simp)), ih (fun e => h (List.mem_cons_of_mem _ e))]
    rfl
theorem cut1_eq (p s : Str) : cutAt [p] s = if 0 ≤ Lib.index s p then min s.length (Lib.index s p).toNat else s.length := rfl
theorem cut2_eq (p q s : Str) : cutAt [p, q] s = if 0 ≤ Lib.index s q then min (cutAt [p] s) (Lib.index s q).toNat else cutAt [p] s := rfl
theorem cut1_mem {c : UInt8} {a : Str} (h : c ∉ a) (b : Str) : cutAt [[c]] (a ++ c :: b) = a.length := by
  rw [cut1_eq, index_mem h, if_pos (by omega)]
  simp
theorem cut1_notin {c : UInt8} {a : Str} (h : c ∉ a) : cutAt [[c]] a = a.length := by
  rw [cut1_eq, index_notin h, if_neg (by omega)]
/-- A separator that does not hold the byte c, ahead of the first c. -/
theorem cut_app {c : UInt8} {p : Str} (hc : c ∉ p) (hp : p ≠ []) {a : Str} (ha : c ∉ a) (b : Str) : cutAt [p, [c]] (a ++ c :: b) = cutAt [p] a := by
  rw [cut2_eq, index_mem ha, if_pos (by omega), cut1_eq, cut1_eq]
  have hl : (a ++ c :: b).length = a.length + 1 + b.length := by simp; omega
  rcases index_app hc hp a b with ⟨i, h1, h2, h3⟩ | ⟨h1, h2 | ⟨i, h2, h3⟩⟩
  · rw [h1, h2, if_pos (by omega), if_pos (by omega), hl]
    simp
    omega
  · rw [h1, h2, if_neg (by omega), if_neg (by omega), hl]
    simp
    omega
  · rw [h1, h2, if_pos (by omega), if_neg (by omega), hl]
    simp
    omega
theorem mem_split (c : UInt8) (s : Str) : c ∉ s ∨ ∃ a b, s = a ++ c :: b ∧ c ∉ a := by
  induction s with
  | nil => exact .inl (by simp)
  | cons x s ih =>
    by_cases hx : x = c
    · subst hx; exact .inr ⟨[], s, rfl, by simp⟩
    · rcases ih with h | ⟨a, b, rfl, h⟩
      · exact .inl (by simp only [List.mem_cons, not_or]; exact ⟨fun e => hx e.symm, h⟩)
      · exact .inr ⟨x :: a, b, rfl, by simp only [List.mem_cons, not_or]; exact ⟨fun e => hx e.symm, h⟩⟩
theorem splitC_notin {c : UInt8} {a : Str} (h : c ∉ a) : splitC c a = [a] := by
  induction a with
  | nil => rfl
  | cons x a ih =>
    unfold splitC
    rw [if_neg (fun e => h (by rw [e]; simp)), ih (fun e => h (List.mem_cons_of_mem _ e))]
theorem splitC_app {c : UInt8} {a : Str} (h : c ∉ a) (b : Str) : splitC c (a ++ c :: b) = a :: splitC c b := by
  induction a with
  | nil => simp [splitC]
  | cons x a ih =>
    rw [List.cons_append]
    conv => lhs; unfold splitC
    rw [if_neg (fun e => h (by rw [e]; simp)), ih (fun e => h (List.mem_cons_of_mem _ e))]

/-- The lines, if each line is read alike. -/
theorem refLines_eq (hline : ∀ i s, refLine i s = line i s) : ∀ (f i : Nat) (s : Str), s.length < f → refLines f i s = if s = [] then some ([], []) else if s.getLast? = some 10 then lines i (splitC 10 s.dropLast) else none
  | 0, _, _, h => by omega
  | f + 1, i, s, hf => by
    unfold refLines
    by_cases h0 : s = []
    · rw [if_pos h0, if_pos h0]
    · rw [if_neg h0, if_neg h0]
      rcases mem_split 10 s with h | ⟨a, b, rfl, h⟩
      · rw [cut1_notin h, List.drop_length, List.take_length]
        have hl : s.getLast? ≠ some 10 := fun e => h (List.mem_of_getLast? e)
        rw [if_neg hl]
        cases refLine i s with
        | none => rfl
        | some p => simp
      · rw [cut1_mem h, List.take_left, List.drop_left, hline]
        simp only [reduceCtorEq, if_false, List.drop_succ_cons, List.drop_zero]
        have hb := refLines_eq hline f (i + 1) b (by simp at hf; omega)
        rw [hb]
        by_cases hb0 : b = []
        · subst hb0
          have h1 : (a ++ [10]).getLast? = some 10 := by simp
          have h2 : (a ++ [10]).dropLast = a := by simp
          rw [h1, h2, if_pos rfl, if_pos rfl, splitC_notin h]
          rfl
        · rw [if_neg hb0]
          have h1 : (a ++ 10 :: b).getLast? = b.getLast? := by
            rw [List.getLast?_append, List.getLast?_cons]
            cases hq : b.getLast? with
            | none => exact absurd (List.getLast?_eq_none_iff.1 hq) hb0
            | some q => simp
          have h2 : (a ++ 10 :: b).dropLast = a ++ 10 :: b.dropLast := by
            rw [List.dropLast_append_of_ne_nil (by simp), List.dropLast_cons_of_ne_nil hb0]
          rw [h1, h2, splitC_app h]
          by_cases hl : b.getLast? = some 10
          · rw [if_pos hl, if_pos hl]
            rfl
          · rw [if_neg hl, if_neg hl]
            cases line i a with
            | none => rfl
            | some p => rfl
theorem refParse_eq (hline : ∀ i s, refLine i s = line i s) (s : Str) : refParse s = story s := by
  unfold refParse story
  rw [refLines_eq hline _ _ _ (Nat.lt_succ_self _)]
  by_cases h0 : 5000 < s.count 10
  · rw [if_pos h0, if_pos h0]
  · rw [if_neg h0, if_neg h0]
    by_cases h1 : s = []
    · rw [if_pos h1, if_pos h1]
    · rw [if_neg h1, if_neg h1]
      by_cases h2 : s.getLast? = some 10
      · rw [if_pos h2, if_pos h2]
        cases lines 0 (splitC 10 s.dropLast) with
        | none => rfl
        | some p => rfl
      · rw [if_neg h2, if_neg h2]

end Go.Proofs.YtljmonfobefiiaaGreatDoor

/- Plain laws: joined pieces, numbers between dots, kinds. -/
namespace Go.Proofs.YtljmonfobefiiaaGreatDoor
open Go.RowKit

def joinC (c : UInt8) : List Str → Str
  | [] => []
  | [a] => a
  | a :: b :: l => a ++ c :: joinC c (b :: l)
theorem joinC_cons (c : UInt8) (a : Str) {l : List Str} (h : l ≠ []) : joinC c (a :: l) = a ++ c :: joinC c l := by
  cases l with
  | nil => exact absurd rfl h
  | cons b l => rfl
theorem splitC_some (c : UInt8) (s : Str) : splitC c s ≠ [] := by
  rcases mem_split c s with h | ⟨a, b, rfl, h⟩
  · rw [splitC_notin h]; simp
  · rw [splitC_app h]; simp
theorem joinC_splitC (c : UInt8) : ∀ (f : Nat) (s : Str), s.length < f → joinC c (splitC c s) = s
  | 0, _, h => by omega
  | f + 1, s, hf => by
    rcases mem_split c s with h | ⟨a, b, rfl, h⟩
    · rw [splitC_notin h]; rfl
    · rw [splitC_app h, joinC_cons c a (splitC_some c b), joinC_splitC c f b (by simp at hf; omega)]
theorem join_split (c : UInt8) (s : Str) : joinC c (splitC c s) = s := joinC_splitC c _ s (Nat.lt_succ_self _)
theorem split_join (c : UInt8) : ∀ (l : List Str), l ≠ [] → (∀ a ∈ l, c ∉ a) → splitC c (joinC c l) = l
  | [], h, _ => absurd rfl h
  | [a], _, h => splitC_notin (h a (by simp))
  | a :: b :: l, _, h => by
    show splitC c (a ++ c :: joinC c (b :: l)) = _
    rw [splitC_app (h a (by simp)), split_join c (b :: l) (by simp) (fun x hx => h x (List.mem_cons_of_mem _ hx))]
theorem dec_notin (n : Nat) {c : UInt8} (h : c.toNat < 48) : c ∉ Lib.decDigits n := fun hc => by
  have := digits_are n c hc
  omega
theorem mapM_num : ∀ (ws : List Str) (l : List Nat), ws.mapM num = some l ↔ ws = l.map Lib.decDigits ∧ ∀ n ∈ l, n ≤ 2147483647
  | [], l => by
    simp only [List.mapM_nil]
    constructor
    · intro h
      injection h with h
      subst h
      simp
    · rintro ⟨h, _⟩
      have := List.map_eq_nil_iff.1 h.symm
      subst this
      rfl
  | w :: ws, l => by
    rw [List.mapM_cons]
    constructor
    · intro h
      cases hn : num w with
      | none => rw [hn] at h; cases h
      | some n =>
        rw [hn] at h
        cases hm : ws.mapM num with
        | none => rw [hm] at h; cases h
        | some ns =>
          rw [hm] at h
          injection h with h
          subst h
          obtain ⟨h1, h2⟩ := (mapM_num ws ns).1 hm
          obtain ⟨h3, h4⟩ := (num_iff w n).1 hn
          refine ⟨by rw [List.map_cons, ← h1, ← h4], fun x hx => ?_⟩
          rcases List.mem_cons.1 hx with rfl | hx
          · exact h3
          · exact h2 x hx
    · rintro ⟨h1, h2⟩
      cases l with
      | nil => simp at h1
      | cons n ns =>
        rw [List.map_cons] at h1
        injection h1 with h3 h4
        have hn := (num_iff w n).2 ⟨h2 n (by simp), h3⟩
        have hm := (mapM_num ws ns).2 ⟨h4, fun x hx => h2 x (List.mem_cons_of_mem _ hx)⟩
        rw [hn, hm]
        rfl
theorem dotted_iff (s : Str) (m : Nat) (hm : 1 ≤ m) (l : List Nat) : dotted? s m = some l ↔ s = joinC 46 (l.map Lib.decDigits) ∧ (∀ n ∈ l, n ≤ 2147483647) ∧ l.length = m := by
  unfold dotted?
  constructor
  · intro h
    split at h
    · rename_i hl
      obtain ⟨h1, h2⟩ := (mapM_num _ _).1 h
      refine ⟨by rw [← h1, join_split], h2, ?_⟩
      rw [← hl, h1, List.length_map]
    · cases h
  · rintro ⟨rfl, h2, h3⟩
    have hne : l.map Lib.decDigits ≠ [] := fun e => by
      have := congrArg List.length e
      rw [List.length_map, h3] at this
      simp at this
      omega
    have hs := split_join 46 (l.map Lib.decDigits) hne (fun a ha => by
      obtain ⟨n, _, rfl⟩ := List.mem_map.1 ha
      exact dec_notin n (by decide))
    rw [hs, List.length_map, if_pos h3]
    exact (mapM_num _ _).2 ⟨rfl, h2⟩
theorem dotsS_join (l : List Nat) : dotsS (l.map fun n : Nat => (n : Int)) = joinC 46 (l.map Lib.decDigits) := by
  induction l with
  | nil => rfl
  | cons a l ih =>
    cases l with
    | nil => rfl
    | cons b l =>
      simp only [List.map_cons, dotsS, Int.toNat_natCast] at ih ⊢
      rw [ih]
      simp [joinC]
theorem numI_dec (n : Nat) (h : n ≤ 2147483647) : numI (Lib.decDigits n) = n := numI_some ((num_iff _ _).2 ⟨h, rfl⟩)
theorem joinC_ne {c : UInt8} {l : List Str} (h : l ≠ []) (ha : ∀ a ∈ l, a ≠ []) : joinC c l ≠ [] := by
  cases l with
  | nil => exact absurd rfl h
  | cons a l =>
    cases l with
    | nil => exact ha a (by simp)
    | cons b l => rw [joinC_cons c a (by simp)]; simp
theorem numbersI_join (l : List Nat) (h : l ≠ []) (hl : ∀ n ∈ l, n ≤ 2147483647) : numbersI 46 (joinC 46 (l.map Lib.decDigits)) = l.map fun n : Nat => (n : Int) := by
  have hne : l.map Lib.decDigits ≠ [] := fun e => h (List.map_eq_nil_iff.1 e)
  unfold numbersI
  rw [if_neg (joinC_ne hne (fun a ha => by obtain ⟨n, _, rfl⟩ := List.mem_map.1 ha; exact digits_ne n)), split_join 46 _ hne (fun a ha => by
      obtain ⟨n, _, rfl⟩ := List.mem_map.1 ha
      exact dec_notin n (by decide)), List.map_map]
  refine List.map_congr_left (fun n hn => ?_)
  exact numI_dec n (hl n hn)
theorem kindTo_some {words : List Str} {w : Str} : ∀ {n k : Nat}, kindTo words w n = k → k ≠ 0 → 0 < k ∧ k < n ∧ w = words.getD k []
  | 0, k, h, h0 => absurd h.symm h0
  | n + 1, k, h, h0 => by
    rw [kindTo_succ] at h
    split at h
    · rename_i hc
      subst h
      exact ⟨hc.1, by omega, hc.2⟩
    · obtain ⟨h1, h2, h3⟩ := kindTo_some h h0
      exact ⟨h1, by omega, h3⟩
theorem ev_kind {k : Nat} (h : 0 < k ∧ k < 8) : kindOf evWords (evWords.getD k []) = k ∧ (32 : UInt8) ∉ evWords.getD k [] := by
  have key : ∀ x : Fin 8, 0 < x.val → kindOf evWords (evWords.getD x.val []) = x.val ∧ (32 : UInt8) ∉ evWords.getD x.val [] := by decide
  exact key ⟨k, h.2⟩ h.1
theorem qu_kind {k : Nat} (h : 0 < k ∧ k < 4) : kindOf quWords (quWords.getD k []) = k ∧ (32 : UInt8) ∉ quWords.getD k [] := by
  have key : ∀ x : Fin 4, 0 < x.val → kindOf quWords (quWords.getD x.val []) = x.val ∧ (32 : UInt8) ∉ quWords.getD x.val [] := by decide
  exact key ⟨k, h.2⟩ h.1

end Go.Proofs.YtljmonfobefiiaaGreatDoor

/- Plain laws: the events' texts. -/
namespace Go.Proofs.YtljmonfobefiiaaGreatDoor
open Go.RowKit

def evS1 (k nd r : Nat) : Str := joinC 32 [evWords.getD k [], Lib.decDigits nd, Lib.decDigits r]
def evS2 (k nd : Nat) (l : List Nat) : Str := joinC 32 [evWords.getD k [], Lib.decDigits nd, joinC 46 (l.map Lib.decDigits)]
def evS3 (nd : Nat) : Str := joinC 32 [evWords.getD 7 [], Lib.decDigits nd]
/-- The forms of a well-formed event with its text. -/
inductive EvForm : Ev → Str → Prop where
  | f1 (k nd r : Nat) (hk : k = 1 ∨ k = 2 ∨ k = 4) (hn : nd < 12) (hr : r ≤ 2147483647) : EvForm ⟨k, nd, r, ⟨0, 0, 0, 0, 0⟩⟩ (evS1 k nd r)
  | f2 (k nd a b c d x : Nat) (hk : k = 3 ∨ k = 5 ∨ k = 6) (hn : nd < 12) (ha : a < 12) (hb : b < 40) (hc : c ≤ 2147483647) (hd : d ≤ 2147483647) (hx : x ≤ 2147483647) : EvForm ⟨k, nd, 0, ⟨a, b, c, d, x⟩⟩ (evS2 k nd [a, b, c, d, x])
  | f3 (nd : Nat) (hn : nd < 12) : EvForm ⟨7, nd, 0, ⟨0, 0, 0, 0, 0⟩⟩ (evS3 nd)
theorem EvForm.text {e : Ev} {s : Str} (h : EvForm e s) : textEv e = s := by
  have hok : EvOk e := by
    cases h with
    | f1 k nd r hk hn hr => exact ⟨by dsimp only; omega, by dsimp only; omega, .inl ⟨by dsimp only; omega, by dsimp only; omega, rfl⟩⟩
    | f2 k nd a b c d x hk hn ha hb hc hd hx => exact ⟨by dsimp only; omega, by dsimp only; omega, .inr (.inl ⟨by dsimp only; omega, rfl, by dsimp only; omega, by dsimp only; omega, by dsimp only; omega⟩)⟩
    | f3 nd hn => exact ⟨by dsimp only; omega, by dsimp only; omega, .inr (.inr ⟨rfl, rfl, rfl⟩)⟩
  unfold textEv
  rw [if_pos ((wellEv_iff e).2 hok)]
  cases h with
  | f1 k nd r hk hn hr =>
    unfold rawEv
    dsimp only
    rw [if_pos (by omega)]
    simp [evS1, joinC]
  | f2 k nd a b c d x hk hn ha hb hc hd hx =>
    unfold rawEv
    dsimp only
    rw [if_neg (by omega), if_neg (by omega)]
    have := dotsS_join [a, b, c, d, x]
    simp only [List.map_cons, List.map_nil] at this
    simp only [Msg.ints]
    rw [this]
    simp [evS2, joinC]
  | f3 nd hn =>
    unfold rawEv
    dsimp only
    rw [if_neg (by omega), if_pos rfl]
    simp [evS3, joinC]
theorem EvForm.of_ok {e : Ev} (h : EvOk e) : ∃ s, EvForm e s := by
  obtain ⟨kind, node, arg, ⟨m0, m1, m2, m3, m4⟩⟩ := e
  obtain ⟨h0, h1, h⟩ := h
  dsimp only at h0 h1 h
  obtain ⟨nd, rfl⟩ : ∃ n : Nat, node = n := ⟨node.toNat, by omega⟩
  rcases h with ⟨hk, hr, hm⟩ | ⟨hk, rfl, ⟨ha, hb, hc⟩, hd, hx⟩ | ⟨rfl, rfl, hm⟩
  · obtain ⟨k, rfl⟩ : ∃ n : Nat, kind = n := ⟨kind.toNat, by omega⟩
    obtain ⟨r, rfl⟩ : ∃ n : Nat, arg = n := ⟨arg.toNat, by omega⟩
    rw [hm]
    exact ⟨_, .f1 k nd r (by omega) (by omega) (by omega)⟩
  · obtain ⟨k, rfl⟩ : ∃ n : Nat, kind = n := ⟨kind.toNat, by omega⟩
    obtain ⟨a, rfl⟩ : ∃ n : Nat, m0 = n := ⟨m0.toNat, by omega⟩
    obtain ⟨b, rfl⟩ : ∃ n : Nat, m1 = n := ⟨m1.toNat, by omega⟩
    obtain ⟨c, rfl⟩ : ∃ n : Nat, m2 = n := ⟨m2.toNat, by omega⟩
    obtain ⟨d, rfl⟩ : ∃ n : Nat, m3 = n := ⟨m3.toNat, by omega⟩
    obtain ⟨x, rfl⟩ : ∃ n : Nat, m4 = n := ⟨m4.toNat, by omega⟩
    exact ⟨_, .f2 k nd a b c d x (by omega) (by omega) (by omega) (by omega) (by omega) (by omega) (by omega)⟩
  · rw [hm]
    exact ⟨_, .f3 nd (by omega)⟩

theorem dotted_one {n : Nat} (h : n ≤ 2147483647) : dotted? (Lib.decDigits n) 1 = some [n] := (dotted_iff _ 1 (by omega) [n]).2 ⟨rfl, by simpa using h, rfl⟩
theorem join46_notin (l : List Nat) : (32 : UInt8) ∉ joinC 46 (l.map Lib.decDigits) := by
  induction l with
  | nil => simp [joinC]
  | cons a l ih =>
    cases l with
    | nil => exact dec_notin a (by decide)
    | cons b l =>
      rw [List.map_cons, joinC_cons 46 _ (by simp)]
      intro h
      rcases List.mem_append.1 h with h | h
      · exact dec_notin a (by decide) h
      · rcases List.mem_cons.1 h with h | h
        · exact absurd h (by decide)
        · exact ih h
theorem EvForm.parse {e : Ev} {s : Str} (h : EvForm e s) : parseEv s = some e := by
  cases h with
  | f1 k nd r hk hn hr =>
    obtain ⟨h1, h2⟩ := ev_kind (k := k) (by omega)
    unfold parseEv evS1
    rw [split_join 32 _ (by simp) (by
      intro a ha
      simp only [List.mem_cons, List.not_mem_nil, or_false] at ha
      rcases ha with rfl | rfl | rfl
      · exact h2
      · exact dec_notin _ (by decide)
      · exact dec_notin _ (by decide))]
    simp only [List.getD_cons_zero, List.getD_cons_succ, List.length_cons, List.length_nil]
    rw [h1, if_neg (by rw [if_neg (by omega)]; omega), dotted_one (by omega), dotted_one hr]
    simp only []
    rw [if_neg (by omega), if_neg (by omega), if_neg (by omega)]
  | f2 k nd a b c d x hk hn ha hb hc hd hx =>
    obtain ⟨h1, h2⟩ := ev_kind (k := k) (by omega)
    unfold parseEv evS2
    rw [split_join 32 _ (by simp) (by
      intro y hy
      simp only [List.mem_cons, List.not_mem_nil, or_false] at hy
      rcases hy with rfl | rfl | rfl
      · exact h2
      · exact dec_notin _ (by decide)
      · exact join46_notin _)]
    simp only [List.getD_cons_zero, List.getD_cons_succ, List.length_cons, List.length_nil]
    rw [h1, if_neg (by rw [if_neg (by omega)]; omega), dotted_one (by omega), (dotted_iff _ 5 (by omega) [a, b, c, d, x]).2 ⟨rfl, by simp; omega, rfl⟩]
    simp only []
    rw [if_neg (by omega), if_pos hk, if_pos ⟨ha, hb⟩]
  | f3 nd hn =>
    obtain ⟨h1, h2⟩ := ev_kind (k := 7) (by omega)
    unfold parseEv evS3
    rw [split_join 32 _ (by simp) (by
      intro y hy
      simp only [List.mem_cons, List.not_mem_nil, or_false] at hy
      rcases hy with rfl | rfl
      · exact h2
      · exact dec_notin _ (by decide))]
    simp only [List.getD_cons_zero, List.getD_cons_succ, List.length_cons, List.length_nil]
    rw [h1, if_neg (by simp), dotted_one (by omega)]
    simp only []
    rw [if_neg (by omega), if_neg (by omega)]
    simp
theorem EvForm.ref {e : Ev} {s : Str} (h : EvForm e s) : refEv s = (e, true) := by
  have ht := h.text
  cases h with
  | f1 k nd r hk hn hr =>
    obtain ⟨h1, h2⟩ := ev_kind (k := k) (by omega)
    have e1 : evS1 k nd r = evWords.getD k [] ++ 32 :: (Lib.decDigits nd ++ 32 :: Lib.decDigits r) := rfl
    have c1 := cut1_mem h2 (Lib.decDigits nd ++ 32 :: Lib.decDigits r)
    have c2 := cut1_mem (dec_notin nd (c := 32) (by decide)) (Lib.decDigits r)
    unfold refEv
    simp only []
    rw [e1, c1, List.take_left, List.drop_left, List.drop_succ_cons, List.drop_zero, c2, List.take_left, List.drop_left, List.drop_succ_cons, List.drop_zero, h1, numI_dec nd (by omega), numI_dec r hr, if_pos hk, ht, e1, beq_self_eq_true]
  | f2 k nd a b c d x hk hn ha hb hc hd hx =>
    obtain ⟨h1, h2⟩ := ev_kind (k := k) (by omega)
    have e1 : evS2 k nd [a, b, c, d, x] = evWords.getD k [] ++ 32 :: (Lib.decDigits nd ++ 32 :: joinC 46 ([a, b, c, d, x].map Lib.decDigits)) := rfl
    have c1 := cut1_mem h2 (Lib.decDigits nd ++ 32 :: joinC 46 ([a, b, c, d, x].map Lib.decDigits))
    have c2 := cut1_mem (dec_notin nd (c := 32) (by decide)) (joinC 46 ([a, b, c, d, x].map Lib.decDigits))
    have c3 := numbersI_join [a, b, c, d, x] (by simp) (by simp; omega)
    unfold refEv
    simp only []
    rw [e1, c1, List.take_left, List.drop_left, List.drop_succ_cons, List.drop_zero, c2, List.take_left, List.drop_left, List.drop_succ_cons, List.drop_zero, h1, numI_dec nd (by omega), if_neg (by omega), if_neg (by omega), c3]
    simp only [List.map_cons, List.map_nil]
    simp only [List.map_cons, List.map_nil] at e1
    rw [ht, e1, beq_self_eq_true, decide_eq_true (show 0 < k by omega)]
    rfl
  | f3 nd hn =>
    obtain ⟨h1, h2⟩ := ev_kind (k := 7) (by omega)
    have e1 : evS3 nd = evWords.getD 7 [] ++ 32 :: Lib.decDigits nd := rfl
    have c1 := cut1_mem h2 (Lib.decDigits nd)
    have c2 := cut1_notin (dec_notin nd (c := 32) (by decide))
    unfold refEv
    simp only []
    rw [e1, c1, List.take_left, List.drop_left, List.drop_succ_cons, List.drop_zero, c2, List.take_length, List.drop_length, List.drop_nil, h1, numI_dec nd (by omega), if_neg (by omega), if_pos rfl, ht, e1, beq_self_eq_true]

theorem dotted_val {s : Str} {n : Nat} (h : dotted? s 1 = some [n]) : s = Lib.decDigits n ∧ n ≤ 2147483647 := by
  obtain ⟨h1, h2, _⟩ := (dotted_iff s 1 (by omega) [n]).1 h
  exact ⟨h1, h2 n (by simp)⟩
theorem parseEv_form {s : Str} {e : Ev} (h : parseEv s = some e) : EvForm e s := by
  have hj := join_split 32 s
  unfold parseEv at h
  generalize splitC 32 s = ws at h hj
  simp only [] at h
  generalize hk : kindOf evWords (ws.getD 0 []) = k at h
  by_cases hc : k = 0 ∨ ws.length ≠ (if k = 7 then 2 else 3)
  · rw [if_pos hc] at h
    cases h
  · rw [if_neg hc] at h
    have hk0 : k ≠ 0 := fun e => hc (.inl e)
    have hlen : ws.length = if k = 7 then 2 else 3 := Decidable.byContradiction fun e => hc (.inr e)
    obtain ⟨k1, k2, hw⟩ := kindTo_some (words := evWords) (n := 8) hk hk0
    split at h
    · rename_i nd hd1
      obtain ⟨hd, _⟩ := dotted_val hd1
      split at h
      · cases h
      · rename_i hn
        split at h
        · rename_i hk3
          rw [if_neg (by omega)] at hlen
          obtain ⟨w0, w1, w2, rfl⟩ : ∃ a b c, ws = [a, b, c] := by
            match ws, hlen with
            | [a, b, c], _ => exact ⟨a, b, c, rfl⟩
          simp only [List.getD_cons_zero, List.getD_cons_succ] at hw hd h
          split at h
          · rename_i a b c d x hd5
            obtain ⟨g1, g2, _⟩ := (dotted_iff _ 5 (by omega) _).1 hd5
            split at h
            · rename_i hab
              injection h with h
              subst h
              subst hw hd g1 hj
              exact .f2 k nd a b c d x hk3 (by omega) hab.1 hab.2 (g2 c (by simp)) (g2 d (by simp)) (g2 x (by simp))
            · cases h
          · cases h
        · split at h
          · rename_i hk7
            subst hk7
            rw [if_pos rfl] at hlen
            obtain ⟨w0, w1, rfl⟩ : ∃ a b, ws = [a, b] := by
              match ws, hlen with
              | [a, b], _ => exact ⟨a, b, rfl⟩
            simp only [List.getD_cons_zero, List.getD_cons_succ] at hw hd h
            injection h with h
            subst h
            subst hw hd hj
            exact .f3 nd (by omega)
          · rename_i hk3 hk7
            rw [if_neg hk7] at hlen
            obtain ⟨w0, w1, w2, rfl⟩ : ∃ a b c, ws = [a, b, c] := by
              match ws, hlen with
              | [a, b, c], _ => exact ⟨a, b, c, rfl⟩
            simp only [List.getD_cons_zero, List.getD_cons_succ] at hw hd h
            split at h
            · rename_i r hd5
              obtain ⟨g1, g2⟩ := dotted_val hd5
              injection h with h
              subst h
              subst hw hd g1 hj
              exact .f1 k nd r (by omega) (by omega) g2
            · cases h
    · cases h
theorem ref_good {s : Str} (h : (refEv s).2 = true) : textEv (refEv s).1 = s ∧ 0 < (refEv s).1.kind := by
  unfold refEv at h ⊢
  simp only [] at h ⊢
  split at h
  · rename_i hk
    rw [if_pos hk] at *
    exact ⟨by simpa using h, by dsimp only; omega⟩
  · split at h
    · rename_i hk hk7
      rw [if_neg hk, if_pos hk7] at *
      exact ⟨by simpa using h, by dsimp only; omega⟩
    · rename_i hk hk7
      rw [if_neg hk, if_neg hk7]
      split at h
      · rename_i a b c d x heq
        simp only [Bool.and_eq_true, decide_eq_true_eq, beq_iff_eq] at h
        exact ⟨h.2, by dsimp only; omega⟩
      · cases h
/-- The reference reads an event as ParseEvent does. -/
theorem refEv_eq (s : Str) : (refEv s).2 = (parseEv s).isSome ∧ ∀ e, parseEv s = some e → refEv s = (e, true) := by
  cases hp : parseEv s with
  | some e =>
    have h := (parseEv_form hp).ref
    exact ⟨by rw [h]; rfl, fun e' he => by injection he with he; subst he; exact h⟩
  | none =>
    refine ⟨?_, fun e he => by cases he⟩
    cases hr : (refEv s).2 with
    | false => rfl
    | true =>
      obtain ⟨h1, h2⟩ := ref_good hr
      have hw : wellEv (refEv s).1 = true := by
        cases hw : wellEv (refEv s).1 with
        | true => rfl
        | false =>
          have h3 : textEv (refEv s).1 = [] := by unfold textEv; rw [hw]; rfl
          rw [h1] at h3
          subst h3
          exact absurd hr (by decide)
      obtain ⟨t, ht⟩ := EvForm.of_ok ((wellEv_iff _).1 hw)
      have h4 := ht.parse
      rw [← ht.text, h1, hp] at h4
      cases h4

end Go.Proofs.YtljmonfobefiiaaGreatDoor

/- Plain laws: the questions' texts. -/
namespace Go.Proofs.YtljmonfobefiiaaGreatDoor
open Go.RowKit

def qnS (k : Nat) (l : List Nat) (i : Nat) : Str := joinC 32 [quWords.getD k [], joinC 46 (l.map Lib.decDigits), Lib.decDigits i]
inductive QnForm : Qn → Str → Prop where
  | f (k a b c i : Nat) (hk : 0 < k ∧ k < 4) (ha : a < 12) (hb : b < 41) (hc : c ≤ 2147483647) (hi : i ≤ 2147483647) : QnForm ⟨a, b, c, k, i⟩ (qnS k [a, b, c] i)
theorem QnForm.text {q : Qn} {s : Str} (h : QnForm q s) : textQn q = s := by
  cases h with
  | f k a b c i hk ha hb hc hi =>
    have hok : QnOk ⟨a, b, c, k, i⟩ := ⟨by dsimp only; omega, by dsimp only; omega, by dsimp only; omega⟩
    unfold textQn
    rw [if_pos ((wellQn_iff _).2 hok)]
    unfold rawQn
    dsimp only
    have := dotsS_join [a, b, c]
    simp only [List.map_cons, List.map_nil] at this
    rw [this]
    simp [qnS, joinC]
theorem QnForm.of_ok {q : Qn} (h : QnOk q) : ∃ s, QnForm q s := by
  obtain ⟨a, b, c, k, i⟩ := q
  obtain ⟨hk, ⟨ha, hb, hc⟩, hi⟩ := h
  dsimp only at hk ha hb hc hi
  obtain ⟨k, rfl⟩ : ∃ n : Nat, k = n := ⟨k.toNat, by omega⟩
  obtain ⟨a, rfl⟩ : ∃ n : Nat, a = n := ⟨a.toNat, by omega⟩
  obtain ⟨b, rfl⟩ : ∃ n : Nat, b = n := ⟨b.toNat, by omega⟩
  obtain ⟨c, rfl⟩ : ∃ n : Nat, c = n := ⟨c.toNat, by omega⟩
  obtain ⟨i, rfl⟩ : ∃ n : Nat, i = n := ⟨i.toNat, by omega⟩
  exact ⟨_, .f k a b c i (by omega) (by omega) (by omega) (by omega) (by omega)⟩
theorem QnForm.parse {q : Qn} {s : Str} (h : QnForm q s) : parseQn s = some q := by
  cases h with
  | f k a b c i hk ha hb hc hi =>
    obtain ⟨h1, h2⟩ := qu_kind hk
    unfold parseQn qnS
    rw [split_join 32 _ (by simp) (by
      intro y hy
      simp only [List.mem_cons, List.not_mem_nil, or_false] at hy
      rcases hy with rfl | rfl | rfl
      · exact h2
      · exact join46_notin _
      · exact dec_notin _ (by decide))]
    simp only [List.getD_cons_zero, List.getD_cons_succ, List.length_cons, List.length_nil]
    rw [h1, if_neg (by omega), dotted_one hi, (dotted_iff _ 3 (by omega) [a, b, c]).2 ⟨rfl, by simp; omega, rfl⟩]
    simp only []
    rw [if_pos ⟨ha, hb⟩]
theorem QnForm.ref {q : Qn} {s : Str} (h : QnForm q s) : refQn s = (q, true) := by
  have ht := h.text
  cases h with
  | f k a b c i hk ha hb hc hi =>
    obtain ⟨h1, h2⟩ := qu_kind hk
    have e1 : qnS k [a, b, c] i = quWords.getD k [] ++ 32 :: (joinC 46 ([a, b, c].map Lib.decDigits) ++ 32 :: Lib.decDigits i) := rfl
    have c1 := cut1_mem h2 (joinC 46 ([a, b, c].map Lib.decDigits) ++ 32 :: Lib.decDigits i)
    have c2 := cut1_mem (join46_notin [a, b, c]) (Lib.decDigits i)
    have c3 := numbersI_join [a, b, c] (by simp) (by simp; omega)
    unfold refQn
    simp only []
    rw [e1, c1, List.take_left, List.drop_left, List.drop_succ_cons, List.drop_zero, c2, List.take_left, List.drop_left, List.drop_succ_cons, List.drop_zero, h1, numI_dec i hi, c3]
    simp only [List.map_cons, List.map_nil]
    simp only [List.map_cons, List.map_nil] at e1
    rw [if_neg (by omega), ht, e1, beq_self_eq_true]
theorem parseQn_form {s : Str} {q : Qn} (h : parseQn s = some q) : QnForm q s := by
  have hj := join_split 32 s
  unfold parseQn at h
  generalize splitC 32 s = ws at h hj
  simp only [] at h
  generalize hk : kindOf quWords (ws.getD 0 []) = k at h
  by_cases hc : k = 0 ∨ ws.length ≠ 3
  · rw [if_pos hc] at h
    cases h
  · rw [if_neg hc] at h
    have hk0 : k ≠ 0 := fun e => hc (.inl e)
    have hlen : ws.length = 3 := Decidable.byContradiction fun e => hc (.inr e)
    obtain ⟨k1, k2, hw⟩ := kindTo_some (words := quWords) (n := 4) hk hk0
    obtain ⟨w0, w1, w2, rfl⟩ : ∃ a b c, ws = [a, b, c] := by
      match ws, hlen with
      | [a, b, c], _ => exact ⟨a, b, c, rfl⟩
    simp only [List.getD_cons_zero, List.getD_cons_succ] at hw h
    split at h
    · rename_i a b c i hd3 hd1
      obtain ⟨g1, g2, _⟩ := (dotted_iff _ 3 (by omega) _).1 hd3
      obtain ⟨g3, g4⟩ := dotted_val hd1
      split at h
      · rename_i hab
        injection h with h
        subst h
        subst hw g1 g3 hj
        exact .f k a b c i ⟨k1, k2⟩ hab.1 hab.2 (g2 c (by simp)) g4
      · cases h
    · cases h
theorem refQ_good {s : Str} (h : (refQn s).2 = true) : textQn (refQn s).1 = s ∧ 0 < (refQn s).1.kind := by
  unfold refQn at h ⊢
  simp only [] at h ⊢
  split at h
  · rename_i a b c heq
    split at h
    · cases h
    · rename_i hk
      simp only [if_neg hk]
      exact ⟨by simpa using h, by first | omega | (dsimp only; omega)⟩
  · cases h
theorem refQn_eq (s : Str) : (refQn s).2 = (parseQn s).isSome ∧ ∀ q, parseQn s = some q → refQn s = (q, true) := by
  cases hp : parseQn s with
  | some q =>
    have h := (parseQn_form hp).ref
    exact ⟨by rw [h]; rfl, fun e' he => by injection he with he; subst he; exact h⟩
  | none =>
    refine ⟨?_, fun e he => by cases he⟩
    cases hr : (refQn s).2 with
    | false => rfl
    | true =>
      obtain ⟨h1, h2⟩ := refQ_good hr
      have hw : wellQn (refQn s).1 = true := by
        cases hw : wellQn (refQn s).1 with
        | true => rfl
        | false =>
          have h3 : textQn (refQn s).1 = [] := by unfold textQn; rw [hw]; rfl
          rw [h1] at h3
          subst h3
          exact absurd hr (by decide)
      obtain ⟨t, ht⟩ := QnForm.of_ok ((wellQn_iff _).1 hw)
      have h4 := ht.parse
      rw [← ht.text, h1, hp] at h4
      cases h4

end Go.Proofs.YtljmonfobefiiaaGreatDoor

/- Plain laws: the tail of a line. -/
namespace Go.Proofs.YtljmonfobefiiaaGreatDoor
open Go.RowKit

theorem index_zero (s p : Str) : Lib.index s p = 0 ↔ Lib.hasPrefix s p = true := by
  constructor
  · intro h
    rcases Lib.index_spec s p with ⟨h1, _⟩ | ⟨i, h1, _, h3, _⟩
    · rw [h1] at h; omega
    · have : i = 0 := by omega
      subst this
      exact h3
  · intro h
    exact Lib.index_first (i := 0) (Nat.zero_le _) h (fun j hj => absurd hj (Nat.not_lt_zero _))
theorem isNum_numI (s : Str) : (isNum s = true ∧ numI s = (numberV s : Int)) ∨ (isNum s = false ∧ numI s = -1) := by
  unfold isNum
  cases h : num s with
  | none => exact .inr ⟨rfl, numI_none h⟩
  | some n => exact .inl ⟨rfl, by rw [numI_some h, numberV_num h]⟩
def okL (i : Nat) : Int → List Int → Bool
  | _, [] => true
  | last, x :: l => decide (0 ≤ x) && decide (x < (i : Int)) && decide (last < x) && okL i x l
theorem afters_bad (i : Nat) : ∀ (ws : List Str) (last : Int) (r : RS), (RS.afters i last ws r).bad = (r.bad || !okL i last (ws.map numI))
  | [], last, r => by simp [RS.afters, okL]
  | w :: ws, last, r => by
    rw [RS.afters, afters_bad i ws, List.map_cons, okL]
    rcases isNum_numI w with ⟨h1, h2⟩ | ⟨h1, h2⟩
    · rw [h2]
      simp only [RS.must, RS.number, h1]
      have e1 : decide (0 ≤ (numberV w : Int)) = true := decide_eq_true (by omega)
      have e2 : decide ((numberV w : Int) < (i : Int)) = decide (numberV w < i) := by
        rw [Bool.eq_iff_iff]; simp
      rw [e1, e2]
      cases r.bad <;> cases decide (last < (numberV w : Int)) <;> cases decide (numberV w < i) <;> simp
    · rw [h2]
      simp [RS.must, RS.number, h1]
theorem okL_iff (i : Nat) : ∀ (l : List Int) (last : Int), okL i last l = true ↔ (∀ j < l.length, 0 ≤ l.getD j 0 ∧ l.getD j 0 < (i : Int) ∧ (0 < j → l.getD (j - 1) 0 < l.getD j 0)) ∧ (0 < l.length → last < l.getD 0 0)
  | [], last => by simp [okL]
  | x :: l, last => by
    rw [okL]
    simp only [Bool.and_eq_true, decide_eq_true_eq, okL_iff i l x]
    constructor
    · rintro ⟨⟨⟨h1, h2⟩, h3⟩, h4, h5⟩
      refine ⟨fun j hj => ?_, fun _ => h3⟩
      cases j with
      | zero => exact ⟨h1, h2, fun h => absurd h (Nat.lt_irrefl 0)⟩
      | succ j =>
        obtain ⟨g1, g2, g3⟩ := h4 j (by simpa using hj)
        refine ⟨by simpa using g1, by simpa using g2, fun _ => ?_⟩
        cases j with
        | zero => simpa using h5 (by simpa using hj)
        | succ j => simpa using g3 (by omega)
    · rintro ⟨h1, h2⟩
      have h0 := h1 0 (by simp)
      refine ⟨⟨⟨by simpa using h0.1, by simpa using h0.2.1⟩, by simpa using h2 (by simp)⟩, fun j hj => ?_, fun hl => ?_⟩
      · have hj1 := h1 (j + 1) (by simpa using hj)
        refine ⟨by simpa using hj1.1, by simpa using hj1.2.1, fun hjp => ?_⟩
        have := hj1.2.2 (by omega)
        cases j with
        | zero => omega
        | succ j => simpa using this
      · have := (h1 1 (by simpa using hl)).2.2 (by omega)
        simpa using this
theorem aftOk_eq (i : Nat) (l : List Int) : aftOk i l l.length = okL i (-1) l := by
  unfold aftOk
  rw [Bool.eq_iff_iff, decide_eq_true_eq, okL_iff]
  constructor
  · intro h
    exact ⟨h, fun hl => by have := (h 0 hl).1; omega⟩
  · exact fun h => h.1
theorem skip_rest (r : RS) (p : Str) : (r.skip p).rest = (if Lib.index r.rest p = 0 then r.rest.drop p.length else r.rest) ∧ (r.skip p).bad = r.bad := by
  refine ⟨?_, rfl⟩
  unfold RS.skip
  by_cases h : Lib.index r.rest p = 0
  · rw [if_pos h]
    simp [Lib.trimPrefix, (index_zero _ _).1 h]
  · rw [if_neg h]
    have : Lib.hasPrefix r.rest p = false := by
      cases hh : Lib.hasPrefix r.rest p with
      | false => rfl
      | true => exact absurd ((index_zero _ _).2 hh) h
    simp [Lib.trimPrefix, this]
theorem has_index (r : RS) (p : Str) : r.has p = decide (Lib.index r.rest p = 0) := by
  unfold RS.has
  rw [Bool.eq_iff_iff, decide_eq_true_eq, index_zero]
theorem tail_bad (i : Nat) (r : RS) : (RS.tail i r).bad = (r.bad || !refTail i true r.rest) := by
  unfold RS.tail refTail
  simp only []
  obtain ⟨h1, h2⟩ := skip_rest r [32, 42]
  have h2l : ([32, 42] : Str).length = 2 := rfl
  rw [h2l] at h1
  rw [← h1]
  generalize r.skip [32, 42] = r1 at h1 h2
  rw [← h2]
  clear h1 h2
  rw [has_index]
  by_cases hix : Lib.index r1.rest [32, 97, 102, 116, 101, 114, 32] = 0
  · rw [decide_eq_true hix, if_pos rfl, if_pos hix]
    obtain ⟨g1, g2⟩ := skip_rest r1 [32, 97, 102, 116, 101, 114, 32]
    rw [if_pos hix] at g1
    have h7 : ([32, 97, 102, 116, 101, 114, 32] : Str).length = 7 := rfl
    rw [h7] at g1
    generalize r1.skip [32, 97, 102, 116, 101, 114, 32] = r2 at g1 g2
    have hne : (r1.rest == []) = false := by
      cases hr : r1.rest with
      | nil => rw [hr] at hix; exact absurd hix (by decide)
      | cons a b => rfl
    simp only [RS.must]
    rw [afters_bad, g2, aftOk_eq, hne, ← g1]
    by_cases hq : r2.rest = []
    · rw [hq]
      simp [numbersI, splitC, okL, numI_nil]
    · have hn : numbersI 44 r2.rest = (splitC 44 r2.rest).map numI := by unfold numbersI; rw [if_neg hq]
      have hpos : 0 < (numbersI 44 r2.rest).length := by
        rw [hn, List.length_map]
        exact List.length_pos_iff.2 (splitC_some 44 _)
      rw [decide_eq_true hpos, ← hn]
      simp
  · rw [decide_eq_false hix, if_neg hix]
    obtain ⟨g1, g2⟩ := skip_rest r1 [32, 97, 102, 116, 101, 114, 32]
    rw [if_neg hix] at g1
    simp only [Bool.false_eq_true, if_false, RS.must, g1, g2]
    simp
theorem refTail_false (i : Nat) (rest : Str) : refTail i false rest = false := by
  unfold refTail
  simp

end Go.Proofs.YtljmonfobefiiaaGreatDoor

/- Plain laws: the asks of a line, the line, the whole story. -/
namespace Go.Proofs.YtljmonfobefiiaaGreatDoor
open Go.RowKit

theorem until_mem {c : UInt8} (r : RS) (seps : List Str) (h : c ∉ r.rest) : c ∉ (r.until seps).rest := fun hc => h (List.mem_of_mem_drop hc)
theorem skip_mem {c : UInt8} (r : RS) (p : Str) (h : c ∉ r.rest) : c ∉ (r.skip p).rest := fun hc => by
  rw [(skip_rest r p).1] at hc
  split at hc
  · exact h (List.mem_of_mem_drop hc)
  · exact h hc
theorem ask1_mem {c : UInt8} (r : RS) (h : c ∉ r.rest) : c ∉ r.ask1.rest := by
  unfold RS.ask1
  simp only []
  split
  · exact skip_mem _ _ (until_mem _ _ h)
  · exact until_mem _ _ h
theorem ask2_mem {c : UInt8} (r : RS) (h : c ∉ r.rest) : c ∉ r.ask2.rest := by
  unfold RS.ask2
  simp only []
  exact skip_mem _ _ (until_mem _ _ h)
theorem has_false {c : UInt8} (r : RS) (h : c ∉ r.rest) : r.has [c] = false := by
  cases hh : r.has [c] with
  | false => rfl
  | true =>
    have hp : [c] <+: r.rest := List.isPrefixOf_iff_prefix.1 hh
    exact absurd (hp.subset (by simp)) h
theorem askR_none (r : RS) (h : (93 : UInt8) ∉ r.rest) : r.askR.bad = true := by
  unfold RS.askR
  have h2 := ask2_mem _ (ask1_mem r h)
  generalize r.ask1.ask2 = r2 at h2
  unfold RS.ask3
  simp only []
  split
  · have := has_false ((r2.until [[93]]).number (r2.text [[93]])) (until_mem r2 [[93]] h2)
    simp [RS.must, this]
  · simp [RS.must]
theorem has_app (a b : Str) {p : Str} (hp : (93 : UInt8) ∉ p) (bd : Bool) : RS.has ⟨a ++ 93 :: b, bd⟩ p = decide (Lib.index a p = 0) := by
  unfold RS.has Lib.hasPrefix
  rw [pre_app 93 b p a hp]
  have := index_zero a p
  unfold Lib.hasPrefix at this
  rw [Bool.eq_iff_iff, decide_eq_true_eq, this]
theorem index_drop_cut {p one : Str} (_hp : p ≠ []) : (0 ≤ Lib.index one p ∧ Lib.index (one.drop (cutAt [p] one)) p = 0 ∧ p.length + cutAt [p] one ≤ one.length) ∨ (Lib.index one p = -1 ∧ one.drop (cutAt [p] one) = []) := by
  rw [cut1_eq]
  rcases Lib.index_spec one p with ⟨h1, _⟩ | ⟨i, h1, h2, h3, h4⟩
  · refine .inr ⟨h1, ?_⟩
    rw [h1, if_neg (by omega), List.drop_length]
  · have hr := Lib.index_room one p (by rw [h1]; omega)
    rw [h1] at hr
    refine .inl ⟨by omega, ?_, ?_⟩
    · rw [h1, if_pos (by omega), Int.toNat_natCast, Nat.min_eq_right (by omega)]
      exact (index_zero _ _).2 h3
    · rw [h1, if_pos (by omega), Int.toNat_natCast, Nat.min_eq_right (by omega)]
      omega
theorem index_nil {p : Str} (hp : p ≠ []) : Lib.index [] p ≠ 0 := by
  cases p with
  | nil => exact absurd rfl hp
  | cons a p => intro h; simp [Lib.index] at h
theorem ask23 (an more : Str) (h : (93 : UInt8) ∉ an) :
    ((RS.ask3 (RS.ask2 ⟨an ++ 93 :: more, false⟩) (numberV (RS.text ⟨an ++ 93 :: more, false⟩ [[47], [93]]))).bad = !(decide (0 ≤ numI (an.take (cutAt [[47]] an))) && decide (numI (an.take (cutAt [[47]] an)) < numI ((an.drop (cutAt [[47]] an)).drop 1)))) ∧
    ((decide (0 ≤ numI (an.take (cutAt [[47]] an))) && decide (numI (an.take (cutAt [[47]] an)) < numI ((an.drop (cutAt [[47]] an)).drop 1))) = true →
      (RS.ask3 (RS.ask2 ⟨an ++ 93 :: more, false⟩) (numberV (RS.text ⟨an ++ 93 :: more, false⟩ [[47], [93]]))).rest = more ∧ ((numberV (RS.text ⟨an ++ 93 :: more, false⟩ [[47], [93]]) : Nat) : Int) = numI (an.take (cutAt [[47]] an))) := by
  have hcq := cut_app (c := 93) (p := [47]) (by decide) (by simp) h more
  have hcle := cutAt_le [[47]] an
  have hdq := index_drop_cut (p := [47]) (one := an) (by simp)
  have htext : RS.text ⟨an ++ 93 :: more, false⟩ [[47], [93]] = an.take (cutAt [[47]] an) := by
    unfold RS.text
    simp only []
    rw [hcq, List.take_append_of_le_length hcle]
  have hunt : RS.until ⟨an ++ 93 :: more, false⟩ [[47], [93]] = ⟨an.drop (cutAt [[47]] an) ++ 93 :: more, false⟩ := by
    unfold RS.until
    simp only []
    rw [hcq, List.drop_append_of_le_length hcle]
  have hmd : (93 : UInt8) ∉ an.drop (cutAt [[47]] an) := fun hx => h (List.mem_of_mem_drop hx)
  rw [htext]
  unfold RS.ask2
  simp only []
  rw [htext, hunt]
  generalize an.drop (cutAt [[47]] an) = ar0 at *
  generalize an.take (cutAt [[47]] an) = ns at *
  have hn := isNum_numI ns
  have kbad : ∀ (r : RS) (n : Nat), r.bad = true → (r.ask3 n).bad = true := by
    intro r n hr
    unfold RS.ask3
    simp only []
    split <;> simp [RS.must, RS.number, RS.skip, RS.until, hr]
  have hnum : RS.number ⟨ar0 ++ 93 :: more, false⟩ ns = ⟨ar0 ++ 93 :: more, !isNum ns⟩ := by simp [RS.number]
  rw [hnum, has_app ar0 more (by decide)]
  rcases hdq with ⟨_, g2, _⟩ | ⟨_, g2⟩
  · have h1 : 1 ≤ ar0.length := by
      have := Lib.index_room ar0 [47] (by rw [g2]; omega)
      rw [g2] at this
      simp at this
      omega
    have hix : Lib.index (ar0 ++ 93 :: more) [47] = 0 := by
      have := has_app ar0 more (p := [47]) (by decide) false
      rw [decide_eq_true g2, has_index] at this
      exact of_decide_eq_true this
    have hsk := (skip_rest (⟨ar0 ++ 93 :: more, !isNum ns⟩ : RS) [47]).1
    simp only [hix, if_true] at hsk
    have h1l : ([47] : Str).length = 1 := rfl
    rw [h1l, List.drop_append_of_le_length h1] at hsk
    have hr1 : ((⟨ar0 ++ 93 :: more, !isNum ns⟩ : RS).skip [47]).must (decide (Lib.index ar0 [47] = 0)) = ⟨ar0.drop 1 ++ 93 :: more, !isNum ns⟩ := by
      rw [decide_eq_true g2]
      unfold RS.must
      rw [hsk]
      simp [RS.skip]
    rw [hr1]
    have hma : (93 : UInt8) ∉ ar0.drop 1 := fun hx => hmd (List.mem_of_mem_drop hx)
    generalize ar0.drop 1 = ar at hma
    have hm := isNum_numI ar
    have hc3 := cut1_mem hma more
    have htx : ∀ b, RS.text ⟨ar ++ 93 :: more, b⟩ [[93]] = ar := fun b => by
      unfold RS.text
      simp only []
      rw [hc3, List.take_left]
    have hun : ∀ b, RS.until ⟨ar ++ 93 :: more, b⟩ [[93]] = ⟨93 :: more, b⟩ := fun b => by
      unfold RS.until
      simp only []
      rw [hc3, List.drop_left]
    have hh : ∀ b, RS.has ⟨93 :: more, b⟩ [93] = true := fun b => by simp [RS.has, Lib.hasPrefix, List.isPrefixOf]
    have hs : ∀ b, RS.skip ⟨93 :: more, b⟩ [93] = ⟨more, b⟩ := fun b => by
      simp [RS.skip, Lib.trimPrefix, Lib.hasPrefix, List.isPrefixOf]
    unfold RS.ask3
    simp only [htx, hun, RS.number, hh, hs]
    rcases hn with ⟨n1, n2⟩ | ⟨n1, n2⟩
    · rcases hm with ⟨m1, m2⟩ | ⟨m1, m2⟩
      · rw [n1, n2, m1, m2]
        by_cases hlt : numberV ns < numberV ar
        · have e2 : ((numberV ns : Nat) : Int) < (numberV ar : Nat) := by omega
          simp [hlt, RS.must, e2]
        · have e2 : ¬ ((numberV ns : Nat) : Int) < (numberV ar : Nat) := by omega
          simp [hlt, RS.must]
      · rw [n1, n2, m1, m2]
        have e2 : ¬ ((numberV ns : Nat) : Int) < -1 := by omega
        have e3 : decide (((numberV ns : Nat) : Int) < -1) = false := decide_eq_false e2
        rw [e3]
        split <;> simp [RS.must]
    · rw [n1, n2]
      have e3 : decide ((0 : Int) ≤ -1) = false := rfl
      rw [e3]
      split <;> simp [RS.must]
  · subst g2
    have e1 : decide (Lib.index ([] : Str) [47] = 0) = false := decide_eq_false (index_nil (by simp))
    rw [e1, kbad _ _ (by simp [RS.must])]
    have e2 : numI (List.drop 1 ([] : Str)) = -1 := numI_nil
    rw [e2]
    rcases hn with ⟨n1, n2⟩ | ⟨n1, n2⟩
    · rw [n2]
      have e3 : decide (((numberV ns : Nat) : Int) < -1) = false := decide_eq_false (by omega)
      rw [e3]
      simp
    · rw [n2]
      have e3 : decide ((0 : Int) ≤ -1) = false := rfl
      rw [e3]
      simp
/-- One bracket that is closed. -/
theorem askR_some (one more : Str) (h : (93 : UInt8) ∉ one) :
    ((RS.askR ⟨one ++ 93 :: more, false⟩).bad = !(refOne (one ++ 93 :: more)).2) ∧
    ((refOne (one ++ 93 :: more)).2 = true → (RS.askR ⟨one ++ 93 :: more, false⟩).rest = more ∧ RS.askA ⟨one ++ 93 :: more, false⟩ = (refOne (one ++ 93 :: more)).1) := by
  have hc1 := cut1_mem h more
  unfold refOne
  simp only []
  rw [hc1, List.take_left]
  have hcq := cut_app (c := 93) (p := [32, 61, 32]) (by decide) (by simp) h more
  have hcle := cutAt_le [[32, 61, 32]] one
  have hdq := index_drop_cut (p := [32, 61, 32]) (one := one) (by simp)
  have htext : RS.text ⟨one ++ 93 :: more, false⟩ [[32, 61, 32], [93]] = one.take (cutAt [[32, 61, 32]] one) := by
    unfold RS.text
    simp only []
    rw [hcq, List.take_append_of_le_length hcle]
  have hunt : RS.until ⟨one ++ 93 :: more, false⟩ [[32, 61, 32], [93]] = ⟨one.drop (cutAt [[32, 61, 32]] one) ++ 93 :: more, false⟩ := by
    unfold RS.until
    simp only []
    rw [hcq, List.drop_append_of_le_length hcle]
  have hmd : (93 : UInt8) ∉ one.drop (cutAt [[32, 61, 32]] one) := fun hx => h (List.mem_of_mem_drop hx)
  have hA : RS.askA ⟨one ++ 93 :: more, false⟩ = ⟨(parseQn (one.take (cutAt [[32, 61, 32]] one))).getD qnNil, RS.askN ⟨one ++ 93 :: more, false⟩⟩ := by
    unfold RS.askA
    rw [htext]
  rw [hA]
  unfold RS.askR RS.askN
  generalize one.drop (cutAt [[32, 61, 32]] one) = an0 at *
  generalize one.take (cutAt [[32, 61, 32]] one) = qs at *
  have hq := refQn_eq qs
  have h1 : RS.ask1 ⟨one ++ 93 :: more, false⟩ = if (parseQn qs).isSome then ((⟨an0 ++ 93 :: more, false⟩ : RS).skip [32, 61, 32]).must ((⟨an0 ++ 93 :: more, false⟩ : RS).has [32, 61, 32]) else (⟨an0 ++ 93 :: more, false⟩ : RS).must false := by
    unfold RS.ask1
    simp only []
    rw [htext, hunt]
  have key : ∀ r : RS, r.bad = true → (r.ask2.ask3 (numberV (r.text [[47], [93]]))).bad = true := by
    intro r hr
    have h2 : r.ask2.bad = true := by simp [RS.ask2, RS.must, RS.number, RS.skip, RS.until, hr]
    generalize numberV (r.text [[47], [93]]) = n
    generalize r.ask2 = r2 at h2
    unfold RS.ask3
    simp only []
    split <;> simp [RS.must, RS.number, RS.skip, RS.until, h2]
  cases hp : parseQn qs with
  | none =>
    have hr2 : (refQn qs).2 = false := by rw [hq.1, hp]; rfl
    rw [h1, hp, hr2]
    have hb := key ((⟨an0 ++ 93 :: more, false⟩ : RS).must false) (by simp [RS.must])
    simp only [Option.isSome_none, Bool.false_eq_true, if_false, hb]
    simp
  | some q =>
    have hqq := hq.2 q hp
    rw [h1, hp, hqq]
    simp only [Option.isSome_some, if_true, Option.getD_some, Bool.true_and]
    rw [has_app an0 more (by decide) false]
    rcases hdq with ⟨_, g2, _⟩ | ⟨_, g2⟩
    · -- the sign is there
      have hsk := (skip_rest (⟨an0 ++ 93 :: more, false⟩ : RS) [32, 61, 32]).1
      have hix : Lib.index (an0 ++ 93 :: more) [32, 61, 32] = 0 := by
        have := has_app an0 more (p := [32, 61, 32]) (by decide) false
        rw [decide_eq_true g2, has_index] at this
        exact of_decide_eq_true this
      have h3 : 3 ≤ an0.length := by
        have := Lib.index_room an0 [32, 61, 32] (by rw [g2]; omega)
        rw [g2] at this
        simp at this
        omega
      simp only [hix, if_true] at hsk
      have h3l : ([32, 61, 32] : Str).length = 3 := rfl
      rw [h3l, List.drop_append_of_le_length h3] at hsk
      have hr1 : ((⟨an0 ++ 93 :: more, false⟩ : RS).skip [32, 61, 32]).must (decide (Lib.index an0 [32, 61, 32] = 0)) = ⟨an0.drop 3 ++ 93 :: more, false⟩ := by
        rw [decide_eq_true g2]
        unfold RS.must
        rw [hsk]
        simp [RS.skip]
      rw [hr1]
      have hma : (93 : UInt8) ∉ an0.drop 3 := fun hx => hmd (List.mem_of_mem_drop hx)
      generalize an0.drop 3 = an at hma
      obtain ⟨k1, k2⟩ := ask23 an more hma
      refine ⟨k1, fun hh => ?_⟩
      obtain ⟨k3, k4⟩ := k2 hh
      refine ⟨k3, ?_⟩
      rw [k4]
    · subst g2
      have e1 : decide (Lib.index ([] : Str) [32, 61, 32] = 0) = false := decide_eq_false (index_nil (by simp))
      rw [e1, key _ (by simp [RS.must])]
      have e2 : numI (List.take (cutAt [[47]] (List.drop 3 ([] : Str))) (List.drop 3 ([] : Str))) = -1 := numI_nil
      rw [e2]
      have e3 : decide ((0 : Int) ≤ -1) = false := rfl
      rw [e3]
      simp

end Go.Proofs.YtljmonfobefiiaaGreatDoor

/- Plain laws: the asks of a line, the line, the whole story. -/
namespace Go.Proofs.YtljmonfobefiiaaGreatDoor
open Go.RowKit

theorem asks_eq : ∀ (f g : Nat) (rest : Str) (acc : List Ans), rest.length < f → rest.length < g →
    ((RS.asks g ⟨rest, false⟩).2.bad = true ∧ (refAsks f true rest acc = none ∨ ∃ x y, refAsks f true rest acc = some (false, x, y))) ∨
    ((RS.asks g ⟨rest, false⟩).2.bad = false ∧ refAsks f true rest acc = some (true, (RS.asks g ⟨rest, false⟩).2.rest, acc ++ (RS.asks g ⟨rest, false⟩).1))
  | 0, _, _, _, h, _ => by omega
  | _ + 1, 0, _, _, _, h => by omega
  | f + 1, g + 1, rest, acc, hf, hg => by
    by_cases hix : Lib.index rest [32, 91] = 0
    · have hhas : RS.has ⟨rest, false⟩ [32, 91] = true := by rw [has_index]; exact decide_eq_true hix
      have h2 : 2 ≤ rest.length := by
        have := Lib.index_room rest [32, 91] (by rw [hix]; omega)
        rw [hix] at this
        simp at this
        omega
      have hsk : RS.skip ⟨rest, false⟩ [32, 91] = ⟨rest.drop 2, false⟩ := by
        have h1 := (skip_rest ⟨rest, false⟩ [32, 91]).1
        simp only [hix, if_true] at h1
        unfold RS.skip at h1 ⊢
        simp only [] at h1 ⊢
        rw [h1]
        rfl
      rw [RS.asks_yes g ⟨rest, false⟩ rfl hhas, hsk]
      unfold refAsks
      rw [if_pos ⟨rfl, hix⟩]
      have hql : (rest.drop 2).length + 2 = rest.length := by simp; omega
      generalize rest.drop 2 = q0 at hql
      rcases mem_split 93 q0 with h | ⟨one, more, rfl, h⟩
      · have hb := askR_none ⟨q0, false⟩ h
        rw [cut1_notin h, List.drop_length, if_pos rfl, RS.asks_bad g _ hb]
        exact .inl ⟨hb, .inl rfl⟩
      · obtain ⟨k1, k2⟩ := askR_some one more h
        rw [cut1_mem h, List.drop_left, if_neg (by simp), List.drop_succ_cons, List.drop_zero]
        cases hok : (refOne (one ++ 93 :: more)).2 with
        | false =>
          rw [hok] at k1
          have k1 : (RS.askR ⟨one ++ 93 :: more, false⟩).bad = true := by rw [k1]; rfl
          rw [RS.asks_bad g _ k1]
          refine .inl ⟨k1, .inr ?_⟩
          cases f with
          | zero => simp at hql; omega
          | succ f => exact ⟨_, _, by unfold refAsks; rw [if_neg (by simp)]⟩
        | true =>
          rw [hok] at k1
          obtain ⟨k3, k4⟩ := k2 hok
          have hR : RS.askR ⟨one ++ 93 :: more, false⟩ = ⟨more, false⟩ := by
            generalize RS.askR ⟨one ++ 93 :: more, false⟩ = r at k1 k3
            obtain ⟨a, b⟩ := r
            simp at k1 k3
            rw [k1, k3]
          rw [hR, k4]
          have hml : more.length < f ∧ more.length < g := by simp at hql; omega
          rcases asks_eq f g more (acc ++ [(refOne (one ++ 93 :: more)).1]) hml.1 hml.2 with ⟨j1, j2⟩ | ⟨j1, j2⟩
          · exact .inl ⟨j1, j2⟩
          · refine .inr ⟨j1, ?_⟩
            rw [j2]
            simp
    · have hhas : RS.has ⟨rest, false⟩ [32, 91] = false := by rw [has_index]; exact decide_eq_false hix
      rw [RS.asks_no (g + 1) ⟨rest, false⟩ hhas]
      refine .inr ⟨rfl, ?_⟩
      unfold refAsks
      rw [if_neg (fun h => hix h.2)]
      simp
theorem line_bad {i : Nat} {s : Str} (h : (lineR i s).bad = true) : line i s = none := by
  rw [line_eq]
  have : (lineEnd i s).bad = true := by
    unfold lineEnd lineA
    rw [RS.asks_bad _ _ h, tail_bad, h]
    rfl
  rw [this]
  rfl
theorem refLine_line (i : Nat) (s : Str) : refLine i s = line i s := by
  unfold refLine
  cases hp : Lib.hasPrefix s (head i) with
  | false =>
    rw [if_neg (by simp)]
    symm
    apply line_bad
    unfold lineR lineHead
    simp [RS.must, RS.until, RS.has, hp]
  | true =>
    rw [if_pos rfl]
    have hH : lineHead i s = ⟨s.drop (head i).length, false⟩ := by
      unfold lineHead
      simp [RS.must, RS.has, RS.skip, Lib.trimPrefix, hp]
    have hE : lineEv i s = parseEv ((s.drop (head i).length).take (cutAt evSeps (s.drop (head i).length))) := by
      unfold lineEv
      rw [hH]
      rfl
    have hR : lineR i s = ⟨(s.drop (head i).length).drop (cutAt evSeps (s.drop (head i).length)), !(lineEv i s).isSome⟩ := by
      unfold lineR
      rw [hH]
      simp [RS.must, RS.until]
    have hts : (s.drop (head i).length).length ≤ s.length := by simp
    unfold refRest
    generalize s.drop (head i).length = t at *
    have hyl : (t.drop (cutAt evSeps t)).length ≤ t.length := by simp
    generalize t.take (cutAt evSeps t) = x at *
    generalize t.drop (cutAt evSeps t) = y at *
    have hev := refEv_eq x
    cases hpe : parseEv x with
    | none =>
      have h2 : (refEv x).2 = false := by rw [hev.1, hpe]; rfl
      rw [h2]
      have h3 : refAsks (t.length + 1) false y [] = some (false, y, []) := by unfold refAsks; rw [if_neg (by simp)]
      rw [h3]
      simp only [refTail_false]
      symm
      apply line_bad
      rw [hR, hE, hpe]
      rfl
    | some e =>
      rw [hev.2 e hpe]
      simp only []
      have hA : lineA i s = RS.asks (s.length + 1) ⟨y, false⟩ := by
        unfold lineA
        rw [hR, hE, hpe]
        rfl
      rw [line_eq, hE, hpe]
      unfold lineEnd
      rw [hA, tail_bad]
      rcases asks_eq (t.length + 1) (s.length + 1) y [] (by omega) (by omega) with ⟨j1, j2 | ⟨a, b, j2⟩⟩ | ⟨j1, j2⟩
      · rw [j2, j1]
        rfl
      · rw [j2, j1]
        simp only [refTail_false]
        rfl
      · rw [j2, j1]
        simp only [Bool.false_or, Option.getD_some, List.nil_append]
        cases refTail i true (RS.asks (s.length + 1) ⟨y, false⟩).2.rest with
        | true => rfl
        | false => rfl
theorem refParse_story (s : Str) : refParse s = story s := refParse_eq refLine_line s

end Go.Proofs.YtljmonfobefiiaaGreatDoor
