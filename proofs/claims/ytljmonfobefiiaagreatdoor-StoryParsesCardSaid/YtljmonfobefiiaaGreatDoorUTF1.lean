import Derived.Test.YtljmonfobefiiaaGreatDoorUTG3
import Derived.Test.YtljmonfobefiiaaGreatDoorUTG6
import Derived.Test.YtljmonfobefiiaaGreatDoorUO
/- The reference: CompareQuestion, Get. -/
namespace Go.Proofs.YtljmonfobefiiaaGreatDoor
open Go.RowKit

theorem heap_ltT {w : World} {g : Nat} {o : Obj} (h : w.heap[g]? = some o) : g < w.heap.size := (Array.getElem?_eq_some_iff.1 h).1
set_option maxHeartbeats 1000000 in
set_option maxRecDepth 100000 in
theorem refCmpQ (x y : Qn) (w : World) : Calls Tryz.prog 96 #[.agg #[I x.node, I x.handler, I x.count, I x.kind, I x.index], .agg #[I y.node, I y.handler, I y.count, I y.kind, I y.index]] w fun e w' => e = .returned (I (x.cmp y)) ∧ Below w.heap.size w w' := by
  have hr := Lib.hid (show x.cmp y = lexL [x.node, x.handler, x.count, x.kind, x.index] [y.node, y.handler, y.count, y.kind, y.index] from rfl)
  have hk0 := Kp2.start w #[I x.node, I x.handler, I x.count, I x.kind, I x.index] #[I y.node, I y.handler, I y.count, I y.kind, I y.index] 58
  have hac := hk0.1.cell
  have hac' := hk0.2.1.cell
  go_enter Tryz.func96, Tryz.ntmps96
  go_wp2_with fail
  refine wp_region_ordN 6 [(0, true), (2, true), (1, false), (3, false), (4, false), (5, true)] (fun w' => (∀ j, w'.cell? ⟨w.heap.size, j, none⟩ = (#[I x.node, I x.handler, I x.count, I x.kind, I x.index] : Array Value)[j]?) ∧ (∀ j, w'.cell? ⟨w.heap.size + 1, j, none⟩ = (#[I y.node, I y.handler, I y.count, I y.kind, I y.index] : Array Value)[j]?)) (by kernel_rfl) rfl rfl (by kernel_rfl) (Kp2.S hk0.drew) ?_
  iterate 2 (refine wpOrd_take ?_ (by rfl) ?_ ?_; rotate_left; (intro w hSw; (try dsimp only at hSw); go_simp; try with_reducible rfl); (try simp only [Act.put, List.setIfInBounds_toArray, List.set_cons_zero, List.set_cons_succ]))
  refine wpOrd_move (fun K hK => ?_)
  go_simp
  go_at_call 111
  refine (questionKey _ _ _ _ _ _).mono ?_
  rintro e w1 ⟨g1, rfl, hg1, hb1, hB1⟩
  have kp1 := Kp2.call hk0.drew hB1
  refine hK.out _ _ (Kp2.S kp1) ?_
  clear hK K
  (try simp only [Act.put, List.setIfInBounds_toArray, List.set_cons_zero, List.set_cons_succ])
  refine wpOrd_move (fun K hK => ?_)
  go_simp
  go_at_call 111
  refine (questionKey _ _ _ _ _ _).mono ?_
  rintro e w2 ⟨g2, rfl, hg2, hb2, hB2⟩
  have kp2 := Kp2.call kp1 hB2
  refine hK.out _ _ (Kp2.S kp2) ?_
  clear hK K
  (try simp only [Act.put, List.setIfInBounds_toArray, List.set_cons_zero, List.set_cons_succ])
  have hb1' := (hB2.block _ (heap_ltT hb1)).trans hb1
  refine wpOrd_move (fun K hK => ?_)
  go_simp
  go_at_call 75
  refine (lists_any [x.node, x.handler, x.count, x.kind, x.index] [y.node, y.handler, y.count, y.kind, y.index] _ _ _ (IntSl.of_heap hb1' rfl rfl (by simp)) (IntSl.of_heap hb2 rfl rfl (by simp))).mono ?_
  rintro e w3 ⟨rfl, n, rfl⟩
  have kp3 := kp2.drewN n
  refine hK.out _ _ (Kp2.S kp3) ?_
  clear hK K
  (try simp only [Act.put, List.setIfInBounds_toArray, List.set_cons_zero, List.set_cons_succ])
  (refine wpOrd_take ?_ (by rfl) ?_ ?_; rotate_left; (intro w hSw; (try dsimp only at hSw); go_simp; try with_reducible rfl); (try simp only [Act.put, List.setIfInBounds_toArray, List.set_cons_zero, List.set_cons_succ]))
  refine wpOrd_nil ?_
  go_wp2_with fail
  refine NoPanic.normal ?_
  go_wp2_with fail
  go_ret
  exact ⟨ret_int hr.out.symm, kp3.2.2.1⟩

set_option maxHeartbeats 2000000 in
set_option maxRecDepth 100000 in
theorem refGet (l : List Ans) (ve va : Value) (q : Qn) (w : World) (ha : AnsSl w va l) :
    Calls Tryz.prog 61 #[.agg #[ve, va], .agg #[I q.node, I q.handler, I q.count, I q.kind, I q.index]] w fun e w' => e = .returned (I (getA l q)) ∧ Below w.heap.size w w' := by
  obtain ⟨ka, ca, rfl, hml⟩ := ha.open
  have hk0 := Kp2.start w #[ve, .slice ka l.length ca] #[I q.node, I q.handler, I q.count, I q.kind, I q.index] 32
  go_enter Tryz.func61, Tryz.ntmps61
  go_wp2_with fail
  go_loopw [5, 6] (fun n i wr => ∃ (k : Nat) (m : Int), k ≤ l.length ∧ i = .int .i64 k ∧ n = I m ∧ Hid (m = getA (l.take k) q) ∧ Kp2 w #[ve, .slice ka l.length ca] #[I q.node, I q.handler, I q.count, I q.kind, I q.index] wr) (fun _ i _ => l.length - (intOf i).toNat)
  case atStart => exact ⟨0, 0, by omega, rfl, rfl, Lib.hid rfl, ⟨(Blk.new _ _ _).alloc _, ⟨_, heap_alloc2_new w _ _⟩, (by repeat (first | exact Below.refl _ _ | assumption | refine Below.drew ?_ | refine below_drewN ?_ _ | refine Below.alloc ?_ (by simp <;> omega) _ | refine Below.setCell ?_ (by simp <;> omega) _)), by simp⟩⟩
  case round =>
    clear hk0
    obtain ⟨k, m, hk, rfl, rfl, Hm, hkp⟩ := hrel
    have hkpc := hkp.1.cell
    have hkpd := hkp.2.1.cell
    by_cases hlt : k < l.length
    · obtain ⟨b, o, rfl, hr⟩ := (ha.kept hkp.2.2.1 (Nat.le_refl _)).at (i := k) (x := l[k]) (by simp [hlt])
      have x0 : wr.cell? ⟨b, o + k * 6, none⟩ = _ := hr 0 _ rfl
      have x1 := hr 1 _ rfl
      have x2 := hr 2 _ rfl
      have x3 := hr 3 _ rfl
      have x4 := hr 4 _ rfl
      have x5 := hr 5 _ rfl
      have hgt := getA_snoc (l.take k) l[k] q
      rw [← List.take_succ_eq_append_getElem hlt] at hgt
      have Hgt := Lib.hid hgt
      clear hgt hr
      by_cases he : l[k].q = q
      · have hq : eqL [l[k].q.node, l[k].q.handler, l[k].q.count, l[k].q.kind, l[k].q.index] [q.node, q.handler, q.count, q.kind, q.index] = true := eqL_true (Qn.ints_inj.2 he)
        have He := Lib.hid he
        clear he
        go_wp2_with fail
        refine wp_region_ordN 8 [(0, true), (1, true), (2, true), (3, true), (4, true), (5, true), (6, true), (7, true)] (fun w' => ∀ a, w'.cell? a = wr.cell? a) (by kernel_rfl) rfl rfl (by kernel_rfl) (fun _ => rfl) ?_
        iterate 8 (refine wpOrd_take ?_ (by rfl) ?_ ?_; rotate_left; (intro w hSw; (try dsimp only at hSw); go_simp; try with_reducible rfl); (try simp only [Act.put, List.setIfInBounds_toArray, List.set_cons_zero, List.set_cons_succ]))
        refine wpOrd_nil ?_
        go_wp2_with fail
        refine NoPanic.normal ?_
        go_wp2_with fail
        go_roundw
        case rel => exact ⟨k + 1, _, by omega, by go_num, rfl, Lib.hid (by rw [Hgt.out, if_pos He.out] <;> first | rfl | (split <;> omega)), hkp.drew⟩
        case measure => simp [intOf]; omega
      · have hq : eqL [l[k].q.node, l[k].q.handler, l[k].q.count, l[k].q.kind, l[k].q.index] [q.node, q.handler, q.count, q.kind, q.index] = false := eqL_false (fun h => he (Qn.ints_inj.1 h))
        have He := Lib.hid he
        clear he
        go_wp2_with fail
        refine wp_region_ordN 8 [(0, true), (1, true), (2, true), (3, true), (4, true), (5, true), (6, true), (7, true)] (fun w' => ∀ a, w'.cell? a = wr.cell? a) (by kernel_rfl) rfl rfl (by kernel_rfl) (fun _ => rfl) ?_
        iterate 8 (refine wpOrd_take ?_ (by rfl) ?_ ?_; rotate_left; (intro w hSw; (try dsimp only at hSw); go_simp; try with_reducible rfl); (try simp only [Act.put, List.setIfInBounds_toArray, List.set_cons_zero, List.set_cons_succ]))
        refine wpOrd_nil ?_
        go_wp2_with fail
        refine NoPanic.normal ?_
        go_wp2_with fail
        go_roundw
        case rel => exact ⟨k + 1, _, by omega, by go_num, rfl, Lib.hid (by rw [Hgt.out, if_neg He.out, Hm.out]), hkp.drew⟩
        case measure => simp [intOf]; omega
    · have hke : k = l.length := by omega
      go_wp2
      go_ret
      refine ⟨ret_int ?_, hkp.2.2.1⟩
      rw [Hm.out, hke, List.take_of_length_le (by omega)]

end Go.Proofs.YtljmonfobefiiaaGreatDoor
