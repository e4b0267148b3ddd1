import Derived.Test.YtljmonfobefiiaaGreatDoorUTF1
import Derived.Test.YtljmonfobefiiaaGreatDoorUTG9
import Derived.Test.YtljmonfobefiiaaGreatDoorUTG11
/- The reference: Same. (Printed by mkF4.py, then gen.py.) -/
namespace Go.Proofs.YtljmonfobefiiaaGreatDoor
open Go.RowKit

theorem run_neq_Answer (a0 a1 a2 a3 a4 a5 b0 b1 b2 b3 b4 b5 : Int) (w : World) : (binOp .neq 78 (.agg #[I a0, I a1, I a2, I a3, I a4, I a5]) (.agg #[I b0, I b1, I b2, I b3, I b4, I b5])).run Tryz.prog w = .ok (.bool (!eqL [a0, a1, a2, a3, a4, a5] [b0, b1, b2, b3, b4, b5])) w := by
  simp [go_sem, eqL]
  repeat' split
  all_goals simp_all
attribute [local go_sem high] run_neq_Answer
theorem Ans.ints_inj {a b : Ans} : a.ints = b.ints ↔ a = b := by
  constructor
  · intro h
    obtain ⟨⟨_, _, _, _, _⟩, _⟩ := a
    obtain ⟨⟨_, _, _, _, _⟩, _⟩ := b
    simp [Ans.ints] at h
    simp [h]
  · intro h; rw [h]
theorem take_ext {α : Type} {l m : List α} (h : l.length = m.length) (hk : l.take l.length = m.take l.length) : l = m := by
  rw [List.take_of_length_le (Nat.le_refl _), List.take_of_length_le (by omega)] at hk
  exact hk
theorem ne_at {α : Type} {l m : List α} {k : Nat} {p q : α} (h1 : l[k]? = some p) (h2 : m[k]? = some q) (h : p ≠ q) : l ≠ m := fun e => h (by rw [e, h2] at h1; exact (Option.some.inj h1).symm)
theorem take_snoc {α : Type} {l : List α} {k : Nat} {p : α} (h : l[k]? = some p) : l.take (k + 1) = l.take k ++ [p] := by rw [List.take_add_one, h]; rfl

set_option maxHeartbeats 4000000 in
set_option maxRecDepth 100000 in
theorem sameF (e1 e2 : List Ev) (l1 l2 : List Ans) (ve1 va1 ve2 va2 : Value) (w : World) (he1 : EvSl w ve1 e1) (ha1 : AnsSl w va1 l1) (he2 : EvSl w ve2 e2) (ha2 : AnsSl w va2 l2) :
    Calls Tryz.prog 11 #[.agg #[ve1, va1], .agg #[ve2, va2]] w fun e w' => e = .returned (.bool (decide (e1 = e2) && decide (l1 = l2))) ∧ Below w.heap.size w w' := by
  obtain ⟨k1, c1, rfl, hm1⟩ := he1.open
  obtain ⟨k2, c2, rfl, hm2⟩ := he2.open
  obtain ⟨k3, c3, rfl, hm3⟩ := ha1.open
  obtain ⟨k4, c4, rfl, hm4⟩ := ha2.open
  have hk0 := Kp2.start w #[.slice k1 e1.length c1, .slice k3 l1.length c3] #[.slice k2 e2.length c2, .slice k4 l2.length c4] 32
  have He1 := Lib.hid he1
  have He2 := Lib.hid he2
  have Ha1 := Lib.hid ha1
  have Ha2 := Lib.hid ha2
  have hac := hk0.1.cell
  have hbc := hk0.2.1.cell
  have hB0 := hk0.2.2.1
  clear he1 he2 ha1 ha2
  by_cases hle : e1.length = e2.length
  · by_cases hla : l1.length = l2.length
    · obtain ⟨n1, hn1⟩ : ∃ n, n = e1.length := ⟨_, rfl⟩
      obtain ⟨n2, hn2⟩ : ∃ n, n = l1.length := ⟨_, rfl⟩
      have hn3 : e2.length = n1 := by omega
      have hn4 : l2.length = n2 := by omega
      rw [← hn1, ← hn2, hn3, hn4] at hk0 hac hbc hB0
      rw [← hn1, ← hn2, hn3, hn4]
      have He1' := He1.out
      have He2' := He2.out
      have Ha1' := Ha1.out
      have Ha2' := Ha2.out
      rw [← hn1] at He1' hm1
      rw [hn3] at He2' hm2
      rw [← hn2] at Ha1' hm3
      rw [hn4] at Ha2' hm4
      have HE1 := Lib.hid He1'
      have HE2 := Lib.hid He2'
      have HA1 := Lib.hid Ha1'
      have HA2 := Lib.hid Ha2'
      have Hn1 := Lib.hid hn1
      have Hn2 := Lib.hid hn2
      have Hn3 := Lib.hid hn3
      have Hn4 := Lib.hid hn4
      clear He1' He2' Ha1' Ha2' He1 He2 Ha1 Ha2 hle hla hn1 hn2 hn3 hn4
      go_enter Tryz.func11, Tryz.ntmps11
      go_wp2_with fail
      go_loopw [5] (fun i wr => ∃ k : Nat, k ≤ n1 ∧ i = .int .i64 k ∧ Hid (e1.take k = e2.take k) ∧ Kp2 w #[.slice k1 n1 c1, .slice k3 n2 c3] #[.slice k2 n1 c2, .slice k4 n2 c4] wr) (fun i _ => n1 - (intOf i).toNat)
      case atStart => exact ⟨0, by omega, rfl, Lib.hid (by simp), hk0⟩
      case round =>
        clear hk0 hac hbc hB0
        obtain ⟨k, hk, rfl, HT, hkp⟩ := hrel
        have hac := hkp.1.cell
        have hbc := hkp.2.1.cell
        by_cases hlt : k < n1
        · have h1 : k < e1.length := by rw [← Hn1.out]; exact hlt
          have h2 : k < e2.length := by rw [Hn3.out]; exact hlt
          obtain ⟨p, hp⟩ : ∃ p, e1[k]? = some p := ⟨_, List.getElem?_eq_getElem h1⟩
          obtain ⟨q, hq⟩ : ∃ q, e2[k]? = some q := ⟨_, List.getElem?_eq_getElem h2⟩
          obtain ⟨b, o, rfl, hr⟩ := EvSl.at (HE1.out.kept hkp.2.2.1 (Nat.le_refl _)) (i := k) (x := p) hp
          obtain ⟨b2, o2, rfl, hr2⟩ := EvSl.at (HE2.out.kept hkp.2.2.1 (Nat.le_refl _)) (i := k) (x := q) hq
          have x0 : wr.cell? ⟨b, o + k * 8, none⟩ = _ := hr 0 _ rfl
          have x1 := hr 1 _ rfl
          have x2 := hr 2 _ rfl
          have x3 := hr 3 _ rfl
          have x4 := hr 4 _ rfl
          have x5 := hr 5 _ rfl
          have x6 := hr 6 _ rfl
          have x7 := hr 7 _ rfl
          have y0 : wr.cell? ⟨b2, o2 + k * 8, none⟩ = _ := hr2 0 _ rfl
          have y1 := hr2 1 _ rfl
          have y2 := hr2 2 _ rfl
          have y3 := hr2 3 _ rfl
          have y4 := hr2 4 _ rfl
          have y5 := hr2 5 _ rfl
          have y6 := hr2 6 _ rfl
          have y7 := hr2 7 _ rfl
          have Hp := Lib.hid hp
          have Hq := Lib.hid hq
          clear hr hr2 h1 h2 hp hq
          by_cases he : p = q
          · have heq : eqL [p.kind, p.node, p.arg, p.msg.node, p.msg.handler, p.msg.count, p.msg.index, p.msg.copy] [q.kind, q.node, q.arg, q.msg.node, q.msg.handler, q.msg.count, q.msg.index, q.msg.copy] = true := eqL_true (Ev.ints_inj.2 he)
            have He := Lib.hid he
            clear he
            go_wp2_with fail
            refine wp_region_ordN 11 [(0, true), (1, true), (2, true), (3, true), (4, true), (5, true), (6, true), (7, true), (8, true), (9, true), (10, true)] (fun w' => ∀ a, w'.cell? a = wr.cell? a) (by kernel_rfl) rfl rfl (by kernel_rfl) (fun _ => rfl) ?_
            iterate 11 (refine wpOrd_take ?_ (by rfl) ?_ ?_; rotate_left; (intro w hSw; (try dsimp only at hSw); go_simp; try with_reducible rfl); (try simp only [Act.put, List.setIfInBounds_toArray, List.set_cons_zero, List.set_cons_succ]))
            refine wpOrd_nil ?_
            (try simp only [heq])
            go_wp2_with fail
            refine NoPanic.normal ?_
            go_wp2_with fail
            go_roundw
            case rel => exact ⟨k + 1, by omega, by go_num, Lib.hid (by rw [take_snoc Hp.out, take_snoc Hq.out, HT.out, He.out]), hkp.drew⟩
            case measure => simp [intOf]; omega
          · have heq : eqL [p.kind, p.node, p.arg, p.msg.node, p.msg.handler, p.msg.count, p.msg.index, p.msg.copy] [q.kind, q.node, q.arg, q.msg.node, q.msg.handler, q.msg.count, q.msg.index, q.msg.copy] = false := eqL_false (fun h => he (Ev.ints_inj.1 h))
            have He := Lib.hid he
            clear he
            go_wp2_with fail
            refine wp_region_ordN 11 [(0, true), (1, true), (2, true), (3, true), (4, true), (5, true), (6, true), (7, true), (8, true), (9, true), (10, true)] (fun w' => ∀ a, w'.cell? a = wr.cell? a) (by kernel_rfl) rfl rfl (by kernel_rfl) (fun _ => rfl) ?_
            iterate 11 (refine wpOrd_take ?_ (by rfl) ?_ ?_; rotate_left; (intro w hSw; (try dsimp only at hSw); go_simp; try with_reducible rfl); (try simp only [Act.put, List.setIfInBounds_toArray, List.set_cons_zero, List.set_cons_succ]))
            refine wpOrd_nil ?_
            (try simp only [heq])
            go_wp2_with fail
            refine NoPanic.normal ?_
            go_wp2_with fail
            go_ret
            refine ⟨ret_bool ?_, hkp.2.2.1.drew⟩
            rw [decide_eq_false (ne_at Hp.out Hq.out He.out), Bool.false_and]
        · obtain rfl : k = n1 := by omega
          obtain ⟨wo, rfl⟩ : ∃ wo, wo = wr := ⟨_, rfl⟩
          have HEQ := Lib.hid (show e1 = e2 from take_ext (by rw [← Hn1.out, Hn3.out]) (by rw [← Hn1.out]; exact HT.out))
          have Hkp := Lib.hid hkp
          clear hkp HT
          go_wp2_with fail
          go_loopw [6] (fun i wr => ∃ m : Nat, m ≤ n2 ∧ i = .int .i64 m ∧ Hid (l1.take m = l2.take m) ∧ Kp2 w #[.slice k1 k c1, .slice k3 n2 c3] #[.slice k2 k c2, .slice k4 n2 c4] wr) (fun i _ => n2 - (intOf i).toNat)
          case atStart => exact ⟨0, by omega, rfl, Lib.hid (by simp), Hkp.out⟩
          case round =>
            clear Hkp hac hbc
            obtain ⟨j, hj, rfl, HT, hkp⟩ := hrel
            have hac := hkp.1.cell
            have hbc := hkp.2.1.cell
            by_cases hlt : j < n2
            · have h1 : j < l1.length := by rw [← Hn2.out]; exact hlt
              have h2 : j < l2.length := by rw [Hn4.out]; exact hlt
              obtain ⟨p, hp⟩ : ∃ p, l1[j]? = some p := ⟨_, List.getElem?_eq_getElem h1⟩
              obtain ⟨q, hq⟩ : ∃ q, l2[j]? = some q := ⟨_, List.getElem?_eq_getElem h2⟩
              obtain ⟨b, o, rfl, hr⟩ := AnsSl.at (HA1.out.kept hkp.2.2.1 (Nat.le_refl _)) (i := j) (x := p) hp
              obtain ⟨b2, o2, rfl, hr2⟩ := AnsSl.at (HA2.out.kept hkp.2.2.1 (Nat.le_refl _)) (i := j) (x := q) hq
              have x0 : wr.cell? ⟨b, o + j * 6, none⟩ = _ := hr 0 _ rfl
              have x1 := hr 1 _ rfl
              have x2 := hr 2 _ rfl
              have x3 := hr 3 _ rfl
              have x4 := hr 4 _ rfl
              have x5 := hr 5 _ rfl
              have y0 : wr.cell? ⟨b2, o2 + j * 6, none⟩ = _ := hr2 0 _ rfl
              have y1 := hr2 1 _ rfl
              have y2 := hr2 2 _ rfl
              have y3 := hr2 3 _ rfl
              have y4 := hr2 4 _ rfl
              have y5 := hr2 5 _ rfl
              have Hp := Lib.hid hp
              have Hq := Lib.hid hq
              clear hr hr2 h1 h2 hp hq
              by_cases he : p = q
              · have heq : eqL [p.q.node, p.q.handler, p.q.count, p.q.kind, p.q.index, p.n] [q.q.node, q.q.handler, q.q.count, q.q.kind, q.q.index, q.n] = true := eqL_true (Ans.ints_inj.2 he)
                have He := Lib.hid he
                clear he
                go_wp2_with fail
                refine wp_region_ordN 11 [(0, true), (1, true), (2, true), (3, true), (4, true), (5, true), (6, true), (7, true), (8, true), (9, true), (10, true)] (fun w' => ∀ a, w'.cell? a = wr.cell? a) (by kernel_rfl) rfl rfl (by kernel_rfl) (fun _ => rfl) ?_
                iterate 11 (refine wpOrd_take ?_ (by rfl) ?_ ?_; rotate_left; (intro w hSw; (try dsimp only at hSw); go_simp; try with_reducible rfl); (try simp only [Act.put, List.setIfInBounds_toArray, List.set_cons_zero, List.set_cons_succ]))
                refine wpOrd_nil ?_
                (try simp only [heq])
                go_wp2_with fail
                refine NoPanic.normal ?_
                go_wp2_with fail
                go_roundw
                case rel => exact ⟨j + 1, by omega, by go_num, Lib.hid (by rw [take_snoc Hp.out, take_snoc Hq.out, HT.out, He.out]), hkp.drew⟩
                case measure => simp [intOf]; omega
              · have heq : eqL [p.q.node, p.q.handler, p.q.count, p.q.kind, p.q.index, p.n] [q.q.node, q.q.handler, q.q.count, q.q.kind, q.q.index, q.n] = false := eqL_false (fun h => he (Ans.ints_inj.1 h))
                have He := Lib.hid he
                clear he
                go_wp2_with fail
                refine wp_region_ordN 11 [(0, true), (1, true), (2, true), (3, true), (4, true), (5, true), (6, true), (7, true), (8, true), (9, true), (10, true)] (fun w' => ∀ a, w'.cell? a = wr.cell? a) (by kernel_rfl) rfl rfl (by kernel_rfl) (fun _ => rfl) ?_
                iterate 11 (refine wpOrd_take ?_ (by rfl) ?_ ?_; rotate_left; (intro w hSw; (try dsimp only at hSw); go_simp; try with_reducible rfl); (try simp only [Act.put, List.setIfInBounds_toArray, List.set_cons_zero, List.set_cons_succ]))
                refine wpOrd_nil ?_
                (try simp only [heq])
                go_wp2_with fail
                refine NoPanic.normal ?_
                go_wp2_with fail
                go_ret
                refine ⟨ret_bool ?_, hkp.2.2.1.drew⟩
                rw [decide_eq_false (ne_at Hp.out Hq.out He.out), Bool.and_false]
            · obtain rfl : j = n2 := by omega
              go_wp2_with fail
              go_ret
              refine ⟨ret_bool ?_, hkp.2.2.1⟩
              rw [decide_eq_true HEQ.out, decide_eq_true (take_ext (by rw [← Hn2.out, Hn4.out]) (by rw [← Hn2.out]; exact HT.out))]
              rfl
    · have q2 : ¬ ((l1.length : Int) = l2.length) := by omega
      rw [hle] at hac hB0
      rw [hle]
      go_enter Tryz.func11, Tryz.ntmps11
      go_wp2_with fail
      go_ret
      refine ⟨ret_bool ?_, hB0⟩
      rw [decide_eq_false (show ¬ l1 = l2 from fun e => hla (by rw [e])), Bool.and_false]
  · have q1 : ¬ ((e1.length : Int) = e2.length) := by omega
    go_enter Tryz.func11, Tryz.ntmps11
    go_wp2_with fail
    go_ret
    refine ⟨ret_bool ?_, hB0⟩
    rw [decide_eq_false (show ¬ e1 = e2 from fun e => hle (by rw [e])), Bool.false_and]

end Go.Proofs.YtljmonfobefiiaaGreatDoor

/- tape.Parts; slices.Equal, maps.Equal, tape.Equal. -/
namespace Go.Proofs.YtljmonfobefiiaaGreatDoor
open Go.RowKit Go.Maps

end Go.Proofs.YtljmonfobefiiaaGreatDoor

/- The plain law of With: the answers, and how many there are. -/
namespace Go.Proofs.YtljmonfobefiiaaGreatDoor

end Go.Proofs.YtljmonfobefiiaaGreatDoor
