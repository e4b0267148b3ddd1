/- The reference: Few, SameBytes. -/
import Derived.Test.YtjdhcdbjfbhogaaW3
import Derived.Test.YtjdhcdbjfbhogaaQ3
import Derived.Test.YtjdhcdbjfbhogaaF4
namespace Go.Proofs.Ytjdhcdbjfbhogaa
open Go.RowKit

theorem Flat.takeO {w : World} {k n m c c' : Nat} {a : Option Addr} {xs : List Value} (h : Flat w k (.slice a m c) n xs) {j : Nat} (hj : j ≤ n) : Flat w k (.slice a j c') j (xs.take (j * k)) := by
  obtain ⟨hl, hm, a', c2, hv, hr⟩ := h
  simp at hv
  obtain ⟨rfl, rfl, rfl⟩ := hv
  refine ⟨?_, by omega, _, _, rfl, fun i u hu => hr i u ?_⟩
  · rw [List.length_take, hl]
    have := Nat.mul_le_mul_right k hj
    omega
  · rw [List.getElem?_take] at hu
    split at hu
    · exact hu
    · cases hu
set_option maxHeartbeats 2000000 in
set_option maxRecDepth 100000 in
theorem fewC (l : List Int) (k : Option Addr) (c : Nat) (w : World) (h : BySl w (.slice k l.length c) l) (hc : l.length ≤ c) :
    Calls Try.prog 19 #[.slice k l.length c, I 80] w fun e w' => ∃ u, e = .returned u ∧ w'.ownsRow w.heap.size 5 1 u (l.take 80).length (bv (l.take 80)) ∧ Below w.heap.size w w' := by
  have hml := Flat.open h
  obtain ⟨_, _, _, hml⟩ := hml
  have hm : (min (l.length : Int) 80).toNat = (l.take 80).length := by rw [List.length_take]; omega
  have hsrc : Flat w 1 (.slice k (min (l.length : Int) 80).toNat c) (l.take 80).length (bv (l.take 80)) := by
    have h1 := Flat.takeO (c' := c) (show Flat w 1 (.slice k l.length c) l.length (bv l) from h) (j := (l.take 80).length) (by rw [List.length_take]; omega)
    rw [hm]
    have e : (bv l).take ((l.take 80).length * 1) = bv (l.take 80) := by
      unfold bv
      rw [Nat.mul_one, List.length_take, ← List.map_take, ← List.take_eq_take_min]
    rw [← e]
    exact h1
  have hl8 : (l.take 80).length ≤ 80 := by rw [List.length_take]; omega
  have Hs := Lib.hid hsrc
  obtain ⟨n, hn⟩ : ∃ n, n = l.length := ⟨_, rfl⟩
  rw [← hn] at Hs hc hml ⊢
  generalize l.take 80 = lt at Hs hl8 ⊢
  clear hn hsrc hm h
  go_enter Try.func19, Try.ntmps19
  go_wp2_with (at_builtin; go_must (refine wpList_appG rfl _ _ 30 rfl 5 _ 1 1 Try.underlying30 info5 rfl (by omega) (by omega) w.heap.size (.slice none 0 0) 0 [] rfl (World.ownsRow_nil _ _ _ _) (.slice k (min (n : Int) 80).toNat c) rfl lt.length (bv lt) Hs.out (bv_one lt) (by omega) (Nat.le_refl _) ?_); intro u w1 hown hgr hB1)
  go_ret
  rw [Nat.zero_add, List.nil_append] at hown
  exact ⟨_, rfl, hown, hB1⟩

set_option maxHeartbeats 4000000 in
set_option maxRecDepth 100000 in
theorem sameBy (e1 e2 : List Int) (v1 v2 : Value) (w : World) (he1 : BySl w v1 e1) (he2 : BySl w v2 e2) :
    Calls Try.prog 14 #[v1, v2] w fun e w' => e = .returned (.bool (decide (e1 = e2))) ∧ Below w.heap.size w w' := by
  obtain ⟨k1, c1, rfl, hm1⟩ := he1.open
  obtain ⟨k2, c2, rfl, hm2⟩ := he2.open
  by_cases hle : e1.length = e2.length
  · obtain ⟨n1, hn1⟩ : ∃ n, n = e1.length := ⟨_, rfl⟩
    have hn3 : e2.length = n1 := by omega
    rw [← hn1] at he1 hm1
    rw [hn3] at he2 hm2
    rw [← hn1, hn3]
    have HE1 := Lib.hid he1
    have HE2 := Lib.hid he2
    have Hn1 := Lib.hid hn1
    have Hn3 := Lib.hid hn3
    clear he1 he2 hle hn1 hn3
    go_enter Try.func14, Try.ntmps14
    go_wp2_with fail
    go_loopw [5] (fun i wr => ∃ k : Nat, k ≤ n1 ∧ i = .int .i64 k ∧ Hid (e1.take k = e2.take k) ∧ Below w.heap.size w wr) (fun i _ => n1 - (intOf i).toNat)
    case atStart => exact ⟨0, by omega, rfl, Lib.hid (by simp), Below.refl _ _⟩
    case round =>
      obtain ⟨k, hk, rfl, HT, hB⟩ := hrel
      by_cases hlt : k < n1
      · have h1 : k < e1.length := by rw [← Hn1.out]; exact hlt
        have h2 : k < e2.length := by rw [Hn3.out]; exact hlt
        obtain ⟨p, hp⟩ : ∃ p, e1[k]? = some p := ⟨_, List.getElem?_eq_getElem h1⟩
        obtain ⟨q, hq⟩ : ∃ q, e2[k]? = some q := ⟨_, List.getElem?_eq_getElem h2⟩
        obtain ⟨b, o, rfl, x0⟩ := BySl.at (HE1.out.kept hB (Nat.le_refl _)) (i := k) (x := p) hp
        obtain ⟨b2, o2, rfl, y0⟩ := BySl.at (HE2.out.kept hB (Nat.le_refl _)) (i := k) (x := q) hq
        have Hp := Lib.hid hp
        have Hq := Lib.hid hq
        clear h1 h2 hp hq
        by_cases he : p = q
        · have He := Lib.hid he
          subst he
          go_wp2_with fail
          refine wp_region_ordN 9 [(0, true), (1, true), (2, true), (3, true), (4, true), (5, true), (6, true), (7, true), (8, true)] (fun w' => ∀ a, w'.cell? a = wr.cell? a) (by kernel_rfl) rfl rfl (by kernel_rfl) (fun _ => rfl) ?_
          iterate 9 (refine wpOrd_take ?_ (by rfl) ?_ ?_; rotate_left; (intro w hSw; (try dsimp only at hSw); go_simp; try with_reducible rfl); (try simp only [Act.put, List.setIfInBounds_toArray, List.set_cons_zero, List.set_cons_succ]))
          refine wpOrd_nil ?_
          go_wp2_with fail
          refine NoPanic.normal ?_
          go_wp2_with fail
          go_roundw
          case rel => exact ⟨k + 1, by omega, by go_num, Lib.hid (by rw [take_snoc Hp.out, take_snoc Hq.out, HT.out]), hB.drew⟩
          case measure => simp [intOf]; omega
        · go_wp2_with fail
          refine wp_region_ordN 9 [(0, true), (1, true), (2, true), (3, true), (4, true), (5, true), (6, true), (7, true), (8, true)] (fun w' => ∀ a, w'.cell? a = wr.cell? a) (by kernel_rfl) rfl rfl (by kernel_rfl) (fun _ => rfl) ?_
          iterate 9 (refine wpOrd_take ?_ (by rfl) ?_ ?_; rotate_left; (intro w hSw; (try dsimp only at hSw); go_simp; try with_reducible rfl); (try simp only [Act.put, List.setIfInBounds_toArray, List.set_cons_zero, List.set_cons_succ]))
          refine wpOrd_nil ?_
          go_wp2_with fail
          refine NoPanic.normal ?_
          go_wp2_with fail
          go_ret
          refine ⟨ret_bool ?_, hB.drew⟩
          rw [decide_eq_false (ne_at Hp.out Hq.out he)]
      · obtain rfl : k = n1 := by omega
        go_wp2_with fail
        go_ret
        refine ⟨ret_bool ?_, hB⟩
        rw [decide_eq_true (take_ext (by rw [← Hn1.out, Hn3.out]) (by rw [← Hn1.out]; exact HT.out))]
  · have q1 : ¬ ((e1.length : Int) = e2.length) := by omega
    go_enter Try.func14, Try.ntmps14
    go_wp2_with fail
    go_ret
    refine ⟨ret_bool ?_, Below.refl _ _⟩
    rw [decide_eq_false (show ¬ e1 = e2 from fun e => hle (by rw [e]))]

end Go.Proofs.Ytjdhcdbjfbhogaa
