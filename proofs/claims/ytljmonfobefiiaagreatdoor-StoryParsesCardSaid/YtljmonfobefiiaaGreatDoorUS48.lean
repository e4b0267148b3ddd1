import Derived.Test.YtljmonfobefiiaaGreatDoorUS45
import Derived.Test.YtljmonfobefiiaaGreatDoorUBase
import Derived.Laws.BytesArg
/- The reference's Short and Broken: strings that are not much longer. -/
namespace Go.Proofs.YtljmonfobefiiaaGreatDoor
open Go.RowKit

set_option maxHeartbeats 1000000 in
theorem shortC (s : Str) (w : World) (hs : s.length ≤ 9223372036854775807) :
    Calls Tryz.prog 7 #[sv s, I 100] w fun e w' => (∃ t : Str, e = .returned (sv t) ∧ t.length ≤ 100) ∧ w = w' := by
  unfold sv
  by_cases h : 100 < s.length
  · have h1 : (100 : Int) < s.length := by omega
    go_enter Tryz.func7, Tryz.ntmps7
    go_wp2_with fail
    go_ret
    exact ⟨⟨s.take 100, congrArg (fun x => Ending.returned (Value.string x)) (ext_take s 100), by rw [List.length_take]; omega⟩, rfl⟩
  · have h1 : ¬ (100 : Int) < s.length := by omega
    go_enter Tryz.func7, Tryz.ntmps7
    go_wp2_with fail
    go_ret
    exact ⟨⟨s, rfl, by omega⟩, rfl⟩

set_option maxHeartbeats 4000000 in
set_option maxRecDepth 100000 in
theorem brokenC (s : Str) (at_ how c : Int) (w : World) (hs : s.length ≤ 1000000) (ha : InI64 at_) (hh : InI64 how) (hc : 0 ≤ c ∧ c ≤ 255) :
    Calls Tryz.prog 8 #[sv s, I at_, I how, .int .u8 c] w fun e w' => (∃ t : Str, e = .returned (sv t) ∧ t.length ≤ s.length + 1) ∧ Below w.heap.size w w' := by
  have Ha1 := Lib.hid (around_any at_ (s.length + 1) w (by omega) ha.1 ha.2)
  obtain ⟨h0, h1⟩ := around_range at_ (s.length + 1) (by omega)
  obtain ⟨k, hk⟩ : ∃ k : Nat, around at_ (s.length + 1) = k := ⟨(around at_ (s.length + 1)).toNat, by omega⟩
  rw [hk] at Ha1 h0 h1
  have Ha2 := Lib.hid (fun X => around_any how 4 X (by omega) hh.1 hh.2)
  obtain ⟨g0, g1⟩ := around_range how 4 (by omega)
  generalize around how 4 = m at Ha2 g0 g1
  clear hk
  obtain ⟨c', rfl⟩ : ∃ c' : Nat, c = c' := ⟨c.toNat, by omega⟩
  have hconv : (convert 62 9 (.slice (some ⟨w.heap.size, 0, none⟩) 1 1)).run Tryz.prog (w.alloc (.cells #[.int .u8 c'] 5)) = .ok (.string (strOfNums [(c' : Int)])) (w.alloc (.cells #[.int .u8 c'] 5)) :=
    run_convert_bytes_arg _ 62 5 Tryz.underlying62 Tryz.underlying5 w.heap.size 0 1 1 [(c' : Int)] rfl (fun i hi => by
      obtain rfl : i = 0 := by omega
      exact (Blk.new w #[.int .u8 (c' : Int)] 5).cell 0) 9 Tryz.underlying9
  obtain ⟨b, hb, hbl⟩ : ∃ b : Str, strOfNums [(c' : Int)] = ⟨b.toArray⟩ ∧ b.length = 1 := ⟨[UInt8.ofNat (c' : Int).toNat], rfl, rfl⟩
  rw [hb] at hconv
  clear hb
  have hB : Below w.heap.size w (w.alloc (.cells #[.int .u8 (c' : Int)] 5)) := (Below.refl _ _).alloc (Nat.le_refl _) _
  have HB := Lib.hid hB
  clear hB
  obtain ⟨p, he1, hpl⟩ : ∃ p : Str, (⟨s.toArray⟩ : ByteArray).extract 0 k = ⟨p.toArray⟩ ∧ p.length ≤ k := ⟨s.take k, ext_take s k, by rw [List.length_take]; omega⟩
  obtain ⟨q, he2, hql⟩ : ∃ q : Str, (⟨s.toArray⟩ : ByteArray).extract (k + 1) s.length = ⟨q.toArray⟩ ∧ q.length = s.length - (k + 1) := ⟨s.drop (k + 1), ext_drop s (k + 1), by rw [List.length_drop]⟩
  obtain ⟨r, he3, hrl⟩ : ∃ r : Str, (⟨s.toArray⟩ : ByteArray).extract k s.length = ⟨r.toArray⟩ ∧ r.length = s.length - k := ⟨s.drop k, ext_drop s k, by rw [List.length_drop]⟩
  have Hpl := Lib.hid hpl
  have Hql := Lib.hid hql
  have Hrl := Lib.hid hrl
  have Hbl := Lib.hid hbl
  have l1 : ¬ 9223372036854775807 < s.length + b.length := by omega
  have l2 : ¬ 9223372036854775807 < p.length + b.length := by omega
  have l3 : ¬ 9223372036854775807 < p.length + b.length + q.length := by omega
  have l4 : ¬ 9223372036854775807 < p.length + q.length := by omega
  have l5 : ¬ 9223372036854775807 < p.length + b.length + r.length := by omega
  clear hpl hql hrl hbl
  unfold sv
  by_cases hks : k = s.length
  · have hksI : ((k : Int) == (s.length : Int)) = true := by rw [hks]; simp
    have Hks := Lib.hid hks
    clear hks h0 h1
    go_enter Tryz.func8, Tryz.ntmps8
    go_wp2_with (go_at_call 13; refine Ha1.out.mono ?_; rintro e w1 ⟨rfl, rfl⟩)
    go_ret
    exact ⟨⟨s ++ b, congrArg (fun x => Ending.returned (Value.string x)) (ba_app s b), by rw [List.length_append, Hbl.out]; exact Nat.le_refl _⟩, HB.out⟩
  · have hksI : ((k : Int) == (s.length : Int)) = false := by rw [beq_eq_false_iff_ne]; omega
    have hkl : k < s.length := by omega
    have hklI : (k : Int) + 1 ≤ s.length := by omega
    have hkl1 : k ≤ s.length := by omega
    have hklI1 : (k : Int) ≤ s.length := by omega
    have hkl2 : k + 1 ≤ s.length := by omega
    have hwr : IntKind.i64.wrap ((k : Int) + 1) = (k : Int) + 1 := IntWalk.i64_in _ ⟨by omega, by omega⟩
    have hwr0 : (0 : Int) ≤ (k : Int) + 1 := by omega
    have htn : ((k : Int) + 1).toNat = k + 1 := by omega
    clear hks h1
    have HBd := Lib.hid HB.out.drew
    go_enter Tryz.func8, Tryz.ntmps8
    go_upto_region 5 with (go_at_call 13; refine Ha1.out.mono ?_; rintro e w1 ⟨rfl, rfl⟩)
    rcases (show m = 0 ∨ m = 1 ∨ m = 2 ∨ m = 3 by omega) with rfl | rfl | rfl | rfl
    · go_wp2_with (go_at_call 13; refine (Ha2.out _).mono ?_; rintro e w2 ⟨rfl, rfl⟩)
      refine wp_region_ordN 9 [(0, true), (1, true), (2, true), (3, true), (4, true), (5, true), (6, true), (7, true), (8, true)] (fun _ => True) (by kernel_rfl) rfl rfl (by kernel_rfl) trivial ?_
      iterate 9 (refine wpOrd_take ?_ (by rfl) ?_ ?_; rotate_left; (intro w hSw; (try dsimp only at hSw); go_simp; try with_reducible rfl); (try simp only [Act.put, List.setIfInBounds_toArray, List.set_cons_zero, List.set_cons_succ]))
      refine wpOrd_nil ?_
      go_wp2_with fail
      refine NoPanic.normal ?_
      go_wp2_with fail
      go_ret
      exact ⟨⟨p ++ b ++ q, congrArg (fun x => Ending.returned (Value.string x)) (by rw [ba_app, ba_app]), by rw [List.length_append, List.length_append, Hbl.out, Hql.out]; have := Hpl.out; omega⟩, HBd.out⟩
    · go_wp2_with (go_at_call 13; refine (Ha2.out _).mono ?_; rintro e w2 ⟨rfl, rfl⟩)
      refine wp_region_ordN 7 [(0, true), (1, true), (2, true), (3, true), (4, true), (5, true), (6, true)] (fun _ => True) (by kernel_rfl) rfl rfl (by kernel_rfl) trivial ?_
      iterate 7 (refine wpOrd_take ?_ (by rfl) ?_ ?_; rotate_left; (intro w hSw; (try dsimp only at hSw); go_simp; try with_reducible rfl); (try simp only [Act.put, List.setIfInBounds_toArray, List.set_cons_zero, List.set_cons_succ]))
      refine wpOrd_nil ?_
      go_wp2_with fail
      refine NoPanic.normal ?_
      go_wp2_with fail
      go_ret
      exact ⟨⟨p ++ q, congrArg (fun x => Ending.returned (Value.string x)) (by rw [ba_app]), by rw [List.length_append, Hql.out]; have := Hpl.out; omega⟩, HBd.out⟩
    · go_wp2_with (go_at_call 13; refine (Ha2.out _).mono ?_; rintro e w2 ⟨rfl, rfl⟩)
      go_ret
      exact ⟨⟨p, rfl, by have := Hpl.out; omega⟩, HB.out⟩
    · go_wp2_with (go_at_call 13; refine (Ha2.out _).mono ?_; rintro e w2 ⟨rfl, rfl⟩)
      refine wp_region_ordN 8 [(0, true), (1, true), (2, true), (3, true), (4, true), (5, true), (6, true), (7, true)] (fun _ => True) (by kernel_rfl) rfl rfl (by kernel_rfl) trivial ?_
      iterate 8 (refine wpOrd_take ?_ (by rfl) ?_ ?_; rotate_left; (intro w hSw; (try dsimp only at hSw); go_simp; try with_reducible rfl); (try simp only [Act.put, List.setIfInBounds_toArray, List.set_cons_zero, List.set_cons_succ]))
      refine wpOrd_nil ?_
      go_wp2_with fail
      refine NoPanic.normal ?_
      go_wp2_with fail
      go_ret
      exact ⟨⟨p ++ b ++ r, congrArg (fun x => Ending.returned (Value.string x)) (by rw [ba_app, ba_app]), by rw [List.length_append, List.length_append, Hbl.out, Hrl.out]; have := Hpl.out; omega⟩, HBd.out⟩

end Go.Proofs.YtljmonfobefiiaaGreatDoor
