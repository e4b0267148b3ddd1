/- slices.Index, slices.Contains (ints). -/
import Derived.Test.YtjdhcdbjfbhogaaG1
namespace Go.Proofs.Ytjdhcdbjfbhogaa
open Go.RowKit

set_option maxHeartbeats 400000 in
theorem index_any (l : List Int) (n : Int) (v : Value) (w : World) (hl : IntSl w v l) :
    Calls Try.prog 87 #[v, I n] w fun e w' => (∃ i : Int, e = .returned (I i) ∧ (0 ≤ i ↔ n ∈ l)) ∧ w = w' := by
  obtain ⟨ka, ca, rfl, hml⟩ := hl.open
  go_enter Try.func87, Try.ntmps87
  go_wp2
  go_loop [8] (fun i => ∃ k : Nat, k ≤ l.length ∧ i = .int .i64 k ∧ (∀ j < k, l[j]? ≠ some n)) (fun i => l.length - (intOf i).toNat)
  case atStart => exact ⟨0, by omega, rfl, fun j hj => absurd hj (by omega)⟩
  case round =>
    obtain ⟨k, hk, rfl, hE⟩ := hrel
    have HE := Lib.hid hE
    clear hE
    by_cases hlt : k < l.length
    · obtain ⟨b, o, rfl, x0⟩ := hl.at (i := k) (x := l[k]) (by simp [hlt])
      by_cases hx : n = l[k]
      · have Hx := Lib.hid hx
        have hq : (n == l[k]) = true := by simp [hx]
        clear hx
        go_wp2
        go_ret
        refine ⟨⟨k, rfl, ?_⟩, rfl⟩
        rw [Hx.out]
        simp
      · have Hx := Lib.hid hx
        have hq : (n == l[k]) = false := by simp [hx]
        clear hx
        go_wp2
        go_round
        case rel =>
          refine ⟨k + 1, by omega, by go_num, ?_⟩
          intro j hj
          by_cases hjk : j = k
          · subst hjk
            have := Hx.out
            simp [hlt]
            omega
          · exact HE.out j (by omega)
        case measure => simp [intOf]; omega
    · go_wp2
      go_ret
      refine ⟨⟨-1, rfl, ?_⟩, rfl⟩
      constructor
      · intro h; omega
      · intro h
        obtain ⟨j, hj⟩ := List.mem_iff_getElem?.1 h
        exact absurd hj (HE.out j (by have := (List.getElem?_eq_some_iff.1 hj).1; omega))

theorem contains_any (l : List Int) (n : Int) (v : Value) (w : World) (hl : IntSl w v l) :
    Calls Try.prog 73 #[v, I n] w fun e w' => e = .returned (.bool (decide (n ∈ l))) ∧ w = w' := by
  obtain ⟨ka, ca, rfl, hml⟩ := hl.open
  have Hi := Lib.hid (index_any l n _ w hl)
  clear hl
  go_enter Try.func73, Try.ntmps73
  go_wp2_with (go_at_call 87; refine Hi.out.mono ?_; rintro e w1 ⟨⟨i, rfl, hi⟩, rfl⟩; have Hx := Lib.hid hi; clear hi)
  go_ret
  refine ⟨ret_bool ?_, rfl⟩
  rw [decide_eq_decide]
  exact Hx.out
end Go.Proofs.Ytjdhcdbjfbhogaa
