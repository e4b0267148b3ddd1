/- The reference's wire: Uint, Zigzag, Int, numbers. -/
import Derived.Test.YtjdhcdbjfbhogaaW6
namespace Go.Proofs.Ytjdhcdbjfbhogaa
open Go.RowKit

/-- A row of bytes of the call's own. -/
def Bytes (w : World) (B : Nat) (v : Value) (xs : List Int) : Prop := w.ownsRow B 5 1 v xs.length (bv xs)
theorem Bytes.push {w : World} {B N : Nat} {xs : List Int} {u : Value} {x : Int} (hN : N = xs.length) (h : w.ownsRow B 5 1 u (N + 1) (bv xs ++ #[.int .u8 x].toList)) : Bytes w B u (xs ++ [x]) := by
  subst hN
  unfold Bytes
  simpa [bv] using h
theorem Bytes.join {w : World} {B N M : Nat} {xs ys : List Int} {u : Value} (hN : N = xs.length) (hM : M = ys.length) (h : w.ownsRow B 5 1 u (N + M) (bv xs ++ bv ys)) : Bytes w B u (xs ++ ys) := by
  subst hN hM
  unfold Bytes
  rw [List.length_append, bv_append]
  exact h
theorem Bytes.below {w w' : World} {B : Nat} {v : Value} {xs : List Int} (h : Bytes w B v xs) (hb : Below w.heap.size w w') : Bytes w' B v xs := owns_below h hb
theorem Bytes.open {w : World} {B : Nat} {v : Value} {xs : List Int} (h : Bytes w B v xs) : ∃ k c, v = .slice k xs.length c := by
  obtain ⟨k, c, e, _⟩ := (Flat.of_owns h).open
  exact ⟨k, c, e⟩
theorem Bytes.open' {w : World} {B : Nat} {v : Value} {xs : List Int} (h : Bytes w B v xs) : ∃ k N c, v = .slice k N c ∧ Hid (N = xs.length) := by
  obtain ⟨k, c, e⟩ := h.open
  exact ⟨k, _, c, e, Lib.hid rfl⟩
theorem Bytes.own {w : World} {B N : Nat} {v : Value} {xs : List Int} (h : Bytes w B v xs) (hN : Hid (N = xs.length)) : w.ownsRow B 5 1 v N (bv xs) := by
  rw [hN.out]; exact h
theorem Bytes.nil (w : World) (B : Nat) : Bytes w B (.slice none 0 0) [] := World.ownsRow_nil _ _ _ _
theorem Bytes.weaken {w : World} {A B : Nat} {v : Value} {xs : List Int} (h : Bytes w B v xs) (hA : A ≤ B) : Bytes w A v xs := owns_weaken h hA

set_option maxHeartbeats 2000000 in
set_option maxRecDepth 100000 in
theorem refUint (n : Nat) (w : World) (hn : n < 18446744073709551616) :
    Calls Try.prog 45 #[.int .u64 n] w fun e w' => ∃ u, e = .returned u ∧ Bytes w' w.heap.size u (encU n) ∧ Below w.heap.size w w' := by
  go_enter Try.func45, Try.ntmps45
  go_wp2_with fail
  go_loopw [0, 3] (fun t v wr => ∃ (m : Nat) (pre : List Int), t = .int .u64 m ∧ Hid (encU n = pre ++ encU m ∧ m ≤ n ∧ (pre ++ encU m).length ≤ 10) ∧ Hid (Bytes wr w.heap.size v pre) ∧ Hid (Below w.heap.size w wr)) (fun t _ _ => (intOf t).toNat)
  case atStart => exact ⟨n, [], rfl, Lib.hid ⟨rfl, by omega, encU_length n 9 (by omega)⟩, Lib.hid (Bytes.nil _ _), Lib.hid (Below.refl _ _)⟩
  case round =>
    obtain ⟨m, pre, rfl, He, Ho, Hw⟩ := hrel
    have hz := Hw.out.size
    obtain ⟨ku, cu, rfl⟩ := Ho.out.open
    have hNl : pre.length ≤ 20 := by have := He.out.2.2; rw [List.length_append] at this; omega
    have hwr : IntKind.u64.wrap ((m : Int) / 128) = ((m / 128 : Nat) : Int) := by rw [IntKind.wrap_u64]; have := He.out.2.1; omega
    by_cases hm : (127 : Int) < m
    · go_wp2_with (at_builtin; go_must (refine wpList_appB rfl _ _ 30 rfl 5 _ 1 1 Try.underlying30 info5 rfl (by omega) (by omega) w.heap.size (.slice ku pre.length cu) pre.length _ rfl (World.ownsRow.alloc Ho.out _) wr.heap.size 1 1 _ 5 rfl (heap_alloc_new _ _) rfl rfl (by omega) (by omega) (by simp; omega) ?_); intro g cap w2 hg1 hg2 hg3 ho2 hgr2 hB2)
      go_roundw
      case rel => refine ⟨m / 128, pre ++ [((128 + m % 128 : Nat) : Int)], by simp, Lib.hid ⟨?_, ?_, ?_⟩, Lib.hid (Bytes.push rfl ?_), Lib.hid (Hw.out.trans (Below.trans ((Below.refl _ _).alloc (by omega) _) hB2))⟩
                  · rw [He.out.1, encU_big (by omega)]; simp
                  · have := He.out.2.1; omega
                  · have := He.out.2.2
                    rw [encU_big (by omega)] at this
                    simpa using this
                  · exact ho2
      case measure => simp [intOf]; omega
    · go_wp2_with (at_builtin; go_must (refine wpList_appB rfl _ _ 30 rfl 5 _ 1 1 Try.underlying30 info5 rfl (by omega) (by omega) w.heap.size (.slice ku pre.length cu) pre.length _ rfl (World.ownsRow.alloc Ho.out _) wr.heap.size 1 1 _ 5 rfl (heap_alloc_new _ _) rfl rfl (by omega) (by omega) (by simp; omega) ?_); intro g cap w2 hg1 hg2 hg3 ho2 hgr2 hB2)
      go_ret
      refine ⟨_, rfl, ?_, Hw.out.trans (Below.trans ((Below.refl _ _).alloc (by omega) _) hB2)⟩
      rw [He.out.1, encU_small (by omega)]
      exact Bytes.push rfl ho2

theorem refZig (n : Int) (w : World) (h : InI64 n) : Calls Try.prog 88 #[I n] w fun e w' => e = .returned (.int .u64 (zig n)) ∧ w' = w := by
  have hk := h
  unfold InI64 at hk
  go_enter Try.func88, Try.ntmps88
  by_cases hn : n < 0
  · go_wp2_with fail
    go_ret
    refine ⟨?_, rfl⟩
    unfold zig
    rw [if_pos hn]
    simp
    omega
  · go_wp2_with fail
    go_ret
    refine ⟨?_, rfl⟩
    unfold zig
    rw [if_neg (by omega)]
    simp
    omega

theorem refInt (n : Int) (w : World) (hn : InI64 n) :
    Calls Try.prog 76 #[I n] w fun e w' => ∃ u, e = .returned u ∧ Bytes w' w.heap.size u (encI n) ∧ Below w.heap.size w w' := by
  have Hz := Lib.hid (refZig n w hn)
  have Hu := Lib.hid (refUint (zig n) w (zig_lt hn))
  go_enter Try.func76, Try.ntmps76
  go_wp2_with (first | (go_at_call 88; refine Hz.out.mono ?_; rintro e w1 ⟨rfl, rfl⟩) | (go_at_call 45; refine Hu.out.mono ?_; rintro e w2 ⟨u, rfl, h1, h2⟩; obtain ⟨ku, cu, rfl⟩ := h1.open))
  go_ret
  exact ⟨_, rfl, h1, h2⟩
set_option maxHeartbeats 2000000 in
set_option maxRecDepth 100000 in
theorem refNumbers (l : List Int) (v : Value) (w : World) (hok : ∀ n ∈ l, InI64 n) (hv : IntSl w v l) (hl : l.length ≤ 100000) :
    Calls Try.prog 46 #[v] w fun e w' => ∃ u, e = .returned u ∧ Bytes w' w.heap.size u (l.flatMap encI) ∧ Below w.heap.size w w' := by
  obtain ⟨ka, ca, rfl, hml⟩ := hv.open
  have Hok := Lib.hid hok
  have Hv := Lib.hid hv
  clear hok hv
  go_enter Try.func46, Try.ntmps46
  go_wp2_with fail
  go_loopw [3, 4] (fun u i wr => ∃ k : Nat, k ≤ l.length ∧ i = .int .i64 k ∧ Hid (Bytes wr w.heap.size u ((l.take k).flatMap encI)) ∧ Hid (Below w.heap.size w wr)) (fun _ i _ => l.length - (intOf i).toNat)
  case atStart => exact ⟨0, by omega, rfl, Lib.hid (Bytes.nil _ _), Lib.hid (Below.refl _ _)⟩
  case round =>
    obtain ⟨k, hk, rfl, Ho, Hw⟩ := hrel
    have hz := Hw.out.size
    obtain ⟨ku, N, cu, rfl, HN⟩ := Ho.out.open'
    by_cases hlt : k < l.length
    · obtain ⟨b, o, rfl, hr⟩ := (Hv.out.kept Hw.out (Nat.le_refl _)).at (i := k) (x := l[k]) (by simp [hlt])
      have Hi := Lib.hid (refInt l[k] wr (Hok.out _ (List.getElem_mem hlt)))
      have hel := encIs_length (l.take k) (fun n hn => Hok.out n (List.mem_of_mem_take hn))
      have hel1 : (encI l[k]).length ≤ 10 := encU_length _ 9 (by have := zig_lt (Hok.out _ (List.getElem_mem hlt)); omega)
      rw [List.length_take] at hel
      have hNl : N ≤ 2000000 := by have := HN.out; omega
      go_wp2_with (first | (go_at_call 76; refine Hi.out.mono ?_; rintro e w1 ⟨y, rfl, hy, hB1⟩; obtain ⟨ky, M, cy, rfl, HM⟩ := hy.open'; have hM : M ≤ 10 := by (have := HM.out; omega)) | (at_builtin; go_must (refine wpList_appG rfl _ _ 30 rfl 5 _ 1 1 Try.underlying30 info5 rfl (by omega) (by omega) w.heap.size (.slice ku N cu) N _ rfl ((Ho.out.below hB1).own HN) (.slice ky M cy) rfl M (bv (encI l[k])) (Flat.of_owns (hy.own HM)) (bv_one _) (by omega) (by have := hB1.size; omega) ?_); intro y2 w2 ho2 hgr2 hB2))
      go_roundw
      case rel => exact ⟨k + 1, by omega, by go_num, Lib.hid (by rw [List.take_succ_eq_append_getElem hlt, List.flatMap_append]; simpa using Bytes.join HN.out HM.out ho2), Lib.hid (Hw.out.trans ((hB1.mono hz).trans hB2))⟩
      case measure => simp [intOf]; omega
    · obtain rfl : k = l.length := by omega
      have ho := Ho.out
      rw [List.take_of_length_le (Nat.le_refl _)] at ho
      go_wp2_with fail
      go_ret
      exact ⟨_, rfl, ho, Hw.out⟩

end Go.Proofs.Ytjdhcdbjfbhogaa
