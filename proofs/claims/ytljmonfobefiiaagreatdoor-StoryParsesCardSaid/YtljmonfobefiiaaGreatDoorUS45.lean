import Derived.Test.YtljmonfobefiiaaGreatDoorUN7
import Derived.Test.YtljmonfobefiiaaGreatDoorUP5A
/- The reference's covers. -/
namespace Go.Proofs.YtljmonfobefiiaaGreatDoor
open Go.RowKit

def covL (f : Nat → Nat → Bool) (n i m : Nat) : List Nat := (List.range m).filter fun k => covB f n k i
theorem covL_succ (f : Nat → Nat → Bool) (n i m : Nat) : covL f n i (m + 1) = covL f n i m ++ if covB f n m i then [m] else [] := by
  unfold covL
  rw [List.range_succ, List.filter_append]
  congr 1
  cases h : covB f n m i <;> simp [h]
theorem covL_len (f : Nat → Nat → Bool) (n i m : Nat) : (covL f n i m).length ≤ m := Nat.le_trans (List.length_filter_le _ _) (by simp)
theorem covL_lt (f : Nat → Nat → Bool) (n i m : Nat) : ∀ x ∈ covL f n i m, x < m := fun _ hx => List.mem_range.1 (List.mem_filter.1 hx).1

set_option maxHeartbeats 8000000 in
set_option maxRecDepth 100000 in
theorem refCoversC (f : Nat → Nat → Bool) (n i : Nat) (v : Value) (w : World) (h : BoolMx w v n f) (hn : n ≤ 100000) (hi : i < n) :
    Calls Tryz.prog 19 #[v, I i] w fun e w' => ∃ u, e = .returned u ∧ IntSl w' u ((covL f n i n).map fun k : Nat => (k : Int)) ∧ Below w.heap.size w w' := by
  obtain ⟨g, c, rfl, hr⟩ := h
  have Hr := Lib.hid hr
  clear hr
  have hiI : (i : Int) < n := by omega
  go_enter Tryz.func19, Tryz.ntmps19
  go_wp2_with fail
  go_loopw [5, 6] (fun vo vi wr => ∃ (k m : Nat) (av : Option Addr) (ac : Nat), k ≤ n ∧ vo = .slice av m ac ∧ vi = I k ∧ m ≤ k ∧ Hid (m = (covL f n i k).length) ∧ Hid (wr.ownsRow w.heap.size 3 1 (.slice av m ac) m (nv (covL f n i k))) ∧ Hid (Below w.heap.size w wr)) (fun _ vi _ => n - (intOf vi).toNat)
  case atStart => exact ⟨0, 0, none, 0, by omega, rfl, rfl, by omega, Lib.hid rfl, Lib.hid (World.ownsRow_nil _ _ _ _), Lib.hid (Below.refl _ _)⟩
  case round =>
    obtain ⟨k, m, av, ac, hk, rfl, rfl, hmk, Hm, Hown, HB⟩ := hrel
    have hwz := HB.out.size
    by_cases hlt : k < n
    · obtain ⟨gk, ck, hk0, hk1⟩ := Hr.out k hlt
      have d0 := cell_below HB.out (Nat.le_refl _) hk0
      have Hk1 := Lib.hid (show ∀ j, j < n → wr.cell? ⟨gk, j, none⟩ = some (.bool (f k j)) from fun j hj => cell_below HB.out (Nat.le_refl _) (hk1 j hj))
      clear hk0 hk1
      go_wp2_with fail
      go_loop [7, 8] (fun v7 v8 => ∃ j : Nat, j ≤ n ∧ v7 = .bool (furB f j k i) ∧ v8 = I j) (fun _ v8 => n - (intOf v8).toNat)
      case atStart => exact ⟨0, by omega, rfl, rfl⟩
      case round =>
        obtain ⟨j, hj, rfl, rfl⟩ := hrel
        by_cases hjl : j < n
        · obtain ⟨gj, cj, hj0, hj1⟩ := Hr.out j hjl
          have e0 := cell_below HB.out (Nat.le_refl _) hj0
          have e1 := cell_below HB.out (Nat.le_refl _) (hj1 i hi)
          have e2 := Hk1.out j hjl
          have Hs := Lib.hid (furB_succ f j k i)
          clear hj0 hj1
          cases hb : furB f j k i with
          | true =>
            rw [hb] at Hs
            go_wp2_with fail
            go_round
            case rel => exact ⟨j + 1, by omega, by rw [Hs.out]; rfl, by go_num⟩
            case measure => simp [intOf]; omega
          | false =>
            rw [hb] at Hs
            cases hkj : f k j with
            | false =>
              rw [hkj] at e2 Hs
              go_wp2_with fail
              go_round
              case rel => exact ⟨j + 1, by omega, by rw [Hs.out]; rfl, by go_num⟩
              case measure => simp [intOf]; omega
            | true =>
              rw [hkj] at e2 Hs
              generalize f j i = x at e1 Hs
              go_wp2_with fail
              go_round
              case rel => exact ⟨j + 1, by omega, by rw [Hs.out]; simp, by go_num⟩
              case measure => simp [intOf]; omega
        · obtain rfl : j = n := by omega
          have e3 := Hk1.out i hi
          have Hs := Lib.hid (covL_succ f j i k)
          unfold covB at Hs
          cases hki : f k i with
          | false =>
            rw [hki] at e3 Hs
            have Hs' : Hid (covL f j i (k + 1) = covL f j i k) := Lib.hid (by rw [Hs.out]; simp)
            clear Hs
            go_wp2_with fail
            go_roundw
            case rel => exact ⟨k + 1, m, av, ac, by omega, rfl, by go_num, by omega, by rw [Hs'.out]; exact Hm, by rw [Hs'.out]; exact Hown, HB⟩
            case measure => simp [intOf]; omega
          | true =>
            cases hfu : furB f j k i with
            | true =>
              rw [hki] at e3 Hs
              rw [hfu] at Hs
              have Hs' : Hid (covL f j i (k + 1) = covL f j i k) := Lib.hid (by rw [Hs.out]; simp)
              clear Hs
              go_wp2_with fail
              go_roundw
              case rel => exact ⟨k + 1, m, av, ac, by omega, rfl, by go_num, by omega, by rw [Hs'.out]; exact Hm, by rw [Hs'.out]; exact Hown, HB⟩
              case measure => simp [intOf]; omega
            | false =>
              rw [hki] at e3 Hs
              rw [hfu] at Hs
              have Hs' : Hid (covL f j i (k + 1) = covL f j i k ++ [k]) := Lib.hid (by rw [Hs.out]; simp)
              clear Hs
              go_wp2_with (at_builtin; go_must (refine wpList_appB rfl _ _ 22 rfl 3 _ 1 8 Tryz.underlying22 info_int rfl (by omega) (by omega) w.heap.size (.slice av m ac) m (nv (covL f j i k)) rfl (Hown.out.alloc _) wr.heap.size 1 1 #[I k] 3 rfl (heap_alloc_new _ _) rfl rfl (by omega) (by omega) (by rw [World.size_alloc]; omega) ?_); intro g5 cap5 w5 hg1 hg2 hg3 ho5 hgr5 hB5)
              go_roundw
              case rel => exact ⟨k + 1, m + 1, _, cap5, by omega, rfl, by go_num, by omega, by rw [Hs'.out, List.length_append, ← Hm.out]; exact Lib.hid rfl, by rw [Hs'.out, nv_snoc]; exact Lib.hid ho5, Lib.hid ((HB.out.alloc hwz _).trans hB5)⟩
              case measure => simp [intOf]; omega
    · obtain rfl : k = n := by omega
      go_wp2_with fail
      go_ret
      refine ⟨_, rfl, ?_, HB.out⟩
      have := Flat.of_owns Hown.out
      rw [show nv (covL f k i k) = iv ((covL f k i k).map fun n : Nat => (n : Int)) by simp [nv, iv]] at this
      unfold IntSl
      rw [List.length_map, ← Hm.out]
      exact this

end Go.Proofs.YtljmonfobefiiaaGreatDoor

/- The reference's text: what comes immediately before, in both ways of counting; bounds that ask nothing of events. -/
namespace Go.Proofs.YtljmonfobefiiaaGreatDoor
open Go.RowKit

theorem nxL_app (A B : List (Nat × Nat)) (i : Nat) : nxL (A ++ B) i = nxL A i ++ nxL B i := by
  unfold nxL
  rw [List.filter_append, List.map_append]
theorem nxL_row (f : Nat → Nat → Bool) (n a i : Nat) : ∀ k, nxL ((covRow f n a k).map fun p => (p.2, p.1)) i = if i < k ∧ covB f n a i = true then [a] else []
  | 0 => by simp [covRow, nxL]
  | k + 1 => by
    rw [covRow_succ, List.map_append, nxL_app, nxL_row f n a i k]
    by_cases hik : k = i
    · subst hik
      cases h : covB f n a k <;> simp [nxL]
    · by_cases hlt : i < k
      · have h1 : i < k + 1 := by omega
        cases h : covB f n a k <;> simp [nxL, hlt, h1, hik]
      · have h1 : ¬ i < k + 1 := by omega
        cases h : covB f n a k <;> simp [nxL, hlt, h1, hik]
theorem nxL_covs (f : Nat → Nat → Bool) (n i : Nat) (hi : i < n) : ∀ m, nxL ((covs f n m).map fun p => (p.2, p.1)) i = covL f n i m
  | 0 => by simp [covs, covL, nxL]
  | m + 1 => by
    rw [covs_succ, List.map_append, nxL_app, nxL_covs f n i hi m, covL_succ, nxL_row]
    congr 1
    simp [hi]
theorem bf_cov (l : List Stp) (i : Nat) (hi : i < l.length) : nxL (bfOf l) i = covL (lessB l) l.length i l.length := nxL_covs (lessB l) l.length i hi l.length

theorem joinC_snoc (c : UInt8) (x : Str) : ∀ l : List Str, l ≠ [] → joinC c (l ++ [x]) = joinC c l ++ c :: x
  | [], h => absurd rfl h
  | [a], _ => rfl
  | a :: b :: l, _ => by
    have h1 : (b :: l ++ [x] : List Str) ≠ [] := by simp
    rw [List.cons_append, joinC_cons c a h1, joinC_snoc c x (b :: l) (by simp), joinC_cons c a (by simp)]
    simp
/-- " after " and the first k numbers. -/
def aftT (bf : List Nat) (k : Nat) : Str := bfT (bf.take k)
theorem aftT_zero (bf : List Nat) : aftT bf 0 = [] := by simp [aftT, bfT]
theorem aftT_one (bf : List Nat) (h : 0 < bf.length) : aftT bf 1 = ([32, 97, 102, 116, 101, 114, 32] : Str) ++ Lib.itoa (bf[0] : Int) := by
  unfold aftT bfT
  cases bf with
  | nil => simp at h
  | cons a l => simp [joinC]
theorem aftT_succ (bf : List Nat) (k : Nat) (h : k < bf.length) (hk : 0 < k) : aftT bf (k + 1) = aftT bf k ++ [44] ++ Lib.itoa (bf[k] : Int) := by
  unfold aftT bfT
  have h1 : bf.take (k + 1) ≠ [] := fun e => by
    have h9 : (bf.take (k + 1)).length = 0 := by rw [e]; rfl
    rw [List.length_take] at h9
    omega
  have h2 : bf.take k ≠ [] := fun e => by
    have h9 : (bf.take k).length = 0 := by rw [e]; rfl
    rw [List.length_take] at h9
    omega
  rw [if_neg h1, if_neg h2, List.take_succ_eq_append_getElem h, List.map_append, List.map_append]
  rw [show ([bf[k]].map fun n : Nat => (n : Int)).map Lib.itoa = [Lib.itoa (bf[k] : Int)] from rfl, joinC_snoc 44 _ _ (by simpa using h2)]
  simp

theorem textEv_len0 (e : Ev) : (textEv e).length ≤ 200 := by
  by_cases hk : EvOk e
  · refine textEv_len e ?_
    obtain ⟨h1, h2, h⟩ := hk
    obtain ⟨k, nd, ar, ⟨m0, m1, m2, m3, m4⟩⟩ := e
    dsimp only at h1 h2 h
    intro x hx
    simp only [Ev.ints, List.mem_cons, List.not_mem_nil, or_false] at hx
    unfold InI64
    rcases h with ⟨ha, hb, hc⟩ | ⟨ha, hb, hc⟩ | ⟨ha, hb, hc⟩
    · injection hc with e0 e1 e2 e3 e4
      omega
    · omega
    · injection hc with e0 e1 e2 e3 e4
      omega
  · have h1 : textEv e = [] := by
      unfold textEv
      rw [if_neg (fun hw => hk ((wellEv_iff e).1 hw))]
    rw [h1]; simp
theorem textQn_len0 (q : Qn) : (textQn q).length ≤ 200 := by
  by_cases hk : QnOk q
  · refine textQn_len q ?_
    obtain ⟨h1, h2, h⟩ := hk
    obtain ⟨a, b, c, k, ix⟩ := q
    dsimp only at h1 h2 h
    intro x hx
    simp only [Qn.ints, List.mem_cons, List.not_mem_nil, or_false] at hx
    unfold InI64
    omega
  · have h1 : textQn q = [] := by
      unfold textQn
      rw [if_neg (fun hw => hk ((wellQn_iff q).1 hw))]
    rw [h1]; simp
/-- The numbers of a question: what Decimal is proved for. -/
def AskN (a : Ask) : Prop := 0 ≤ a.n ∧ a.n ≤ 4611686018427387904 ∧ 0 ≤ a.arity ∧ a.arity ≤ 4611686018427387904
theorem askT_len0 (a : Ask) (h : AskN a) : (askT a).length ≤ 300 := by
  obtain ⟨h0, h1, h2, h3⟩ := h
  have h4 := textQn_len0 a.qn
  have h5 := itoa_len a.n ⟨by omega, by omega⟩
  have h6 := itoa_len a.arity ⟨by omega, by omega⟩
  unfold askT
  simp only [List.length_append, List.length_cons, List.length_nil]
  omega
theorem asksT_len0 (l : List Ask) (k : Nat) (h : ∀ a ∈ l, AskN a) : (asksT l k).length ≤ 300 * l.length := by
  have h1 := flat_len askT 300 (l.take k) (fun a ha => askT_len0 a (h a (List.mem_of_mem_take ha)))
  have h2 : (l.take k).length ≤ l.length := by rw [List.length_take]; omega
  have h3 : 300 * (l.take k).length ≤ 300 * l.length := Nat.mul_le_mul (Nat.le_refl _) h2
  unfold asksT
  omega
theorem headT_len0 (i : Nat) (s : Stp) (hi : i ≤ 64) : (headT i s).length ≤ 300 := by
  have h1 := itoa_len (i : Int) (natI64 i (by omega))
  have h2 := textEv_len0 s.ev
  unfold headT
  simp only [List.length_append, List.length_cons, List.length_nil]
  omega
theorem bfT_len0 (bf : List Nat) (h : ∀ n ∈ bf, n ≤ 64) : (bfT bf).length ≤ 10 + 21 * bf.length := by
  unfold bfT
  split
  · simp
  · have := joinC_len 44 20 ((bf.map fun n : Nat => (n : Int)).map Lib.itoa) (fun y hy => by
      obtain ⟨n, hn, rfl⟩ := List.mem_map.1 hy
      obtain ⟨m, hm, rfl⟩ := List.mem_map.1 hn
      exact itoa_len _ (natI64 m (by have := h m hm; omega)))
    simp only [List.length_map] at this
    simp only [List.length_append, List.length_cons, List.length_nil]
    omega
theorem lineT_len0 (i : Nat) (s : Stp) (bf : List Nat) (hi : i ≤ 64) (h : ∀ a ∈ s.asks, AskN a) (hn : ∀ n ∈ bf, n ≤ 64) : (lineT i s bf).length ≤ 320 + 300 * s.asks.length + 21 * bf.length := by
  have h1 := headT_len0 i s hi
  have h2 := asksT_len0 s.asks s.asks.length h
  have h3 := obsT_len s.obs
  have h4 := bfT_len0 bf hn
  unfold lineT
  simp only [List.length_append, List.length_cons, List.length_nil]
  omega
theorem linesT_len0 (l : List Stp) (F : Nat → List Nat) (C : Nat) (h : ∀ i (hi : i < l.length), (lineT i l[i] (F i)).length ≤ C) : ∀ m, m ≤ l.length → (linesT l F m).length ≤ C * m
  | 0, _ => by simp [linesT]
  | m + 1, hm => by
    have ih := linesT_len0 l F C h m (by omega)
    rw [linesT_succ l F m (by omega), List.length_append]
    have := h m (by omega)
    rw [Nat.mul_succ]
    omega
theorem linesT_congr (l : List Stp) (F F' : Nat → List Nat) : ∀ m, m ≤ l.length → (∀ i, i < l.length → F i = F' i) → linesT l F m = linesT l F' m
  | 0, _, _ => by simp [linesT]
  | m + 1, hm, h => by rw [linesT_succ l F m (by omega), linesT_succ l F' m (by omega), linesT_congr l F F' m (by omega) h, h m (by omega)]

end Go.Proofs.YtljmonfobefiiaaGreatDoor
