/- The reference's Shuffle and Projections: the walks. -/
import Derived.Test.YtaedfidfcoigoaaM3
import Derived.Test.YtaedfidfcoigoaaM4
import Derived.Test.YtaedfidfcoigoaaN13
namespace Go.Proofs.Ytaedfidfcoigoaa
open Go.RowKit

set_option maxHeartbeats 1000000 in
theorem refProjections (a b : List Stp) (va vb : Value) (w : World) (ha : StpSl w va a) (hb : StpSl w vb b) (hla : a.length ≤ 1000000) (hlb : b.length ≤ 1000000) (hn : ∀ n : Int, (a.filter fun s => s.ev.node == n) = b.filter fun s => s.ev.node == n) (ho : (a.filter fun s => s.obs) = b.filter fun s => s.obs) :
    Calls Try.prog 12 #[va, vb] w fun e w' => e = .returned (.bool true) ∧ Below w.heap.size w w' := by
  have Hn := Lib.hid hn
  have Ho := Lib.hid ho
  clear hn ho
  obtain ⟨ka, ca, rfl, hml⟩ := ha.open
  obtain ⟨kb, cb, rfl, hmm⟩ := hb.open
  go_enter Try.func12, Try.ntmps12
  go_wp2_with fail
  go_loopw [5] (fun i wr => ∃ k : Nat, k ≤ 12 ∧ i = .int .i64 k ∧ Below w.heap.size w wr) (fun i _ => 12 - (intOf i).toNat)
  case atStart => exact ⟨0, by omega, rfl, Below.refl _ _⟩
  case round =>
    obtain ⟨k, hk, rfl, hB⟩ := hrel
    by_cases hlt : k < 12
    · go_wp2_with fail
      refine (refProject a k _ _ (ha.kept hB (Nat.le_refl _)) hla).mono ?_
      rintro e w2 ⟨x1, rfl, hx1, hB2⟩
      have hB' := hB.trans (hB2.mono hB.size)
      go_wp2_with fail
      refine (refProject b k _ _ (hb.kept hB' (Nat.le_refl _)) hlb).mono ?_
      rintro e w3 ⟨y1, rfl, hy1, hB3⟩
      have hB'' := hB'.trans (hB3.mono hB'.size)
      go_wp2_with fail
      refine (sameRun _ _ _ _ _ (hx1.kept hB3 (Nat.le_refl _)) hy1).mono ?_
      rintro e w4 ⟨rfl, hB4⟩
      rw [decide_eq_true (Hn.out k)]
      have hB4' := hB''.trans (hB4.mono hB''.size)
      go_wp2_with fail
      go_roundw
      case rel => exact ⟨k + 1, by omega, by go_num, hB4'⟩
      case measure => simp [intOf]; omega
    · go_wp2_with fail
      refine (refObservable a _ _ (ha.kept hB (Nat.le_refl _)) hla).mono ?_
      rintro e w2 ⟨x1, rfl, hx1, hB2⟩
      have hB' := hB.trans (hB2.mono hB.size)
      go_wp2_with fail
      refine (refObservable b _ _ (hb.kept hB' (Nat.le_refl _)) hlb).mono ?_
      rintro e w3 ⟨y1, rfl, hy1, hB3⟩
      have hB'' := hB'.trans (hB3.mono hB'.size)
      go_wp2_with fail
      refine (sameRun _ _ _ _ _ (hx1.kept hB3 (Nat.le_refl _)) hy1).mono ?_
      rintro e w4 ⟨rfl, hB4⟩
      rw [decide_eq_true Ho.out]
      have hB4' := hB''.trans (hB4.mono hB''.size)
      go_wp2_with fail
      go_ret
      exact ⟨rfl, hB4'⟩

set_option maxHeartbeats 2000000 in
set_option maxRecDepth 100000 in
theorem refShuffle (l : List Int) (run : List Stp) (vl v : Value) (w : World) (hl : IntSl w vl l) (hr : ∀ x ∈ l, InI64 x) (hrun : StpSl w v run) (hm : run.length ≤ 1000) :
    Calls Try.prog 10 #[v, vl] w fun e w' => ∃ u run', e = .returned u ∧ StpSl w' u run' ∧ Sws run run' ∧ Below w.heap.size w w' := by
  obtain ⟨ka, ca, rfl, hml⟩ := hl.open
  obtain ⟨kb, cb, rfl, hmm⟩ := hrun.open
  have Hr := Lib.hid hr
  clear hr
  go_enter Try.func10, Try.ntmps10
  go_wp2_with fail
  go_loopw [0, 5] (fun v i wr => ∃ (k : Nat) (cur : List Stp), k ≤ l.length ∧ k ≤ 40 ∧ i = .int .i64 k ∧ StpSl wr v cur ∧ Sws run cur ∧ Below w.heap.size w wr) (fun _ i _ => l.length - (intOf i).toNat)
  case atStart => exact ⟨0, run, by omega, by omega, rfl, hrun, Sws.refl _, Below.refl _ _⟩
  case round =>
    obtain ⟨k, cur, hk, hk40, rfl, hcur, hsw, hB⟩ := hrel
    have hlen : cur.length ≤ 1000 := by rw [hsw.length]; exact hm
    obtain ⟨kc, cc, rfl, hmc⟩ := hcur.open
    have Hsw := Lib.hid hsw
    clear hsw
    by_cases hlt : k < l.length
    · by_cases h40 : k < 40
      · by_cases h1 : 1 < cur.length
        · obtain ⟨x, hx⟩ : ∃ x, l[k]? = some x := ⟨l[k], by simp [hlt]⟩
          obtain ⟨hx1, hx2⟩ := Hr.out x (List.mem_of_getElem? hx)
          obtain ⟨b, o, rfl, hcx⟩ := (hl.kept hB (Nat.le_refl _)).at hx
          obtain ⟨L1, hL1⟩ : ∃ L1 : Nat, cur.length = L1 + 1 := ⟨cur.length - 1, by omega⟩
          have har := around_range x ((cur.length : Int) - 1) (by omega)
          obtain ⟨nn, hnn⟩ : ∃ nn : Nat, around x ((cur.length : Int) - 1) = nn := ⟨_, (Int.toNat_of_nonneg har.1).symm⟩
          have hnb : nn + 1 < cur.length := by omega
          have Haround := Lib.hid (around_any x ((cur.length : Int) - 1))
          have Hnn := Lib.hid hnn
          have Hx := Lib.hid hx
          clear har hnn hx hL1
          go_wp2_with fail
          refine (Haround.out _ (by omega) hx1 hx2).mono ?_
          rintro e w1 ⟨rfl, rfl⟩
          rw [Hnn.out]
          go_wp2_with fail
          refine (refSwap cur nn _ _ hcur hnb (by omega)).mono ?_
          rintro e w2 ⟨u, c, rfl, hB2, hres⟩
          have hB2' := hB.trans (hB2.mono hB.size)
          rcases hres with ⟨rfl, run', hr1, hr2⟩ | rfl
          · obtain ⟨ku, cu, rfl, hmu⟩ := hr1.open
            go_wp2_with fail
            go_roundw
            case rel => exact ⟨k + 1, run', by omega, by omega, by go_num, hr1, Hsw.out.step hr2, hB2'⟩
            case measure => simp [intOf]; omega
          · have hcur2 := hcur.kept hB2 (Nat.le_refl _)
            go_wp2_with fail
            go_roundw
            case rel => exact ⟨k + 1, cur, by omega, by omega, by go_num, hcur2, Hsw.out, hB2'⟩
            case measure => simp [intOf]; omega
        · go_wp2_with fail
          go_ret
          first | exact ⟨_, cur, rfl, hcur, Hsw.out, hB⟩ | exact ⟨_, rfl, cur, hcur, Hsw.out, hB⟩
      · go_wp2_with fail
        go_ret
        first | exact ⟨_, cur, rfl, hcur, Hsw.out, hB⟩ | exact ⟨_, rfl, cur, hcur, Hsw.out, hB⟩
    · go_wp2_with fail
      go_ret
      first | exact ⟨_, cur, rfl, hcur, Hsw.out, hB⟩ | exact ⟨_, rfl, cur, hcur, Hsw.out, hB⟩

end Go.Proofs.Ytaedfidfcoigoaa
