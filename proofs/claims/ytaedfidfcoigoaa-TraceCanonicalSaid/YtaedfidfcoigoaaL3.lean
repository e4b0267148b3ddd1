/- TraceNormal: the walk. -/
import Derived.Test.YtaedfidfcoigoaaN13
import Derived.Test.YtaedfidfcoigoaaH7
namespace Go.Proofs.Ytaedfidfcoigoaa
open Go.RowKit

theorem nextB {B : Nat} {a b c : World} (h : Below B a b) (h2 : Below b.heap.size b c) (hB : B ≤ a.heap.size) : Below B a c := h.trans (h2.mono (Nat.le_trans hB h.size))

set_option maxHeartbeats 2000000 in
set_option maxRecDepth 100000 in
theorem lawNormal (l : List Int) (v : Value) (w : World) (hl : IntSl w v l) (hr : ∀ x ∈ l, InI64 x) :
    Calls Try.prog 7 #[v] w fun e w' => e = .returned (.bool true) ∧ Below w.heap.size w w' := by
  have H9 := Lib.hid (refRun l 14 v w hl hr (by omega))
  clear hr hl
  go_enter Try.func7, Try.ntmps7
  go_wp2_with fail
  refine H9.out.mono ?_
  rintro e w1 ⟨u, run, rfl, hrun, hlen, hok, hB1⟩
  have ho := run_ok hlen (by omega) hok
  have hsm : ∀ s ∈ run, s.asks.length ≤ 1000 ∧ s.sent.length ≤ 1000 := fun s hs => by have := hok s hs; omega
  have Hsm := Lib.hid hsm
  have Ho := Lib.hid ho
  clear ho hok hsm
  obtain ⟨ka, ca, rfl, _⟩ := hrun.open
  go_wp2_with fail
  refine (trNormal run _ _ hrun Ho.out.len Ho.out.asks Ho.out.sent).mono ?_
  rintro e w2 ⟨x1, rfl, hx1, hB2⟩
  have hrun2 := hrun.kept hB2 (Nat.le_refl _)
  go_wp2_with fail
  refine (refNormal run _ _ hrun2 (by omega) Ho.out.asks).mono ?_
  rintro e w3 ⟨y1, rfl, hy1, hB3⟩
  go_wp2_with fail
  refine (sameRun _ _ _ _ _ (hx1.kept hB3 (Nat.le_refl _)) hy1).mono ?_
  rintro e w4 ⟨rfl, hB4⟩
  have hrun4 := (hrun2.kept hB3 (Nat.le_refl _)).kept hB4 (Nat.le_refl _)
  rw [decide_eq_true rfl]
  obtain ⟨kk, hkk⟩ : ∃ kk, kk = keyI run := ⟨_, rfl⟩
  go_wp2_with fail
  refine (trKey run _ _ hrun4 Ho.out.len Hsm.out).mono ?_
  rintro e w5 ⟨rfl, hB5⟩
  have hrun5 := hrun4.kept hB5 (Nat.le_refl _)
  rw [← hkk]
  go_wp2_with fail
  refine (refKey run _ _ hrun5 Ho.out.len Hsm.out).mono ?_
  rintro e w6 ⟨rfl, hB6⟩
  rw [← hkk]
  clear hkk
  go_wp2_with fail
  refine (lives _).mono ?_
  rintro e w7 ⟨rfl, hB7⟩
  have hz := hB1.size
  have hBB := nextB (nextB (nextB (nextB (nextB (nextB hB1 hB2 (Nat.le_refl _)) hB3 (Nat.le_refl _)) hB4 (Nat.le_refl _)) hB5 (Nat.le_refl _)) hB6 (Nat.le_refl _)) hB7 (Nat.le_refl _)
  go_wp2_with fail
  go_ret
  exact ⟨rfl, hBB⟩

end Go.Proofs.Ytaedfidfcoigoaa
