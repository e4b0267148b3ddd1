/- TraceProjects: the walk. -/
import Derived.Test.YtaedfidfcoigoaaN13
import Derived.Test.YtaedfidfcoigoaaR2
namespace Go.Proofs.Ytaedfidfcoigoaa
open Go.RowKit

set_option maxHeartbeats 4000000 in
set_option maxRecDepth 100000 in
theorem lawProjects (l : List Int) (n : Int) (v : Value) (w : World) (hl : IntSl w v l) (hr : ∀ x ∈ l, InI64 x) (hn : InI64 n) :
    Calls Try.prog 4 #[v, I n] w fun e w' => e = .returned (.bool true) ∧ Below w.heap.size w w' := by
  obtain ⟨hn1, hn2⟩ := hn
  have H9 := Lib.hid (refRun l 14 v w hl hr (by omega))
  clear hr hl
  go_enter Try.func4, Try.ntmps4
  go_wp2_with fail
  refine H9.out.mono ?_
  rintro e w1 ⟨u, run, rfl, hrun, hlen, hok, hB1⟩
  have ho := run_ok hlen (by omega) hok
  have Ho := Lib.hid ho
  clear ho hok
  obtain ⟨ka, ca, rfl, _⟩ := hrun.open
  go_wp2_with fail
  refine (around_any n 5 _ (by omega) hn1 hn2).mono ?_
  rintro e w2 ⟨rfl, rfl⟩
  obtain ⟨m, hm⟩ : ∃ m, m = around n 5 := ⟨_, rfl⟩
  rw [← hm]
  clear hm
  go_wp2_with fail
  refine (trProject run m _ _ hrun (by omega) Ho.out.asks Ho.out.sent).mono ?_
  rintro e w2 ⟨x1, rfl, hx1, hB2⟩
  have hrun2 := hrun.kept hB2 (Nat.le_refl _)
  go_wp2_with fail
  refine (refProject run m _ _ hrun2 (by omega)).mono ?_
  rintro e w3 ⟨y1, rfl, hy1, hB3⟩
  go_wp2_with fail
  refine (sameRun _ _ _ _ _ (hx1.kept hB3 (Nat.le_refl _)) hy1).mono ?_
  rintro e w4 ⟨rfl, hB4⟩
  have hrun4 := (hrun2.kept hB3 (Nat.le_refl _)).kept hB4 (Nat.le_refl _)
  rw [decide_eq_true rfl]
  go_wp2_with fail
  refine (trProject run n _ _ hrun4 (by omega) Ho.out.asks Ho.out.sent).mono ?_
  rintro e w5 ⟨x2, rfl, hx2, hB5⟩
  have hrun5 := hrun4.kept hB5 (Nat.le_refl _)
  go_wp2_with fail
  refine (refProject run n _ _ hrun5 (by omega)).mono ?_
  rintro e w6 ⟨y2, rfl, hy2, hB6⟩
  go_wp2_with fail
  refine (sameRun _ _ _ _ _ (hx2.kept hB6 (Nat.le_refl _)) hy2).mono ?_
  rintro e w7 ⟨rfl, hB7⟩
  have hrun7 := (hrun5.kept hB6 (Nat.le_refl _)).kept hB7 (Nat.le_refl _)
  rw [decide_eq_true rfl]
  go_wp2_with fail
  refine (trObservable run _ _ hrun7 (by omega) Ho.out.asks Ho.out.sent).mono ?_
  rintro e w8 ⟨x3, rfl, hx3, hB8⟩
  have hrun8 := hrun7.kept hB8 (Nat.le_refl _)
  go_wp2_with fail
  refine (refObservable run _ _ hrun8 (by omega)).mono ?_
  rintro e w9 ⟨y3, rfl, hy3, hB9⟩
  go_wp2_with fail
  refine (sameRun _ _ _ _ _ (hx3.kept hB9 (Nat.le_refl _)) hy3).mono ?_
  rintro e w10 ⟨rfl, hB10⟩
  rw [decide_eq_true rfl]
  go_wp2_with fail
  refine (lives _).mono ?_
  rintro e w11 ⟨rfl, hB11⟩
  have s2 := hB2.size
  have s3 := hB3.size
  have s4 := hB4.size
  have s5 := hB5.size
  have s6 := hB6.size
  have s7 := hB7.size
  have s8 := hB8.size
  have s9 := hB9.size
  have s10 := hB10.size
  have s1 := hB1.size
  have hBB : Below w.heap.size w w11 := (((((((((hB1.trans (hB2.mono (by omega))).trans (hB3.mono (by omega))).trans (hB4.mono (by omega))).trans (hB5.mono (by omega))).trans (hB6.mono (by omega))).trans (hB7.mono (by omega))).trans (hB8.mono (by omega))).trans (hB9.mono (by omega))).trans (hB10.mono (by omega))).trans (hB11.mono (by omega))
  go_wp2_with fail
  go_ret
  exact ⟨rfl, hBB⟩

end Go.Proofs.Ytaedfidfcoigoaa
