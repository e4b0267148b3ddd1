/- TraceEquivalent: the walk. -/
import Derived.Test.YtaedfidfcoigoaaL3
import Derived.Test.YtaedfidfcoigoaaK3
namespace Go.Proofs.Ytaedfidfcoigoaa
open Go.RowKit

theorem keyI_sws {l m : List Stp} (h : Sws l m) : keyI m = keyI l := by unfold keyI; rw [h.norm]

set_option maxHeartbeats 4000000 in
set_option maxRecDepth 100000 in
theorem lawEquivalent (l sl ml : List Int) (at' : Int) (v0 v1 v2 : Value) (w : World) (hl : IntSl w v0 l) (hs : IntSl w v1 sl) (hm : IntSl w v2 ml) (hr : ∀ x ∈ l, InI64 x) (hr1 : ∀ x ∈ sl, InI64 x) (hr2 : ∀ x ∈ ml, InI64 x) (hat : InI64 at') :
    Calls Try.prog 8 #[v0, v1, I at', v2] w fun e w' => e = .returned (.bool true) ∧ Below w.heap.size w w' := by
  have H9 := Lib.hid (refRun l 12 v0 w hl hr (by omega))
  have Hr1 := Lib.hid hr1
  have Hr2 := Lib.hid hr2
  have Hat := Lib.hid hat
  clear hr hl hr1 hr2 hat
  go_enter Try.func8, Try.ntmps8
  go_wp2_with fail
  refine H9.out.mono ?_
  rintro e w1 ⟨u, run, rfl, hrun, hlen, hok, hB1⟩
  have Ho := Lib.hid (run_ok hlen (by omega) hok)
  have Hok := Lib.hid hok
  clear hok H9
  go_wp2_with fail
  refine (refShuffle sl run _ _ _ (hs.kept hB1 (Nat.le_refl _)) Hr1.out hrun (by omega)).mono ?_
  rintro e w2 ⟨u2, run2, rfl, hrun2, hsw, hB2⟩
  have hC2 := nextB hB1 hB2 (Nat.le_refl _)
  have hlen2 : run2.length ≤ 12 := by rw [hsw.length]; exact hlen
  have hok2 : ∀ s ∈ run2, s.asks.length ≤ 1 ∧ s.sent.length ≤ 2 := fun s hs' => Hok.out s ((hsw.mem s).1 hs')
  have Hsw := Lib.hid hsw
  have Hok2 := Lib.hid hok2
  have Ho2 := Lib.hid (run_ok hlen2 (by omega) hok2)
  clear hsw hok2
  go_wp2_with fail
  refine (refForced run2 at' _ _ hrun2 (by omega) Hat.out).mono ?_
  rintro e w3 ⟨u3, run3, rfl, hrun3, hlen3, hmem3, hB3⟩
  have hC3 := nextB hC2 hB3 (Nat.le_refl _)
  have Ho3 := Lib.hid (run_ok (n := 12) (by omega) (by omega) (fun s hs' => Hok2.out s (hmem3 s hs')) : RunOk run3)
  clear hmem3
  go_wp2_with fail
  refine (refRun ml 12 _ _ (hm.kept hC3 (Nat.le_refl _)) Hr2.out (by omega)).mono ?_
  rintro e w4 ⟨u4, run4, rfl, hrun4, hlen4, hok4, hB4⟩
  have hC4 := nextB hC3 hB4 (Nat.le_refl _)
  have Ho4 := Lib.hid (run_ok hlen4 (by omega) hok4)
  clear hok4
  have a1 := ((hrun.kept hB2 (Nat.le_refl _)).kept hB3 (Nat.le_refl _)).kept hB4 (Nat.le_refl _)
  have a2 := (hrun2.kept hB3 (Nat.le_refl _)).kept hB4 (Nat.le_refl _)
  have a3 := hrun3.kept hB4 (Nat.le_refl _)
  have a4 := hrun4
  clear hrun hrun2 hrun3 hrun4
  have heq := trEquivalent run run2 _ _ _ a1 a2 Ho.out Ho2.out
  rw [decide_eq_true Hsw.out.norm.symm] at heq
  have Heq := Lib.hid heq
  clear heq
  go_wp2_with fail
  refine Heq.out.mono ?_
  rintro e w5 ⟨rfl, hB5⟩
  have hC5 := nextB hC4 hB5 (Nat.le_refl _)
  replace a1 := a1.kept hB5 (Nat.le_refl _)
  replace a2 := a2.kept hB5 (Nat.le_refl _)
  replace a3 := a3.kept hB5 (Nat.le_refl _)
  replace a4 := a4.kept hB5 (Nat.le_refl _)
  obtain ⟨kk, hkk⟩ : ∃ kk, kk = keyI run := ⟨_, rfl⟩
  have hkk2 : keyI run2 = kk := (keyI_sws Hsw.out).trans hkk.symm
  have Hkk := Lib.hid hkk
  have Hkk2 := Lib.hid hkk2
  have Hsm := Lib.hid (show ∀ s ∈ run, s.asks.length ≤ 1000 ∧ s.sent.length ≤ 1000 from fun s hs => by have := Hok.out s hs; omega)
  have Hsm2 := Lib.hid (show ∀ s ∈ run2, s.asks.length ≤ 1000 ∧ s.sent.length ≤ 1000 from fun s hs => by have := Hok2.out s hs; omega)
  clear hkk hkk2
  go_wp2_with fail
  refine (trKey run _ _ a1 Ho.out.len Hsm.out).mono ?_
  rintro e w6 ⟨rfl, hB6⟩
  have hC6 := nextB hC5 hB6 (Nat.le_refl _)
  replace a1 := a1.kept hB6 (Nat.le_refl _)
  replace a2 := a2.kept hB6 (Nat.le_refl _)
  replace a3 := a3.kept hB6 (Nat.le_refl _)
  replace a4 := a4.kept hB6 (Nat.le_refl _)
  rw [← Hkk.out]
  go_wp2_with fail
  refine (trKey run2 _ _ a2 Ho2.out.len Hsm2.out).mono ?_
  rintro e w7 ⟨rfl, hB7⟩
  have hC7 := nextB hC6 hB7 (Nat.le_refl _)
  replace a1 := a1.kept hB7 (Nat.le_refl _)
  replace a3 := a3.kept hB7 (Nat.le_refl _)
  replace a4 := a4.kept hB7 (Nat.le_refl _)
  rw [Hkk2.out]
  clear Hkk Hkk2
  obtain ⟨d3, hd3⟩ : ∃ d : Bool, d = decide (normS run = normS run3) := ⟨_, rfl⟩
  obtain ⟨d4, hd4⟩ : ∃ d : Bool, d = decide (normS run = normS run4) := ⟨_, rfl⟩
  have Hd3 := Lib.hid hd3
  have Hd4 := Lib.hid hd4
  clear hd3 hd4
  go_wp2_with fail
  refine (trEquivalent run run3 _ _ _ a1 a3 Ho.out Ho3.out).mono ?_
  rintro e w8 ⟨rfl, hB8⟩
  have hC8 := nextB hC7 hB8 (Nat.le_refl _)
  replace a1 := a1.kept hB8 (Nat.le_refl _)
  replace a3 := a3.kept hB8 (Nat.le_refl _)
  replace a4 := a4.kept hB8 (Nat.le_refl _)
  rw [← Hd3.out]
  go_wp2_with fail
  refine (refEquivalent run run3 _ _ _ a1 a3 Ho.out Ho3.out).mono ?_
  rintro e w9 ⟨rfl, hB9⟩
  have hC9 := nextB hC8 hB9 (Nat.le_refl _)
  replace a1 := a1.kept hB9 (Nat.le_refl _)
  replace a4 := a4.kept hB9 (Nat.le_refl _)
  rw [← Hd3.out]
  have hdd3 : (d3 == d3) = true := by simp
  have hdd4 : (d4 == d4) = true := by simp
  go_wp2_with fail
  refine (trEquivalent run run4 _ _ _ a1 a4 Ho.out Ho4.out).mono ?_
  rintro e w10 ⟨rfl, hB10⟩
  have hC10 := nextB hC9 hB10 (Nat.le_refl _)
  replace a1 := a1.kept hB10 (Nat.le_refl _)
  replace a4 := a4.kept hB10 (Nat.le_refl _)
  rw [← Hd4.out]
  go_wp2_with fail
  refine (refEquivalent run run4 _ _ _ a1 a4 Ho.out Ho4.out).mono ?_
  rintro e w11 ⟨rfl, hB11⟩
  have hC11 := nextB hC10 hB11 (Nat.le_refl _)
  rw [← Hd4.out]
  go_wp2_with fail
  refine (lives _).mono ?_
  rintro e w12 ⟨rfl, hB12⟩
  have hC12 := nextB hC11 hB12 (Nat.le_refl _)
  go_wp2_with fail
  go_ret
  exact ⟨rfl, hC12⟩

end Go.Proofs.Ytaedfidfcoigoaa
