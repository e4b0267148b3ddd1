/- TapeEncodes: the walk. -/
import Derived.Test.YtjdhcdbjfbhogaaX10
import Derived.Test.YtjdhcdbjfbhogaaX2
import Derived.Test.YtjdhcdbjfbhogaaQ5
namespace Go.Proofs.Ytjdhcdbjfbhogaa
open Go.RowKit

/-- Encode by both, and SameBytes: true. -/
theorem sameEnc (evs : List Ev) (l : List Ans) (u v : Value) (B B' : Nat) (W : World) (h1 : W.ownsRow B 5 1 u (encP evs (normA l)).length (bv (encP evs (normA l)))) (h2 : W.ownsRow B' 5 1 v (encP evs (normA l)).length (bv (encP evs (normA l)))) :
    Calls Try.prog 14 #[u, v] W fun e w' => e = .returned (.bool true) ∧ Below W.heap.size W w' := by
  refine (sameBy _ _ _ _ W (Flat.of_owns h1) (Flat.of_owns h2)).mono ?_
  rintro e w' ⟨rfl, h⟩
  exact ⟨by rw [decide_eq_true rfl], h⟩

set_option maxHeartbeats 8000000 in
set_option maxRecDepth 100000 in
theorem lawEncodes (l0 m0 : List Int) (re : List Ev) (ra : List Ans) (vl vm : Value) (kr : Option Addr) (cr : Nat) (kr2 : Option Addr) (cr2 : Nat) (w : World) (hl : IntSl w vl l0) (hm : IntSl w vm m0) (hr : TapeIn w kr cr kr2 cr2 re ra) (hc1 : re.length ≤ cr) (hc2 : ra.length ≤ cr2)
    (okl : ∀ n ∈ l0, InI64 n) (okm : ∀ n ∈ m0, InI64 n) (oke : ∀ e ∈ re, e.ok) (oka : ∀ a ∈ ra, a.ok) :
    Calls Try.prog 3 #[vl, vm, tv kr cr kr2 cr2 re ra] w fun e w' => e = .returned (.bool true) ∧ Below w.heap.size w w' := by
  have HT := Lib.hid (fun (W : World) (hW : Below w.heap.size w W) => tapeT l0 m0 vl vm W (hl.kept hW (Nat.le_refl _)) (hm.kept hW (Nat.le_refl _)) okl okm)
  have HC := Lib.hid (fun (W : World) (hW : Below w.heap.size w W) => cutC re ra kr cr kr2 cr2 W (hr.kept hW) hc1 hc2)
  have hle := tapeEv_length l0
  have hll := tapeAns_length m0
  have hle2 : (re.take 6).length ≤ 6 := by rw [List.length_take]; omega
  have hll2 : (ra.take 6).length ≤ 6 := by rw [List.length_take]; omega
  have Hok := Lib.hid (tapeAns_ok m0)
  have Hev := Lib.hid (tapeEv_ok l0)
  have Hok2 := Lib.hid (show ∀ a ∈ ra.take 6, a.ok from fun a ha => oka a (List.mem_of_mem_take ha))
  have Hev2 := Lib.hid (show ∀ a ∈ re.take 6, a.ok from fun a ha => oke a (List.mem_of_mem_take ha))
  clear hl hm okl okm hr oke oka
  generalize tapeEv l0 = evs at HT hle Hev
  generalize tapeAns m0 = l at HT hll Hok
  generalize re.take 6 = evs2 at HC hle2 Hev2
  generalize ra.take 6 = l2 at HC hll2 Hok2
  have B0 : Below w.heap.size w (w.alloc (.cells #[.slice kr re.length cr, .slice kr2 ra.length cr2] 26)) := (Below.refl _ _).alloc (Nat.le_refl _) _
  have hR := Blk.new w #[.slice kr re.length cr, .slice kr2 ra.length cr2] 26
  go_enter Try.func3, Try.ntmps3
  go_upto_region 1 with fail
  generalize w.alloc (.cells #[.slice kr re.length cr, .slice kr2 ra.length cr2] 26) = w0 at B0 hR ⊢
  have HR := Lib.hid hR
  clear hR
  go_wp2_with fail
  refine (HT.out w0 B0).mono ?_
  rintro e w1 ⟨k1, c1, k2, c2, rfl, ht1, B1⟩
  obtain ⟨hT, P1, z1⟩ := boxed w1 #[.slice k1 evs.length c1, .slice k2 l.length c2] 26
  go_upto_region 2 with fail
  generalize w1.alloc (.cells #[.slice k1 evs.length c1, .slice k2 l.length c2] 26) = W1 at hT P1 z1 ⊢
  have B1b := Below.then B1 P1
  have B1a := Below.then B0 B1b
  have hRw := (HR.out.kept B1b HR.out.lt).cell
  have hgr := HR.out.lt
  have zb := B1.size
  obtain ⟨gt, egt⟩ : ∃ g, g = w1.heap.size := ⟨_, rfl⟩
  rw [← egt] at hT ⊢
  have hgt : gt < W1.heap.size := by omega
  clear egt z1 zb
  go_wp2_with fail
  refine (HC.out W1 B1a).mono ?_
  rintro e w3 ⟨k3, c3, k4, c4, rfl, hw3, B3⟩
  obtain ⟨hWb, P3, z3⟩ := boxed w3 #[.slice k3 evs2.length c3, .slice k4 l2.length c4] 26
  go_upto_region 3 with fail
  generalize w3.alloc (.cells #[.slice k3 evs2.length c3, .slice k4 l2.length c4] 26) = w4 at hWb P3 z3 ⊢
  have z4 := B3.size
  obtain ⟨gw, egw⟩ : ∃ g, g = w3.heap.size := ⟨_, rfl⟩
  rw [← egw] at hWb ⊢
  have ht4 := ((ht1.kept P1).kept B3).kept P3
  have hw4 := hw3.kept P3
  have B4a := Below.then (Below.then B1a B3) P3
  have hT4 := (hT.kept B3 (by omega)).kept P3 (by omega)
  have HS := Lib.hid (show ∀ X, Below w4.heap.size w4 X → (∀ j, X.cell? ⟨gt, j, none⟩ = (#[.slice k1 evs.length c1, .slice k2 l.length c2] : Array Value)[j]?) ∧ (∀ j, X.cell? ⟨gw, j, none⟩ = (#[.slice k3 evs2.length c3, .slice k4 l2.length c4] : Array Value)[j]?) from fun X hX => ⟨(hT4.kept hX hT4.lt).cell, (hWb.kept hX hWb.lt).cell⟩)
  have Ht := Lib.hid ht4
  have Hw := Lib.hid hw4
  have HB4 := Lib.hid B4a
  have D0 : Below w4.heap.size w4 w4.drew := (Below.refl _ _).drew
  clear egw z3 z4 hT P1 B1b B1a hRw hgr HR hw3 B3 P3 ht1 B1 ht4 hw4 B4a hT4 hWb HT HC B0
  refine wp_region_ordN 16 [(0, true), (2, true), (1, false), (3, false), (4, false), (5, true), (6, true), (8, true), (7, false), (9, false), (10, false), (11, true), (12, true), (13, false), (14, true), (15, true)] (fun w' => (∀ j, w'.cell? ⟨gt, j, none⟩ = (#[.slice k1 evs.length c1, .slice k2 l.length c2] : Array Value)[j]?) ∧ (∀ j, w'.cell? ⟨gw, j, none⟩ = (#[.slice k3 evs2.length c3, .slice k4 l2.length c4] : Array Value)[j]?)) (by kernel_rfl) rfl rfl (by kernel_rfl) (HS.out _ D0) ?_
  iterate 2 (refine wpOrd_take ?_ (by rfl) ?_ ?_; rotate_left; (intro w hSw; (try dsimp only at hSw); go_simp; try with_reducible rfl); (try simp only [Act.put, List.setIfInBounds_toArray, List.set_cons_zero, List.set_cons_succ]))
  refine wpOrd_move (fun K hK => ?_)
  go_simp
  go_at_call 15
  refine (encodeF evs l _ _ w4.drew (Ht.out.kept D0).1 (Ht.out.kept D0).2 Hok.out Hev.out (by omega) (by omega)).mono ?_
  rintro e X1 ⟨u1, rfl, h1, F⟩
  have D1 := Below.then D0 F
  refine hK.out _ _ (HS.out _ D1) ?_
  clear hK K
  (try simp only [Act.put, List.setIfInBounds_toArray, List.set_cons_zero, List.set_cons_succ])
  refine wpOrd_move (fun K hK => ?_)
  go_simp
  go_at_call 16
  refine (refEncodeF evs l _ _ X1 (Ht.out.kept D1).1 (Ht.out.kept D1).2 Hok.out Hev.out (by omega) (by omega)).mono ?_
  rintro e X2 ⟨u2, rfl, h2, F⟩
  have D2 := Below.then D1 F
  refine hK.out _ _ (HS.out _ D2) ?_
  clear hK K
  (try simp only [Act.put, List.setIfInBounds_toArray, List.set_cons_zero, List.set_cons_succ])
  have h1 := owns_below h1 F
  refine wpOrd_move (fun K hK => ?_)
  go_simp
  go_at_call 14
  refine (sameEnc evs l u1 u2 _ _ X2 h1 h2).mono ?_
  rintro e X3 ⟨rfl, F⟩
  have D3 := Below.then D2 F
  refine hK.out _ _ (HS.out _ D3) ?_
  clear hK K
  (try simp only [Act.put, List.setIfInBounds_toArray, List.set_cons_zero, List.set_cons_succ])
  iterate 3 (refine wpOrd_take ?_ (by rfl) ?_ ?_; rotate_left; (intro w hSw; (try dsimp only at hSw); go_simp; try with_reducible rfl); (try simp only [Act.put, List.setIfInBounds_toArray, List.set_cons_zero, List.set_cons_succ]))
  refine wpOrd_move (fun K hK => ?_)
  go_simp
  go_at_call 15
  refine (encodeF evs2 l2 _ _ X3 (Hw.out.kept D3).1 (Hw.out.kept D3).2 Hok2.out Hev2.out (by omega) (by omega)).mono ?_
  rintro e X4 ⟨u3, rfl, h3, F⟩
  have D4 := Below.then D3 F
  refine hK.out _ _ (HS.out _ D4) ?_
  clear hK K
  (try simp only [Act.put, List.setIfInBounds_toArray, List.set_cons_zero, List.set_cons_succ])
  refine wpOrd_move (fun K hK => ?_)
  go_simp
  go_at_call 16
  refine (refEncodeF evs2 l2 _ _ X4 (Hw.out.kept D4).1 (Hw.out.kept D4).2 Hok2.out Hev2.out (by omega) (by omega)).mono ?_
  rintro e X5 ⟨u4, rfl, h4, F⟩
  have D5 := Below.then D4 F
  refine hK.out _ _ (HS.out _ D5) ?_
  clear hK K
  (try simp only [Act.put, List.setIfInBounds_toArray, List.set_cons_zero, List.set_cons_succ])
  have h3 := owns_below h3 F
  refine wpOrd_move (fun K hK => ?_)
  go_simp
  go_at_call 14
  refine (sameEnc evs2 l2 u3 u4 _ _ X5 h3 h4).mono ?_
  rintro e X6 ⟨rfl, F⟩
  have D6 := Below.then D5 F
  refine hK.out _ _ (HS.out _ D6) ?_
  clear hK K
  (try simp only [Act.put, List.setIfInBounds_toArray, List.set_cons_zero, List.set_cons_succ])
  iterate 2 (refine wpOrd_take ?_ (by rfl) ?_ ?_; rotate_left; (intro w hSw; (try dsimp only at hSw); go_simp; try with_reducible rfl); (try simp only [Act.put, List.setIfInBounds_toArray, List.set_cons_zero, List.set_cons_succ]))
  refine wpOrd_move (fun K hK => ?_)
  go_simp
  go_at_call 17
  refine (livesF _).mono ?_
  rintro e X7 ⟨rfl, F⟩
  have D7 := Below.then D6 F
  refine hK.out _ _ (HS.out _ D7) ?_
  clear hK K
  (try simp only [Act.put, List.setIfInBounds_toArray, List.set_cons_zero, List.set_cons_succ])
  iterate 2 (refine wpOrd_take ?_ (by rfl) ?_ ?_; rotate_left; (intro w hSw; (try dsimp only at hSw); go_simp; try with_reducible rfl); (try simp only [Act.put, List.setIfInBounds_toArray, List.set_cons_zero, List.set_cons_succ]))
  refine wpOrd_nil ?_
  go_wp2_with fail
  refine NoPanic.normal ?_
  go_wp2_with fail
  go_ret
  exact ⟨rfl, HB4.out.trans (D7.mono HB4.out.size)⟩
end Go.Proofs.Ytjdhcdbjfbhogaa
