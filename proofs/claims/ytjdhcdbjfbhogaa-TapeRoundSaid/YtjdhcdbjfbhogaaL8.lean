/- TapeRound: the walk. -/
import Derived.Test.YtjdhcdbjfbhogaaL3
import Derived.Test.YtjdhcdbjfbhogaaQ4
namespace Go.Proofs.Ytjdhcdbjfbhogaa
open Go.RowKit

/-- The parts of a normal form, one behind the other. -/
theorem norm_step {l : List Ans} {k : Nat} (h : k < (normA l).length) (hk : 0 < k) : (normA l)[k - 1].q.cmp (normA l)[k].q < 0 :=
  List.pairwise_iff_getElem.1 (normA_spec l).1 (k - 1) k (by omega) h (by omega)
theorem norm_pos {l : List Ans} {k : Nat} (h : k < (normA l).length) : 1 ≤ (normA l)[k].n := by
  have := (normA_mem (List.getElem_mem h)).2
  omega
theorem dec_norm {evs : List Ev} {l : List Ans} (he : ∀ e ∈ evs, e.ok) (hl : ∀ a ∈ l, a.ok) (h1 : evs.length ≤ 5000) (h2 : l.length ≤ 10000) : decP (encP evs (normA l)) = ((evs, normA l), 0) :=
  dec_enc he (normA_ok hl) (normA_spec l).1 (fun a ha => (normA_mem ha).2) h1 (by have := normA_length l; omega)
/-- One of two tapes in a row. -/
structure TapeEl (W : World) (ga i : Nat) (k : Option Addr) (c : Nat) (k2 : Option Addr) (c2 : Nat) (evs : List Ev) (l : List Ans) : Prop where
  cell : W.cell? ⟨ga, i * 2, none⟩ = some (.slice k evs.length c) ∧ W.cell? ⟨ga, i * 2 + 1, none⟩ = some (.slice k2 l.length c2)
  tape : TapeIn W k c k2 c2 evs l
  ok : (∀ e ∈ evs, e.ok) ∧ ∀ a ∈ l, a.ok
  len : evs.length ≤ 10 ∧ l.length ≤ 10
theorem TapeEl.kept {W W' : World} {ga i : Nat} {k : Option Addr} {c : Nat} {k2 : Option Addr} {c2 : Nat} {evs : List Ev} {l : List Ans} (h : TapeEl W ga i k c k2 c2 evs l) (hb : Below W.heap.size W W') : TapeEl W' ga i k c k2 c2 evs l := by
  have h0 := World.block_lt_of_cell? _ _ h.cell.1
  exact ⟨⟨by rw [hb.cell (by simpa using h0)]; exact h.cell.1, by rw [hb.cell (by simpa using h0)]; exact h.cell.2⟩, h.tape.kept hb, h.ok, h.len⟩

theorem sameTT (e1 : List Ev) (l1 : List Ans) (k : Option Addr) (c : Nat) (k2 : Option Addr) (c2 : Nat) (k3 : Option Addr) (c3 : Nat) (k4 : Option Addr) (c4 : Nat) (w : World) (h1 : TapeIn w k c k2 c2 e1 l1) (h2 : TapeIn w k3 c3 k4 c4 e1 l1) :
    Calls Try.prog 22 #[tv k c k2 c2 e1 l1, tv k3 c3 k4 c4 e1 l1] w fun e w' => e = .returned (.bool true) ∧ Below w.heap.size w w' := by
  refine (sameT e1 e1 l1 l1 k c k2 c2 k3 c3 k4 c4 w h1 h2).mono ?_
  rintro e w' ⟨rfl, h⟩
  exact ⟨by simp, h⟩
theorem equalTT (e1 : List Ev) (l1 l2 : List Ans) (k : Option Addr) (c : Nat) (k2 : Option Addr) (c2 : Nat) (k3 : Option Addr) (c3 : Nat) (k4 : Option Addr) (c4 : Nat) (w : World) (h1 : TapeIn w k c k2 c2 e1 l1) (h2 : TapeIn w k3 c3 k4 c4 e1 l2)
    (ok1 : ∀ a ∈ l1, a.ok) (ok2 : ∀ a ∈ l2, a.ok) (n1 : l1.length ≤ 1000000) (n2 : l2.length ≤ 1000000) (he : normA l1 = normA l2) :
    Calls Try.prog 34 #[tv k c k2 c2 e1 l1, tv k3 c3 k4 c4 e1 l2] w fun e w' => e = .returned (.bool true) ∧ Below w.heap.size w w' := by
  refine (equalT e1 e1 l1 l2 k c k2 c2 k3 c3 k4 c4 w h1 h2 ok1 ok2 n1 n2).mono ?_
  rintro e w' ⟨rfl, h⟩
  exact ⟨by simp [he], h⟩

set_option maxHeartbeats 8000000 in
set_option maxRecDepth 100000 in
theorem lawRound (l0 m0 : List Int) (re : List Ev) (ra : List Ans) (vl vm : Value) (kr : Option Addr) (cr : Nat) (kr2 : Option Addr) (cr2 : Nat) (w : World) (hl : IntSl w vl l0) (hm : IntSl w vm m0) (hr : TapeIn w kr cr kr2 cr2 re ra) (hc1 : re.length ≤ cr) (hc2 : ra.length ≤ cr2)
    (okl : ∀ n ∈ l0, InI64 n) (okm : ∀ n ∈ m0, InI64 n) (oke : ∀ e ∈ re, e.ok) (oka : ∀ a ∈ ra, a.ok) :
    Calls Try.prog 8 #[vl, vm, tv kr cr kr2 cr2 re ra] w fun e w' => e = .returned (.bool true) ∧ Below w.heap.size w w' := by
  have HT := Lib.hid (fun (W : World) (hW : Below w.heap.size w W) => tapeT l0 m0 vl vm W (hl.kept hW (Nat.le_refl _)) (hm.kept hW (Nat.le_refl _)) okl okm)
  have HC := Lib.hid (fun (W : World) (hW : Below w.heap.size w W) => cutC re ra kr cr kr2 cr2 W (hr.kept hW) hc1 hc2)
  have hle := tapeEv_length l0
  have hll := tapeAns_length m0
  have hle2 : (re.take 6).length ≤ 6 := by rw [List.length_take]; omega
  have hll2 : (ra.take 6).length ≤ 6 := by rw [List.length_take]; omega
  have Hok := Lib.hid (tapeAns_ok m0)
  have Hev := Lib.hid (tapeEv_ok l0)
  have Hok2 := Lib.hid (show ∀ a ∈ ra.take 6, a.ok from fun a ha => oka a (List.mem_of_mem_take ha))
  have Hev2 := Lib.hid (show ∀ a ∈ re.take 6, a.ok from fun a ha => oke a (List.mem_of_mem_take ha))
  clear hl hm okl okm hr oke oka
  generalize tapeEv l0 = evs at HT hle Hev
  generalize tapeAns m0 = l at HT hll Hok
  generalize re.take 6 = evs2 at HC hle2 Hev2
  generalize ra.take 6 = l2 at HC hll2 Hok2
  have B0 : Below w.heap.size w (w.alloc (.cells #[.slice kr re.length cr, .slice kr2 ra.length cr2] 26)) := (Below.refl _ _).alloc (Nat.le_refl _) _
  have hR := Blk.new w #[.slice kr re.length cr, .slice kr2 ra.length cr2] 26
  go_enter Try.func8, Try.ntmps8
  go_upto_region 1 with fail
  generalize w.alloc (.cells #[.slice kr re.length cr, .slice kr2 ra.length cr2] 26) = w0 at B0 hR ⊢
  obtain ⟨gr, egr⟩ : ∃ g, g = w.heap.size := ⟨_, rfl⟩
  rw [← egr] at hR ⊢
  have hgr := hR.lt
  have D0 : Below w0.heap.size w0 w0.drew := (Below.refl _ _).drew
  have HS := Lib.hid (show ∀ X, Below w0.heap.size w0 X → (∀ j, X.cell? ⟨gr, j, none⟩ = (#[.slice kr re.length cr, .slice kr2 ra.length cr2] : Array Value)[j]?) from fun X hX => (hR.kept hX hR.lt).cell)
  have Hegr := Lib.hid egr
  clear hR egr
  refine wp_region_ordN 7 [(0, true), (1, true), (3, true), (2, false), (4, false), (5, false), (6, true)] (fun w' => ∀ j, w'.cell? ⟨gr, j, none⟩ = (#[.slice kr re.length cr, .slice kr2 ra.length cr2] : Array Value)[j]?) (by kernel_rfl) rfl rfl (by kernel_rfl) (HS.out _ D0) ?_
  iterate 3 (refine wpOrd_take ?_ (by rfl) ?_ ?_; rotate_left; (intro w hSw; (try dsimp only at hSw); go_simp; try with_reducible rfl); (try simp only [Act.put, List.setIfInBounds_toArray, List.set_cons_zero, List.set_cons_succ]))
  refine wpOrd_move (fun K hK => ?_)
  go_simp
  go_at_call 12
  refine (HT.out _ (B0.trans (D0.mono B0.size))).mono ?_
  rintro e X1 ⟨k1, c1, k2, c2, rfl, ht1, F⟩
  have D1 := Below.then D0 F
  refine hK.out _ _ (HS.out _ D1) ?_
  clear hK K
  (try simp only [Act.put, List.setIfInBounds_toArray, List.set_cons_zero, List.set_cons_succ])
  refine wpOrd_move (fun K hK => ?_)
  go_simp
  go_at_call 13
  refine (HC.out _ (B0.trans (D1.mono B0.size))).mono ?_
  rintro e X2 ⟨k3, c3, k4, c4, rfl, hw2, F⟩
  have D2 := Below.then D1 F
  refine hK.out _ _ (HS.out _ D2) ?_
  clear hK K
  (try simp only [Act.put, List.setIfInBounds_toArray, List.set_cons_zero, List.set_cons_succ])
  have ht2 := ht1.kept F
  obtain ⟨hab, F, zb⟩ := boxed X2 #[.slice k1 evs.length c1, .slice k2 l.length c2, .slice k3 evs2.length c3, .slice k4 l2.length c4] 26
  have D3 := Below.then D2 F
  refine wpOrd_move (fun K hK => ?_)
  go_simp
  refine hK.out _ _ (HS.out _ D3) ?_
  clear hK K
  (try simp only [Act.put, List.setIfInBounds_toArray, List.set_cons_zero, List.set_cons_succ])
  (refine wpOrd_take ?_ (by rfl) ?_ ?_; rotate_left; (intro w hSw; (try dsimp only at hSw); go_simp; try with_reducible rfl); (try simp only [Act.put, List.setIfInBounds_toArray, List.set_cons_zero, List.set_cons_succ]))
  refine wpOrd_nil ?_
  go_wp2_with fail
  refine NoPanic.normal ?_
  have hel : ∀ i, i < 2 → ∃ xa ya xb yb E L, TapeEl (X2.alloc (.cells #[.slice k1 evs.length c1, .slice k2 l.length c2, .slice k3 evs2.length c3, .slice k4 l2.length c4] 26)) X2.heap.size i xa ya xb yb E L := fun i hi => by
    have : i = 0 ∨ i = 1 := by omega
    rcases this with rfl | rfl
    · exact ⟨k1, c1, k2, c2, evs, l, ⟨hab.cell 0, hab.cell 1⟩, ht2.kept F, ⟨Hev.out, Hok.out⟩, by omega⟩
    · exact ⟨k3, c3, k4, c4, evs2, l2, ⟨hab.cell 2, hab.cell 3⟩, hw2.kept F, ⟨Hev2.out, Hok2.out⟩, by omega⟩
  obtain ⟨ga, ega⟩ : ∃ g, g = X2.heap.size := ⟨_, rfl⟩
  go_upto_region 2 with fail
  rw [← ega] at hel ⊢
  have hw3 := B0.trans (D3.mono B0.size)
  generalize X2.alloc (.cells #[.slice k1 evs.length c1, .slice k2 l.length c2, .slice k3 evs2.length c3, .slice k4 l2.length c4] 26) = w3 at hel hw3 ⊢
  have Hel := Lib.hid hel
  have Hw3 := Lib.hid hw3
  clear hel hw3 ega hab F zb D3 D2 D1 D0 ht1 ht2 hw2 HS HT HC B0 Hegr hgr Hok Hev Hok2 Hev2
  go_wp2_with fail
  go_loopw [8] (fun i wr => ∃ (i0 : Nat), i0 ≤ 2 ∧ i = .int .i64 i0 ∧ Hid (Below w3.heap.size w3 wr)) (fun i _ => 2 - (intOf i).toNat)
  case atStart => exact ⟨0, by omega, rfl, Lib.hid (Below.refl _ _)⟩
  case round =>
    obtain ⟨i, hi, rfl, HB⟩ := hrel
    by_cases hlt : i < 2
    · obtain ⟨k1, c1, k2, c2, evs, l, hE⟩ := Hel.out i hlt
      have hEr := hE.kept HB.out
      have x0 := hEr.cell.1
      have x1 := hEr.cell.2
      have hb1 := hE.len.1
      have hb2 := hE.len.2
      have hnl := normA_length l
      have HE := Lib.hid hE
      have HN := Lib.hid (normT_ evs l k1 c1 k2 c2 wr hEr.tape hE.ok.2 (by omega) (by omega))
      obtain ⟨r, hr⟩ : ∃ r, r = normA l := ⟨_, rfl⟩
      rw [← hr] at HN hnl
      have Hr := Lib.hid hr
      clear hE hEr hr
      go_upto_region 6 with (go_at_call 26; refine HN.out.mono ?_; rintro e X1 ⟨k3, c3, k4, c4, rfl, hn1, B1⟩)
      obtain ⟨hN, P1, z1⟩ := boxed X1 #[.slice k3 evs.length c3, .slice k4 r.length c4] 26
      generalize X1.alloc (.cells #[.slice k3 evs.length c3, .slice k4 r.length c4] 26) = W1 at hN P1 z1 ⊢
      have hB1 := Below.then (Below.then HB.out B1) P1
      have hn2 := hn1.kept P1
      obtain ⟨gn, egn⟩ : ∃ g, g = X1.heap.size := ⟨_, rfl⟩
      rw [← egn] at hN ⊢
      clear egn z1 P1 B1 hn1 HN x0 x1
      have hE1 := HE.out.kept hB1
      have x0 := hE1.cell.1
      have x1 := hE1.cell.2
      have HEn := Lib.hid (encodeF evs l _ _ W1 hE1.tape.1 hE1.tape.2 HE.out.ok.2 HE.out.ok.1 (by omega) (by omega))
      rw [← Hr.out] at HEn
      have hbl : (encP evs r).length ≤ 1000000 := Nat.le_trans (encP_length HE.out.ok.1 (by rw [Hr.out]; exact normA_ok HE.out.ok.2) (by omega) (by omega)) (by omega)
      have HD := Lib.hid (fun (v : Value) (W : World) (h : BySl W v (encP evs r)) => decodeF (encP evs r) v W h encP_byte hbl)
      rw [show decP (encP evs r) = ((evs, r), 0) from by rw [Hr.out]; exact dec_norm HE.out.ok.1 HE.out.ok.2 (by omega) (by omega)] at HD
      clear hE1
      go_upto_region 7 with (first | (go_at_call 15; refine HEn.out.mono ?_; rintro e X2 ⟨ub, rfl, hub, B2⟩; obtain ⟨kb, cb, rfl, _⟩ := (Flat.of_owns hub).open) | (go_at_call 20; refine (HD.out _ X2 (Flat.of_owns hub)).mono ?_; rintro e X3 ⟨ue, ua, rfl, hve, hva, B3⟩; obtain ⟨k5, c5, rfl, _⟩ := hve.open; obtain ⟨k6, c6, rfl, _⟩ := hva.open))
      obtain ⟨hT, P4, z4⟩ := boxed X3 #[.slice k5 evs.length c5, .slice k6 r.length c6] 26
      generalize X3.alloc (.cells #[.slice k5 evs.length c5, .slice k6 r.length c6] 26) = W4 at hT P4 z4 ⊢
      have hB14 := Below.then (Below.then B2 B3) P4
      have hB4 := Below.then hB1 hB14
      have hn4 := hn2.kept hB14
      have hN4 := hN.kept hB14 hN.lt
      have ht4 : TapeIn W4 k5 c5 k6 c6 evs r := ⟨hve.kept P4 (Nat.le_refl _), hva.kept P4 (Nat.le_refl _)⟩
      have hE4 := HE.out.kept hB4
      obtain ⟨gt, egt⟩ : ∃ g, g = X3.heap.size := ⟨_, rfl⟩
      rw [← egt] at hT ⊢
      have HS := Lib.hid (show ∀ X, Below W4.heap.size W4 X → (∀ j, X.cell? ⟨gn, j, none⟩ = (#[.slice k3 evs.length c3, .slice k4 r.length c4] : Array Value)[j]?) ∧ (∀ j, X.cell? ⟨gt, j, none⟩ = (#[.slice k5 evs.length c5, .slice k6 r.length c6] : Array Value)[j]?) ∧ X.cell? ⟨ga, i * 2, none⟩ = some (.slice k1 evs.length c1) ∧ X.cell? ⟨ga, i * 2 + 1, none⟩ = some (.slice k2 l.length c2) from fun X hX => ⟨(hN4.kept hX hN4.lt).cell, (hT.kept hX hT.lt).cell, (hE4.kept hX).cell⟩)
      have Hn := Lib.hid hn4
      have Ht := Lib.hid ht4
      have HB4 := Lib.hid hB4
      have HN4 := Lib.hid hN4
      have D0 : Below W4.heap.size W4 W4.drew := (Below.refl _ _).drew
      have Hrok := Lib.hid (show ∀ a ∈ r, a.ok from by rw [Hr.out]; exact normA_ok HE.out.ok.2)
      have Hnr := Lib.hid (show normA r = r from by rw [Hr.out, normA_idem])
      clear hT P4 z4 hB14 hB4 hn4 hN4 ht4 hE4 egt hve hva B2 B3 hub hN hn2 hB1 x0 x1 HEn HD
      refine wp_region_ordN 35 [(0, true), (1, true), (2, true), (3, true), (4, true), (5, false), (6, true), (7, true), (8, true), (9, true), (11, true), (10, false), (12, false), (13, true), (14, true), (15, true), (16, true), (17, true), (18, true), (19, true), (20, true), (21, false), (22, true), (23, true), (24, true), (25, true), (27, true), (28, true), (29, true), (30, true), (26, false), (31, false), (32, false), (33, true), (34, true)] (fun w' => (∀ j, w'.cell? ⟨gn, j, none⟩ = (#[.slice k3 evs.length c3, .slice k4 r.length c4] : Array Value)[j]?) ∧ (∀ j, w'.cell? ⟨gt, j, none⟩ = (#[.slice k5 evs.length c5, .slice k6 r.length c6] : Array Value)[j]?) ∧ w'.cell? ⟨ga, i * 2, none⟩ = some (.slice k1 evs.length c1) ∧ w'.cell? ⟨ga, i * 2 + 1, none⟩ = some (.slice k2 l.length c2)) (by kernel_rfl) rfl rfl (by kernel_rfl) (HS.out _ D0) ?_
      iterate 5 (refine wpOrd_take ?_ (by rfl) ?_ ?_; rotate_left; (intro w hSw; (try dsimp only at hSw); go_simp; try with_reducible rfl); (try simp only [Act.put, List.setIfInBounds_toArray, List.set_cons_zero, List.set_cons_succ]))
      refine wpOrd_move (fun K hK => ?_)
      go_simp
      go_at_call 22
      refine (sameTT evs r k5 c5 k6 c6 k3 c3 k4 c4 _ (Ht.out.kept D0) (Hn.out.kept D0)).mono ?_
      rintro e Y1 ⟨rfl, F⟩
      have D1 := Below.then D0 F
      refine hK.out _ _ (HS.out _ D1) ?_
      clear hK K
      (try simp only [Act.put, List.setIfInBounds_toArray, List.set_cons_zero, List.set_cons_succ])
      iterate 5 (refine wpOrd_take ?_ (by rfl) ?_ ?_; rotate_left; (intro w hSw; (try dsimp only at hSw); go_simp; try with_reducible rfl); (try simp only [Act.put, List.setIfInBounds_toArray, List.set_cons_zero, List.set_cons_succ]))
      refine wpOrd_move (fun K hK => ?_)
      go_simp
      go_at_call 26
      refine (normT_ evs r k3 c3 k4 c4 _ (Hn.out.kept D1) Hrok.out (by omega) (by omega)).mono ?_
      rintro e Y2 ⟨k7, c7, k8, c8, rfl, hy2, F⟩
      have D2 := Below.then D1 F
      refine hK.out _ _ (HS.out _ D2) ?_
      clear hK K
      (try simp only [Act.put, List.setIfInBounds_toArray, List.set_cons_zero, List.set_cons_succ])
      rw [Hnr.out] at hy2 ⊢
      refine wpOrd_move (fun K hK => ?_)
      go_simp
      go_at_call 22
      refine (sameTT evs r k7 c7 k8 c8 k3 c3 k4 c4 _ hy2 (Hn.out.kept D2)).mono ?_
      rintro e Y3 ⟨rfl, F⟩
      have D3 := Below.then D2 F
      refine hK.out _ _ (HS.out _ D3) ?_
      clear hK K
      (try simp only [Act.put, List.setIfInBounds_toArray, List.set_cons_zero, List.set_cons_succ])
      iterate 8 (refine wpOrd_take ?_ (by rfl) ?_ ?_; rotate_left; (intro w hSw; (try dsimp only at hSw); go_simp; try with_reducible rfl); (try simp only [Act.put, List.setIfInBounds_toArray, List.set_cons_zero, List.set_cons_succ]))
      refine wpOrd_move (fun K hK => ?_)
      go_simp
      go_at_call 34
      refine (equalTT evs l r k1 c1 k2 c2 k3 c3 k4 c4 _ ((HE.out.kept HB4.out).kept D3).tape (Hn.out.kept D3) HE.out.ok.2 Hrok.out (by omega) (by omega) (by rw [Hnr.out, Hr.out])).mono ?_
      rintro e Y4 ⟨rfl, F⟩
      have D4 := Below.then D3 F
      refine hK.out _ _ (HS.out _ D4) ?_
      clear hK K
      (try simp only [Act.put, List.setIfInBounds_toArray, List.set_cons_zero, List.set_cons_succ])
      iterate 8 (refine wpOrd_take ?_ (by rfl) ?_ ?_; rotate_left; (intro w hSw; (try dsimp only at hSw); go_simp; try with_reducible rfl); (try simp only [Act.put, List.setIfInBounds_toArray, List.set_cons_zero, List.set_cons_succ]))
      refine wpOrd_move (fun K hK => ?_)
      go_simp
      go_at_call 15
      refine (encodeF evs r _ _ _ (Hn.out.kept D4).1 (Hn.out.kept D4).2 Hrok.out HE.out.ok.1 (by omega) (by omega)).mono ?_
      rintro e Y5 ⟨u5, rfl, hu5, F⟩
      have D5 := Below.then D4 F
      refine hK.out _ _ (HS.out _ D5) ?_
      clear hK K
      (try simp only [Act.put, List.setIfInBounds_toArray, List.set_cons_zero, List.set_cons_succ])
      refine wpOrd_move (fun K hK => ?_)
      go_simp
      go_at_call 15
      refine (encodeF evs l _ _ _ ((HE.out.kept HB4.out).kept D5).tape.1 ((HE.out.kept HB4.out).kept D5).tape.2 HE.out.ok.2 HE.out.ok.1 (by omega) (by omega)).mono ?_
      rintro e Y6 ⟨u6, rfl, hu6, F⟩
      have D6 := Below.then D5 F
      refine hK.out _ _ (HS.out _ D6) ?_
      clear hK K
      (try simp only [Act.put, List.setIfInBounds_toArray, List.set_cons_zero, List.set_cons_succ])
      have hu5 := owns_below hu5 F
      rw [Hnr.out, Hr.out] at hu5
      refine wpOrd_move (fun K hK => ?_)
      go_simp
      go_at_call 14
      refine (sameEnc evs l u5 u6 _ _ Y6 hu5 hu6).mono ?_
      rintro e Y7 ⟨rfl, F⟩
      have D7 := Below.then D6 F
      refine hK.out _ _ (HS.out _ D7) ?_
      clear hK K
      (try simp only [Act.put, List.setIfInBounds_toArray, List.set_cons_zero, List.set_cons_succ])
      iterate 2 (refine wpOrd_take ?_ (by rfl) ?_ ?_; rotate_left; (intro w hSw; (try dsimp only at hSw); go_simp; try with_reducible rfl); (try simp only [Act.put, List.setIfInBounds_toArray, List.set_cons_zero, List.set_cons_succ]))
      refine wpOrd_nil ?_
      go_wp2_with fail
      refine NoPanic.normal ?_
      have HB7 := Lib.hid (HB4.out.trans (D7.mono HB4.out.size))
      have HD7 := Lib.hid D7
      clear D0 D1 D2 D3 D4 D5 D6 D7 F hu5 hu6 hy2 HS
      go_wp2_with fail
      obtain ⟨wo, rfl⟩ : ∃ wo, wo = Y7 := ⟨_, rfl⟩
      go_loopw [12] (fun i wr => ∃ (b : Nat), b ≤ r.length ∧ i = .int .i64 b ∧ Hid (Below W4.heap.size W4 wr)) (fun i _ => r.length - (intOf i).toNat)
      case atStart => exact ⟨0, by omega, rfl, HD7⟩
      case round =>
        clear HB7 HD7
        obtain ⟨b, hb, rfl, HD⟩ := hrel
        have hNr := HN4.out.kept HD.out HN4.out.lt
        have n1 := hNr.cell 1
        by_cases hlb : b < r.length
        · obtain ⟨q, o, rfl, hr1⟩ := ((Hn.out.kept HD.out).2).at (i := b) (x := r[b]) (by simp [hlb])
          have x0 : wr.cell? ⟨q, o + b * 6, none⟩ = _ := hr1 0 _ rfl
          have x1 := hr1 1 _ rfl
          have x2 := hr1 2 _ rfl
          have x3 := hr1 3 _ rfl
          have x4 := hr1 4 _ rfl
          have x5 := hr1 5 _ rfl
          have hpos : 1 ≤ r[b].n := by simp only [Hr.out]; exact norm_pos _
          have p1 : decide (r[b].n < 1) = false := by simp; omega
          have hql : q < wr.heap.size := by simpa using World.block_lt_of_cell? _ _ x0
          have D0 : Below wr.heap.size wr wr.drew := (Below.refl _ _).drew
          have HS := Lib.hid (show ∀ X, Below wr.heap.size wr X → (∀ j, X.cell? ⟨gn, j, none⟩ = (#[.slice k3 evs.length c3, .slice (some ⟨q, o, none⟩) r.length c4] : Array Value)[j]?) ∧ (∀ o', X.cell? ⟨q, o', none⟩ = wr.cell? ⟨q, o', none⟩) from fun X hX => ⟨(hNr.kept hX hNr.lt).cell, fun o' => bcell hX q o' hql⟩)
          have HNr := Lib.hid hNr
          clear hr1 hNr
          by_cases h0 : b = 0
          · have p2 : decide ((b : Int) > 0) = false := by simp; omega
            have p2b : decide (0 < b) = false := by simp; omega
            have Hh0 := Lib.hid h0
            clear h0
            go_upto_region 12 with fail
            refine wp_region_ordN 28 [(0, true), (1, true), (2, true), (3, true), (4, true), (5, true), (6, true), (7, true), (8, true), (9, true), (10, true), (11, true), (12, true), (13, true), (14, true), (15, true), (16, true), (17, true), (18, true), (19, true), (20, true), (21, true), (22, true), (23, true), (24, true), (25, true), (26, true), (27, true)] (fun w' => (∀ j, w'.cell? ⟨gn, j, none⟩ = (#[.slice k3 evs.length c3, .slice (some ⟨q, o, none⟩) r.length c4] : Array Value)[j]?) ∧ (∀ o', w'.cell? ⟨q, o', none⟩ = wr.cell? ⟨q, o', none⟩)) (by kernel_rfl) rfl rfl (by kernel_rfl) (HS.out _ D0) ?_
            iterate 11 (refine wpOrd_take ?_ (by rfl) ?_ ?_; rotate_left; (intro w hSw; (try dsimp only at hSw); go_simp; try with_reducible rfl); (try simp only [Act.put, List.setIfInBounds_toArray, List.set_cons_zero, List.set_cons_succ]))
            iterate 15 (first | (refine wpOrd_take ?_ (by rfl) ?_ ?_; rotate_left; (intro w hSw; (try dsimp only at hSw); go_simp; try with_reducible rfl); (try simp only [Act.put, List.setIfInBounds_toArray, List.set_cons_zero, List.set_cons_succ])) | (refine wpOrd_leave (by rfl) ?_; (try simp only [Act.put, List.setIfInBounds_toArray, List.set_cons_zero, List.set_cons_succ])))
            iterate 2 (refine wpOrd_take ?_ (by rfl) ?_ ?_; rotate_left; (intro w hSw; (try dsimp only at hSw); go_simp; try with_reducible rfl); (try simp only [Act.put, List.setIfInBounds_toArray, List.set_cons_zero, List.set_cons_succ]))
            refine wpOrd_nil ?_
            go_wp2_with fail
            refine NoPanic.normal ?_
            go_wp2_with fail
            go_roundw
            case rel => exact ⟨b + 1, by omega, by go_num, Lib.hid (HD.out.trans (D0.mono HD.out.size))⟩
            case measure => simp [intOf]; omega
          · have p2 : decide ((b : Int) > 0) = true := by simp; omega
            have p2b : decide (0 < b) = true := by simp; omega
            obtain ⟨m, hm⟩ : ∃ m, b = m + 1 := ⟨b - 1, by omega⟩
            have hw1 : IntKind.i64.wrap ((b : Int) - 1) = (m : Int) := by rw [IntKind.wrap_i64]; omega
            have hmn : m < r.length := by omega
            obtain ⟨q', o', hqo, hr2⟩ := ((Hn.out.kept HD.out).2).at (i := m) (x := r[m]) (by simp [hmn])
            simp at hqo
            obtain ⟨rfl, rfl⟩ := hqo
            have y0 : wr.cell? ⟨q, o + m * 6, none⟩ = _ := hr2 0 _ rfl
            have y1 := hr2 1 _ rfl
            have y2 := hr2 2 _ rfl
            have y3 := hr2 3 _ rfl
            have y4 := hr2 4 _ rfl
            have hcmp : r[m].q.cmp r[b].q < 0 := by
              have hb' : b < (normA l).length := by rw [← Hr.out]; exact hlb
              have h := norm_step hb' (by omega)
              have e1 : (normA l)[b - 1]'(by omega) = r[m] := by simp only [Hr.out]; congr 1; omega
              have e2 : (normA l)[b] = r[b] := by simp only [Hr.out]
              rw [e1, e2] at h
              exact h
            have HC := Lib.hid (show ∀ W, Calls Try.prog 39 #[.agg #[I r[m].q.node, I r[m].q.handler, I r[m].q.count, I r[m].q.kind, I r[m].q.index], .agg #[I r[b].q.node, I r[b].q.handler, I r[b].q.count, I r[b].q.kind, I r[b].q.index]] W fun e w' => ∃ c : Int, e = .returned (I c) ∧ decide (c ≥ 0) = false ∧ Below W.heap.size W w' from fun W => (compareQuestion _ _ _ _ _ _ _ _ _ _ W).mono (by rintro e w' ⟨rfl, h⟩; exact ⟨_, rfl, decide_eq_false (by show ¬ r[m].q.cmp r[b].q ≥ 0; omega), h⟩))
            have Hm := Lib.hid hm
            clear hr2 hcmp hm h0
            go_upto_region 12 with fail
            refine wp_region_ordN 28 [(0, true), (1, true), (2, true), (3, true), (4, true), (5, true), (6, true), (7, true), (8, true), (9, true), (10, true), (11, true), (12, true), (13, true), (14, true), (15, true), (16, true), (17, true), (18, true), (19, true), (20, true), (21, true), (22, true), (23, true), (24, false), (25, true), (26, true), (27, true)] (fun w' => (∀ j, w'.cell? ⟨gn, j, none⟩ = (#[.slice k3 evs.length c3, .slice (some ⟨q, o, none⟩) r.length c4] : Array Value)[j]?) ∧ (∀ o', w'.cell? ⟨q, o', none⟩ = wr.cell? ⟨q, o', none⟩)) (by kernel_rfl) rfl rfl (by kernel_rfl) (HS.out _ D0) ?_
            iterate 24 (refine wpOrd_take ?_ (by rfl) ?_ ?_; rotate_left; (intro w hSw; (try dsimp only at hSw); go_simp; try with_reducible rfl); (try simp only [Act.put, List.setIfInBounds_toArray, List.set_cons_zero, List.set_cons_succ]))
            refine wpOrd_move (fun K hK => ?_)
            go_simp
            go_at_call 39
            refine (HC.out _).mono ?_
            rintro e Z1 ⟨c, rfl, hc0, F⟩
            have D1 := Below.then D0 F
            refine hK.out _ _ (HS.out _ D1) ?_
            clear hK K
            (try simp only [Act.put, List.setIfInBounds_toArray, List.set_cons_zero, List.set_cons_succ])
            iterate 3 (refine wpOrd_take ?_ (by rfl) ?_ ?_; rotate_left; (intro w hSw; (try dsimp only at hSw); go_simp; try with_reducible rfl); (try simp only [Act.put, List.setIfInBounds_toArray, List.set_cons_zero, List.set_cons_succ]))
            refine wpOrd_nil ?_
            go_wp2_with fail
            refine NoPanic.normal ?_
            go_wp2_with fail
            go_roundw
            case rel => exact ⟨b + 1, by omega, by go_num, Lib.hid (HD.out.trans (D1.mono HD.out.size))⟩
            case measure => simp [intOf]; omega
        · go_wp2_with fail
          go_roundw
          case rel => exact ⟨i + 1, by omega, by go_num, Lib.hid (HB4.out.trans (HD.out.mono HB4.out.size))⟩
          case measure => simp [intOf]; omega
    · go_wp2_with fail
      refine (livesF _).mono ?_
      rintro e Z ⟨rfl, F⟩
      go_wp2_with fail
      go_ret
      exact ⟨rfl, Hw3.out.trans ((Below.then HB.out F).mono Hw3.out.size)⟩
end Go.Proofs.Ytjdhcdbjfbhogaa
