/- TapeDecodes: the walk. -/
import Derived.Test.YtjdhcdbjfbhogaaF11
import Derived.Test.YtjdhcdbjfbhogaaX2
import Derived.Test.YtjdhcdbjfbhogaaG17
import Derived.Test.YtjdhcdbjfbhogaaG15
import Derived.Test.YtjdhcdbjfbhogaaQ2
import Derived.Test.YtjdhcdbjfbhogaaQ5
import Derived.Deep.CutBlock
namespace Go.Proofs.Ytjdhcdbjfbhogaa
open Go.RowKit

theorem owns_open {W : World} {B k n : Nat} {e : TypeId} {v : Value} {xs : List Value} (h : W.ownsRow B e k v n xs) (hn : 0 < n) : ∃ r c, v = .slice (some ⟨r, 0, none⟩) n c ∧ n ≤ c ∧ B ≤ r ∧ r < W.heap.size := by
  have h2 := h.2
  rcases h2 with ⟨_, h0⟩ | ⟨r, cap, cur, rfl, h1, hg, hnc, _⟩
  · omega
  · exact ⟨r, cap, rfl, hnc, h1, (Array.getElem?_eq_some_iff.1 hg).1⟩
theorem encP_pos (evs : List Ev) (l : List Ans) : 0 < (encP evs l).length := by
  unfold encP
  simp only [List.length_append]
  have : 0 < (encU evs.length).length := by
    unfold encU
    split <;> simp
  omega
/-- One of the byte slices in a row. -/
structure BEl (W : World) (ga i : Nat) (k : Option Addr) (c : Nat) (b : List Int) : Prop where
  cell : W.cell? ⟨ga, i, none⟩ = some (.slice k b.length c)
  sl : BySl W (.slice k b.length c) b
  cap : b.length ≤ c
  lt : ∀ x, k = some x → x.block < W.heap.size
  byte : ∀ x ∈ b, IsByte x
  len : b.length ≤ 900010
theorem BEl.kept {W W' : World} {ga i : Nat} {k : Option Addr} {c : Nat} {b : List Int} (h : BEl W ga i k c b) (hb : Below W.heap.size W W') : BEl W' ga i k c b := by
  have h0 := World.block_lt_of_cell? _ _ h.cell
  exact ⟨by rw [hb.cell (by simpa using h0)]; exact h.cell, h.sl.kept hb (Nat.le_refl _), h.cap, fun x hx => by have := h.lt x hx; have := hb.size; omega, h.byte, h.len⟩
theorem BEl.of {W : World} {ga i B n : Nat} {k : Option Addr} {c : Nat} {b : List Int} (h : W.ownsRow B 5 1 (.slice k n c) n (bv b)) (hn : n = b.length) (hc : W.cell? ⟨ga, i, none⟩ = some (.slice k n c)) (hb : ∀ x ∈ b, IsByte x) (hl : n ≤ 900010) : BEl W ga i k c b := by
  subst hn
  refine ⟨hc, Flat.of_owns h, (owns_cap h).2, fun x hx => ?_, hb, hl⟩
  rcases owns_addr h with ⟨h1, _⟩ | ⟨g, h1⟩
  · rw [h1] at hx; cases hx
  · rw [h1] at hx
    cases hx
    exact (h.lt g (by rw [h1]; rfl)).2
theorem by_from1 {W : World} {g N c j : Nat} {b : List Int} (h : Flat W 1 (.slice (some ⟨g, 0, none⟩) N c) N (bv b)) (hj : j ≤ N) (c' : Nat) : Flat W 1 (.slice (some ⟨g, j, none⟩) (N - j) c') (N - j) (bv (b.drop j)) := by
  have h2 := Flat.drop (c' := c') h hj
  have e : (bv b).drop (j * 1) = bv (b.drop j) := by unfold bv; rw [Nat.mul_one, List.map_drop]
  rw [e] at h2
  simpa using h2
theorem by_from0 (W : World) (g : Nat) {N : Nat} {b : List Int} (hl : N = b.length) (c' : Nat) : Flat W 1 (.slice (some ⟨g, 0, none⟩) 0 c') 0 (bv (b.drop N)) := by
  have h2 := Flat.drop_all (w := W) (k := 1) (a := some ⟨g, 0, none⟩) (c := c') N (bv b) (by unfold bv; rw [List.length_map, hl]; omega)
  have e : (bv b).drop (N * 1) = bv (b.drop N) := by unfold bv; rw [Nat.mul_one, List.map_drop]
  rw [e] at h2
  exact h2
set_option maxHeartbeats 8000000 in
set_option maxRecDepth 100000 in
theorem lawDecodes (raw l0 m0 : List Int) (n how c : Int) (kr : Option Addr) (cr : Nat) (vl vm : Value) (w : World) (h : BySl w (.slice kr raw.length cr) raw) (hc : raw.length ≤ cr) (hl : IntSl w vl l0) (hm : IntSl w vm m0) (okr : ∀ x ∈ raw, IsByte x) (okl : ∀ n ∈ l0, InI64 n) (okm : ∀ n ∈ m0, InI64 n) (hn : InI64 n) (hh : InI64 how) (hcb : IsByte c) :
    Calls Try.prog 4 #[.slice kr raw.length cr, vl, vm, I n, I how, .int .u8 c] w fun e w' => e = .returned (.bool true) ∧ Below w.heap.size w w' := by
  have HT := Lib.hid (tapeT l0 m0 vl vm w hl hm okl okm)
  have hle := tapeEv_length l0
  have hll := tapeAns_length m0
  have Hok := tapeAns_ok m0
  have Hev := tapeEv_ok l0
  clear hl hm okl okm
  generalize tapeEv l0 = evs at HT hle Hev
  generalize tapeAns m0 = l at HT hll Hok
  have HE := Lib.hid (fun (X : World) (k1 : Option Addr) (c1 : Nat) (k2 : Option Addr) (c2 : Nat) (h : TapeIn X k1 c1 k2 c2 evs l) => refEncodeF evs l _ _ X h.1 h.2 Hok Hev (by omega) (by omega))
  have hbl : (encP evs (normA l)).length ≤ 900000 := Nat.le_trans (encP_length Hev (normA_ok Hok) (by omega) (by have := normA_length l; omega)) (by have := normA_length l; omega)
  have hbp := encP_pos evs (normA l)
  have Hby : Hid (∀ x ∈ encP evs (normA l), IsByte x) := Lib.hid encP_byte
  generalize encP evs (normA l) = b at HE hbl hbp Hby
  have Hraw := Lib.hid (fun (W : World) (hW : Below w.heap.size w W) => fewC raw kr cr W (h.kept hW (Nat.le_refl _)) hc)
  have Hrl := Lib.hid (show (raw.take 80).length ≤ 80 by rw [List.length_take]; omega)
  have Hrb := Lib.hid (show ∀ x ∈ raw.take 80, IsByte x from fun x hx => okr x (List.mem_of_mem_take hx))
  generalize raw.take 80 = rt at Hraw Hrl Hrb
  clear h okr Hok Hev
  go_enter Try.func4, Try.ntmps4
  go_upto_region 2 with (first | (go_at_call 12; refine HT.out.mono ?_; rintro e X1 ⟨k1, c1, k2, c2, rfl, ht1, B1⟩) | (go_at_call 16; refine (HE.out X1 k1 c1 k2 c2 ht1).mono ?_; rintro e X2 ⟨ub, rfl, hub, B2⟩))
  obtain ⟨gb, cb, rfl, hcb2, hgb, hgb2⟩ := owns_open hub hbp
  have HB2 := Lib.hid (Below.then B1 B2)
  clear B1 B2 ht1 HE HT
  obtain ⟨N, hN⟩ : ∃ N, N = b.length := ⟨_, rfl⟩
  rw [← hN] at hbl hbp hcb2 ⊢
  have HN := Lib.hid hN
  have Hub := Lib.hid hub
  clear hub hN
  go_upto_region 3 with (go_at_call 18; refine (around_any n _ _ (by omega) hn.1 hn.2).mono ?_; rintro e w3 ⟨rfl, rfl⟩)
  obtain ⟨x0, x1⟩ := around_range n ((N : Int) + 1) (by omega)
  generalize around n ((N : Int) + 1) = x at x0 x1 ⊢
  obtain ⟨k, rfl⟩ : ∃ k : Nat, x = k := ⟨x.toNat, by omega⟩
  have hk : k ≤ N := by omega
  clear x0 x1
  have hbs : Flat X2 1 (.slice (some ⟨gb, 0, none⟩) N cb) N (bv b) := by
    rw [HN.out]
    exact Flat.of_owns Hub.out
  have Hbs0 := Lib.hid (fun (W : World) (hW : Below X2.heap.size X2 W) => Flat.kept hbs hW (Nat.le_refl _))
  have hbvt : (bv b).take (k * 1) = bv (b.take k) := by unfold bv; rw [Nat.mul_one, List.map_take]
  have htl : k = (b.take k).length := by rw [List.length_take, ← HN.out]; omega
  have Htb := Lib.hid (show ∀ x ∈ b.take k, IsByte x from fun x hx => Hby.out x (List.mem_of_mem_take hx))
  have htk := hbvt ▸ Flat.take (c' := cb) (Hbs0.out _ (boxed X2 #[] 5).2.1) hk
  have Htk := Lib.hid htk
  obtain ⟨B, hB⟩ : ∃ B, B = X2.heap.size := ⟨_, rfl⟩
  have HB := Lib.hid hB
  generalize b.take k = tb at Htb Htk htl
  have Htl := Lib.hid htl
  clear hbs hbvt htk htl hB
  go_upto_region 4 with (at_builtin; go_must (refine wpList_appG rfl _ _ 30 rfl 5 _ 1 1 Try.underlying30 info5 rfl (by omega) (by omega) X2.heap.size (.slice (some ⟨X2.heap.size, 0, none⟩) 0 0) 0 [] rfl (World.ownsRow_made X2 #[] 0 (Nat.le_refl _) (Nat.zero_le _) rfl) _ rfl k (bv tb) Htk.out (bv_one _) (by omega) (by simp) ?_); intro u w4 ho4 hgr4 hB4)
  obtain ⟨k4, c4, rfl, _⟩ := (Flat.of_owns ho4).open
  rw [Nat.zero_add, List.nil_append] at ho4
  rw [Nat.zero_add]
  have Ho4 := Lib.hid ho4
  have hBe := HB.out
  have HB4 := Lib.hid (show Below B X2 w4 from by rw [hBe]; exact ((Below.refl _ X2).alloc (by omega) _).trans hB4)
  have Hbs := Lib.hid (fun (W : World) (hW : Below B X2 W) => Hbs0.out W (by rw [hBe] at hW; exact hW))
  have Ho4 := Lib.hid (show w4.ownsRow B 5 1 (.slice k4 k c4) k (bv tb) from by rw [hBe]; exact Ho4.out)
  have hz4 : B ≤ w4.heap.size := by rw [hBe]; exact HB4.out.size
  clear Hbs0 hBe
  clear ho4 hgr4 hB4 Htk
  go_upto_block 0 with (go_at_call 18; refine (around_any how 3 _ (by omega) hh.1 hh.2).mono ?_; rintro e w5 ⟨rfl, rfl⟩)
  obtain ⟨y0, y1⟩ := around_range how 3 (by omega)
  generalize around how 3 = y at y0 y1 ⊢
  go_cut [15] from 36 to 71 (fun t wc => ∃ (ku : Option Addr) (m cu : Nat) (tb : List Int), t = .slice ku m cu ∧ m ≤ 900010 ∧ Hid (m = tb.length ∧ (∀ x ∈ tb, IsByte x) ∧ wc.ownsRow B 5 1 (.slice ku m cu) m (bv tb)) ∧ Hid (Below B X2 wc))
  case first =>
    have : y = 0 ∨ y = 1 ∨ y = 2 := by omega
    rcases this with rfl | rfl | rfl
    · have hkk := hk
      by_cases hcj : k = cb
      · subst hcj
        obtain rfl : k = N := by omega
        go_upto_region 7 with fail
        refine wp_region_ordN 7 [(0, true), (1, true), (4, true), (5, true), (6, true), (2, false), (3, false)] (fun _ => True) (by kernel_rfl) rfl rfl (by kernel_rfl) trivial ?_
        iterate 5 (refine wpOrd_take ?_ (by rfl) ?_ ?_; rotate_left; (intro w hSw; (try dsimp only at hSw); go_simp; try with_reducible rfl); (try simp only [Act.put, List.setIfInBounds_toArray, List.set_cons_zero, List.set_cons_succ]))
        refine wpOrd_move (fun K hK => ?_)
        go_simp
        refine hK.out _ _ trivial ?_
        clear hK K
        (try simp only [Act.put, List.setIfInBounds_toArray, List.set_cons_zero, List.set_cons_succ])
        refine step_appB (by rfl) _ _ 30 (by rfl) 5 _ 1 1 Try.underlying30 info5 rfl (by omega) (by omega) B (.slice k4 k c4) k _ (by rfl) (Ho4.out.drew.alloc _) w4.heap.size 1 1 #[.int .u8 c] 5 (by rfl) (heap_alloc_new w4.drew _) rfl rfl (by omega) (by omega) (by simp; omega) ?_
        intro g6 cap6 w6 hg6a hg6b hg6c ho6 hgr6 hB6
        refine ⟨trivial, ?_⟩
        (try simp only [Act.put, List.setIfInBounds_toArray, List.set_cons_zero, List.set_cons_succ])
        have D6 : Below B X2 w6 := HB4.out.trans ((((Below.refl B w4).drew).alloc (by simp; omega) _).trans hB6)
        have hz6 : B ≤ w6.heap.size := by have := hB6.size; simp at this; omega
        refine wpOrd_nil ?_
        refine wpList_appG rfl _ _ 30 rfl 5 _ 1 1 Try.underlying30 info5 rfl (by omega) (by omega) B (.slice (some ⟨g6, 0, none⟩) (k + 1) cap6) (k + 1) _ rfl ho6 _ rfl 0 (bv (b.drop k)) (by_from0 _ _ HN.out _) (bv_one _) (by omega) hz6 ?_
        intro u w7 ho7 hgr7 hB7
        obtain ⟨k7, c7, rfl, _⟩ := (Flat.of_owns ho7).open
        (try simp only [Act.put, List.setIfInBounds_toArray, List.set_cons_zero, List.set_cons_succ])
        go_wp2_with fail
        refine NoPanic.normal ?_
        go_wp2_with fail
        go_meet
        exact ⟨_, _, _, (tb ++ [c]) ++ b.drop k, rfl, by omega, Lib.hid ⟨by have e1 := Htl.out; have e2 := HN.out; simp only [List.length_append, List.length_drop, List.length_singleton]; omega, fun x hx => (List.mem_append.1 hx).elim (fun hx => (List.mem_append.1 hx).elim (Htb.out x) (fun hx => by simp at hx; subst hx; exact hcb)) (fun hx => Hby.out x (List.mem_of_mem_drop hx)), by rw [bv_append, bv_append]; exact ho7⟩, Lib.hid (D6.trans hB7)⟩
      · have hcj2 := Ne.symm hcj
        go_upto_region 7 with fail
        refine wp_region_ordN 7 [(0, true), (1, true), (4, true), (5, true), (6, true), (2, false), (3, false)] (fun _ => True) (by kernel_rfl) rfl rfl (by kernel_rfl) trivial ?_
        iterate 5 (refine wpOrd_take ?_ (by rfl) ?_ ?_; rotate_left; (intro w hSw; (try dsimp only at hSw); go_simp; try with_reducible rfl); (try simp only [Act.put, List.setIfInBounds_toArray, List.set_cons_zero, List.set_cons_succ]))
        refine wpOrd_move (fun K hK => ?_)
        go_simp
        refine hK.out _ _ trivial ?_
        clear hK K
        (try simp only [Act.put, List.setIfInBounds_toArray, List.set_cons_zero, List.set_cons_succ])
        refine step_appB (by rfl) _ _ 30 (by rfl) 5 _ 1 1 Try.underlying30 info5 rfl (by omega) (by omega) B (.slice k4 k c4) k _ (by rfl) (Ho4.out.drew.alloc _) w4.heap.size 1 1 #[.int .u8 c] 5 (by rfl) (heap_alloc_new w4.drew _) rfl rfl (by omega) (by omega) (by simp; omega) ?_
        intro g6 cap6 w6 hg6a hg6b hg6c ho6 hgr6 hB6
        refine ⟨trivial, ?_⟩
        (try simp only [Act.put, List.setIfInBounds_toArray, List.set_cons_zero, List.set_cons_succ])
        have D6 : Below B X2 w6 := HB4.out.trans ((((Below.refl B w4).drew).alloc (by simp; omega) _).trans hB6)
        have hz6 : B ≤ w6.heap.size := by have := hB6.size; simp at this; omega
        refine wpOrd_nil ?_
        refine wpList_appG rfl _ _ 30 rfl 5 _ 1 1 Try.underlying30 info5 rfl (by omega) (by omega) B (.slice (some ⟨g6, 0, none⟩) (k + 1) cap6) (k + 1) _ rfl ho6 _ rfl (N - k) (bv (b.drop k)) (by_from1 (Hbs.out _ D6) hkk _) (bv_one _) (by omega) hz6 ?_
        intro u w7 ho7 hgr7 hB7
        obtain ⟨k7, c7, rfl, _⟩ := (Flat.of_owns ho7).open
        (try simp only [Act.put, List.setIfInBounds_toArray, List.set_cons_zero, List.set_cons_succ])
        go_wp2_with fail
        refine NoPanic.normal ?_
        go_wp2_with fail
        go_meet
        exact ⟨_, _, _, (tb ++ [c]) ++ b.drop k, rfl, by omega, Lib.hid ⟨by have e1 := Htl.out; have e2 := HN.out; simp only [List.length_append, List.length_drop, List.length_singleton]; omega, fun x hx => (List.mem_append.1 hx).elim (fun hx => (List.mem_append.1 hx).elim (Htb.out x) (fun hx => by simp at hx; subst hx; exact hcb)) (fun hx => Hby.out x (List.mem_of_mem_drop hx)), by rw [bv_append, bv_append]; exact ho7⟩, Lib.hid (D6.trans hB7)⟩
    · obtain ⟨j, hjm⟩ : ∃ j : Nat, (min ((k : Int) + 1) (N : Int)) = j := ⟨min (k + 1) N, by omega⟩
      have hjN : j ≤ N := by omega
      have hwk : IntKind.i64.wrap ((k : Int) + 1) = (k : Int) + 1 := by rw [IntKind.wrap_i64]; omega
      have hj0 : (0 : Int) ≤ (j : Int) := by omega
      have hj1 : (j : Int) ≤ (N : Int) := by omega
      by_cases hcj : j = cb
      · subst hcj
        obtain rfl : j = N := by omega
        go_upto_region 9 with fail
        have D6 : Below B X2 w4 := HB4.out
        go_wp2_with (at_builtin; go_must (refine wpList_appG rfl _ _ 30 rfl 5 _ 1 1 Try.underlying30 info5 rfl (by omega) (by omega) B (.slice k4 k c4) k _ rfl Ho4.out _ rfl 0 (bv (b.drop j)) (by_from0 _ _ HN.out _) (bv_one _) (by omega) hz4 ?_); intro u w7 ho7 hgr7 hB7)
        obtain ⟨k7, c7, rfl, _⟩ := (Flat.of_owns ho7).open
        go_meet
        exact ⟨_, _, _, tb ++ b.drop j, rfl, by omega, Lib.hid ⟨by have e1 := Htl.out; have e2 := HN.out; simp only [List.length_append, List.length_drop]; omega, fun x hx => (List.mem_append.1 hx).elim (Htb.out x) (fun hx => Hby.out x (List.mem_of_mem_drop hx)), by rw [bv_append]; exact ho7⟩, Lib.hid (D6.trans hB7)⟩
      · have hcj2 := Ne.symm hcj
        go_upto_region 9 with fail
        have D6 : Below B X2 w4 := HB4.out
        go_wp2_with (at_builtin; go_must (refine wpList_appG rfl _ _ 30 rfl 5 _ 1 1 Try.underlying30 info5 rfl (by omega) (by omega) B (.slice k4 k c4) k _ rfl Ho4.out _ rfl (N - j) (bv (b.drop j)) (by_from1 (Hbs.out _ D6) hjN _) (bv_one _) (by omega) hz4 ?_); intro u w7 ho7 hgr7 hB7)
        obtain ⟨k7, c7, rfl, _⟩ := (Flat.of_owns ho7).open
        go_meet
        exact ⟨_, _, _, tb ++ b.drop j, rfl, by omega, Lib.hid ⟨by have e1 := Htl.out; have e2 := HN.out; simp only [List.length_append, List.length_drop]; omega, fun x hx => (List.mem_append.1 hx).elim (Htb.out x) (fun hx => Hby.out x (List.mem_of_mem_drop hx)), by rw [bv_append]; exact ho7⟩, Lib.hid (D6.trans hB7)⟩
    · obtain ⟨j, hjm⟩ : ∃ j : Nat, (min ((k : Int) + 1) (N : Int)) = j := ⟨min (k + 1) N, by omega⟩
      have hjN : j ≤ N := by omega
      have hwk : IntKind.i64.wrap ((k : Int) + 1) = (k : Int) + 1 := by rw [IntKind.wrap_i64]; omega
      have hj0 : (0 : Int) ≤ (j : Int) := by omega
      have hj1 : (j : Int) ≤ (N : Int) := by omega
      by_cases hcj : j = cb
      · subst hcj
        obtain rfl : j = N := by omega
        go_upto_region 5 with fail
        refine wp_region_ordN 11 [(0, true), (1, true), (4, true), (5, true), (6, true), (7, true), (8, true), (9, true), (10, true), (2, false), (3, false)] (fun _ => True) (by kernel_rfl) rfl rfl (by kernel_rfl) trivial ?_
        iterate 9 (refine wpOrd_take ?_ (by rfl) ?_ ?_; rotate_left; (intro w hSw; (try dsimp only at hSw); go_simp; try with_reducible rfl); (try simp only [Act.put, List.setIfInBounds_toArray, List.set_cons_zero, List.set_cons_succ]))
        refine wpOrd_move (fun K hK => ?_)
        go_simp
        refine hK.out _ _ trivial ?_
        clear hK K
        (try simp only [Act.put, List.setIfInBounds_toArray, List.set_cons_zero, List.set_cons_succ])
        refine step_appB (by rfl) _ _ 30 (by rfl) 5 _ 1 1 Try.underlying30 info5 rfl (by omega) (by omega) B (.slice k4 k c4) k _ (by rfl) (Ho4.out.drew.alloc _) w4.heap.size 1 1 #[.int .u8 c] 5 (by rfl) (heap_alloc_new w4.drew _) rfl rfl (by omega) (by omega) (by simp; omega) ?_
        intro g6 cap6 w6 hg6a hg6b hg6c ho6 hgr6 hB6
        refine ⟨trivial, ?_⟩
        (try simp only [Act.put, List.setIfInBounds_toArray, List.set_cons_zero, List.set_cons_succ])
        have D6 : Below B X2 w6 := HB4.out.trans ((((Below.refl B w4).drew).alloc (by simp; omega) _).trans hB6)
        have hz6 : B ≤ w6.heap.size := by have := hB6.size; simp at this; omega
        refine wpOrd_nil ?_
        refine wpList_appG rfl _ _ 30 rfl 5 _ 1 1 Try.underlying30 info5 rfl (by omega) (by omega) B (.slice (some ⟨g6, 0, none⟩) (k + 1) cap6) (k + 1) _ rfl ho6 _ rfl 0 (bv (b.drop j)) (by_from0 _ _ HN.out _) (bv_one _) (by omega) hz6 ?_
        intro u w7 ho7 hgr7 hB7
        obtain ⟨k7, c7, rfl, _⟩ := (Flat.of_owns ho7).open
        (try simp only [Act.put, List.setIfInBounds_toArray, List.set_cons_zero, List.set_cons_succ])
        go_wp2_with fail
        refine NoPanic.normal ?_
        go_wp2_with fail
        go_meet
        exact ⟨_, _, _, (tb ++ [c]) ++ b.drop j, rfl, by omega, Lib.hid ⟨by have e1 := Htl.out; have e2 := HN.out; simp only [List.length_append, List.length_drop, List.length_singleton]; omega, fun x hx => (List.mem_append.1 hx).elim (fun hx => (List.mem_append.1 hx).elim (Htb.out x) (fun hx => by simp at hx; subst hx; exact hcb)) (fun hx => Hby.out x (List.mem_of_mem_drop hx)), by rw [bv_append, bv_append]; exact ho7⟩, Lib.hid (D6.trans hB7)⟩
      · have hcj2 := Ne.symm hcj
        go_upto_region 5 with fail
        refine wp_region_ordN 11 [(0, true), (1, true), (4, true), (5, true), (6, true), (7, true), (8, true), (9, true), (10, true), (2, false), (3, false)] (fun _ => True) (by kernel_rfl) rfl rfl (by kernel_rfl) trivial ?_
        iterate 9 (refine wpOrd_take ?_ (by rfl) ?_ ?_; rotate_left; (intro w hSw; (try dsimp only at hSw); go_simp; try with_reducible rfl); (try simp only [Act.put, List.setIfInBounds_toArray, List.set_cons_zero, List.set_cons_succ]))
        refine wpOrd_move (fun K hK => ?_)
        go_simp
        refine hK.out _ _ trivial ?_
        clear hK K
        (try simp only [Act.put, List.setIfInBounds_toArray, List.set_cons_zero, List.set_cons_succ])
        refine step_appB (by rfl) _ _ 30 (by rfl) 5 _ 1 1 Try.underlying30 info5 rfl (by omega) (by omega) B (.slice k4 k c4) k _ (by rfl) (Ho4.out.drew.alloc _) w4.heap.size 1 1 #[.int .u8 c] 5 (by rfl) (heap_alloc_new w4.drew _) rfl rfl (by omega) (by omega) (by simp; omega) ?_
        intro g6 cap6 w6 hg6a hg6b hg6c ho6 hgr6 hB6
        refine ⟨trivial, ?_⟩
        (try simp only [Act.put, List.setIfInBounds_toArray, List.set_cons_zero, List.set_cons_succ])
        have D6 : Below B X2 w6 := HB4.out.trans ((((Below.refl B w4).drew).alloc (by simp; omega) _).trans hB6)
        have hz6 : B ≤ w6.heap.size := by have := hB6.size; simp at this; omega
        refine wpOrd_nil ?_
        refine wpList_appG rfl _ _ 30 rfl 5 _ 1 1 Try.underlying30 info5 rfl (by omega) (by omega) B (.slice (some ⟨g6, 0, none⟩) (k + 1) cap6) (k + 1) _ rfl ho6 _ rfl (N - j) (bv (b.drop j)) (by_from1 (Hbs.out _ D6) hjN _) (bv_one _) (by omega) hz6 ?_
        intro u w7 ho7 hgr7 hB7
        obtain ⟨k7, c7, rfl, _⟩ := (Flat.of_owns ho7).open
        (try simp only [Act.put, List.setIfInBounds_toArray, List.set_cons_zero, List.set_cons_succ])
        go_wp2_with fail
        refine NoPanic.normal ?_
        go_wp2_with fail
        go_meet
        exact ⟨_, _, _, (tb ++ [c]) ++ b.drop j, rfl, by omega, Lib.hid ⟨by have e1 := Htl.out; have e2 := HN.out; simp only [List.length_append, List.length_drop, List.length_singleton]; omega, fun x hx => (List.mem_append.1 hx).elim (fun hx => (List.mem_append.1 hx).elim (Htb.out x) (fun hx => by simp at hx; subst hx; exact hcb)) (fun hx => Hby.out x (List.mem_of_mem_drop hx)), by rw [bv_append, bv_append]; exact ho7⟩, Lib.hid (D6.trans hB7)⟩
  case rest =>
    obtain ⟨ku, m, cu, tu, rfl, hm, HU, HD⟩ := hcut
    have HBw := Lib.hid (show Below w.heap.size w wc from HB2.out.trans (HD.out.mono (by rw [HB.out]; exact HB2.out.size)))
    have Hbc := Lib.hid (owns_below Hub.out (by have := HD.out; rw [HB.out] at this; exact this))
    clear Ho4 HB4 Hbs hz4
    go_upto_region 12 with (go_at_call 19; refine (Hraw.out wc HBw.out).mono ?_; rintro e X4 ⟨uf, rfl, huf, B4⟩; obtain ⟨kf, cf, rfl, _⟩ := (Flat.of_owns huf).open)
    obtain ⟨hA, P5, z5⟩ := boxed X4 #[.slice kf rt.length cf, .slice (some ⟨gb, 0, none⟩) N cb, .slice ku m cu] 30
    generalize X4.alloc (.cells #[.slice kf rt.length cf, .slice (some ⟨gb, 0, none⟩) N cb, .slice ku m cu] 30) = w5 at hA P5 z5 ⊢
    have hB5 := Below.then B4 P5
    have hrl := Hrl.out
    have hel : ∀ i, i < 3 → ∃ kx cx bx, BEl w5 X4.heap.size i kx cx bx := fun i hi => by
      have : i = 0 ∨ i = 1 ∨ i = 2 := by omega
      rcases this with rfl | rfl | rfl
      · exact ⟨_, _, _, BEl.of (owns_below huf P5) rfl (hA.cell 0) Hrb.out (by omega)⟩
      · have hbN : wc.ownsRow X1.heap.size 5 1 (.slice (some ⟨gb, 0, none⟩) N cb) N (bv b) := by rw [HN.out]; exact Hbc.out
        exact ⟨_, _, _, BEl.of (owns_below hbN hB5) HN.out (hA.cell 1) Hby.out (by omega)⟩
      · exact ⟨_, _, _, BEl.of (owns_below HU.out.2.2 hB5) HU.out.1 (hA.cell 2) HU.out.2.1 hm⟩
    have Hel := Lib.hid hel
    have Hw5 := Lib.hid (Below.then HBw.out hB5)
    obtain ⟨ga, ega⟩ : ∃ g, g = X4.heap.size := ⟨_, rfl⟩
    rw [← ega] at Hel ⊢
    clear hel hA P5 z5 hB5 hrl huf B4 ega Hraw Hrl Hrb HU HD HBw Hbc
    go_loopw [17] (fun i wr => ∃ (i0 : Nat), i0 ≤ 3 ∧ i = .int .i64 i0 ∧ Hid (Below w5.heap.size w5 wr)) (fun i _ => 3 - (intOf i).toNat)
    case atStart => exact ⟨0, by omega, rfl, Lib.hid (Below.refl _ _)⟩
    case round =>
      obtain ⟨i, hi, rfl, HR⟩ := hrel
      by_cases hlt : i < 3
      · obtain ⟨kx, cx, bx, hE⟩ := Hel.out i hlt
        have hEr := hE.kept HR.out
        have x0 := hEr.cell
        have HE := Lib.hid hE
        obtain ⟨⟨⟨de, da⟩, dc⟩, hd⟩ : ∃ d, decP bx = d := ⟨_, rfl⟩
        have HD1 := Lib.hid (decodeF bx _ wr hEr.sl hEr.byte (by have := hEr.len; omega))
        have HD2 := Lib.hid (fun (W : World) (hW : Below w5.heap.size w5 W) => refDecodeF bx kx cx W (hE.kept hW).sl hE.cap (hE.kept hW).lt hE.byte)
        rw [hd] at HD1 HD2
        clear hE hEr hd
        go_upto_region 15 with (go_at_call 20; refine HD1.out.mono ?_; rintro e X5 ⟨ue, ua, rfl, hve, hva, B5⟩; obtain ⟨k5, c5, rfl, _⟩ := hve.open; obtain ⟨k6, c6, rfl, _⟩ := hva.open)
        obtain ⟨hT, P6, z6⟩ := boxed X5 #[.slice k5 de.length c5, .slice k6 da.length c6] 26
        generalize X5.alloc (.cells #[.slice k5 de.length c5, .slice k6 da.length c6] 26) = W6 at hT P6 z6 ⊢
        have hB6 := Below.then (Below.then HR.out B5) P6
        have ht6 : TapeIn W6 k5 c5 k6 c6 de da := ⟨hve.kept P6 (Nat.le_refl _), hva.kept P6 (Nat.le_refl _)⟩
        obtain ⟨gt, egt⟩ : ∃ g, g = X5.heap.size := ⟨_, rfl⟩
        rw [← egt] at hT ⊢
        have HB6 := Lib.hid hB6
        have x0 := (HE.out.kept hB6).cell
        clear egt z6 P6 B5 hve hva hB6 HD1
        go_upto_region 16 with (go_at_call 21; refine (HD2.out W6 HB6.out).mono ?_; rintro e X7 ⟨ue, ua, rfl, hve, hva, B7⟩; obtain ⟨k7, c7, rfl, _⟩ := hve.open; obtain ⟨k8, c8, rfl, _⟩ := hva.open)
        obtain ⟨hV, P8, z8⟩ := boxed X7 #[.slice k7 de.length c7, .slice k8 da.length c8] 26
        generalize X7.alloc (.cells #[.slice k7 de.length c7, .slice k8 da.length c8] 26) = W8 at hV P8 z8 ⊢
        have hB68 := Below.then B7 P8
        have hB8 := Below.then HB6.out hB68
        have ht8 : TapeIn W8 k7 c7 k8 c8 de da := ⟨hve.kept P8 (Nat.le_refl _), hva.kept P8 (Nat.le_refl _)⟩
        have hT8 := hT.kept hB68 hT.lt
        obtain ⟨gv, egv⟩ : ∃ g, g = X7.heap.size := ⟨_, rfl⟩
        rw [← egv] at hV ⊢
        have n0 := hT8.cell 0
        have n1 := hT8.cell 1
        have v0 := hV.cell 0
        have v1 := hV.cell 1
        have HS := Lib.hid (sameTT de da k5 c5 k6 c6 k7 c7 k8 c8 W8 (ht6.kept hB68) ht8)
        have HB8 := Lib.hid hB8
        clear egv z8 P8 B7 hve hva hB68 hB8 hT ht6 ht8 hT8 hV HD2 x0
        go_wp2_with (go_at_call 22; refine HS.out.mono ?_; rintro e X9 ⟨rfl, B9⟩)
        go_roundw
        case rel => exact ⟨i + 1, by omega, by go_num, Lib.hid (Below.then HB8.out B9)⟩
        case measure => simp [intOf]; omega
      · obtain rfl : i = 3 := by omega
        have HL := Lib.hid (livesF wr)
        go_wp2_with (go_at_call 17; refine HL.out.mono ?_; rintro e X9 ⟨rfl, B9⟩)
        go_ret
        exact ⟨rfl, Below.then (Hw5.out.trans (HR.out.mono Hw5.out.size)) B9⟩
end Go.Proofs.Ytjdhcdbjfbhogaa
