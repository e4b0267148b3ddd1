/- The generator StepOf. -/
import Derived.Test.YtjdhcdbjfbhogaaF6
import Derived.Test.YtjdhcdbjfbhogaaX12
import Derived.Deep.CutRange
namespace Go.Proofs.Ytjdhcdbjfbhogaa
open Go.RowKit

theorem blk_put11 {w : World} {q : Nat} {a0 a1 a2 a3 a4 a5 a6 a7 a8 a9 a10 : Value} (h : Blk w q #[a0, a1, a2, a3, a4, a5, a6, a7, a8, a9, a10]) (b0 b1 b2 b3 b4 b5 b6 b7 b8 b9 b10 : Value) : Blk (((((((((((w.setCell ⟨q, 0, none⟩ b0).setCell ⟨q, 1, none⟩ b1).setCell ⟨q, 2, none⟩ b2).setCell ⟨q, 3, none⟩ b3).setCell ⟨q, 4, none⟩ b4).setCell ⟨q, 5, none⟩ b5).setCell ⟨q, 6, none⟩ b6).setCell ⟨q, 7, none⟩ b7).setCell ⟨q, 8, none⟩ b8).setCell ⟨q, 9, none⟩ b9).setCell ⟨q, 10, none⟩ b10) q #[b0, b1, b2, b3, b4, b5, b6, b7, b8, b9, b10] ∧ w.grownBy (((((((((((w.setCell ⟨q, 0, none⟩ b0).setCell ⟨q, 1, none⟩ b1).setCell ⟨q, 2, none⟩ b2).setCell ⟨q, 3, none⟩ b3).setCell ⟨q, 4, none⟩ b4).setCell ⟨q, 5, none⟩ b5).setCell ⟨q, 6, none⟩ b6).setCell ⟨q, 7, none⟩ b7).setCell ⟨q, 8, none⟩ b8).setCell ⟨q, 9, none⟩ b9).setCell ⟨q, 10, none⟩ b10) (some q) := by
  have h2 := (((((((((((h.set 0 b0).set 1 b1).set 2 b2).set 3 b3).set 4 b4).set 5 b5).set 6 b6).set 7 b7).set 8 b8).set 9 b9).set 10 b10)
  simp only [List.setIfInBounds_toArray, List.set_cons_zero, List.set_cons_succ] at h2
  exact ⟨h2, (((((((((((grown_set' w ⟨q, 0, none⟩ _).trans (grown_set' _ ⟨q, 1, none⟩ _)).trans (grown_set' _ ⟨q, 2, none⟩ _)).trans (grown_set' _ ⟨q, 3, none⟩ _)).trans (grown_set' _ ⟨q, 4, none⟩ _)).trans (grown_set' _ ⟨q, 5, none⟩ _)).trans (grown_set' _ ⟨q, 6, none⟩ _)).trans (grown_set' _ ⟨q, 7, none⟩ _)).trans (grown_set' _ ⟨q, 8, none⟩ _)).trans (grown_set' _ ⟨q, 9, none⟩ _)).trans (grown_set' _ ⟨q, 10, none⟩ _))⟩
theorem owns_ints {W : World} {B n : Nat} {v : Value} {xs : List Int} (h : W.ownsRow B 3 1 v n (iv xs)) (hn : 0 < n) : ∃ r c, v = .slice (some ⟨r, 0, none⟩) n c ∧ B ≤ r ∧ r < W.heap.size ∧ ∀ j x, xs[j]? = some x → W.cell? ⟨r, j, none⟩ = some (I x) := by
  have h2 := h.2
  rcases h2 with ⟨_, h0⟩ | ⟨r, cap, cur, rfl, h1, hg, _⟩
  · omega
  · refine ⟨r, cap, rfl, h1, (Array.getElem?_eq_some_iff.1 hg).1, fun j x hx => ?_⟩
    have := h.cells (g := r) rfl j (I x) (by simp [iv, hx])
    have hadd : (⟨r, 0, none⟩ : Addr).add j = ⟨r, j, none⟩ := by unfold Addr.add; split <;> simp_all
    rw [hadd] at this
    exact this
set_option maxHeartbeats 8000000 in
set_option maxRecDepth 100000 in
theorem stepOfC (l : List Int) (v : Value) (w : World) (hl : IntSl w v l) (okl : ∀ n ∈ l, InI64 n) :
    Calls Try.prog 27 #[v] w fun e w' => ∃ (ev : Ev) (asks : List Ask) (va : Value), e = .returned (.agg #[I ev.kind, I ev.node, I ev.arg, I ev.msg.node, I ev.msg.handler, I ev.msg.count, I ev.msg.index, I ev.msg.copy, va, .bool false, .slice none 0 0]) ∧ ev.ok ∧ (∀ a ∈ asks, a.ans.ok) ∧ asks.length ≤ 3 ∧ w'.ownsRow w.heap.size 111 7 va asks.length (asks.flatMap Ask.cells) ∧ Below w.heap.size w w' := by
  obtain ⟨kl, cl, rfl, hml⟩ := hl.open
  have Hl := Lib.hid hl
  have Hokl := Lib.hid okl
  have hb0 := Blk.new w #[I 0, I 0, I 0, I 0, I 0, I 0, I 0, I 0, .slice none 0 0, .bool false, .slice none 0 0] 60
  have hB0 : Below w.heap.size w (w.alloc (.cells #[I 0, I 0, I 0, I 0, I 0, I 0, I 0, I 0, .slice none 0 0, .bool false, .slice none 0 0] 60)) := (Below.refl _ _).alloc (Nat.le_refl _) _
  have hz0 : (w.alloc (.cells #[I 0, I 0, I 0, I 0, I 0, I 0, I 0, I 0, .slice none 0 0, .bool false, .slice none 0 0] 60)).heap.size = w.heap.size + 1 := World.size_alloc _ _
  clear hl okl
  go_enter Try.func27, Try.ntmps27
  go_upto_region 1 with fail
  generalize w.alloc (.cells #[I 0, I 0, I 0, I 0, I 0, I 0, I 0, I 0, .slice none 0 0, .bool false, .slice none 0 0] 60) = w1 at hb0 hB0 hz0 ⊢
  obtain ⟨g, hg⟩ : ∃ g, g = w.heap.size := ⟨_, rfl⟩
  rw [← hg] at hb0 hz0 ⊢
  have Hg := Lib.hid hg
  have Hb0 := Lib.hid hb0
  have HB0 := Lib.hid hB0
  clear hg hb0 hB0
  go_wp2_with fail
  go_loopw [3, 4] (fun y i wr => ∃ (u : Value) (k : Nat) (xs : List Int), y = u ∧ k ≤ 9 ∧ i = .int .i64 k ∧ Hid (xs.length = k ∧ ∀ n ∈ xs, InI64 n) ∧ Hid (wr.ownsRow (g + 1) 3 1 u k (iv xs)) ∧ Hid (Below (g + 1) w1 wr)) (fun _ i _ => 9 - (intOf i).toNat)
  case atStart => exact ⟨_, 0, [], rfl, by omega, rfl, Lib.hid ⟨rfl, fun n hn => by simp at hn⟩, Lib.hid (World.ownsRow_nil _ _ _ _), Lib.hid (Below.refl _ _)⟩
  case round =>
    obtain ⟨u, k, xs, hu, hk, rfl, Hx, Ho, HB⟩ := hrel
    have hu := hu.symm
    subst hu
    have hzr := HB.out.size
    by_cases hlt : k < 9
    · go_upto_if 15 with fail
      go_cut [5] from 8 to 23 (fun t wc => ∃ n : Int, t = I n ∧ InI64 n ∧ wc = wr)
      case first =>
        by_cases hll : k < l.length
        · obtain ⟨b, o, rfl, x0⟩ := IntSl.at (Hl.out.kept (HB0.out.trans (HB.out.mono (by have := Hg.out; omega))) (Nat.le_refl _)) (i := k) (x := l[k]) (by simp [hll])
          have hx := Hokl.out _ (List.getElem_mem hll)
          generalize l[k] = x at x0 hx
          go_wp2_with fail
          go_meet
          exact ⟨x, rfl, hx, rfl⟩
        · go_wp2_with fail
          go_meet
          exact ⟨0, rfl, by unfold InI64; omega, rfl⟩
      case rest =>
        obtain ⟨n, rfl, hn, hwc⟩ := hcut
        have hwc := hwc.symm
        subst hwc
        have Hn := Lib.hid hn
        clear hn
        go_wp2_with (at_builtin; go_must (refine wpList_appB rfl _ _ 22 rfl 3 _ 1 8 Try.underlying22 info3 rfl (by omega) (by omega) (g + 1) u k _ rfl (Ho.out.alloc _) wr.heap.size 1 1 #[I n] 3 rfl (heap_alloc_new _ _) rfl rfl (by omega) (by omega) (by simp; omega) ?_); intro g6 cap6 x6 hg6a hg6b hg6c ho6 hgr6 hB6)
        go_roundw
        case rel => exact ⟨_, k + 1, xs ++ [n], rfl, by omega, by go_num, Lib.hid ⟨by simp [Hx.out.1], fun z hz => by
          rcases List.mem_append.1 hz with hz | hz
          · exact Hx.out.2 z hz
          · simp at hz
            subst hz
            exact Hn.out⟩, Lib.hid (by rw [iv, List.map_append]; exact ho6), Lib.hid ((HB.out.alloc (by omega) _).trans hB6)⟩
        case measure => simp [intOf]; omega
    · obtain rfl : k = 9 := by omega
      obtain ⟨wo, rfl⟩ : ∃ wo, wo = wr := ⟨_, rfl⟩
      go_wp2_with fail
      obtain ⟨r, cr, rfl, hr1, hr2, hcell⟩ := owns_ints Ho.out (by omega)
      have Hcell := Lib.hid hcell
      have hx0 : xs[0]? = some (xs[0]'(by rw [Hx.out.1]; omega)) := List.getElem?_eq_getElem _
      have hx1 : xs[1]? = some (xs[1]'(by rw [Hx.out.1]; omega)) := List.getElem?_eq_getElem _
      have z0 := hcell 0 _ hx0
      have z1 := hcell 1 _ hx1
      have hok0 := Hx.out.2 _ (List.mem_of_getElem? hx0)
      have hok1 := Hx.out.2 _ (List.mem_of_getElem? hx1)
      clear hcell hx0 hx1
      generalize xs[0]'(by rw [Hx.out.1]; omega) = y0 at z0 hok0
      generalize xs[1]'(by rw [Hx.out.1]; omega) = y1 at z1 hok1
      have HEv := Lib.hid (fun W => eventC y0 y1 W hok0 hok1)
      have hevok := evOf_ok y0 y1
      generalize evOf y0 y1 = ev at HEv hevok
      have Hevok := Lib.hid hevok
      have D0 : Below wo.heap.size wo wo.drew := (Below.refl _ _).drew
      have HS := Lib.hid (show ∀ X, Below wo.heap.size wo X → ∀ o', X.cell? ⟨r, o', none⟩ = wo.cell? ⟨r, o', none⟩ from fun X hX o' => bcell hX r o' hr2)
      clear hok0 hok1 hevok
      go_cut [6] from 8 (fun t wc => ∃ gs, t = .pointer (some ⟨gs, 0, none⟩) ∧ wo.heap.size ≤ gs ∧ Hid (Blk wc gs #[I ev.kind, I ev.node, I ev.arg, I ev.msg.node, I ev.msg.handler, I ev.msg.count, I ev.msg.index, I ev.msg.copy, .slice none 0 0, .bool false, .slice none 0 0]) ∧ Hid (Below wo.heap.size wo wc))
      case first =>
        refine wp_region_T 9 (.take 0 (.take 1 (.take 2 (.take 3 (.take 4 (.take 5 (.fork 6 8 (.take 7 (.move 8 .nil)) (.move 6 (.take 7 .nil))))))))) (fun w' => ∀ o', w'.cell? ⟨r, o', none⟩ = wo.cell? ⟨r, o', none⟩) (by kernel_rfl) rfl (by kernel_rfl) (HS.out _ D0) ?_
        iterate 6 (refine wpT_take rfl ?_ (by rfl) ?_ ?_; rotate_left; (intro w hSw; (try dsimp only at hSw); go_simp; try with_reducible rfl); (try simp only [Act.put, List.setIfInBounds_toArray, List.set_cons_zero, List.set_cons_succ]))
        refine wpT_fork ?_ ?_
        · refine wpT_move rfl (fun K hK => ?_)
          go_simp
          go_at_call 43
          refine (HEv.out _).mono ?_
          rintro e X1 ⟨rfl, F⟩
          have D1 := Below.then D0 F
          refine hK.out _ _ (HS.out _ D1) ?_
          clear hK K
          (try simp only [Act.put, List.setIfInBounds_toArray, List.set_cons_zero, List.set_cons_succ])
          (refine wpT_take rfl ?_ (by rfl) ?_ ?_; rotate_left; (intro w hSw; (try dsimp only at hSw); go_simp; try with_reducible rfl); (try simp only [Act.put, List.setIfInBounds_toArray, List.set_cons_zero, List.set_cons_succ]))
          refine wpT_move rfl (fun K hK => ?_)
          go_simp
          have F2 := (boxed X1 #[I 0, I 0, I 0, I 0, I 0, I 0, I 0, I 0, .slice none 0 0, .bool false, .slice none 0 0] 60).2.1
          refine hK.out _ _ (HS.out _ (Below.then D1 F2)) ?_
          clear hK K
          (try simp only [Act.put, List.setIfInBounds_toArray, List.set_cons_zero, List.set_cons_succ])
          refine wpT_nil ?_
          obtain ⟨hb, F3, zb⟩ := boxed X1 #[I ev.kind, I ev.node, I ev.arg, I ev.msg.node, I ev.msg.handler, I ev.msg.count, I ev.msg.index, I ev.msg.copy, .slice none 0 0, .bool false, .slice none 0 0] 60
          have zd := D1.size
          go_wp2_with fail
          refine NoPanic.normal ?_
          go_wp2_with fail
          go_meet
          exact ⟨_, rfl, zd, Lib.hid hb, Lib.hid (Below.then D1 F3)⟩
        · refine wpT_move rfl (fun K hK => ?_)
          go_simp
          obtain ⟨hb, F2, zb⟩ := boxed wo.drew #[I 0, I 0, I 0, I 0, I 0, I 0, I 0, I 0, .slice none 0 0, .bool false, .slice none 0 0] 60
          have D1 := Below.then D0 F2
          refine hK.out _ _ (HS.out _ D1) ?_
          clear hK K
          (try simp only [Act.put, List.setIfInBounds_toArray, List.set_cons_zero, List.set_cons_succ])
          refine wpT_move rfl (fun K hK => ?_)
          go_simp
          go_at_call 43
          refine (HEv.out _).mono ?_
          rintro e X1 ⟨rfl, F⟩
          have D2 := Below.then D1 F
          refine hK.out _ _ (HS.out _ D2) ?_
          clear hK K
          (try simp only [Act.put, List.setIfInBounds_toArray, List.set_cons_zero, List.set_cons_succ])
          (refine wpT_take rfl ?_ (by rfl) ?_ ?_; rotate_left; (intro w hSw; (try dsimp only at hSw); go_simp; try with_reducible rfl); (try simp only [Act.put, List.setIfInBounds_toArray, List.set_cons_zero, List.set_cons_succ]))
          refine wpT_nil ?_
          have hb1 : Blk X1 wo.heap.size #[I 0, I 0, I 0, I 0, I 0, I 0, I 0, I 0, .slice none 0 0, .bool false, .slice none 0 0] := hb.kept F (by simp)
          have b0 := hb1.cell 0
          have b1 := hb1.cell 1
          have b2 := hb1.cell 2
          have b3 := hb1.cell 3
          have b4 := hb1.cell 4
          have b5 := hb1.cell 5
          have b6 := hb1.cell 6
          have b7 := hb1.cell 7
          have b8 := hb1.cell 8
          have b9 := hb1.cell 9
          have b10 := hb1.cell 10
          have f0 := hb1.frozen 0
          have f1 := hb1.frozen 1
          have f2 := hb1.frozen 2
          have f3 := hb1.frozen 3
          have f4 := hb1.frozen 4
          have f5 := hb1.frozen 5
          have f6 := hb1.frozen 6
          have f7 := hb1.frozen 7
          have f8 := hb1.frozen 8
          have f9 := hb1.frozen 9
          have f10 := hb1.frozen 10
          obtain ⟨hbf, hgf⟩ := blk_put11 hb1 (I ev.kind) (I ev.node) (I ev.arg) (I ev.msg.node) (I ev.msg.handler) (I ev.msg.count) (I ev.msg.index) (I ev.msg.copy) (.slice none 0 0) (.bool false) (.slice none 0 0)
          have Hbf := Lib.hid hbf
          have HD3 := Lib.hid (D2.grown hgf (by have := D2.size; omega) (fun j hj => by cases hj; omega))
          clear hbf hgf hb1 hb
          go_wp2_with fail
          refine NoPanic.normal ?_
          go_wp2_with fail
          go_meet
          exact ⟨_, rfl, Nat.le_refl _, Hbf, HD3⟩
      case rest =>
        obtain ⟨gs, rfl, hgs, HG, HDc⟩ := hcut
        clear HS D0 HEv z0 z1
        have hzc := HDc.out.size
        have hgsl := HG.out.lt
        have hx2 : xs[2]? = some (xs[2]'(by rw [Hx.out.1]; omega)) := List.getElem?_eq_getElem _
        have z2 : wc.cell? ⟨r, 2, none⟩ = _ := (bcell HDc.out r 2 hr2).trans (Hcell.out 2 _ hx2)
        have hok2 := Hx.out.2 _ (List.mem_of_getElem? hx2)
        generalize xs[2]'(by rw [Hx.out.1]; omega) = y2 at z2 hok2
        obtain ⟨hm0, hm4⟩ := around_range y2 4 (by omega)
        have HAr := Lib.hid (fun W => around_any y2 4 W (by omega) hok2.1 hok2.2)
        generalize around y2 4 = m at HAr hm0 hm4
        clear hx2 hok2
        have Hz2 := Lib.hid z2
        have hBc := HB.out.trans (HDc.out.mono (by omega))
        have HBc := Lib.hid hBc
        clear hBc z2
        go_wp2_with fail
        go_loopw [7] (fun i wr => ∃ (k : Nat) (va : Value) (asks : List Ask), k ≤ 3 ∧ i = .int .i64 k ∧ Hid (asks.length = k ∧ ∀ a ∈ asks, a.ans.ok) ∧ Hid (wr.ownsRow wc.heap.size 111 7 va k (asks.flatMap Ask.cells)) ∧ Hid (Blk wr gs #[I ev.kind, I ev.node, I ev.arg, I ev.msg.node, I ev.msg.handler, I ev.msg.count, I ev.msg.index, I ev.msg.copy, va, .bool false, .slice none 0 0]) ∧ Hid (wc.grownBy wr (some gs))) (fun i _ => 3 - (intOf i).toNat)
        case atStart => exact ⟨0, _, [], by omega, rfl, Lib.hid ⟨rfl, fun a ha => by simp at ha⟩, Lib.hid (World.ownsRow_nil _ _ _ _), HG, Lib.hid (World.grownBy.refl _ _)⟩
        case round =>
          obtain ⟨k, va, asks, hk, rfl, Ha, Hv, HGr, Hgr⟩ := hrel
          have hzx := Hgr.out.size
          have z2 := Hgr.out.cell Hz2.out (by simp; omega)
          by_cases hlt : (k : Int) < m
          · have hk3 : k < 3 := by omega
            obtain ⟨a, hae⟩ : ∃ a : Nat, a = 2 * k := ⟨_, rfl⟩
            obtain ⟨b, hbe⟩ : ∃ b : Nat, b = 3 + a := ⟨_, rfl⟩
            obtain ⟨c, hce⟩ : ∃ c : Nat, c = 4 + a := ⟨_, rfl⟩
            obtain ⟨d, hde⟩ : ∃ d : Nat, d = 3 + k := ⟨_, rfl⟩
            have hb9 : b < 9 := by omega
            have hc9 : c < 9 := by omega
            have hd9 : d < 9 := by omega
            have hb9' : (b : Int) < 9 := by omega
            have hc9' : (c : Int) < 9 := by omega
            have hd9' : (d : Int) < 9 := by omega
            have hw1 : IntKind.i64.wrap (2 * (k : Int)) = (a : Int) := by rw [IntKind.wrap_i64]; omega
            have hw2 : IntKind.i64.wrap (3 + (a : Int)) = (b : Int) := by rw [IntKind.wrap_i64]; omega
            have hw3 : IntKind.i64.wrap (4 + (a : Int)) = (c : Int) := by rw [IntKind.wrap_i64]; omega
            have hw4 : IntKind.i64.wrap (3 + (k : Int)) = (d : Int) := by rw [IntKind.wrap_i64]; omega
            clear hae hbe hce hde
            obtain ⟨yb, hyb⟩ : ∃ y, xs[b]? = some y := ⟨_, List.getElem?_eq_getElem (by rw [Hx.out.1]; omega)⟩
            obtain ⟨yc, hyc⟩ : ∃ y, xs[c]? = some y := ⟨_, List.getElem?_eq_getElem (by rw [Hx.out.1]; omega)⟩
            obtain ⟨yd, hyd⟩ : ∃ y, xs[d]? = some y := ⟨_, List.getElem?_eq_getElem (by rw [Hx.out.1]; omega)⟩
            have zb : wr.cell? ⟨r, b, none⟩ = some (I yb) := Hgr.out.cell ((bcell HDc.out r b hr2).trans (Hcell.out b _ hyb)) (by simp; omega)
            have zc : wr.cell? ⟨r, c, none⟩ = some (I yc) := Hgr.out.cell ((bcell HDc.out r c hr2).trans (Hcell.out c _ hyc)) (by simp; omega)
            have zd : wr.cell? ⟨r, d, none⟩ = some (I yd) := Hgr.out.cell ((bcell HDc.out r d hr2).trans (Hcell.out d _ hyd)) (by simp; omega)
            have okb := Hx.out.2 _ (List.mem_of_getElem? hyb)
            have okc := Hx.out.2 _ (List.mem_of_getElem? hyc)
            have okd := Hx.out.2 _ (List.mem_of_getElem? hyd)
            clear hyb hyc hyd
            have HQ := Lib.hid (fun W => questOfC yb yc W okb okc)
            have HAd := Lib.hid (fun W => around_any yd 4 W (by omega) okd.1 okd.2)
            obtain ⟨hn0, hn4⟩ := around_range yd 4 (by omega)
            generalize around yd 4 = nn at HAd hn0 hn4
            clear okb okc okd
            obtain ⟨kv, cv, rfl, _⟩ := (Flat.of_owns Hv.out).open
            have hrx : r < wr.heap.size := by omega
            have HS := Lib.hid (show ∀ X, Below wr.heap.size wr X → (∀ j, X.cell? ⟨gs, j, none⟩ = (#[I ev.kind, I ev.node, I ev.arg, I ev.msg.node, I ev.msg.handler, I ev.msg.count, I ev.msg.index, I ev.msg.copy, .slice kv k cv, .bool false, .slice none 0 0] : Array Value)[j]?) ∧ (∀ o', X.cell? ⟨r, o', none⟩ = wr.cell? ⟨r, o', none⟩) from fun X hX => ⟨(HGr.out.kept hX HGr.out.lt).cell, fun o' => bcell hX r o' hrx⟩)
            have D0 : Below wr.heap.size wr wr.drew := (Below.refl _ _).drew
            go_upto_region 13 with (go_at_call 18; refine (HAr.out _).mono ?_; rintro e w3 ⟨rfl, rfl⟩)
            refine wp_region_ordN 24 [(0, true), (1, true), (2, true), (3, true), (4, true), (5, true), (6, true), (7, true), (8, true), (9, true), (10, true), (11, true), (12, true), (13, true), (15, true), (16, true), (17, true), (18, true), (19, true), (14, false), (20, false), (21, true), (22, false), (23, false)] (fun w' => (∀ j, w'.cell? ⟨gs, j, none⟩ = (#[I ev.kind, I ev.node, I ev.arg, I ev.msg.node, I ev.msg.handler, I ev.msg.count, I ev.msg.index, I ev.msg.copy, .slice kv k cv, .bool false, .slice none 0 0] : Array Value)[j]?) ∧ (∀ o', w'.cell? ⟨r, o', none⟩ = wr.cell? ⟨r, o', none⟩)) (by kernel_rfl) rfl rfl (by kernel_rfl) (HS.out _ D0) ?_
            iterate 19 (refine wpOrd_take ?_ (by rfl) ?_ ?_; rotate_left; (intro w hSw; (try dsimp only at hSw); go_simp; try with_reducible rfl); (try simp only [Act.put, List.setIfInBounds_toArray, List.set_cons_zero, List.set_cons_succ]))
            refine wpOrd_move (fun K hK => ?_)
            go_simp
            go_at_call 65
            refine (HQ.out _).mono ?_
            rintro e X1 ⟨q, hq, rfl, F⟩
            have D1 := Below.then D0 F
            refine hK.out _ _ (HS.out _ D1) ?_
            clear hK K
            (try simp only [Act.put, List.setIfInBounds_toArray, List.set_cons_zero, List.set_cons_succ])
            refine wpOrd_move (fun K hK => ?_)
            go_simp
            go_at_call 18
            refine (HAd.out _).mono ?_
            rintro e X2 ⟨rfl, hX2⟩
            have hX2 := hX2.symm
            subst hX2
            refine hK.out _ _ (HS.out _ D1) ?_
            clear hK K
            (try simp only [Act.put, List.setIfInBounds_toArray, List.set_cons_zero, List.set_cons_succ])
            (refine wpOrd_take ?_ (by rfl) ?_ ?_; rotate_left; (intro w hSw; (try dsimp only at hSw); go_simp; try with_reducible rfl); (try simp only [Act.put, List.setIfInBounds_toArray, List.set_cons_zero, List.set_cons_succ]))
            have zx1 := D1.size
            have hv1 := owns_below Hv.out D1
            obtain ⟨hbx, F2, zx2⟩ := boxed X2 #[I q.node, I q.handler, I q.count, I q.kind, I q.index, I 4, I nn] 111
            have D2 := Below.then D1 F2
            refine wpOrd_move (fun K hK => ?_)
            go_simp
            refine hK.out _ _ (HS.out _ D2) ?_
            clear hK K
            (try simp only [Act.put, List.setIfInBounds_toArray, List.set_cons_zero, List.set_cons_succ])
            have hvB : ∀ k', (Value.slice kv k cv).ownBlock = some k' → wc.heap.size ≤ k' := fun k' h' => (Hv.out.lt k' h').1
            have hG1 := HGr.out.kept D2 HGr.out.lt
            refine step_appB (by rfl) _ _ 57 (by rfl) 111 _ 7 56 Try.underlying57 info111 rfl (by omega) (by omega) wc.heap.size (.slice kv k cv) k _ (by rfl) (hv1.alloc _) X2.heap.size 1 1 #[I q.node, I q.handler, I q.count, I q.kind, I q.index, I 4, I nn] 111 (by rfl) (heap_alloc_new X2 _) rfl rfl (by omega) (by omega) (by simp; omega) ?_
            intro g6 cap6 w6 hg6a hg6b hg6c ho6 hgr6 hB6
            have hblk6 := hG1.grown hgr6 (fun e => by have := hvB _ e; omega)
            have hGd : wc.grownBy (X2.alloc (.cells #[I q.node, I q.handler, I q.count, I q.kind, I q.index, I 4, I nn] 111)) (some gs) := Hgr.out.trans (grown_below D2 (some gs))
            have hG6 : wc.grownBy w6 (some gs) := World.grownBy.andThen hGd hgr6 (fun j hj => .inl (hvB j hj))
            have hrb : ∀ o', w6.cell? ⟨r, o', none⟩ = wr.cell? ⟨r, o', none⟩ := fun o' => by
              refine (hgr6.cell_far ⟨r, o', none⟩ (by simp; omega) (fun e => by have := hvB r e.symm; omega)).trans ?_
              exact bcell D2 r o' hrx
            refine ⟨⟨hblk6.cell, hrb⟩, ?_⟩
            have HS6 := Lib.hid (hblk6.set 8 (.slice (some ⟨g6, 0, none⟩) (k + 1) cap6))
            have HO7 := Lib.hid (ho6.kept (grown_set w6 ⟨gs, 8, none⟩ (.slice (some ⟨g6, 0, none⟩) (k + 1) cap6)) (.inr (by simp [Value.ownBlock]; omega)))
            have HG7 := Lib.hid (hG6.trans (grown_set w6 ⟨gs, 8, none⟩ (.slice (some ⟨g6, 0, none⟩) (k + 1) cap6)))
            have c61 := hblk6.cell 8
            have f61 := hblk6.frozen 8
            have Hq := Lib.hid hq
            clear hrb hG6 hGd hblk6 hB6 hgr6 ho6 hvB hq hG1 hbx F2 D2 D1 hv1
            (try simp only [Act.put, List.setIfInBounds_toArray, List.set_cons_zero, List.set_cons_succ])
            refine wpOrd_nil ?_
            go_wp2_with fail
            refine NoPanic.normal ?_
            go_wp2_with fail
            go_roundw
            case rel => exact ⟨k + 1, _, asks ++ [⟨q.node, q.handler, q.count, q.kind, q.index, 4, nn⟩], by omega, by go_num, Lib.hid ⟨by simp [Ha.out.1], fun z hz => by
              rcases List.mem_append.1 hz with hz | hz
              · exact Ha.out.2 z hz
              · simp at hz
                subst hz
                exact ⟨Hq.out, by show InI64 nn; unfold InI64; omega⟩⟩, Lib.hid (by rw [List.flatMap_append]; exact HO7.out), Lib.hid HS6.out, HG7⟩
            case measure => simp [intOf]; omega
          · have hG := HGr.out
            have hcs := hG.cell
            obtain ⟨kv, cv, rfl, _⟩ := (Flat.of_owns Hv.out).open
            have hres : Blk wr g #[I 0, I 0, I 0, I 0, I 0, I 0, I 0, I 0, .slice none 0 0, .bool false, .slice none 0 0] := (Hb0.out.kept HBc.out (by omega)).grown Hgr.out (by simp; omega)
            have r0 := hres.cell
            have fr0 := hres.frozen
            obtain ⟨hbf, hgf⟩ := blk_put11 hres (I ev.kind) (I ev.node) (I ev.arg) (I ev.msg.node) (I ev.msg.handler) (I ev.msg.count) (I ev.msg.index) (I ev.msg.copy) (.slice kv k cv) (.bool false) (.slice none 0 0)
            have Hbf := Lib.hid hbf
            have Hgf := Lib.hid hgf
            clear hres hG hbf hgf
            go_wp2_with (go_at_call 18; refine (HAr.out _).mono ?_; rintro e w3 ⟨rfl, rfl⟩)
            have hbf := Hbf.out
            have hva := Hv.out.kept Hgf.out (own_ne Hv.out (by omega))
            have hB5 := (HB0.out.trans (HBc.out.mono (by have := Hg.out; omega))).grown Hgr.out (by have := HBc.out.size; have := Hg.out; omega) (fun j hj => by cases hj; have := Hg.out; omega)
            have hB6 := hB5.grown Hgf.out (by have := hB5.size; omega) (fun j hj => by cases hj; have := Hg.out; omega)
            obtain ⟨t5, ht5⟩ := hbf
            refine bodyPost_ret (results_cell_row Try.results27 _ _ g t5 _ (0, 0) _ rfl ht5 Try.underlying60 rfl (by kernel_rfl)) rfl ?_
            refine ⟨ev, asks, .slice kv k cv, rfl, Hevok.out, Ha.out.2, by rw [Ha.out.1]; omega, ?_, hB6⟩
            rw [Ha.out.1]
            exact owns_weaken hva (by have := Hg.out; omega)
end Go.Proofs.Ytjdhcdbjfbhogaa
