/- The generator of tapes. (Printed by mkG17.py, then gen.py.) -/
import Derived.Test.YtjdhcdbjfbhogaaG16
import Derived.Test.YtjdhcdbjfbhogaaG11
namespace Go.Proofs.Ytjdhcdbjfbhogaa
open Go.RowKit Go.Maps

def tEv (x : Int) : Ev := evOf x (x.tdiv 1000)
def tAns (x : Int) : Ans := ⟨qOf (around x 100000), around x 100000 / 96 % 5 - 1⟩
def tapeEv (l : List Int) : List Ev := (l.take 8).map tEv
def tapeAns (m : List Int) : List Ans := (m.take 10).map tAns
theorem tapeEv_ok (l : List Int) : ∀ e ∈ tapeEv l, e.ok := by
  intro e he
  obtain ⟨x, _, rfl⟩ := List.mem_map.1 he
  exact evOf_ok _ _
theorem tapeAns_ok (l : List Int) : ∀ a ∈ tapeAns l, a.ok := by
  intro e he
  obtain ⟨x, _, rfl⟩ := List.mem_map.1 he
  obtain ⟨h1, h2⟩ := around_range x 100000 (by omega)
  exact ⟨qOf_ok _, show InI64 (around x 100000 / 96 % 5 - 1) by unfold InI64; omega⟩
theorem tapeEv_length (l : List Int) : (tapeEv l).length ≤ 8 := by simp [tapeEv]; omega
theorem tapeAns_length (l : List Int) : (tapeAns l).length ≤ 10 := by simp [tapeAns]; omega
theorem map_take_snoc {α β : Type} (f : α → β) (l : List α) (k : Nat) (h : k < l.length) : (l.take (k + 1)).map f = (l.take k).map f ++ [f l[k]] := by
  rw [List.take_succ_eq_append_getElem h, List.map_append]; rfl
theorem take_stop {α : Type} {l : List α} {k n : Nat} (hk : k ≤ l.length) (hn : k ≤ n) (h : (decide (k < l.length) && decide (k < n)) = false) : l.take n = l.take k ∧ k = (l.take n).length := by
  simp at h
  by_cases h1 : k < l.length
  · have := h h1
    have e : k = n := by omega
    subst e
    exact ⟨rfl, by simp; omega⟩
  · have e : k = l.length := by omega
    subst e
    exact ⟨by rw [List.take_of_length_le hn, List.take_of_length_le (Nat.le_refl _)], by simp; omega⟩
theorem tdiv_i64 {x : Int} (h : InI64 x) : InI64 (x.tdiv 1000) := by
  unfold InI64 at h ⊢
  by_cases hx : 0 ≤ x
  · rw [Int.tdiv_eq_ediv_of_nonneg hx]
    omega
  · have e : x.tdiv 1000 = -((-x).tdiv 1000) := by rw [Int.neg_tdiv, Int.neg_neg]
    rw [e, Int.tdiv_eq_ediv_of_nonneg (by omega)]
    omega

set_option maxHeartbeats 8000000 in
set_option maxRecDepth 100000 in
theorem tapeC (l m : List Int) (vl vm : Value) (w : World) (hl : IntSl w vl l) (hm : IntSl w vm m) (okl : ∀ n ∈ l, InI64 n) (okm : ∀ n ∈ m, InI64 n) :
    Calls Try.prog 12 #[vl, vm] w fun e w' => ∃ ue ua, e = .returned (.agg #[ue, ua]) ∧ w'.ownsRow w.heap.size 56 8 ue (tapeEv l).length ((tapeEv l).flatMap ec) ∧ w'.ownsRow w.heap.size 75 6 ua (tapeAns m).length ((tapeAns m).flatMap ac) ∧ Below w.heap.size w w' := by
  obtain ⟨kl, cl, rfl, hml⟩ := hl.open
  obtain ⟨km, cm, rfl, hmm⟩ := hm.open
  have hk0 : Kp2 w #[.slice none 0 0, .slice none 0 0] #[.slice none 0 0, .slice none 0 0] ((w.alloc (.cells #[.slice none 0 0, .slice none 0 0] 26)).alloc (.cells #[.slice none 0 0, .slice none 0 0] 26)) := Kp2.start w _ _ 26
  have hz0 : ((w.alloc (.cells #[.slice none 0 0, .slice none 0 0] 26)).alloc (.cells #[.slice none 0 0, .slice none 0 0] 26)).heap.size = w.heap.size + 2 := by simp
  have Hl := Lib.hid hl
  have Hm := Lib.hid hm
  have Hokl := Lib.hid okl
  have Hokm := Lib.hid okm
  clear hl hm okl okm
  go_enter Try.func12, Try.ntmps12
  go_wp2_with fail
  generalize (w.alloc (.cells #[.slice none 0 0, .slice none 0 0] 26)).alloc (.cells #[.slice none 0 0, .slice none 0 0] 26) = w4 at hk0 hz0 ⊢
  have Hk0 := Lib.hid hk0
  clear hk0
  go_loopw [6] (fun i wr => ∃ (k : Nat) (v : Value), k ≤ l.length ∧ k ≤ 8 ∧ i = .int .i64 k ∧ Hid (wr.ownsRow w4.heap.size 56 8 v k (((l.take k).map tEv).flatMap ec)) ∧ Blk wr (w.heap.size + 1) #[v, .slice none 0 0] ∧ Hid (w4.grownBy wr (some (w.heap.size + 1)))) (fun i _ => 8 - (intOf i).toNat)
  case atStart => exact ⟨0, _, by omega, by omega, rfl, Lib.hid (World.ownsRow_nil _ _ _ _), Hk0.out.2.1, Lib.hid (World.grownBy.refl _ _)⟩
  case round =>
    obtain ⟨k, v, hk, hk8, rfl, Hv, hblk, Hg⟩ := hrel
    have hzr := Hg.out.size
    have hbt := hblk.cell
    obtain ⟨kv, cv, rfl, _⟩ := (Flat.of_owns Hv.out).open
    obtain ⟨bb, hbb⟩ : ∃ bb : Bool, bb = (decide (k < l.length) && decide (k < 8)) := ⟨_, rfl⟩
    have Hbb := Lib.hid hbb
    clear hbb
    go_upto_region 3 with fail
    go_cut [16] from 9 to 33 (fun t wc => t = .bool bb ∧ wc = wr)
    case first =>
      by_cases hlt : k < l.length
      · by_cases h8 : k < 8
        · go_wp2_with fail
          go_meet
          exact ⟨by rw [Hbb.out]; simp [hlt, h8]; omega, rfl⟩
        · go_wp2_with fail
          go_meet
          exact ⟨by rw [Hbb.out]; simp [h8]; omega, rfl⟩
      · go_wp2_with fail
        go_meet
        exact ⟨by rw [Hbb.out]; simp [hlt], rfl⟩
    case rest =>
      obtain ⟨rfl, hwc⟩ := hcut
      have hwc := hwc.symm
      subst hwc
      cases bb with
      | true =>
        have hh : k < l.length ∧ k < 8 := by
          have := Hbb.out
          simp at this
          exact this
        obtain ⟨hlt, h8⟩ := hh
        have hBr : Below w.heap.size w wr := Hk0.out.2.2.1.grown Hg.out (by omega) (fun g hg => by cases hg; omega)
        obtain ⟨b, o, rfl, x0⟩ := IntSl.at (Hl.out.kept hBr (Nat.le_refl _)) (i := k) (x := l[k]) (by simp [hlt])
        have hbw : b < wr.heap.size := by simpa using World.block_lt_of_cell? _ _ x0
        have hb0 : b < w.heap.size := by
          obtain ⟨b2, o2, e2, y0⟩ := IntSl.at Hl.out (i := k) (x := l[k]) (by simp [hlt])
          cases e2
          simpa using World.block_lt_of_cell? _ _ y0
        have hxo := Hokl.out _ (List.getElem_mem hlt)
        have Hts := Lib.hid (map_take_snoc tEv l k hlt)
        generalize l[k] = x at x0 hxo Hts ⊢
        have hqo := tdiv_i64 hxo
        have hq : IntKind.i64.wrap (x.tdiv 1000) = x.tdiv 1000 := by rw [IntKind.wrap_i64]; unfold InI64 at hqo; omega
        have Hev := Lib.hid (eventC x (x.tdiv 1000) wr.drew hxo hqo)
        obtain ⟨ev, hev⟩ : ∃ ev, ev = tEv x := ⟨_, rfl⟩
        rw [← hev] at Hts
        rw [show evOf x (x.tdiv 1000) = ev from hev.symm] at Hev
        clear hev hqo hxo
        go_upto_region 5 with fail
        refine wp_region_ordN 14 [(0, true), (1, true), (2, true), (3, true), (4, true), (5, true), (6, true), (7, true), (8, true), (9, true), (10, true), (11, false), (12, false), (13, false)] (fun w' => (∀ j, w'.cell? ⟨w.heap.size + 1, j, none⟩ = (#[.slice kv k cv, .slice none 0 0] : Array Value)[j]?) ∧ (∀ o, w'.cell? ⟨b, o, none⟩ = wr.cell? ⟨b, o, none⟩)) (by kernel_rfl) rfl rfl (by kernel_rfl) ⟨hbt, fun _ => rfl⟩ ?_
        iterate 11 (refine wpOrd_take ?_ (by rfl) ?_ ?_; rotate_left; (intro w hSw; (try dsimp only at hSw); go_simp; try with_reducible rfl); (try simp only [Act.put, List.setIfInBounds_toArray, List.set_cons_zero, List.set_cons_succ]))
        refine wpOrd_move (fun K hK => ?_)
        go_simp
        go_at_call 43
        refine Hev.out.mono ?_
        rintro e w1 ⟨rfl, hB1d⟩
        have hB1 : Below wr.heap.size wr w1 := ⟨hB1d.os, hB1d.tape, hB1d.output, hB1d.size, hB1d.block⟩
        have hblk1 := hblk.kept hB1 hblk.lt
        have hv1 := owns_below Hv.out hB1
        have hG1 := Hg.out.trans (grown_below hB1 (some (w.heap.size + 1)))
        have hz1 := hB1.size
        have hvB : ∀ k', (Value.slice kv k cv).ownBlock = some k' → w4.heap.size ≤ k' := fun k' h' => (Hv.out.lt k' h').1
        refine hK.out _ _ ⟨hblk1.cell, fun o => bcell hB1 b o hbw⟩ ?_
        clear hK K hB1d
        (try simp only [Act.put, List.setIfInBounds_toArray, List.set_cons_zero, List.set_cons_succ])
        refine wpOrd_move (fun K hK => ?_)
        go_simp
        refine hK.out _ _ ⟨(hblk1.alloc _).cell, fun o => (by rw [World.cell?_alloc_past _ _ _ (by omega)]; exact bcell hB1 b o hbw)⟩ ?_
        clear hK K
        (try simp only [Act.put, List.setIfInBounds_toArray, List.set_cons_zero, List.set_cons_succ])
        refine step_appB (by rfl) _ _ 23 (by rfl) 56 _ 8 64 Try.underlying23 info56 rfl (by omega) (by omega) w4.heap.size (.slice kv k cv) k _ (by rfl) (hv1.alloc _) w1.heap.size 1 1 #[I ev.kind, I ev.node, I ev.arg, I ev.msg.node, I ev.msg.handler, I ev.msg.count, I ev.msg.index, I ev.msg.copy] 56 (by rfl) (heap_alloc_new w1 _) rfl rfl (by omega) (by omega) (by simp; omega) ?_
        intro g6 cap6 w6 hg6a hg6b hg6c ho6 hgr6 hB6
        have hblk6 : Blk w6 (w.heap.size + 1) #[.slice kv k cv, .slice none 0 0] := (hblk1.alloc _).grown hgr6 (fun e => by have := hvB _ e; omega)
        have hG6 : w4.grownBy w6 (some (w.heap.size + 1)) := World.grownBy.andThen (hG1.trans (World.grownBy_alloc w1 (.cells #[I ev.kind, I ev.node, I ev.arg, I ev.msg.node, I ev.msg.handler, I ev.msg.count, I ev.msg.index, I ev.msg.copy] 56) (some (w.heap.size + 1)))) hgr6 (fun j hj => .inl (hvB j hj))
        refine ⟨⟨hblk6.cell, fun o => (by rw [hB6.cell (p := ⟨b, o, none⟩) (by show b < w4.heap.size; omega), World.cell?_alloc_past _ _ _ (by omega)]; exact bcell hB1 b o hbw)⟩, ?_⟩
        have hS6 := hblk6.set 0 (.slice (some ⟨g6, 0, none⟩) (k + 1) cap6)
        have ho7 := ho6.kept (grown_set w6 ⟨w.heap.size + 1, 0, none⟩ (.slice (some ⟨g6, 0, none⟩) (k + 1) cap6)) (.inr (by simp [Value.ownBlock]; omega))
        have hG7 := hG6.trans (grown_set w6 ⟨w.heap.size + 1, 0, none⟩ (.slice (some ⟨g6, 0, none⟩) (k + 1) cap6))
        have HS6 := Lib.hid hS6
        have HO7 := Lib.hid ho7
        have HG7 := Lib.hid hG7
        have c61 := hblk6.cell 0
        have f61 := hblk6.frozen 0
        clear hS6 ho7 hG7 hG6 ho6 hgr6 hB6 hblk6 hv1 hG1
        (try simp only [Act.put, List.setIfInBounds_toArray, List.set_cons_zero, List.set_cons_succ])
        refine wpOrd_nil ?_
        go_wp2_with fail
        refine NoPanic.normal ?_
        go_wp2_with fail
        go_roundw
        case rel => exact ⟨k + 1, _, by omega, by omega, by go_num, Lib.hid (by rw [Hts.out, List.flatMap_append]; exact HO7.out), HS6.out, HG7⟩
        case measure => simp [intOf]; omega
      | false =>
        obtain ⟨hst, hkn⟩ := take_stop hk hk8 Hbb.out.symm
        obtain ⟨wo, rfl⟩ : ∃ wo, wo = wr := ⟨_, rfl⟩
        have hve := Hv.out
        rw [← hst] at hve
        have Hve := Lib.hid (show wo.ownsRow w4.heap.size 56 8 (.slice kv k cv) k ((tapeEv l).flatMap ec) from hve)
        have HkE := Lib.hid (show k = (tapeEv l).length from by unfold tapeEv; rw [List.length_map]; exact hkn)
        have hBo : Below w.heap.size w wo := Hk0.out.2.2.1.grown Hg.out (by omega) (fun g hg => by cases hg; omega)
        have HBo := Lib.hid hBo
        have hzo := Hg.out.size
        have Hres := Lib.hid (Hk0.out.1.grown Hg.out (by simp))
        clear hst hkn hve hBo hbt Hv Hbb Hokl Hl
        go_wp2_with fail
        go_loopw [7] (fun i wr => ∃ (j : Nat) (v : Value), j ≤ m.length ∧ j ≤ 10 ∧ i = .int .i64 j ∧ Hid (wr.ownsRow wo.heap.size 75 6 v j (((m.take j).map tAns).flatMap ac)) ∧ Blk wr (w.heap.size + 1) #[.slice kv k cv, v] ∧ Hid (wo.grownBy wr (some (w.heap.size + 1)))) (fun i _ => 10 - (intOf i).toNat)
        case atStart => exact ⟨0, _, by omega, by omega, rfl, Lib.hid (World.ownsRow_nil _ _ _ _), hblk, Lib.hid (World.grownBy.refl _ _)⟩
        case round =>
          clear hblk
          obtain ⟨j, v, hj, hj10, rfl, Hv, hblk, Hg2⟩ := hrel
          have hzr2 := Hg2.out.size
          have hbt := hblk.cell
          obtain ⟨kw, cw, rfl, _⟩ := (Flat.of_owns Hv.out).open
          obtain ⟨bb, hbb⟩ : ∃ bb : Bool, bb = (decide (j < m.length) && decide (j < 10)) := ⟨_, rfl⟩
          have Hbb := Lib.hid hbb
          clear hbb
          go_upto_region 7 with fail
          go_cut [41] from 34 to 60 (fun t wc => t = .bool bb ∧ wc = wr)
          case first =>
            by_cases hlt : j < m.length
            · by_cases h8 : j < 10
              · go_wp2_with fail
                go_meet
                exact ⟨by rw [Hbb.out]; simp [hlt, h8]; omega, rfl⟩
              · go_wp2_with fail
                go_meet
                exact ⟨by rw [Hbb.out]; simp [h8]; omega, rfl⟩
            · go_wp2_with fail
              go_meet
              exact ⟨by rw [Hbb.out]; simp [hlt], rfl⟩
          case rest =>
            obtain ⟨rfl, hwc⟩ := hcut
            have hwc := hwc.symm
            subst hwc
            cases bb with
            | true =>
              have hh : j < m.length ∧ j < 10 := by
                have := Hbb.out
                simp at this
                exact this
              obtain ⟨hlt, h10⟩ := hh
              have hBr : Below w.heap.size w wr := HBo.out.grown Hg2.out (by omega) (fun g hg => by cases hg; omega)
              obtain ⟨b, o, rfl, x0⟩ := IntSl.at (Hm.out.kept hBr (Nat.le_refl _)) (i := j) (x := m[j]) (by simp [hlt])
              have hxo := Hokm.out _ (List.getElem_mem hlt)
              have Hts := Lib.hid (map_take_snoc tAns m j hlt)
              generalize m[j] = x at x0 hxo Hts ⊢
              have HA := Lib.hid (around_any x 100000 wr (by omega) hxo.1 hxo.2)
              obtain ⟨y0, y1⟩ := around_range x 100000 (by omega)
              have hta : tAns x = ⟨qOf (around x 100000), around x 100000 / 96 % 5 - 1⟩ := rfl
              rw [hta] at Hts
              generalize around x 100000 = y at HA y0 y1 Hts ⊢
              have Hq := Lib.hid (questionC y wr.drew ⟨by omega, by omega⟩)
              have hd1 : IntKind.i64.wrap (y.tdiv 96) = y / 96 := by rw [Int.tdiv_eq_ediv_of_nonneg (by omega), IntKind.wrap_i64]; omega
              have hd2 : (y / 96).tmod 5 = y / 96 % 5 := Int.tmod_eq_emod_of_nonneg (by omega)
              have hd3 : IntKind.i64.wrap (y / 96 % 5 - 1) = y / 96 % 5 - 1 := by rw [IntKind.wrap_i64]; omega
              generalize qOf y = q at Hq Hts
              clear hta hxo
              go_upto_region 10 with (go_at_call 18; refine HA.out.mono ?_; rintro e w1 ⟨rfl, rfl⟩)
              refine wp_region_ordN 11 [(0, true), (1, true), (2, true), (4, true), (5, true), (6, true), (7, true), (3, false), (8, true), (9, false), (10, false)] (fun w' => ∀ j', w'.cell? ⟨w.heap.size + 1, j', none⟩ = (#[.slice kv k cv, .slice kw j cw] : Array Value)[j']?) (by kernel_rfl) rfl rfl (by kernel_rfl) hbt ?_
              iterate 7 (refine wpOrd_take ?_ (by rfl) ?_ ?_; rotate_left; (intro w hSw; (try dsimp only at hSw); go_simp; try with_reducible rfl); (try simp only [Act.put, List.setIfInBounds_toArray, List.set_cons_zero, List.set_cons_succ]))
              refine wpOrd_move (fun K hK => ?_)
              go_simp
              go_at_call 31
              refine Hq.out.mono ?_
              rintro e w1 ⟨rfl, hB1d⟩
              have hB1 : Below wr.heap.size wr w1 := ⟨hB1d.os, hB1d.tape, hB1d.output, hB1d.size, hB1d.block⟩
              have hblk1 := hblk.kept hB1 hblk.lt
              have hv1 := owns_below Hv.out hB1
              have hG1 := Hg2.out.trans (grown_below hB1 (some (w.heap.size + 1)))
              have hz1 := hB1.size
              have hvB : ∀ k', (Value.slice kw j cw).ownBlock = some k' → wo.heap.size ≤ k' := fun k' h' => (Hv.out.lt k' h').1
              refine hK.out _ _ hblk1.cell ?_
              clear hK K hB1d
              (try simp only [Act.put, List.setIfInBounds_toArray, List.set_cons_zero, List.set_cons_succ])
              (refine wpOrd_take ?_ (by rfl) ?_ ?_; rotate_left; (intro w hSw; (try dsimp only at hSw); go_simp; try with_reducible rfl); (try simp only [Act.put, List.setIfInBounds_toArray, List.set_cons_zero, List.set_cons_succ]))
              refine wpOrd_move (fun K hK => ?_)
              go_simp
              refine hK.out _ _ (hblk1.alloc _).cell ?_
              clear hK K
              (try simp only [Act.put, List.setIfInBounds_toArray, List.set_cons_zero, List.set_cons_succ])
              refine step_appB (by rfl) _ _ 24 (by rfl) 75 _ 6 48 Try.underlying24 info75 rfl (by omega) (by omega) wo.heap.size (.slice kw j cw) j _ (by rfl) (hv1.alloc _) w1.heap.size 1 1 #[I q.node, I q.handler, I q.count, I q.kind, I q.index, I (y / 96 % 5 - 1)] 75 (by rfl) (heap_alloc_new w1 _) rfl rfl (by omega) (by omega) (by simp; omega) ?_
              intro g6 cap6 w6 hg6a hg6b hg6c ho6 hgr6 hB6
              have hblk6 : Blk w6 (w.heap.size + 1) #[.slice kv k cv, .slice kw j cw] := (hblk1.alloc _).grown hgr6 (fun e => by have := hvB _ e; omega)
              have hG6 : wo.grownBy w6 (some (w.heap.size + 1)) := World.grownBy.andThen (hG1.trans (World.grownBy_alloc w1 (.cells #[I q.node, I q.handler, I q.count, I q.kind, I q.index, I (y / 96 % 5 - 1)] 75) (some (w.heap.size + 1)))) hgr6 (fun j hj => .inl (hvB j hj))
              refine ⟨hblk6.cell, ?_⟩
              have hS6 := hblk6.set 1 (.slice (some ⟨g6, 0, none⟩) (j + 1) cap6)
              have ho7 := ho6.kept (grown_set w6 ⟨w.heap.size + 1, 1, none⟩ (.slice (some ⟨g6, 0, none⟩) (j + 1) cap6)) (.inr (by simp [Value.ownBlock]; omega))
              have hG7 := hG6.trans (grown_set w6 ⟨w.heap.size + 1, 1, none⟩ (.slice (some ⟨g6, 0, none⟩) (j + 1) cap6))
              have HS6 := Lib.hid hS6
              have HO7 := Lib.hid ho7
              have HG7 := Lib.hid hG7
              have c61 := hblk6.cell 1
              have f61 := hblk6.frozen 1
              clear hS6 ho7 hG7 hG6 ho6 hgr6 hB6 hblk6 hv1 hG1
              (try simp only [Act.put, List.setIfInBounds_toArray, List.set_cons_zero, List.set_cons_succ])
              refine wpOrd_nil ?_
              go_wp2_with fail
              refine NoPanic.normal ?_
              go_wp2_with fail
              go_roundw
              case rel => exact ⟨j + 1, _, by omega, by omega, by go_num, Lib.hid (by rw [Hts.out, List.flatMap_append]; exact HO7.out), HS6.out, HG7⟩
              case measure => simp [intOf]; omega
            | false =>
              obtain ⟨hst, hkn⟩ := take_stop hj hj10 Hbb.out.symm
              have hua := Hv.out
              rw [← hst] at hua
              have HjE : j = (tapeAns m).length := by unfold tapeAns; rw [List.length_map]; exact hkn
              have hres := Hres.out.grown Hg2.out (by simp)
              have hve := Hve.out.kept Hg2.out (by
                cases hv : (Value.slice kv k cv).ownBlock with
                | none => exact .inl rfl
                | some g => exact .inr (fun e => by have := (Hve.out.lt g hv).1; simp at e; omega))
              have hBf := HBo.out.grown Hg2.out (by omega) (fun g hg => by cases hg; omega)
              have c0 := hblk.cell 0
              have c1 := hblk.cell 1
              have r0 := hres.cell 0
              have r1 := hres.cell 1
              have fr0 := hres.frozen 0
              have fr1 := hres.frozen 1
              have HH := Lib.hid hres
              have Hua := Lib.hid (show wr.ownsRow wo.heap.size 75 6 (.slice kw j cw) j ((tapeAns m).flatMap ac) from hua)
              have HVE := Lib.hid hve
              have HBf := Lib.hid hBf
              have HJ := Lib.hid HjE
              clear hres hblk hua hst hkn Hv hve hBf HjE Hbb
              go_wp2_with fail
              have hfin : Blk ((wr.setCell ⟨w.heap.size, 0, none⟩ (.slice kv k cv)).setCell ⟨w.heap.size, 1, none⟩ (.slice kw j cw)) w.heap.size #[.slice kv k cv, .slice kw j cw] := (HH.out.set 0 _).set 1 _
              have hgs : wr.grownBy ((wr.setCell ⟨w.heap.size, 0, none⟩ (.slice kv k cv)).setCell ⟨w.heap.size, 1, none⟩ (.slice kw j cw)) (some w.heap.size) := (grown_set wr ⟨w.heap.size, 0, none⟩ _).trans (grown_set _ ⟨w.heap.size, 1, none⟩ _)
              have hua' := Hua.out.kept hgs (by
                cases hv : (Value.slice kw j cw).ownBlock with
                | none => exact .inl rfl
                | some g => exact .inr (fun e => by have := (Hua.out.lt g hv).1; simp at e; omega))
              have hve' := HVE.out.kept hgs (by
                cases hv : (Value.slice kv k cv).ownBlock with
                | none => exact .inl rfl
                | some g => exact .inr (fun e => by have := (HVE.out.lt g hv).1; simp at e; omega))
              have hB5 := HBf.out.grown hgs (by have := HBf.out.size; omega) (fun g hg => by cases hg; omega)
              generalize (wr.setCell ⟨w.heap.size, 0, none⟩ (.slice kv k cv)).setCell ⟨w.heap.size, 1, none⟩ (.slice kw j cw) = W5 at hfin hgs hua' hve' hB5 ⊢
              obtain ⟨t5, ht5⟩ := hfin
              have hr : ∀ tmps : Array Value, tmps.getD 4 undef = .pointer (some ⟨w.heap.size, 0, none⟩) → (results Try.f12 tmps).run Try.prog W5 = .ok (.agg #[.slice kv k cv, .slice kw j cw]) W5 := fun tmps hp => results_cell_row Try.results12 tmps W5 w.heap.size t5 _ (0, 0) _ hp ht5 Try.underlying26 rfl (by kernel_rfl)
              refine bodyPost_ret (hr _ rfl) rfl ?_
              rw [← HkE.out, ← HJ.out]
              exact ⟨_, _, rfl, owns_weaken hve' (by omega), owns_weaken hua' (by omega), hB5⟩

end Go.Proofs.Ytjdhcdbjfbhogaa
