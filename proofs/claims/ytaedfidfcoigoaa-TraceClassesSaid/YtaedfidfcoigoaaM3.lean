/- The reference's exchange of two neighbours: the walk. -/
import Derived.Test.YtaedfidfcoigoaaM2
import Derived.Test.YtaedfidfcoigoaaR3
namespace Go.Proofs.Ytaedfidfcoigoaa
open Go.RowKit

theorem own_blk {w : World} {B : Nat} {v : Value} {n : Nat} {xs : List Value} (h : w.ownsRow B 55 11 v n xs) (hn : 0 < n) : ∃ g cap cur, v = .slice (some ⟨g, 0, none⟩) n cap ∧ B ≤ g ∧ Blk w g cur ∧ n * 11 ≤ cur.size ∧ cur.toList.take (n * 11) = xs := by
  rcases h.2 with ⟨_, h0⟩ | ⟨g, cap, cur, rfl, h1, h2, h3, _, h5, h6⟩
  · omega
  · exact ⟨g, cap, cur, rfl, h1, ⟨55, h2⟩, by rw [h5]; exact Nat.mul_le_mul_right _ h3, h6⟩
theorem blk_some {w : World} {g : Nat} {cur : Array Value} (h : Blk w g cur) {j : Nat} (hj : j < cur.size) : w.cell? ⟨g, j, none⟩ = some (cur[j]'hj) := by rw [h.cell j]; simp [hj]

set_option maxHeartbeats 4000000 in
set_option maxRecDepth 100000 in
theorem refSwap (run : List Stp) (i : Nat) (v : Value) (w : World) (hrun : StpSl w v run) (hi : i + 1 < run.length) (hm : run.length ≤ 1000) :
    Calls Try.prog 31 #[v, I i] w fun e w' => ∃ u c, e = .returned (.tuple #[u, I c]) ∧ Below w.heap.size w w' ∧ ((c = 0 ∧ ∃ run', StpSl w' u run' ∧ Sw run run') ∨ c = 5) := by
  obtain ⟨ka, ca, rfl, hml⟩ := hrun.open
  obtain ⟨b, o, va, vs, rfl, hva, hvs, x0, x1, x2, x3, x4, x5, x6, x7, x8, x9, x10⟩ := hrun.at (i := i) (s := run[i]) (by simp)
  obtain ⟨b', o', ua, us, hab, hua, hus, y0, y1, y2, y3, y4, y5, y6, y7, y8, y9, y10⟩ := hrun.at (i := i + 1) (s := run[i + 1]) (by simp)
  simp at hab
  obtain ⟨rfl, rfl⟩ := hab
  obtain ⟨qa, da, rfl, _⟩ := hva.open
  obtain ⟨qs, ds, rfl, _⟩ := hvs.open
  obtain ⟨ra, ea, rfl, _⟩ := hua.open
  obtain ⟨rs, es, rfl, _⟩ := hus.open
  obtain ⟨xs, hcs, hfl⟩ := hrun
  have hbl : b < w.heap.size := by simpa using World.block_lt_of_cell? _ _ x0
  have hdep := dependent run[i] run[i + 1] (run[i].val (.slice qa run[i].asks.length da) (.slice qs run[i].sent.length ds)) (run[i + 1].val (.slice ra run[i + 1].asks.length ea) (.slice rs run[i + 1].sent.length es)) w.drew
    ⟨_, _, rfl, hva.kept (Below.refl _ _).drew (Nat.le_refl _), hvs.kept (Below.refl _ _).drew (Nat.le_refl _)⟩ ⟨_, _, rfl, hua.kept (Below.refl _ _).drew (Nat.le_refl _), hus.kept (Below.refl _ _).drew (Nat.le_refl _)⟩
  simp only [Stp.val, Stp.row] at hdep
  have Hdep := Lib.hid hdep
  clear hdep
  have b0 : (0 : Int) ≤ (i : Int) := by omega
  have b1 : (i : Int) < (run.length : Int) := by omega
  have b2 : (0 : Int) ≤ (i : Int) + 1 := by omega
  have b3 : (i : Int) + 1 < (run.length : Int) := by omega
  have b4 : IntKind.i64.wrap ((i : Int) + 1) = (i : Int) + 1 := by rw [IntKind.wrap_i64]; omega
  have b5 : ((i : Int) + 1).toNat = i + 1 := by omega
  have b7 : ¬ ((run.length : Int) - 2 < (i : Int)) := by omega
  have b8 : ¬ ((i : Int) < 0) := by omega
  go_enter Try.func31, Try.ntmps31
  go_wp2_with fail
  refine wp_region_ordN 9 [(0, true), (1, true), (2, true), (3, true), (4, true), (5, true), (6, true), (7, true), (8, true)] (fun w' => w'.cell? ⟨b, o + i * 11, none⟩ = some (I run[i].ev.kind) ∧ w'.cell? ⟨b, o + i * 11 + 1, none⟩ = some (I run[i].ev.node) ∧ w'.cell? ⟨b, o + i * 11 + 2, none⟩ = some (I run[i].ev.arg) ∧ w'.cell? ⟨b, o + i * 11 + 3, none⟩ = some (I run[i].ev.msg.node) ∧ w'.cell? ⟨b, o + i * 11 + 4, none⟩ = some (I run[i].ev.msg.handler) ∧ w'.cell? ⟨b, o + i * 11 + 5, none⟩ = some (I run[i].ev.msg.count) ∧ w'.cell? ⟨b, o + i * 11 + 6, none⟩ = some (I run[i].ev.msg.index) ∧ w'.cell? ⟨b, o + i * 11 + 7, none⟩ = some (I run[i].ev.msg.copy) ∧ w'.cell? ⟨b, o + i * 11 + 8, none⟩ = some (.slice qa run[i].asks.length da) ∧ w'.cell? ⟨b, o + i * 11 + 9, none⟩ = some (.bool run[i].obs) ∧ w'.cell? ⟨b, o + i * 11 + 10, none⟩ = some (.slice qs run[i].sent.length ds) ∧ w'.cell? ⟨b, o + (i + 1) * 11, none⟩ = some (I run[i + 1].ev.kind) ∧ w'.cell? ⟨b, o + (i + 1) * 11 + 1, none⟩ = some (I run[i + 1].ev.node) ∧ w'.cell? ⟨b, o + (i + 1) * 11 + 2, none⟩ = some (I run[i + 1].ev.arg) ∧ w'.cell? ⟨b, o + (i + 1) * 11 + 3, none⟩ = some (I run[i + 1].ev.msg.node) ∧ w'.cell? ⟨b, o + (i + 1) * 11 + 4, none⟩ = some (I run[i + 1].ev.msg.handler) ∧ w'.cell? ⟨b, o + (i + 1) * 11 + 5, none⟩ = some (I run[i + 1].ev.msg.count) ∧ w'.cell? ⟨b, o + (i + 1) * 11 + 6, none⟩ = some (I run[i + 1].ev.msg.index) ∧ w'.cell? ⟨b, o + (i + 1) * 11 + 7, none⟩ = some (I run[i + 1].ev.msg.copy) ∧ w'.cell? ⟨b, o + (i + 1) * 11 + 8, none⟩ = some (.slice ra run[i + 1].asks.length ea) ∧ w'.cell? ⟨b, o + (i + 1) * 11 + 9, none⟩ = some (.bool run[i + 1].obs) ∧ w'.cell? ⟨b, o + (i + 1) * 11 + 10, none⟩ = some (.slice rs run[i + 1].sent.length es)) (by kernel_rfl) rfl rfl (by kernel_rfl) ⟨x0, x1, x2, x3, x4, x5, x6, x7, x8, x9, x10, y0, y1, y2, y3, y4, y5, y6, y7, y8, y9, y10⟩ ?_
  iterate 9 (refine wpOrd_take ?_ (by rfl) ?_ ?_; rotate_left; (intro w hSw; (try dsimp only at hSw); go_simp; try with_reducible rfl); (try simp only [Act.put, List.setIfInBounds_toArray, List.set_cons_zero, List.set_cons_succ]))
  refine wpOrd_nil ?_
  go_wp2_with fail
  refine Hdep.out.mono ?_
  rintro e w1 ⟨rfl, hB1⟩
  have hBw1 : Below w.heap.size w w1 := Below.then (w := w) (by repeat (first | exact Below.refl _ _ | assumption | refine Below.drew ?_ | refine below_drewN ?_ _ | refine Below.alloc ?_ (by simp <;> omega) _ | refine Below.setCell ?_ (by simp <;> omega) _)) hB1
  go_wp2_with fail
  refine NoPanic.normal ?_
  by_cases hd : depB run[i] run[i + 1] = true
  · rw [hd]
    clear x0 x1 x2 x3 x4 x5 x6 x7 x8 x9 x10 y0 y1 y2 y3 y4 y5 y6 y7 y8 y9 y10
    go_wp2_with fail
    go_ret2
    exact ⟨_, 5, rfl, hBw1, .inr rfl⟩
  · have hd' : depB run[i] run[i + 1] = false := by simpa using hd
    rw [hd']
    have Hd := Lib.hid hd'
    have Hcs := Lib.hid hcs
    have Hfl := Lib.hid hfl
    have HX := Lib.hid (show w.cell? ⟨b, o + i * 11, none⟩ = some (I run[i].ev.kind) ∧ w.cell? ⟨b, o + i * 11 + 1, none⟩ = some (I run[i].ev.node) ∧ w.cell? ⟨b, o + i * 11 + 2, none⟩ = some (I run[i].ev.arg) ∧ w.cell? ⟨b, o + i * 11 + 3, none⟩ = some (I run[i].ev.msg.node) ∧ w.cell? ⟨b, o + i * 11 + 4, none⟩ = some (I run[i].ev.msg.handler) ∧ w.cell? ⟨b, o + i * 11 + 5, none⟩ = some (I run[i].ev.msg.count) ∧ w.cell? ⟨b, o + i * 11 + 6, none⟩ = some (I run[i].ev.msg.index) ∧ w.cell? ⟨b, o + i * 11 + 7, none⟩ = some (I run[i].ev.msg.copy) ∧ w.cell? ⟨b, o + i * 11 + 8, none⟩ = some (.slice qa run[i].asks.length da) ∧ w.cell? ⟨b, o + i * 11 + 9, none⟩ = some (.bool run[i].obs) ∧ w.cell? ⟨b, o + i * 11 + 10, none⟩ = some (.slice qs run[i].sent.length ds) ∧ w.cell? ⟨b, o + (i + 1) * 11, none⟩ = some (I run[i + 1].ev.kind) ∧ w.cell? ⟨b, o + (i + 1) * 11 + 1, none⟩ = some (I run[i + 1].ev.node) ∧ w.cell? ⟨b, o + (i + 1) * 11 + 2, none⟩ = some (I run[i + 1].ev.arg) ∧ w.cell? ⟨b, o + (i + 1) * 11 + 3, none⟩ = some (I run[i + 1].ev.msg.node) ∧ w.cell? ⟨b, o + (i + 1) * 11 + 4, none⟩ = some (I run[i + 1].ev.msg.handler) ∧ w.cell? ⟨b, o + (i + 1) * 11 + 5, none⟩ = some (I run[i + 1].ev.msg.count) ∧ w.cell? ⟨b, o + (i + 1) * 11 + 6, none⟩ = some (I run[i + 1].ev.msg.index) ∧ w.cell? ⟨b, o + (i + 1) * 11 + 7, none⟩ = some (I run[i + 1].ev.msg.copy) ∧ w.cell? ⟨b, o + (i + 1) * 11 + 8, none⟩ = some (.slice ra run[i + 1].asks.length ea) ∧ w.cell? ⟨b, o + (i + 1) * 11 + 9, none⟩ = some (.bool run[i + 1].obs) ∧ w.cell? ⟨b, o + (i + 1) * 11 + 10, none⟩ = some (.slice rs run[i + 1].sent.length es) from ⟨x0, x1, x2, x3, x4, x5, x6, x7, x8, x9, x10, y0, y1, y2, y3, y4, y5, y6, y7, y8, y9, y10⟩)
    clear x0 x1 x2 x3 x4 x5 x6 x7 x8 x9 x10 y0 y1 y2 y3 y4 y5 y6 y7 y8 y9 y10
    clear hd hd' hcs hfl
    go_upto_region 7 with (at_builtin; go_must (refine wpList_app0 rfl _ _ 23 rfl 55 _ 11 120 Try.underlying23 info55 rfl (by omega) (by omega) w.heap.size _ 0 [] rfl (owns_of_block (n := 0) (cs := #[]) (heap_alloc_new _ _) (by have := hBw1.size; (try simp only [heap_drew, World.size_alloc]); omega) rfl (by omega)) ⟨b, o, none⟩ run.length ca _ rfl (Flat.kept (B := w.heap.size) Hfl.out (hBw1.alloc hBw1.size _) (Nat.le_refl _)) (steps_one Hcs.out) (by omega) (by have := hBw1.size; (try simp only [World.size_alloc]); omega) ?_); intro u w2 hown hgr hB2)
    have hB : Below w.heap.size w w2 := Below.trans (hBw1.alloc hBw1.size _) hB2
    obtain ⟨g, cap, cur, rfl, hg, hblk, hsz, hcur⟩ := own_blk hown (by omega)
    obtain ⟨x0, x1, x2, x3, x4, x5, x6, x7, x8, x9, x10, y0, y1, y2, y3, y4, y5, y6, y7, y8, y9, y10⟩ := HX.out
    replace x0 := cell_below hB (Nat.le_refl _) x0
    replace y0 := cell_below hB (Nat.le_refl _) y0
    replace x1 := cell_below hB (Nat.le_refl _) x1
    replace y1 := cell_below hB (Nat.le_refl _) y1
    replace x2 := cell_below hB (Nat.le_refl _) x2
    replace y2 := cell_below hB (Nat.le_refl _) y2
    replace x3 := cell_below hB (Nat.le_refl _) x3
    replace y3 := cell_below hB (Nat.le_refl _) y3
    replace x4 := cell_below hB (Nat.le_refl _) x4
    replace y4 := cell_below hB (Nat.le_refl _) y4
    replace x5 := cell_below hB (Nat.le_refl _) x5
    replace y5 := cell_below hB (Nat.le_refl _) y5
    replace x6 := cell_below hB (Nat.le_refl _) x6
    replace y6 := cell_below hB (Nat.le_refl _) y6
    replace x7 := cell_below hB (Nat.le_refl _) x7
    replace y7 := cell_below hB (Nat.le_refl _) y7
    replace x8 := cell_below hB (Nat.le_refl _) x8
    replace y8 := cell_below hB (Nat.le_refl _) y8
    replace x9 := cell_below hB (Nat.le_refl _) x9
    replace y9 := cell_below hB (Nat.le_refl _) y9
    replace x10 := cell_below hB (Nat.le_refl _) x10
    replace y10 := cell_below hB (Nat.le_refl _) y10
    have z0 : w2.cell? ⟨g, i * 11, none⟩ = some (cur[i * 11]'(by omega)) := blk_some hblk (by omega)
    have z1 : w2.cell? ⟨g, i * 11 + 1, none⟩ = some (cur[i * 11 + 1]'(by omega)) := blk_some hblk (by omega)
    have z2 : w2.cell? ⟨g, i * 11 + 2, none⟩ = some (cur[i * 11 + 2]'(by omega)) := blk_some hblk (by omega)
    have z3 : w2.cell? ⟨g, i * 11 + 3, none⟩ = some (cur[i * 11 + 3]'(by omega)) := blk_some hblk (by omega)
    have z4 : w2.cell? ⟨g, i * 11 + 4, none⟩ = some (cur[i * 11 + 4]'(by omega)) := blk_some hblk (by omega)
    have z5 : w2.cell? ⟨g, i * 11 + 5, none⟩ = some (cur[i * 11 + 5]'(by omega)) := blk_some hblk (by omega)
    have z6 : w2.cell? ⟨g, i * 11 + 6, none⟩ = some (cur[i * 11 + 6]'(by omega)) := blk_some hblk (by omega)
    have z7 : w2.cell? ⟨g, i * 11 + 7, none⟩ = some (cur[i * 11 + 7]'(by omega)) := blk_some hblk (by omega)
    have z8 : w2.cell? ⟨g, i * 11 + 8, none⟩ = some (cur[i * 11 + 8]'(by omega)) := blk_some hblk (by omega)
    have z9 : w2.cell? ⟨g, i * 11 + 9, none⟩ = some (cur[i * 11 + 9]'(by omega)) := blk_some hblk (by omega)
    have z10 : w2.cell? ⟨g, i * 11 + 10, none⟩ = some (cur[i * 11 + 10]'(by omega)) := blk_some hblk (by omega)
    have f0 : w2.frozen? ⟨g, i * 11, none⟩ = false := hblk.frozen _
    have f1 : w2.frozen? ⟨g, i * 11 + 1, none⟩ = false := hblk.frozen _
    have f2 : w2.frozen? ⟨g, i * 11 + 2, none⟩ = false := hblk.frozen _
    have f3 : w2.frozen? ⟨g, i * 11 + 3, none⟩ = false := hblk.frozen _
    have f4 : w2.frozen? ⟨g, i * 11 + 4, none⟩ = false := hblk.frozen _
    have f5 : w2.frozen? ⟨g, i * 11 + 5, none⟩ = false := hblk.frozen _
    have f6 : w2.frozen? ⟨g, i * 11 + 6, none⟩ = false := hblk.frozen _
    have f7 : w2.frozen? ⟨g, i * 11 + 7, none⟩ = false := hblk.frozen _
    have f8 : w2.frozen? ⟨g, i * 11 + 8, none⟩ = false := hblk.frozen _
    have f9 : w2.frozen? ⟨g, i * 11 + 9, none⟩ = false := hblk.frozen _
    have f10 : w2.frozen? ⟨g, i * 11 + 10, none⟩ = false := hblk.frozen _
    go_upto_region 8 with fail
    change Code.wp Try.prog _ _ _ (setRow w2 g (i * 11) (run[i + 1].row (.slice ra run[i + 1].asks.length ea) (.slice rs run[i + 1].sent.length es)))
    clear x0 x1 x2 x3 x4 x5 x6 x7 x8 x9 x10 y0 y1 y2 y3 y4 y5 y6 y7 y8 y9 y10
    clear z0 f0 z1 f1 z2 f2 z3 f3 z4 f4 z5 f5 z6 f6 z7 f7 z8 f8 z9 f9 z10 f10
    generalize hw3 : setRow w2 g (i * 11) (run[i + 1].row (.slice ra run[i + 1].asks.length ea) (.slice rs run[i + 1].sent.length es)) = w3
    have hB3 : Below w.heap.size w w3 := hw3 ▸ setRow_below hB hg _
    have hb3 : Blk w3 g (setArr cur (i * 11) (run[i + 1].row (.slice ra run[i + 1].asks.length ea) (.slice rs run[i + 1].sent.length es))) := hw3 ▸ setRow_blk hblk _
    clear hw3
    have hs3 := setArr_size cur (i * 11) (run[i + 1].row (.slice ra run[i + 1].asks.length ea) (.slice rs run[i + 1].sent.length es))
    generalize hc3 : setArr cur (i * 11) (run[i + 1].row (.slice ra run[i + 1].asks.length ea) (.slice rs run[i + 1].sent.length es)) = cur3 at hb3 hs3
    have Hc3 := Lib.hid hc3
    clear hc3
    obtain ⟨x0, x1, x2, x3, x4, x5, x6, x7, x8, x9, x10, y0, y1, y2, y3, y4, y5, y6, y7, y8, y9, y10⟩ := HX.out
    clear y0 y1 y2 y3 y4 y5 y6 y7 y8 y9 y10
    replace x0 := cell_below hB3 (Nat.le_refl _) x0
    replace x1 := cell_below hB3 (Nat.le_refl _) x1
    replace x2 := cell_below hB3 (Nat.le_refl _) x2
    replace x3 := cell_below hB3 (Nat.le_refl _) x3
    replace x4 := cell_below hB3 (Nat.le_refl _) x4
    replace x5 := cell_below hB3 (Nat.le_refl _) x5
    replace x6 := cell_below hB3 (Nat.le_refl _) x6
    replace x7 := cell_below hB3 (Nat.le_refl _) x7
    replace x8 := cell_below hB3 (Nat.le_refl _) x8
    replace x9 := cell_below hB3 (Nat.le_refl _) x9
    replace x10 := cell_below hB3 (Nat.le_refl _) x10
    have z0 : w3.cell? ⟨g, (i + 1) * 11, none⟩ = some (cur3[(i + 1) * 11]'(by omega)) := blk_some hb3 (by omega)
    have z1 : w3.cell? ⟨g, (i + 1) * 11 + 1, none⟩ = some (cur3[(i + 1) * 11 + 1]'(by omega)) := blk_some hb3 (by omega)
    have z2 : w3.cell? ⟨g, (i + 1) * 11 + 2, none⟩ = some (cur3[(i + 1) * 11 + 2]'(by omega)) := blk_some hb3 (by omega)
    have z3 : w3.cell? ⟨g, (i + 1) * 11 + 3, none⟩ = some (cur3[(i + 1) * 11 + 3]'(by omega)) := blk_some hb3 (by omega)
    have z4 : w3.cell? ⟨g, (i + 1) * 11 + 4, none⟩ = some (cur3[(i + 1) * 11 + 4]'(by omega)) := blk_some hb3 (by omega)
    have z5 : w3.cell? ⟨g, (i + 1) * 11 + 5, none⟩ = some (cur3[(i + 1) * 11 + 5]'(by omega)) := blk_some hb3 (by omega)
    have z6 : w3.cell? ⟨g, (i + 1) * 11 + 6, none⟩ = some (cur3[(i + 1) * 11 + 6]'(by omega)) := blk_some hb3 (by omega)
    have z7 : w3.cell? ⟨g, (i + 1) * 11 + 7, none⟩ = some (cur3[(i + 1) * 11 + 7]'(by omega)) := blk_some hb3 (by omega)
    have z8 : w3.cell? ⟨g, (i + 1) * 11 + 8, none⟩ = some (cur3[(i + 1) * 11 + 8]'(by omega)) := blk_some hb3 (by omega)
    have z9 : w3.cell? ⟨g, (i + 1) * 11 + 9, none⟩ = some (cur3[(i + 1) * 11 + 9]'(by omega)) := blk_some hb3 (by omega)
    have z10 : w3.cell? ⟨g, (i + 1) * 11 + 10, none⟩ = some (cur3[(i + 1) * 11 + 10]'(by omega)) := blk_some hb3 (by omega)
    have f0 : w3.frozen? ⟨g, (i + 1) * 11, none⟩ = false := hb3.frozen _
    have f1 : w3.frozen? ⟨g, (i + 1) * 11 + 1, none⟩ = false := hb3.frozen _
    have f2 : w3.frozen? ⟨g, (i + 1) * 11 + 2, none⟩ = false := hb3.frozen _
    have f3 : w3.frozen? ⟨g, (i + 1) * 11 + 3, none⟩ = false := hb3.frozen _
    have f4 : w3.frozen? ⟨g, (i + 1) * 11 + 4, none⟩ = false := hb3.frozen _
    have f5 : w3.frozen? ⟨g, (i + 1) * 11 + 5, none⟩ = false := hb3.frozen _
    have f6 : w3.frozen? ⟨g, (i + 1) * 11 + 6, none⟩ = false := hb3.frozen _
    have f7 : w3.frozen? ⟨g, (i + 1) * 11 + 7, none⟩ = false := hb3.frozen _
    have f8 : w3.frozen? ⟨g, (i + 1) * 11 + 8, none⟩ = false := hb3.frozen _
    have f9 : w3.frozen? ⟨g, (i + 1) * 11 + 9, none⟩ = false := hb3.frozen _
    have f10 : w3.frozen? ⟨g, (i + 1) * 11 + 10, none⟩ = false := hb3.frozen _
    go_upto_region 9 with fail
    change Code.wp Try.prog _ _ _ (setRow w3 g ((i + 1) * 11) (run[i].row (.slice qa run[i].asks.length da) (.slice qs run[i].sent.length ds)))
    generalize hw4 : setRow w3 g ((i + 1) * 11) (run[i].row (.slice qa run[i].asks.length da) (.slice qs run[i].sent.length ds)) = w4
    have hB4 : Below w.heap.size w w4 := hw4 ▸ setRow_below hB3 hg _
    have hb4 : Blk w4 g (setArr cur3 ((i + 1) * 11) (run[i].row (.slice qa run[i].asks.length da) (.slice qs run[i].sent.length ds))) := hw4 ▸ setRow_blk hb3 _
    clear hw4
    clear x0 z0 f0 x1 z1 f1 x2 z2 f2 x3 z3 f3 x4 z4 f4 x5 z5 f5 x6 z6 f6 x7 z7 f7 x8 z8 f8 x9 z9 f9 x10 z10 f10
    go_wp2_with fail
    go_ret2
    rw [Nat.zero_add] at hsz hcur
    rw [← Hc3.out] at hb4
    have hcells : StpCells w run (cur.toList.take (run.length * 11)) := by rw [hcur]; exact Hcs.out
    have hfin := swap_sl (cap := cap) hi (by omega) hsz hcells hva hvs hua hus hb4 hB4
    refine ⟨_, 0, rfl, hB4, .inl ⟨rfl, _, ?_, swapL_sw run i hi Hd.out⟩⟩
    (try rw [Nat.zero_add])
    exact hfin

end Go.Proofs.Ytaedfidfcoigoaa
