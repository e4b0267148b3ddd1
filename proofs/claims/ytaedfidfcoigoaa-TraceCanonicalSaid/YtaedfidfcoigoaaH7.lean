/- trace.Key. (Printed by mkH7.py, then gen.py.) -/
import Derived.Test.YtaedfidfcoigoaaH6
namespace Go.Proofs.Ytaedfidfcoigoaa
open Go.RowKit

set_option maxHeartbeats 8000000 in
set_option maxRecDepth 100000 in
theorem trKey (run : List Stp) (v : Value) (w : World) (hrun : StpSl w v run) (hn : run.length ≤ 64) (hsm : ∀ s ∈ run, s.asks.length ≤ 1000 ∧ s.sent.length ≤ 1000) :
    Calls Try.prog 28 #[v] w fun e w' => e = .returned (.int .u64 (keyI run)) ∧ Below w.heap.size w w' := by
  have hn24 := trNormal run v w hrun hn (fun s hs => by have := (hsm s hs).1; omega) (fun s hs => by have := (hsm s hs).2; omega)
  have hln : (normS run).length ≤ 64 := by rw [normS_len]; exact hn
  have hsn : ∀ s ∈ normS run, s.asks.length ≤ 1000 ∧ s.sent.length ≤ 1000 := fun s hs => hsm s (normS_mem run s hs)
  have hke : keyI run = sumI ((normS run).flatMap Stp.words) := rfl
  obtain ⟨nf, hnf⟩ : ∃ nf, nf = normS run := ⟨_, rfl⟩
  rw [← hnf] at hn24 hln hsn hke
  have H24 := Lib.hid hn24
  have Hsn := Lib.hid hsn
  have Hke := Lib.hid hke
  clear hn24 hsn hke hnf
  obtain ⟨ka, ca, rfl, hml⟩ := hrun.open
  go_enter Try.func28, Try.ntmps28
  go_wp2_with fail
  refine H24.out.mono ?_
  rintro e w1 ⟨u, rfl, hu, hB1⟩
  obtain ⟨kb, cb, rfl, hmm⟩ := hu.open
  go_wp2_with fail
  go_loopw [3, 15] (fun vw i wr => ∃ (k : Nat) (xs : List Int), k ≤ nf.length ∧ i = .int .i64 k ∧ wr.ownsRow w1.heap.size 3 1 vw xs.length (iv xs) ∧ Hid (xs = (nf.take k).flatMap Stp.words) ∧ xs.length ≤ k * 13000 ∧ Below w1.heap.size w1 wr) (fun _ i _ => nf.length - (intOf i).toNat)
  case atStart => exact ⟨0, [], by omega, rfl, World.ownsRow_nil _ _ _ _, Lib.hid rfl, by simp, Below.refl _ _⟩
  case round =>
    obtain ⟨k, xs, hk, rfl, hown, Hxs, hxl, hB⟩ := hrel
    obtain ⟨vw, rfl⟩ : ∃ vw : Value, vw = u3 := ⟨_, rfl⟩
    by_cases hlt : k < nf.length
    · obtain ⟨b, o, va, vs, rfl, hva, hvs, x0, x1, x2, x3, x4, x5, x6, x7, x8, x9, x10⟩ := hu.at (i := k) (s := nf[k]) (by simp [hlt])
      replace x0 := cell_below hB (Nat.le_refl _) x0
      replace x1 := cell_below hB (Nat.le_refl _) x1
      replace x2 := cell_below hB (Nat.le_refl _) x2
      replace x3 := cell_below hB (Nat.le_refl _) x3
      replace x4 := cell_below hB (Nat.le_refl _) x4
      replace x5 := cell_below hB (Nat.le_refl _) x5
      replace x6 := cell_below hB (Nat.le_refl _) x6
      replace x7 := cell_below hB (Nat.le_refl _) x7
      replace x8 := cell_below hB (Nat.le_refl _) x8
      replace x9 := cell_below hB (Nat.le_refl _) x9
      replace x10 := cell_below hB (Nat.le_refl _) x10
      obtain ⟨qa, da, rfl, _⟩ := hva.open
      obtain ⟨qs, ds, rfl, _⟩ := hvs.open
      have hKW0 : KW w1 w1.heap.size wr.heap.size #[I nf[k].ev.kind, I nf[k].ev.node, I nf[k].ev.arg, I nf[k].ev.msg.node, I nf[k].ev.msg.handler, I nf[k].ev.msg.count, I nf[k].ev.msg.index, I nf[k].ev.msg.copy, .slice qa nf[k].asks.length da, .bool nf[k].obs, .slice qs nf[k].sent.length ds] (wr.alloc (.cells #[I nf[k].ev.kind, I nf[k].ev.node, I nf[k].ev.arg, I nf[k].ev.msg.node, I nf[k].ev.msg.handler, I nf[k].ev.msg.count, I nf[k].ev.msg.index, I nf[k].ev.msg.copy, .slice qa nf[k].asks.length da, .bool nf[k].obs, .slice qs nf[k].sent.length ds] 55)) vw xs :=
        ⟨hown.alloc _, Blk.new _ _ _, fun e => by have := (hown.lt _ e).2; omega, by have := hB.size; rw [World.size_alloc]; omega, hB.alloc hB.size _⟩
      have HK0 := Lib.hid hKW0
      clear hown hKW0
      obtain ⟨hs1, hs2⟩ := Hsn.out nf[k] (List.getElem_mem hlt)
      go_upto_region 5 with fail
      clear x0 x1 x2 x3 x4 x5 x6 x7 x8 x9 x10
      obtain ⟨wo, hwo⟩ : ∃ wo : World, wo = wr.alloc (.cells #[I nf[k].ev.kind, I nf[k].ev.node, I nf[k].ev.arg, I nf[k].ev.msg.node, I nf[k].ev.msg.handler, I nf[k].ev.msg.count, I nf[k].ev.msg.index, I nf[k].ev.msg.copy, .slice qa nf[k].asks.length da, .bool nf[k].obs, .slice qs nf[k].sent.length ds] 55) := ⟨_, rfl⟩
      have hzo : wr.heap.size < wo.heap.size := by rw [hwo, World.size_alloc]; omega
      rw [← hwo] at HK0 ⊢
      have c0 : wo.cell? ⟨wr.heap.size, 0, none⟩ = some (I nf[k].ev.kind) := HK0.out.blk.cell 0
      have c1 : wo.cell? ⟨wr.heap.size, 1, none⟩ = some (I nf[k].ev.node) := HK0.out.blk.cell 1
      have c2 : wo.cell? ⟨wr.heap.size, 2, none⟩ = some (I nf[k].ev.arg) := HK0.out.blk.cell 2
      have c3 : wo.cell? ⟨wr.heap.size, 3, none⟩ = some (I nf[k].ev.msg.node) := HK0.out.blk.cell 3
      have c4 : wo.cell? ⟨wr.heap.size, 4, none⟩ = some (I nf[k].ev.msg.handler) := HK0.out.blk.cell 4
      have c5 : wo.cell? ⟨wr.heap.size, 5, none⟩ = some (I nf[k].ev.msg.count) := HK0.out.blk.cell 5
      have c6 : wo.cell? ⟨wr.heap.size, 6, none⟩ = some (I nf[k].ev.msg.index) := HK0.out.blk.cell 6
      have c7 : wo.cell? ⟨wr.heap.size, 7, none⟩ = some (I nf[k].ev.msg.copy) := HK0.out.blk.cell 7
      clear hwo
      refine wp_region_ordN 15 [(0, true), (1, true), (2, true), (3, true), (4, true), (5, true), (6, true), (7, true), (8, true), (9, true), (12, true), (13, true), (14, true), (10, false), (11, false)] (fun w' => w'.cell? ⟨wr.heap.size, 0, none⟩ = some (I nf[k].ev.kind) ∧ w'.cell? ⟨wr.heap.size, 1, none⟩ = some (I nf[k].ev.node) ∧ w'.cell? ⟨wr.heap.size, 2, none⟩ = some (I nf[k].ev.arg) ∧ w'.cell? ⟨wr.heap.size, 3, none⟩ = some (I nf[k].ev.msg.node) ∧ w'.cell? ⟨wr.heap.size, 4, none⟩ = some (I nf[k].ev.msg.handler) ∧ w'.cell? ⟨wr.heap.size, 5, none⟩ = some (I nf[k].ev.msg.count) ∧ w'.cell? ⟨wr.heap.size, 6, none⟩ = some (I nf[k].ev.msg.index) ∧ w'.cell? ⟨wr.heap.size, 7, none⟩ = some (I nf[k].ev.msg.copy)) (by kernel_rfl) rfl rfl (by kernel_rfl) ⟨c0, c1, c2, c3, c4, c5, c6, c7⟩ ?_
      iterate 13 (refine wpOrd_take ?_ (by rfl) ?_ ?_; rotate_left; (intro w hSw; (try dsimp only at hSw); go_simp; try with_reducible rfl); (try simp only [Act.put, List.setIfInBounds_toArray, List.set_cons_zero, List.set_cons_succ]))
      refine wpOrd_move (fun K hK => ?_)
      go_simp
      refine hK.out _ _ ⟨cell_below (w := wo) (B := wo.heap.size) (by repeat (first | exact Below.refl _ _ | assumption | refine Below.drew ?_ | refine below_drewN ?_ _ | refine Below.alloc ?_ (by simp <;> omega) _ | refine Below.setCell ?_ (by simp <;> omega) _)) (Nat.le_refl _) c0, cell_below (w := wo) (B := wo.heap.size) (by repeat (first | exact Below.refl _ _ | assumption | refine Below.drew ?_ | refine below_drewN ?_ _ | refine Below.alloc ?_ (by simp <;> omega) _ | refine Below.setCell ?_ (by simp <;> omega) _)) (Nat.le_refl _) c1, cell_below (w := wo) (B := wo.heap.size) (by repeat (first | exact Below.refl _ _ | assumption | refine Below.drew ?_ | refine below_drewN ?_ _ | refine Below.alloc ?_ (by simp <;> omega) _ | refine Below.setCell ?_ (by simp <;> omega) _)) (Nat.le_refl _) c2, cell_below (w := wo) (B := wo.heap.size) (by repeat (first | exact Below.refl _ _ | assumption | refine Below.drew ?_ | refine below_drewN ?_ _ | refine Below.alloc ?_ (by simp <;> omega) _ | refine Below.setCell ?_ (by simp <;> omega) _)) (Nat.le_refl _) c3, cell_below (w := wo) (B := wo.heap.size) (by repeat (first | exact Below.refl _ _ | assumption | refine Below.drew ?_ | refine below_drewN ?_ _ | refine Below.alloc ?_ (by simp <;> omega) _ | refine Below.setCell ?_ (by simp <;> omega) _)) (Nat.le_refl _) c4, cell_below (w := wo) (B := wo.heap.size) (by repeat (first | exact Below.refl _ _ | assumption | refine Below.drew ?_ | refine below_drewN ?_ _ | refine Below.alloc ?_ (by simp <;> omega) _ | refine Below.setCell ?_ (by simp <;> omega) _)) (Nat.le_refl _) c5, cell_below (w := wo) (B := wo.heap.size) (by repeat (first | exact Below.refl _ _ | assumption | refine Below.drew ?_ | refine below_drewN ?_ _ | refine Below.alloc ?_ (by simp <;> omega) _ | refine Below.setCell ?_ (by simp <;> omega) _)) (Nat.le_refl _) c6, cell_below (w := wo) (B := wo.heap.size) (by repeat (first | exact Below.refl _ _ | assumption | refine Below.drew ?_ | refine below_drewN ?_ _ | refine Below.alloc ?_ (by simp <;> omega) _ | refine Below.setCell ?_ (by simp <;> omega) _)) (Nat.le_refl _) c7⟩ ?_
      clear hK K
      (try simp only [Act.put, List.setIfInBounds_toArray, List.set_cons_zero, List.set_cons_succ])
      refine wpOrd_move (fun K hK => ?_)
      refine step_appW rfl _ _ rfl rfl (HK0.out.drew.alloc _) wo.heap.size 3 3 #[I nf[k].ev.kind, I nf[k].ev.node, I nf[k].ev.arg] [nf[k].ev.kind, nf[k].ev.node, nf[k].ev.arg] rfl (heap_alloc_new _ _) rfl rfl (by omega) (by omega) ?_
      intro g1 cap1 w2 hKW1 hB2
      refine hK.out _ _ ⟨hKW1.blk.cell 0, hKW1.blk.cell 1, hKW1.blk.cell 2, hKW1.blk.cell 3, hKW1.blk.cell 4, hKW1.blk.cell 5, hKW1.blk.cell 6, hKW1.blk.cell 7⟩ ?_
      clear hK K
      have c8 : w2.cell? ⟨wr.heap.size, 8, none⟩ = some (.slice qa nf[k].asks.length da) := hKW1.blk.cell 8
      obtain ⟨y0, hy0⟩ : ∃ y0, y0 = xs ++ [nf[k].ev.kind, nf[k].ev.node, nf[k].ev.arg] := ⟨_, rfl⟩
      have Hl0 := Lib.hid (show y0.length = xs.length + 3 by rw [hy0, List.length_append]; rfl)
      rw [← hy0] at hKW1
      have Hy0 := Lib.hid hy0
      have HK1 := Lib.hid hKW1
      clear hy0 hKW1 hB2 c0 c1 c2 c3 c4 c5 c6 c7
      (try simp only [Act.put, List.setIfInBounds_toArray, List.set_cons_zero, List.set_cons_succ])
      refine wpOrd_nil ?_
      go_wp2_with (first
        | (go_at_call 50; refine (message nf[k].ev.msg _).mono ?_; rintro e w3 ⟨gq, rfl, hgq, hbq, hB3⟩; have HK2 := Lib.hid (HK1.out.call hB3))
        | (at_builtin; go_must (refine wpList_appW rfl _ _ rfl rfl HK2.out gq 5 5 #[I nf[k].ev.msg.node, I nf[k].ev.msg.handler, I nf[k].ev.msg.count, I nf[k].ev.msg.index, I nf[k].ev.msg.copy] nf[k].ev.msg.ints rfl hbq rfl rfl (by omega) (by have := Hl0.out; omega) ?_); intro g4 cap4 w4 hKW4 hB4))
      refine NoPanic.normal ?_
      obtain ⟨y1, hy1⟩ : ∃ y1, y1 = y0 ++ nf[k].ev.msg.ints := ⟨_, rfl⟩
      have Hl1 := Lib.hid (show y1.length = xs.length + 8 by rw [hy1, List.length_append, Hl0.out]; rfl)
      rw [← hy1] at hKW4
      have c8 : w4.cell? ⟨wr.heap.size, 8, none⟩ = some (.slice qa nf[k].asks.length da) := hKW4.blk.cell 8
      have Hy1 := Lib.hid hy1
      have HK4 := Lib.hid hKW4
      clear hy1 hKW4 hB4 hbq hgq
      go_upto_region 7 with (at_builtin; go_must (refine wpList_appW rfl _ _ rfl rfl (HK4.out.alloc _) w4.heap.size 1 1 #[I nf[k].asks.length] [(nf[k].asks.length : Int)] rfl (heap_alloc_new _ _) rfl rfl (by omega) (by have := Hl1.out; omega) ?_); intro g5 cap5 w5 hKW5 hB5)
      obtain ⟨y2, hy2⟩ : ∃ y2, y2 = y1 ++ [(nf[k].asks.length : Int)] := ⟨_, rfl⟩
      have hl2 : y2.length = xs.length + 9 := by rw [hy2, List.length_append, Hl1.out]; rfl
      rw [← hy2] at hKW5
      have c8b : w5.cell? ⟨wr.heap.size, 8, none⟩ = some (.slice qa nf[k].asks.length da) := hKW5.blk.cell 8
      have Hy2 := Lib.hid (show y2 = xs ++ nf[k].ev.ints ++ [(nf[k].asks.length : Int)] by rw [hy2, Hy1.out, Hy0.out]; simp [Ev.ints, Msg.ints])
      have Hl2 := Lib.hid hl2
      have HK5 := Lib.hid hKW5
      clear hy2 hKW5 hB5 hl2 c8
      go_wp2_with fail
      obtain ⟨wq, rfl⟩ : ∃ wq : World, wq = wr := ⟨_, rfl⟩
      go_loopw [3, 45] (fun vw i wr => ∃ (j : Nat) (ys : List Int), j ≤ nf[k].asks.length ∧ i = .int .i64 j ∧ KW w1 w1.heap.size wq.heap.size #[I nf[k].ev.kind, I nf[k].ev.node, I nf[k].ev.arg, I nf[k].ev.msg.node, I nf[k].ev.msg.handler, I nf[k].ev.msg.count, I nf[k].ev.msg.index, I nf[k].ev.msg.copy, .slice qa nf[k].asks.length da, .bool nf[k].obs, .slice qs nf[k].sent.length ds] wr vw ys ∧ Hid (ys = xs ++ nf[k].ev.ints ++ [(nf[k].asks.length : Int)] ++ (nf[k].asks.take j).flatMap Ask.ints) ∧ ys.length = xs.length + 9 + j * 7) (fun _ i _ => nf[k].asks.length - (intOf i).toNat)
      case atStart => exact ⟨0, y2, by omega, rfl, HK5.out, Lib.hid (by rw [Hy2.out]; simp), by rw [Hl2.out]⟩
      case round =>
        clear c8b
        obtain ⟨j, ys, hj, rfl, hKW, Hys, hyl⟩ := hrel
        by_cases hlt2 : j < nf[k].asks.length
        · obtain ⟨ab, ao, rfl, y0, y1, y2, y3, y4, y5, y6⟩ := (hva.kept hKW.bel (Nat.le_refl _)).at (i := j) (x := nf[k].asks[j]) (by simp [hlt2])
          have HKW := Lib.hid hKW
          have Hyl := Lib.hid hyl
          clear hKW hyl
          go_wp2_with (at_builtin; go_must (refine wpList_appW rfl _ _ rfl rfl (((HKW.out.alloc _).alloc _).alloc _) (wr.heap.size + 1 + 1) 7 7 #[I nf[k].asks[j].node, I nf[k].asks[j].handler, I nf[k].asks[j].count, I nf[k].asks[j].kind, I nf[k].asks[j].index, I nf[k].asks[j].arity, I nf[k].asks[j].n] nf[k].asks[j].ints rfl (heap_alloc3_new _ _ _ _) rfl rfl (by omega) (by have := Hyl.out; omega) ?_); intro g6 cap6 w6 hKW6 hB6)
          have HKW6 := Lib.hid hKW6
          have Hys' := Lib.hid (show ys ++ nf[k].asks[j].ints = xs ++ nf[k].ev.ints ++ [(nf[k].asks.length : Int)] ++ (nf[k].asks.take (j + 1)).flatMap Ask.ints by
            rw [Hys.out, List.take_succ_eq_append_getElem hlt2, List.flatMap_append]
            simp)
          clear hKW6
          go_roundw
          case rel => exact ⟨j + 1, _, by omega, by go_num, HKW6.out, Hys', by have := Hyl.out; rw [List.length_append]; show _ + 7 = _; omega⟩
          case measure => simp [intOf]; omega
        · have hys2 : ys = xs ++ nf[k].ev.ints ++ [(nf[k].asks.length : Int)] ++ nf[k].asks.flatMap Ask.ints := by rw [Hys.out, List.take_of_length_le (by omega)]
          have hylb : ys.length ≤ k * 13000 + 9 + 7000 := by omega
          have c9 : wr.cell? ⟨wq.heap.size, 9, none⟩ = some (.bool nf[k].obs) := hKW.blk.cell 9
          have c10 : wr.cell? ⟨wq.heap.size, 10, none⟩ = some (.slice qs nf[k].sent.length ds) := hKW.blk.cell 10
          obtain ⟨ws, rfl⟩ : ∃ ws : World, ws = wr := ⟨_, rfl⟩
          have HKW := Lib.hid hKW
          have Hys2 := Lib.hid hys2
          clear hKW Hys hys2 hyl
          obtain ⟨sb, hsb⟩ : ∃ sb : Int, sb = if nf[k].obs then 1 else 0 := ⟨_, rfl⟩
          cases hob : nf[k].obs
          all_goals
            rw [hob] at c9
            rw [hob] at hsb
            simp only [if_true, Bool.false_eq_true, if_false] at hsb
            have Hsb := Lib.hid hsb
            have Hob := Lib.hid hob
            clear hsb hob
            go_upto_region 17 with (at_builtin; go_must (refine wpList_appW rfl _ _ rfl rfl (HKW.out.alloc _) ws.heap.size 2 2 #[I sb, I nf[k].sent.length] [sb, (nf[k].sent.length : Int)] rfl (by rw [Hsb.out]; exact heap_alloc_new _ _) rfl rfl (by omega) (by omega) ?_); intro g8 cap8 w8 hKW8 hB8)
            obtain ⟨z0, hz0⟩ : ∃ z0, z0 = ys ++ [sb, (nf[k].sent.length : Int)] := ⟨_, rfl⟩
            have hz0l : z0.length = ys.length + 2 := by rw [hz0, List.length_append]; rfl
            rw [← hz0] at hKW8
            have c10b : w8.cell? ⟨wq.heap.size, 10, none⟩ = some (.slice qs nf[k].sent.length ds) := hKW8.blk.cell 10
            have Hz0 := Lib.hid hz0
            have Hz0l := Lib.hid hz0l
            have HKW8 := Lib.hid hKW8
            clear hz0 hz0l hKW8 hB8 c9 c10
            go_wp2_with fail
            go_loopw [3, 84] (fun vw i wr => ∃ (j : Nat) (zs : List Int), j ≤ nf[k].sent.length ∧ i = .int .i64 j ∧ KW w1 w1.heap.size wq.heap.size #[I nf[k].ev.kind, I nf[k].ev.node, I nf[k].ev.arg, I nf[k].ev.msg.node, I nf[k].ev.msg.handler, I nf[k].ev.msg.count, I nf[k].ev.msg.index, I nf[k].ev.msg.copy, .slice qa nf[k].asks.length da, .bool nf[k].obs, .slice qs nf[k].sent.length ds] wr vw zs ∧ Hid (zs = z0 ++ (nf[k].sent.take j).flatMap Msg.ints) ∧ zs.length = z0.length + j * 5) (fun _ i _ => nf[k].sent.length - (intOf i).toNat)
            case atStart => exact ⟨0, z0, by omega, rfl, HKW8.out, Lib.hid (by simp), by omega⟩
            case round =>
              clear c10b
              obtain ⟨j, zs, hj, rfl, hKW, Hzs, hzl⟩ := hrel
              have hzlb : zs.length ≤ k * 13000 + 9 + 7000 + 2 + j * 5 := by have := Hz0l.out; omega
              by_cases hlt2 : j < nf[k].sent.length
              · obtain ⟨ab, ao, rfl, y0, y1, y2, y3, y4⟩ := (hvs.kept hKW.bel (Nat.le_refl _)).at (i := j) (x := nf[k].sent[j]) (by simp [hlt2])
                have HKW := Lib.hid hKW
                have Hzl := Lib.hid hzl
                clear hKW hzl
                go_wp2_with (first
                  | (go_at_call 50; refine (message nf[k].sent[j] _).mono ?_; rintro e w5 ⟨gq, rfl, hgq, hbq, hB5⟩; have HKW1 := Lib.hid ((HKW.out.alloc _).call hB5))
                  | (at_builtin; go_must (refine wpList_appW rfl _ _ rfl rfl HKW1.out gq 5 5 #[I nf[k].sent[j].node, I nf[k].sent[j].handler, I nf[k].sent[j].count, I nf[k].sent[j].index, I nf[k].sent[j].copy] nf[k].sent[j].ints rfl hbq rfl rfl (by omega) (by omega) ?_); intro g5 cap5 w6 hKW6 hB6))
                have HKW6 := Lib.hid hKW6
                have Hzs' := Lib.hid (show zs ++ nf[k].sent[j].ints = z0 ++ (nf[k].sent.take (j + 1)).flatMap Msg.ints by
                  rw [Hzs.out, List.take_succ_eq_append_getElem hlt2, List.flatMap_append]
                  simp)
                clear hKW6
                go_roundw
                case rel => exact ⟨j + 1, _, by omega, by go_num, HKW6.out, Hzs', by rw [List.length_append, Hzl.out]; show _ + 5 = _; omega⟩
                case measure => simp [intOf]; omega
              · have hown := hKW.own
                have hbel := hKW.bel
                have hze : zs = (nf.take (k + 1)).flatMap Stp.words := by
                  rw [Hzs.out, List.take_of_length_le (by omega), Hz0.out, Hys2.out, Hxs.out, Hsb.out, List.take_succ_eq_append_getElem hlt, List.flatMap_append]
                  simp [Stp.words, Hob.out]
                have Hze := Lib.hid hze
                have Hown := Lib.hid hown
                have Hbel := Lib.hid hbel
                have Hzlb := Lib.hid (show zs.length ≤ (k + 1) * 13000 by omega)
                clear hKW hze hown hbel hzl hzlb
                go_wp2_with fail
                go_roundw
                case rel => exact ⟨k + 1, zs, by omega, by go_num, Hown.out, Hze, Hzlb.out, Hbel.out⟩
                case measure => simp [intOf]; omega
    · have hkl : k = nf.length := by omega
      have hxe : xs = nf.flatMap Stp.words := by rw [Hxs.out, List.take_of_length_le (by omega)]
      have Hxe := Lib.hid hxe
      have hint : IntSl wr vw xs := by
        unfold IntSl
        exact Flat.of_owns hown
      clear hxe
      have Hown := Lib.hid hown
      obtain ⟨kv, cv, rfl, _⟩ := hint.open
      clear hown
      go_wp2_with fail
      refine (hashSum xs _ _ hint (by omega)).mono ?_
      rintro e w2 ⟨rfl, hB2⟩
      rw [Hxe.out, ← Hke.out]
      go_wp2_with fail
      go_ret
      exact ⟨rfl, hB1.trans ((hB.trans (hB2.mono hB.size)).mono hB1.size)⟩

end Go.Proofs.Ytaedfidfcoigoaa
