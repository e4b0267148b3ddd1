/- The reference's Key. -/
import Derived.Test.YtaedfidfcoigoaaH5
namespace Go.Proofs.Ytaedfidfcoigoaa
open Go.RowKit

theorem words_len (s : Stp) (h1 : s.asks.length ≤ 1000) (h2 : s.sent.length ≤ 1000) : s.words.length ≤ 13000 := by
  unfold Stp.words
  rw [List.length_append, List.length_append, List.length_append, List.length_append, length_flat Ask.ints 7 (fun _ => rfl), length_flat Msg.ints 5 (fun _ => rfl)]
  have : s.ev.ints.length = 8 := rfl
  simp only [List.length_cons, List.length_nil]
  omega

set_option maxHeartbeats 8000000 in
set_option maxRecDepth 100000 in
theorem refKey (run : List Stp) (v : Value) (w : World) (hrun : StpSl w v run) (hn : run.length ≤ 64) (hsm : ∀ s ∈ run, s.asks.length ≤ 1000 ∧ s.sent.length ≤ 1000) :
    Calls Try.prog 29 #[v] w fun e w' => e = .returned (.int .u64 (keyI run)) ∧ Below w.heap.size w w' := by
  have hn27 := refNormal run v w hrun (by omega) (fun s hs => by have := (hsm s hs).1; omega)
  have hln : (normS run).length ≤ 64 := by rw [normS_len]; exact hn
  have hsn : ∀ s ∈ normS run, s.asks.length ≤ 1000 ∧ s.sent.length ≤ 1000 := fun s hs => hsm s (normS_mem run s hs)
  have hke : keyI run = sumI ((normS run).flatMap Stp.words) := rfl
  obtain ⟨nf, hnf⟩ : ∃ nf, nf = normS run := ⟨_, rfl⟩
  rw [← hnf] at hn27 hln hsn hke
  have H27 := Lib.hid hn27
  have Hsn := Lib.hid hsn
  have Hke := Lib.hid hke
  clear hn27 hsn hke hnf
  obtain ⟨ka, ca, rfl, hml⟩ := hrun.open
  go_enter Try.func29, Try.ntmps29
  go_wp2_with fail
  refine H27.out.mono ?_
  rintro e w1 ⟨u, rfl, hu, hB1⟩
  obtain ⟨kb, cb, rfl, hmm⟩ := hu.open
  go_wp2_with fail
  go_loopw [4, 5] (fun vw i wr => ∃ (k : Nat) (xs : List Int), k ≤ nf.length ∧ i = .int .i64 k ∧ wr.ownsRow w1.heap.size 3 1 vw xs.length (iv xs) ∧ Hid (xs = (nf.take k).flatMap Stp.words) ∧ xs.length ≤ k * 13000 ∧ Below w1.heap.size w1 wr) (fun _ i _ => nf.length - (intOf i).toNat)
  case atStart => exact ⟨0, [], by omega, rfl, World.ownsRow_nil _ _ _ _, Lib.hid rfl, by simp, Below.refl _ _⟩
  case round =>
    obtain ⟨k, xs, hk, rfl, hown, Hxs, hxl, hB⟩ := hrel
    obtain ⟨vw, rfl⟩ : ∃ vw : Value, vw = u4 := ⟨_, rfl⟩
    by_cases hlt : k < nf.length
    · obtain ⟨b, o, va, vs, rfl, hva, hvs, x0, x1, x2, x3, x4, x5, x6, x7, x8, x9, x10⟩ := hu.at (i := k) (s := nf[k]) (by simp [hlt])
      replace x0 := cell_below hB (Nat.le_refl _) x0
      replace x1 := cell_below hB (Nat.le_refl _) x1
      replace x2 := cell_below hB (Nat.le_refl _) x2
      replace x3 := cell_below hB (Nat.le_refl _) x3
      replace x4 := cell_below hB (Nat.le_refl _) x4
      replace x5 := cell_below hB (Nat.le_refl _) x5
      replace x6 := cell_below hB (Nat.le_refl _) x6
      replace x7 := cell_below hB (Nat.le_refl _) x7
      replace x8 := cell_below hB (Nat.le_refl _) x8
      replace x9 := cell_below hB (Nat.le_refl _) x9
      replace x10 := cell_below hB (Nat.le_refl _) x10
      obtain ⟨qa, da, rfl, _⟩ := hva.open
      obtain ⟨qs, ds, rfl, _⟩ := hvs.open
      have hKW0 : KW w1 w1.heap.size wr.heap.size #[I nf[k].ev.kind, I nf[k].ev.node, I nf[k].ev.arg, I nf[k].ev.msg.node, I nf[k].ev.msg.handler, I nf[k].ev.msg.count, I nf[k].ev.msg.index, I nf[k].ev.msg.copy, .slice qa nf[k].asks.length da, .bool nf[k].obs, .slice qs nf[k].sent.length ds] (wr.alloc (.cells #[I nf[k].ev.kind, I nf[k].ev.node, I nf[k].ev.arg, I nf[k].ev.msg.node, I nf[k].ev.msg.handler, I nf[k].ev.msg.count, I nf[k].ev.msg.index, I nf[k].ev.msg.copy, .slice qa nf[k].asks.length da, .bool nf[k].obs, .slice qs nf[k].sent.length ds] 55)) vw xs :=
        ⟨hown.alloc _, Blk.new _ _ _, fun e => by have := (hown.lt _ e).2; omega, by have := hB.size; rw [World.size_alloc]; omega, hB.alloc hB.size _⟩
      have HK0 := Lib.hid hKW0
      clear hown hKW0
      obtain ⟨hs1, hs2⟩ := Hsn.out nf[k] (List.getElem_mem hlt)
      go_upto_region 7 with fail
      clear x0 x1 x2 x3 x4 x5 x6 x7 x8 x9 x10
      go_upto_region 8 with (first
        | (go_at_call 52; refine (eventKey nf[k].ev _).mono ?_; rintro e w2 ⟨g, c, rfl, hg, hoe, hB2⟩; have HK1 := Lib.hid (HK0.out.call hB2))
        | (at_builtin; go_must (refine wpList_appWF rfl _ _ rfl rfl HK1.out (some ⟨g, 0, none⟩) c nf[k].ev.ints rfl (Flat.of_owns hoe) (by show 0 < 8; omega) (by show xs.length + 8 ≤ _; omega) ?_); intro g2 cap2 w3 hKW2 hB3))
      have c8 : w3.cell? ⟨wr.heap.size, 8, none⟩ = some (.slice qa nf[k].asks.length da) := hKW2.blk.cell 8
      obtain ⟨y0, hy0⟩ : ∃ y0, y0 = xs ++ nf[k].ev.ints := ⟨_, rfl⟩
      have Hl2 := Lib.hid (show y0.length = xs.length + 8 by rw [hy0, List.length_append]; rfl)
      rw [← hy0] at hKW2
      have Hy0 := Lib.hid hy0
      clear hy0
      have HK2 := Lib.hid hKW2
      clear hKW2 hoe hB3
      go_wp2_with (at_builtin; go_must (refine wpList_appW rfl _ _ rfl rfl (HK2.out.alloc _) w3.heap.size 1 1 #[I nf[k].asks.length] [(nf[k].asks.length : Int)] rfl (heap_alloc_new _ _) rfl rfl (by omega) (by have := Hl2.out; omega) ?_); intro g3 cap3 w4 hKW3 hB4)
      obtain ⟨y1, hy1⟩ : ∃ y1, y1 = y0 ++ [(nf[k].asks.length : Int)] := ⟨_, rfl⟩
      have Hl3 := Lib.hid (show y1.length = xs.length + 9 by rw [hy1, List.length_append, Hl2.out]; rfl)
      rw [← hy1] at hKW3
      have Hy1 := Lib.hid hy1
      clear hy1
      have HK3 := Lib.hid hKW3
      clear c8 hKW3 hB4
      obtain ⟨wo, rfl⟩ : ∃ wo : World, wo = wr := ⟨_, rfl⟩
      go_loopw [4, 7] (fun vw i wr => ∃ (j : Nat) (ys : List Int), j ≤ nf[k].asks.length ∧ i = .int .i64 j ∧ KW w1 w1.heap.size wo.heap.size #[I nf[k].ev.kind, I nf[k].ev.node, I nf[k].ev.arg, I nf[k].ev.msg.node, I nf[k].ev.msg.handler, I nf[k].ev.msg.count, I nf[k].ev.msg.index, I nf[k].ev.msg.copy, .slice qa nf[k].asks.length da, .bool nf[k].obs, .slice qs nf[k].sent.length ds] wr vw ys ∧ Hid (ys = xs ++ nf[k].ev.ints ++ [(nf[k].asks.length : Int)] ++ (nf[k].asks.take j).flatMap Ask.ints) ∧ ys.length = xs.length + 9 + j * 7) (fun _ i _ => nf[k].asks.length - (intOf i).toNat)
      case atStart => exact ⟨0, y1, by omega, rfl, HK3.out, Lib.hid (by rw [Hy1.out, Hy0.out]; simp), by rw [Hl3.out]⟩
      case round =>
        obtain ⟨j, ys, hj, rfl, hKW, Hys, hyl⟩ := hrel
        by_cases hlt2 : j < nf[k].asks.length
        · obtain ⟨ab, ao, rfl, y0, y1, y2, y3, y4, y5, y6⟩ := (hva.kept hKW.bel (Nat.le_refl _)).at (i := j) (x := nf[k].asks[j]) (by simp [hlt2])
          have c8 : wr.cell? ⟨wo.heap.size, 8, none⟩ = some (.slice (some ⟨ab, ao, none⟩) nf[k].asks.length da) := hKW.blk.cell 8
          have HKW := Lib.hid hKW
          have Hyl := Lib.hid hyl
          clear hKW hyl
          go_upto_region 13 with (first
            | (go_at_call 53; refine (questionKey _ _ _ _ _ _).mono ?_; rintro e w5 ⟨gq, rfl, hgq, hbq, hB5⟩; have HKW1 := Lib.hid (HKW.out.call hB5))
            | (at_builtin; go_must (refine wpList_appW rfl _ _ rfl rfl HKW1.out gq 5 5 #[I nf[k].asks[j].node, I nf[k].asks[j].handler, I nf[k].asks[j].count, I nf[k].asks[j].kind, I nf[k].asks[j].index] [nf[k].asks[j].node, nf[k].asks[j].handler, nf[k].asks[j].count, nf[k].asks[j].kind, nf[k].asks[j].index] rfl hbq rfl rfl (by omega) (by have := Hyl.out; omega) ?_); intro g5 cap5 w6 hKW6 hB6))
          have z8 : w6.cell? ⟨wo.heap.size, 8, none⟩ = some (.slice (some ⟨ab, ao, none⟩) nf[k].asks.length da) := hKW6.blk.cell 8
          obtain ⟨ab2, ao2, hab, u0, u1, u2, u3, u4, u5, u6⟩ := (hva.kept hKW6.bel (Nat.le_refl _)).at (i := j) (x := nf[k].asks[j]) (by simp [hlt2])
          simp at hab
          obtain ⟨rfl, rfl⟩ := hab
          obtain ⟨q0, hq0⟩ : ∃ q0, q0 = ys ++ [nf[k].asks[j].node, nf[k].asks[j].handler, nf[k].asks[j].count, nf[k].asks[j].kind, nf[k].asks[j].index] := ⟨_, rfl⟩
          rw [← hq0] at hKW6
          have Hq0 := Lib.hid hq0
          have Hql := Lib.hid (show q0.length = ys.length + 5 by rw [hq0, List.length_append]; rfl)
          clear hq0
          have HKW6 := Lib.hid hKW6
          clear hKW6 c8 y0 y1 y2 y3 y4 y5 y6 u0 u1 u2 u3 u4 hB6
          refine wp_region_ordN 14 [(0, true), (1, true), (2, true), (3, true), (4, true), (5, true), (6, true), (7, true), (8, true), (9, true), (10, true), (11, true), (12, true), (13, false)] (fun w' => w'.cell? ⟨wo.heap.size, 8, none⟩ = some (.slice (some ⟨ab, ao, none⟩) nf[k].asks.length da) ∧ w'.cell? ⟨ab, ao + j * 7 + 5, none⟩ = some (I nf[k].asks[j].arity) ∧ w'.cell? ⟨ab, ao + j * 7 + 6, none⟩ = some (I nf[k].asks[j].n)) (by kernel_rfl) rfl rfl (by kernel_rfl) ⟨z8, u5, u6⟩ ?_
          iterate 13 (refine wpOrd_take ?_ (by rfl) ?_ ?_; rotate_left; (intro w hSw; (try dsimp only at hSw); go_simp; try with_reducible rfl); (try simp only [Act.put, List.setIfInBounds_toArray, List.set_cons_zero, List.set_cons_succ]))
          refine wpOrd_move (fun K hK => ?_)
          go_simp
          refine hK.out _ _ ⟨cell_below (w := w6) (B := w6.heap.size) (by repeat (first | exact Below.refl _ _ | assumption | refine Below.drew ?_ | refine below_drewN ?_ _ | refine Below.alloc ?_ (by simp <;> omega) _ | refine Below.setCell ?_ (by simp <;> omega) _)) (Nat.le_refl _) z8, cell_below (w := w6) (B := w6.heap.size) (by repeat (first | exact Below.refl _ _ | assumption | refine Below.drew ?_ | refine below_drewN ?_ _ | refine Below.alloc ?_ (by simp <;> omega) _ | refine Below.setCell ?_ (by simp <;> omega) _)) (Nat.le_refl _) u5, cell_below (w := w6) (B := w6.heap.size) (by repeat (first | exact Below.refl _ _ | assumption | refine Below.drew ?_ | refine below_drewN ?_ _ | refine Below.alloc ?_ (by simp <;> omega) _ | refine Below.setCell ?_ (by simp <;> omega) _)) (Nat.le_refl _) u6⟩ ?_
          clear hK K
          (try simp only [Act.put, List.setIfInBounds_toArray, List.set_cons_zero, List.set_cons_succ])
          refine wpOrd_nil ?_
          refine wpList_appW rfl _ _ rfl rfl (HKW6.out.drew.alloc _) w6.heap.size 2 2 #[I nf[k].asks[j].arity, I nf[k].asks[j].n] [nf[k].asks[j].arity, nf[k].asks[j].n] rfl (heap_alloc_new _ _) rfl rfl (by omega) (by have := Hyl.out; have := Hql.out; omega) ?_
          intro g7 cap7 w7 hKW7 hB7
          go_wp2_with fail
          refine NoPanic.normal ?_
          have HKW7 := Lib.hid hKW7
          have Hys' := Lib.hid (show q0 ++ [nf[k].asks[j].arity, nf[k].asks[j].n] = xs ++ nf[k].ev.ints ++ [(nf[k].asks.length : Int)] ++ (nf[k].asks.take (j + 1)).flatMap Ask.ints by
            rw [Hq0.out, Hys.out, List.take_succ_eq_append_getElem hlt2, List.flatMap_append]
            simp [Ask.ints])
          clear hKW7
          go_wp2_with fail
          go_roundw
          case rel => exact ⟨j + 1, _, by omega, by go_num, HKW7.out, Hys', by have := Hyl.out; have := Hql.out; simp only [List.length_append, List.length_cons, List.length_nil]; omega⟩
          case measure => simp [intOf]; omega
        · have hys2 : ys = xs ++ nf[k].ev.ints ++ [(nf[k].asks.length : Int)] ++ nf[k].asks.flatMap Ask.ints := by rw [Hys.out, List.take_of_length_le (by omega)]
          have hylb : ys.length ≤ k * 13000 + 9 + 7000 := by omega
          have c8 : wr.cell? ⟨wo.heap.size, 8, none⟩ = some (.slice qa nf[k].asks.length da) := hKW.blk.cell 8
          have c9 : wr.cell? ⟨wo.heap.size, 9, none⟩ = some (.bool nf[k].obs) := hKW.blk.cell 9
          have c10 : wr.cell? ⟨wo.heap.size, 10, none⟩ = some (.slice qs nf[k].sent.length ds) := hKW.blk.cell 10
          obtain ⟨ws, rfl⟩ : ∃ ws : World, ws = wr := ⟨_, rfl⟩
          have HKW := Lib.hid hKW
          have Hys2 := Lib.hid hys2
          clear hKW Hys hys2 hyl
          obtain ⟨sb, hsb⟩ : ∃ sb : Int, sb = if nf[k].obs then 1 else 0 := ⟨_, rfl⟩
          cases hob : nf[k].obs
          all_goals
            rw [hob] at c9
            rw [hob] at hsb
            simp only [if_true, Bool.false_eq_true, if_false] at hsb
            have Hsb := Lib.hid hsb
            have Hob := Lib.hid hob
            clear hsb hob
            go_wp2_with (at_builtin; go_must (refine wpList_appW rfl _ _ rfl rfl (HKW.out.alloc _) ws.heap.size 2 2 #[I sb, I nf[k].sent.length] [sb, (nf[k].sent.length : Int)] rfl (by rw [Hsb.out]; exact heap_alloc_new _ _) rfl rfl (by omega) (by omega) ?_); intro g8 cap8 w8 hKW8 hB8)
            obtain ⟨z0, hz0⟩ : ∃ z0, z0 = ys ++ [sb, (nf[k].sent.length : Int)] := ⟨_, rfl⟩
            have hz0l : z0.length = ys.length + 2 := by rw [hz0, List.length_append]; rfl
            rw [← hz0] at hKW8
            have Hz0 := Lib.hid hz0
            have Hz0l := Lib.hid hz0l
            have HKW8 := Lib.hid hKW8
            clear hz0 hz0l hKW8 hB8 c8 c9 c10
            go_loopw [4, 9] (fun vw i wr => ∃ (j : Nat) (zs : List Int), j ≤ nf[k].sent.length ∧ i = .int .i64 j ∧ KW w1 w1.heap.size wo.heap.size #[I nf[k].ev.kind, I nf[k].ev.node, I nf[k].ev.arg, I nf[k].ev.msg.node, I nf[k].ev.msg.handler, I nf[k].ev.msg.count, I nf[k].ev.msg.index, I nf[k].ev.msg.copy, .slice qa nf[k].asks.length da, .bool nf[k].obs, .slice qs nf[k].sent.length ds] wr vw zs ∧ Hid (zs = z0 ++ (nf[k].sent.take j).flatMap Msg.ints) ∧ zs.length = z0.length + j * 5) (fun _ i _ => nf[k].sent.length - (intOf i).toNat)
            case atStart => exact ⟨0, z0, by omega, rfl, HKW8.out, Lib.hid (by simp), by omega⟩
            case round =>
              obtain ⟨j, zs, hj, rfl, hKW, Hzs, hzl⟩ := hrel
              have hzlb : zs.length ≤ k * 13000 + 9 + 7000 + 2 + j * 5 := by have := Hz0l.out; omega
              have c10 : wr.cell? ⟨wo.heap.size, 10, none⟩ = some (.slice qs nf[k].sent.length ds) := hKW.blk.cell 10
              by_cases hlt2 : j < nf[k].sent.length
              · obtain ⟨ab, ao, rfl, y0, y1, y2, y3, y4⟩ := (hvs.kept hKW.bel (Nat.le_refl _)).at (i := j) (x := nf[k].sent[j]) (by simp [hlt2])
                have HKW := Lib.hid hKW
                have Hzl := Lib.hid hzl
                clear hKW hzl
                go_wp2_with (first
                  | (go_at_call 54; refine (msgKey nf[k].sent[j] _).mono ?_; rintro e w5 ⟨gq, rfl, hgq, hbq, hB5⟩; have HKW1 := Lib.hid (HKW.out.call hB5))
                  | (at_builtin; go_must (refine wpList_appW rfl _ _ rfl rfl HKW1.out gq 5 5 #[I nf[k].sent[j].node, I nf[k].sent[j].handler, I nf[k].sent[j].count, I nf[k].sent[j].index, I nf[k].sent[j].copy] nf[k].sent[j].ints rfl hbq rfl rfl (by omega) (by omega) ?_); intro g5 cap5 w6 hKW6 hB6))
                have HKW6 := Lib.hid hKW6
                have Hzs' := Lib.hid (show zs ++ nf[k].sent[j].ints = z0 ++ (nf[k].sent.take (j + 1)).flatMap Msg.ints by
                  rw [Hzs.out, List.take_succ_eq_append_getElem hlt2, List.flatMap_append]
                  simp)
                clear hKW6
                go_roundw
                case rel => exact ⟨j + 1, _, by omega, by go_num, HKW6.out, Hzs', by rw [List.length_append, Hzl.out]; show _ + 5 = _; omega⟩
                case measure => simp [intOf]; omega
              · have hown := hKW.own
                have hbel := hKW.bel
                have hze : zs = (nf.take (k + 1)).flatMap Stp.words := by
                  rw [Hzs.out, List.take_of_length_le (by omega), Hz0.out, Hys2.out, Hxs.out, Hsb.out, List.take_succ_eq_append_getElem hlt, List.flatMap_append]
                  simp [Stp.words, Hob.out]
                have Hze := Lib.hid hze
                have Hown := Lib.hid hown
                have Hbel := Lib.hid hbel
                have Hzlb := Lib.hid (show zs.length ≤ (k + 1) * 13000 by omega)
                clear hKW hze hown hbel hzl hzlb
                go_wp2_with fail
                go_roundw
                case rel => exact ⟨k + 1, zs, by omega, by go_num, Hown.out, Hze, Hzlb.out, Hbel.out⟩
                case measure => simp [intOf]; omega
    · have hkl : k = nf.length := by omega
      have hxe : xs = nf.flatMap Stp.words := by rw [Hxs.out, List.take_of_length_le (by omega)]
      have Hxe := Lib.hid hxe
      have hint : IntSl wr vw xs := by
        unfold IntSl
        exact Flat.of_owns hown
      clear hxe
      have Hown := Lib.hid hown
      obtain ⟨kv, cv, rfl, _⟩ := hint.open
      clear hown
      go_wp2_with fail
      refine (refSum xs _ _ hint (by omega)).mono ?_
      rintro e w2 ⟨rfl, hB2⟩
      rw [Hxe.out, ← Hke.out]
      go_wp2_with fail
      go_ret
      exact ⟨rfl, hB1.trans ((hB.trans (hB2.mono hB.size)).mono hB1.size)⟩

end Go.Proofs.Ytaedfidfcoigoaa
