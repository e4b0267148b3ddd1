import Derived.Test.YtljmonfobefiiaaGreatDoorUTX7
/- names.Question: the walk. (Printed by mkS36.py.) -/
namespace Go.Proofs.YtljmonfobefiiaaGreatDoor
open Go.RowKit

set_option maxHeartbeats 8000000 in
set_option maxRecDepth 100000 in
theorem namesQuestionC (q : Qn) (hok : ∀ x ∈ q.ints, InI64 x) (w : World) (hg : Gl w) : Calls Tryz.prog 68 #[.agg (qva q)] w fun r w' => r = .returned (sv (textQn q)) ∧ Below w.heap.size w w' := by
  have Hg := Lib.hid hg
  have Hok := Lib.hid hok
  clear hg hok
  have HT := Lib.hid (qnWrite_back q)
  obtain ⟨T, hT⟩ : ∃ T, T = textQn q := ⟨_, rfl⟩
  rw [← hT] at HT ⊢
  by_cases hk : q.kind < 1 ∨ 3 < q.kind
  · have HF := Lib.hid (show T = [] by
      rw [hT]
      unfold textQn
      rw [if_neg]
      intro hw
      obtain ⟨h, _⟩ := (wellQn_iff q).1 hw
      omega)
    clear hT HT Hok
    obtain ⟨a, b, c, kind, ix⟩ := q
    dsimp only at hk
    have HB := Lib.hid (show Below w.heap.size w (w.alloc (.cells #[I a, I b, I c, I kind, I ix] 58)) from (Below.refl _ _).alloc (Nat.le_refl _) _)
    unfold qva
    dsimp only
    by_cases h1 : kind < 1
    · clear hk
      go_enter Tryz.func68, Tryz.ntmps68
      go_wp2_with fail
      go_ret
      exact ⟨by rw [HF.out]; rfl, HB.out⟩
    · have h7 : 3 < kind := by omega
      clear hk
      go_enter Tryz.func68, Tryz.ntmps68
      go_wp2_with fail
      go_ret
      exact ⟨by rw [HF.out]; rfl, HB.out⟩
  · clear hT
    obtain ⟨a, b, c, kind, ix⟩ := q
    dsimp only at hk
    obtain ⟨k, rfl⟩ : ∃ k : Nat, kind = k := ⟨kind.toNat, by omega⟩
    have hk1 : 1 ≤ k := by omega
    have hk4 : k < 4 := by omega
    clear hk
    have hkI : (0 : Int) ≤ k := by omega
    have hkI8 : (k : Int) < 4 := by omega
    have hkI1 : ¬ (k : Int) < 1 := by omega
    have hkI7 : ¬ (3 : Int) < k := by omega
    obtain ⟨word, hword⟩ : ∃ x, x = quWords.getD k [] := ⟨_, rfl⟩
    have hwl : word.length ≤ 4 := by rw [hword]; exact quWord_len k hk4
    have hix := Hok.out ix (by simp [Qn.ints])
    have hdl := itoa_len ix hix
    have Hit := Lib.hid (fun X (hX : Gl X) => itoaC ix hix X hX)
    have habc : ∀ n ∈ [a, b, c], InI64 n := fun n hn => Hok.out n (by simp [Qn.ints] at hn ⊢; omega)
    have Hds := Lib.hid (fun v X (hX : Gl X) (hv : IntSl X v [a, b, c]) => dottedC [a, b, c] habc (by simp) v X hX hv)
    have hjl : (joinC 46 ([a, b, c].map Lib.itoa)).length ≤ 21 * 3 := joinC_len 46 20 _ (fun y hy => by
      obtain ⟨n, hn, rfl⟩ := List.mem_map.1 hy
      exact itoa_len n (habc n hn))
    have Hwd := Lib.hid hword
    have HX := Lib.hid (show qnWrite ⟨a, b, c, k, ix⟩ = word ++ [32] ++ joinC 46 ([a, b, c].map Lib.itoa) ++ [32] ++ Lib.itoa ix by
      unfold qnWrite
      dsimp only
      rw [Int.toNat_natCast, ← hword])
    rw [HX.out] at HT
    clear hword hix habc HX
    generalize Lib.itoa ix = dn at hdl Hit HT
    generalize joinC 46 ([a, b, c].map Lib.itoa) = j at hjl Hds HT
    have hR0 := Lib.hid (show ∀ X, X = w.alloc (.cells #[I a, I b, I c, I k, I ix] 58) → Blk X w.heap.size #[I a, I b, I c, I k, I ix] ∧ Below w.heap.size w X from fun X e => by subst e; exact ⟨Blk.new w _ _, (Below.refl _ _).alloc (Nat.le_refl _) _⟩)
    unfold qva
    unfold sv at Hit Hds
    dsimp only
    go_enter Tryz.func68, Tryz.ntmps68
    go_upto_region 3 with fail
    obtain ⟨W, hW⟩ : ∃ W, W = w.alloc (.cells #[I a, I b, I c, I k, I ix] 58) := ⟨_, rfl⟩
    obtain ⟨hev0, hbb0⟩ := hR0.out W hW
    rw [← hW]
    clear hW hR0
    have hl1 : ¬ 9223372036854775807 < word.length + 1 := by omega
    have hl2 : ¬ 9223372036854775807 < word.length + 1 + j.length := by omega
    have hl3 : ¬ 9223372036854775807 < word.length + 1 + j.length + 1 := by omega
    have hl4 : ¬ 9223372036854775807 < word.length + 1 + j.length + 1 + dn.length := by omega
    go_cut [3] from 14 (fun t wd => t = .string ⟨(word ++ [32] ++ j ++ [32] ++ dn).toArray⟩ ∧ Blk wd w.heap.size #[I a, I b, I c, I k, I ix] ∧ Hid (Below w.heap.size w wd))
    case first =>
      have hev := hev0.drew
      have hbb := hbb0.drew
      clear hev0 hbb0
      refine wp_region_T 22 (.take 1 (.take 2 (.take 6 (.take 7 (.take 8 (.take 9 (.take 10 (.take 11 (.take 12 (.take 13 (.take 14 (.take 19 (.take 20 (.fork 0 15 (.take 3 (.fork 4 15 (.take 5 (.move 15 (.move 16 (.take 17 (.take 18 (.move 21 .nil)))))) (.fork 4 16 (.take 5 (.move 16 (.take 17 (.take 18 (.move 21 .nil))))) (.fork 4 21 (.take 5 (.take 17 (.take 18 (.move 21 .nil)))) (.move 4 (.take 5 (.take 17 (.take 18 .nil)))))))) (.move 0 (.take 3 (.fork 4 16 (.take 5 (.move 16 (.take 17 (.take 18 (.move 21 .nil))))) (.fork 4 21 (.take 5 (.take 17 (.take 18 (.move 21 .nil)))) (.move 4 (.take 5 (.take 17 (.take 18 .nil)))))))))))))))))))))) (fun X => (∀ j, X.cell? ⟨w.heap.size, j, none⟩ = (#[I a, I b, I c, I k, I ix] : Array Value)[j]?)) (by kernel_rfl) rfl (by kernel_rfl) hev.cell ?_
      (refine wpT_take rfl ?_ (by rfl) ?_ ?_; rotate_left; (intro w hSw; (try dsimp only at hSw); go_simp; try with_reducible rfl); (try simp only [Act.put, List.setIfInBounds_toArray, List.set_cons_zero, List.set_cons_succ]))
      (refine wpT_take rfl ?_ (by rfl) ?_ ?_; rotate_left; (intro w hSw; (try dsimp only at hSw); go_simp; try with_reducible rfl); (try simp only [Act.put, List.setIfInBounds_toArray, List.set_cons_zero, List.set_cons_succ]))
      (refine wpT_take rfl ?_ (by rfl) ?_ ?_; rotate_left; (intro w hSw; (try dsimp only at hSw); go_simp; try with_reducible rfl); (try simp only [Act.put, List.setIfInBounds_toArray, List.set_cons_zero, List.set_cons_succ]))
      (refine wpT_take rfl ?_ (by rfl) ?_ ?_; rotate_left; (intro w hSw; (try dsimp only at hSw); go_simp; try with_reducible rfl); (try simp only [Act.put, List.setIfInBounds_toArray, List.set_cons_zero, List.set_cons_succ]))
      (refine wpT_take rfl ?_ (by rfl) ?_ ?_; rotate_left; (intro w hSw; (try dsimp only at hSw); go_simp; try with_reducible rfl); (try simp only [Act.put, List.setIfInBounds_toArray, List.set_cons_zero, List.set_cons_succ]))
      (refine wpT_take rfl ?_ (by rfl) ?_ ?_; rotate_left; (intro w hSw; (try dsimp only at hSw); go_simp; try with_reducible rfl); (try simp only [Act.put, List.setIfInBounds_toArray, List.set_cons_zero, List.set_cons_succ]))
      (refine wpT_take rfl ?_ (by rfl) ?_ ?_; rotate_left; (intro w hSw; (try dsimp only at hSw); go_simp; try with_reducible rfl); (try simp only [Act.put, List.setIfInBounds_toArray, List.set_cons_zero, List.set_cons_succ]))
      (refine wpT_take rfl ?_ (by rfl) ?_ ?_; rotate_left; (intro w hSw; (try dsimp only at hSw); go_simp; try with_reducible rfl); (try simp only [Act.put, List.setIfInBounds_toArray, List.set_cons_zero, List.set_cons_succ]))
      (refine wpT_take rfl ?_ (by rfl) ?_ ?_; rotate_left; (intro w hSw; (try dsimp only at hSw); go_simp; try with_reducible rfl); (try simp only [Act.put, List.setIfInBounds_toArray, List.set_cons_zero, List.set_cons_succ]))
      (refine wpT_take rfl ?_ (by rfl) ?_ ?_; rotate_left; (intro w hSw; (try dsimp only at hSw); go_simp; try with_reducible rfl); (try simp only [Act.put, List.setIfInBounds_toArray, List.set_cons_zero, List.set_cons_succ]))
      (refine wpT_take rfl ?_ (by rfl) ?_ ?_; rotate_left; (intro w hSw; (try dsimp only at hSw); go_simp; try with_reducible rfl); (try simp only [Act.put, List.setIfInBounds_toArray, List.set_cons_zero, List.set_cons_succ]))
      (refine wpT_take rfl ?_ (by rfl) ?_ ?_; rotate_left; (intro w hSw; (try dsimp only at hSw); go_simp; try with_reducible rfl); (try simp only [Act.put, List.setIfInBounds_toArray, List.set_cons_zero, List.set_cons_succ]))
      (refine wpT_take rfl ?_ (by rfl) ?_ ?_; rotate_left; (intro w hSw; (try dsimp only at hSw); go_simp; try with_reducible rfl); (try simp only [Act.put, List.setIfInBounds_toArray, List.set_cons_zero, List.set_cons_succ]))
      generalize W.drew = V at hev hbb ⊢
      refine wpT_fork ?_ ?_
      · refine wpT_move rfl (fun K hK => ?_)
        go_simp
        go_at_call 106
        refine (quWordsC _).mono ?_
        rintro e Y1 ⟨rfl, hrow, D, -⟩
        have hcn : Y1.cell? ⟨V.heap.size, k, none⟩ = some (sv word) := by
          refine StrRow.cell hrow ?_
          rw [Hwd.out]
          have : k < quWords.length := hk4
          simp [List.getD, this]
        unfold sv at hcn
        replace hev := hev.kept D hev.lt
        replace hbb := hbb.trans (D.mono hbb.size)
        refine hK.out _ _ hev.cell ?_
        clear hK K
        generalize V.heap.size = B at hcn ⊢
        have hc := hcn
        clear hcn hrow
        (try simp only [Act.put, List.setIfInBounds_toArray, List.set_cons_zero, List.set_cons_succ])
        (refine wpT_take rfl ?_ (by rfl) ?_ ?_; rotate_left; (intro w hSw; (try dsimp only at hSw); go_simp; try with_reducible rfl); (try simp only [Act.put, List.setIfInBounds_toArray, List.set_cons_zero, List.set_cons_succ]))
        refine wpT_fork ?_ ?_
        · refine wpT_move rfl (fun K hK => ?_)
          go_simp
          refine hK.out _ _ hev.cell ?_
          clear hK K
          (try simp only [Act.put, List.setIfInBounds_toArray, List.set_cons_zero, List.set_cons_succ])
          (refine wpT_take rfl ?_ (by rfl) ?_ ?_; rotate_left; (intro w hSw; (try dsimp only at hSw); go_simp; try with_reducible rfl); (try simp only [Act.put, List.setIfInBounds_toArray, List.set_cons_zero, List.set_cons_succ]))
          refine wpT_move rfl (fun K hK => ?_)
          go_simp
          have D : Below Y1.heap.size Y1 (Y1.alloc (.cells #[I a, I b, I c] 3)) := (Below.refl _ _).alloc (Nat.le_refl _) _
          have hsn : IntSl (Y1.alloc (.cells #[I a, I b, I c] 3)) (.slice (some ⟨Y1.heap.size, 0, none⟩) 3 3) [a, b, c] := Flat.of_cells rfl (by simp) (fun j u hu => by rw [Nat.zero_add, (Blk.new Y1 #[I a, I b, I c] 3).cell j]; simpa [iv] using hu)
          replace hev := hev.kept D hev.lt
          replace hbb := hbb.trans (D.mono hbb.size)
          replace hc := (D.cell (p := ⟨B, k, none⟩) (by simpa using World.block_lt_of_cell? _ _ hc)).trans hc
          generalize Y1.alloc (.cells #[I a, I b, I c] 3) = Y3 at hsn hev hbb hc ⊢
          clear D
          generalize Y1.heap.size = A at hsn ⊢
          have hsl := hsn
          clear hsn
          refine hK.out _ _ hev.cell ?_
          clear hK K
          (try simp only [Act.put, List.setIfInBounds_toArray, List.set_cons_zero, List.set_cons_succ])
          refine wpT_move rfl (fun K hK => ?_)
          go_simp
          go_at_call 105
          refine (Hds.out _ _ (Hg.out.below hbb) hsl).mono ?_
          rintro e Y4 ⟨rfl, D⟩
          clear hsl
          replace hev := hev.kept D hev.lt
          replace hbb := hbb.trans (D.mono hbb.size)
          replace hc := (D.cell (p := ⟨B, k, none⟩) (by simpa using World.block_lt_of_cell? _ _ hc)).trans hc
          refine hK.out _ _ hev.cell ?_
          clear hK K
          (try simp only [Act.put, List.setIfInBounds_toArray, List.set_cons_zero, List.set_cons_succ])
          (refine wpT_take rfl ?_ (by rfl) ?_ ?_; rotate_left; (intro w hSw; (try dsimp only at hSw); go_simp; try with_reducible rfl); (try simp only [Act.put, List.setIfInBounds_toArray, List.set_cons_zero, List.set_cons_succ]))
          (refine wpT_take rfl ?_ (by rfl) ?_ ?_; rotate_left; (intro w hSw; (try dsimp only at hSw); go_simp; try with_reducible rfl); (try simp only [Act.put, List.setIfInBounds_toArray, List.set_cons_zero, List.set_cons_succ]))
          refine wpT_move rfl (fun K hK => ?_)
          go_simp
          go_at_call 46
          refine (Hit.out _ (Hg.out.below hbb)).mono ?_
          rintro e Y5 ⟨rfl, D⟩
          replace hev := hev.kept D hev.lt
          replace hbb := hbb.trans (D.mono hbb.size)
          replace hc := (D.cell (p := ⟨B, k, none⟩) (by simpa using World.block_lt_of_cell? _ _ hc)).trans hc
          refine hK.out _ _ hev.cell ?_
          clear hK K
          (try simp only [Act.put, List.setIfInBounds_toArray, List.set_cons_zero, List.set_cons_succ])
          refine wpT_nil ?_
          go_wp2_with fail
          refine NoPanic.normal ?_
          go_wp2_with fail
          go_meet
          exact ⟨congrArg Value.string (by rw [ba_app, ba_app, ba_app, ba_app]), hev, Lib.hid hbb⟩
        · refine wpT_move rfl (fun K hK => ?_)
          go_simp
          have D : Below Y1.heap.size Y1 (Y1.alloc (.cells #[I a, I b, I c] 3)) := (Below.refl _ _).alloc (Nat.le_refl _) _
          have hsn : IntSl (Y1.alloc (.cells #[I a, I b, I c] 3)) (.slice (some ⟨Y1.heap.size, 0, none⟩) 3 3) [a, b, c] := Flat.of_cells rfl (by simp) (fun j u hu => by rw [Nat.zero_add, (Blk.new Y1 #[I a, I b, I c] 3).cell j]; simpa [iv] using hu)
          replace hev := hev.kept D hev.lt
          replace hbb := hbb.trans (D.mono hbb.size)
          replace hc := (D.cell (p := ⟨B, k, none⟩) (by simpa using World.block_lt_of_cell? _ _ hc)).trans hc
          generalize Y1.alloc (.cells #[I a, I b, I c] 3) = Y6 at hsn hev hbb hc ⊢
          clear D
          generalize Y1.heap.size = A at hsn ⊢
          have hsl := hsn
          clear hsn
          refine hK.out _ _ hev.cell ?_
          clear hK K
          (try simp only [Act.put, List.setIfInBounds_toArray, List.set_cons_zero, List.set_cons_succ])
          refine wpT_fork ?_ ?_
          · refine wpT_move rfl (fun K hK => ?_)
            go_simp
            refine hK.out _ _ hev.cell ?_
            clear hK K
            (try simp only [Act.put, List.setIfInBounds_toArray, List.set_cons_zero, List.set_cons_succ])
            (refine wpT_take rfl ?_ (by rfl) ?_ ?_; rotate_left; (intro w hSw; (try dsimp only at hSw); go_simp; try with_reducible rfl); (try simp only [Act.put, List.setIfInBounds_toArray, List.set_cons_zero, List.set_cons_succ]))
            refine wpT_move rfl (fun K hK => ?_)
            go_simp
            go_at_call 105
            refine (Hds.out _ _ (Hg.out.below hbb) hsl).mono ?_
            rintro e Y8 ⟨rfl, D⟩
            clear hsl
            replace hev := hev.kept D hev.lt
            replace hbb := hbb.trans (D.mono hbb.size)
            replace hc := (D.cell (p := ⟨B, k, none⟩) (by simpa using World.block_lt_of_cell? _ _ hc)).trans hc
            refine hK.out _ _ hev.cell ?_
            clear hK K
            (try simp only [Act.put, List.setIfInBounds_toArray, List.set_cons_zero, List.set_cons_succ])
            (refine wpT_take rfl ?_ (by rfl) ?_ ?_; rotate_left; (intro w hSw; (try dsimp only at hSw); go_simp; try with_reducible rfl); (try simp only [Act.put, List.setIfInBounds_toArray, List.set_cons_zero, List.set_cons_succ]))
            (refine wpT_take rfl ?_ (by rfl) ?_ ?_; rotate_left; (intro w hSw; (try dsimp only at hSw); go_simp; try with_reducible rfl); (try simp only [Act.put, List.setIfInBounds_toArray, List.set_cons_zero, List.set_cons_succ]))
            refine wpT_move rfl (fun K hK => ?_)
            go_simp
            go_at_call 46
            refine (Hit.out _ (Hg.out.below hbb)).mono ?_
            rintro e Y9 ⟨rfl, D⟩
            replace hev := hev.kept D hev.lt
            replace hbb := hbb.trans (D.mono hbb.size)
            replace hc := (D.cell (p := ⟨B, k, none⟩) (by simpa using World.block_lt_of_cell? _ _ hc)).trans hc
            refine hK.out _ _ hev.cell ?_
            clear hK K
            (try simp only [Act.put, List.setIfInBounds_toArray, List.set_cons_zero, List.set_cons_succ])
            refine wpT_nil ?_
            go_wp2_with fail
            refine NoPanic.normal ?_
            go_wp2_with fail
            go_meet
            exact ⟨congrArg Value.string (by rw [ba_app, ba_app, ba_app, ba_app]), hev, Lib.hid hbb⟩
          · refine wpT_move rfl (fun K hK => ?_)
            go_simp
            go_at_call 105
            refine (Hds.out _ _ (Hg.out.below hbb) hsl).mono ?_
            rintro e Y10 ⟨rfl, D⟩
            clear hsl
            replace hev := hev.kept D hev.lt
            replace hbb := hbb.trans (D.mono hbb.size)
            replace hc := (D.cell (p := ⟨B, k, none⟩) (by simpa using World.block_lt_of_cell? _ _ hc)).trans hc
            refine hK.out _ _ hev.cell ?_
            clear hK K
            (try simp only [Act.put, List.setIfInBounds_toArray, List.set_cons_zero, List.set_cons_succ])
            refine wpT_fork ?_ ?_
            · refine wpT_move rfl (fun K hK => ?_)
              go_simp
              refine hK.out _ _ hev.cell ?_
              clear hK K
              (try simp only [Act.put, List.setIfInBounds_toArray, List.set_cons_zero, List.set_cons_succ])
              (refine wpT_take rfl ?_ (by rfl) ?_ ?_; rotate_left; (intro w hSw; (try dsimp only at hSw); go_simp; try with_reducible rfl); (try simp only [Act.put, List.setIfInBounds_toArray, List.set_cons_zero, List.set_cons_succ]))
              (refine wpT_take rfl ?_ (by rfl) ?_ ?_; rotate_left; (intro w hSw; (try dsimp only at hSw); go_simp; try with_reducible rfl); (try simp only [Act.put, List.setIfInBounds_toArray, List.set_cons_zero, List.set_cons_succ]))
              (refine wpT_take rfl ?_ (by rfl) ?_ ?_; rotate_left; (intro w hSw; (try dsimp only at hSw); go_simp; try with_reducible rfl); (try simp only [Act.put, List.setIfInBounds_toArray, List.set_cons_zero, List.set_cons_succ]))
              refine wpT_move rfl (fun K hK => ?_)
              go_simp
              go_at_call 46
              refine (Hit.out _ (Hg.out.below hbb)).mono ?_
              rintro e Y12 ⟨rfl, D⟩
              replace hev := hev.kept D hev.lt
              replace hbb := hbb.trans (D.mono hbb.size)
              replace hc := (D.cell (p := ⟨B, k, none⟩) (by simpa using World.block_lt_of_cell? _ _ hc)).trans hc
              refine hK.out _ _ hev.cell ?_
              clear hK K
              (try simp only [Act.put, List.setIfInBounds_toArray, List.set_cons_zero, List.set_cons_succ])
              refine wpT_nil ?_
              go_wp2_with fail
              refine NoPanic.normal ?_
              go_wp2_with fail
              go_meet
              exact ⟨congrArg Value.string (by rw [ba_app, ba_app, ba_app, ba_app]), hev, Lib.hid hbb⟩
            · refine wpT_move rfl (fun K hK => ?_)
              go_simp
              go_at_call 46
              refine (Hit.out _ (Hg.out.below hbb)).mono ?_
              rintro e Y13 ⟨rfl, D⟩
              replace hev := hev.kept D hev.lt
              replace hbb := hbb.trans (D.mono hbb.size)
              replace hc := (D.cell (p := ⟨B, k, none⟩) (by simpa using World.block_lt_of_cell? _ _ hc)).trans hc
              refine hK.out _ _ hev.cell ?_
              clear hK K
              (try simp only [Act.put, List.setIfInBounds_toArray, List.set_cons_zero, List.set_cons_succ])
              refine wpT_move rfl (fun K hK => ?_)
              go_simp
              refine hK.out _ _ hev.cell ?_
              clear hK K
              (try simp only [Act.put, List.setIfInBounds_toArray, List.set_cons_zero, List.set_cons_succ])
              (refine wpT_take rfl ?_ (by rfl) ?_ ?_; rotate_left; (intro w hSw; (try dsimp only at hSw); go_simp; try with_reducible rfl); (try simp only [Act.put, List.setIfInBounds_toArray, List.set_cons_zero, List.set_cons_succ]))
              (refine wpT_take rfl ?_ (by rfl) ?_ ?_; rotate_left; (intro w hSw; (try dsimp only at hSw); go_simp; try with_reducible rfl); (try simp only [Act.put, List.setIfInBounds_toArray, List.set_cons_zero, List.set_cons_succ]))
              (refine wpT_take rfl ?_ (by rfl) ?_ ?_; rotate_left; (intro w hSw; (try dsimp only at hSw); go_simp; try with_reducible rfl); (try simp only [Act.put, List.setIfInBounds_toArray, List.set_cons_zero, List.set_cons_succ]))
              refine wpT_nil ?_
              go_wp2_with fail
              refine NoPanic.normal ?_
              go_wp2_with fail
              go_meet
              exact ⟨congrArg Value.string (by rw [ba_app, ba_app, ba_app, ba_app]), hev, Lib.hid hbb⟩
      · refine wpT_move rfl (fun K hK => ?_)
        go_simp
        have D : Below V.heap.size V (V.alloc (.cells #[I a, I b, I c] 3)) := (Below.refl _ _).alloc (Nat.le_refl _) _
        have hsn : IntSl (V.alloc (.cells #[I a, I b, I c] 3)) (.slice (some ⟨V.heap.size, 0, none⟩) 3 3) [a, b, c] := Flat.of_cells rfl (by simp) (fun j u hu => by rw [Nat.zero_add, (Blk.new V #[I a, I b, I c] 3).cell j]; simpa [iv] using hu)
        replace hev := hev.kept D hev.lt
        replace hbb := hbb.trans (D.mono hbb.size)
        generalize V.alloc (.cells #[I a, I b, I c] 3) = Y15 at hsn hev hbb ⊢
        clear D
        generalize V.heap.size = A at hsn ⊢
        have hsl := hsn
        clear hsn
        refine hK.out _ _ hev.cell ?_
        clear hK K
        (try simp only [Act.put, List.setIfInBounds_toArray, List.set_cons_zero, List.set_cons_succ])
        refine wpT_move rfl (fun K hK => ?_)
        go_simp
        go_at_call 106
        refine (quWordsC _).mono ?_
        rintro e Y16 ⟨rfl, hrow, D, -⟩
        have hcn : Y16.cell? ⟨Y15.heap.size, k, none⟩ = some (sv word) := by
          refine StrRow.cell hrow ?_
          rw [Hwd.out]
          have : k < quWords.length := hk4
          simp [List.getD, this]
        unfold sv at hcn
        replace hev := hev.kept D hev.lt
        replace hbb := hbb.trans (D.mono hbb.size)
        replace hsl := IntSl.kept hsl D (Nat.le_refl _)
        refine hK.out _ _ hev.cell ?_
        clear hK K
        generalize Y15.heap.size = B at hcn ⊢
        have hc := hcn
        clear hcn hrow
        (try simp only [Act.put, List.setIfInBounds_toArray, List.set_cons_zero, List.set_cons_succ])
        (refine wpT_take rfl ?_ (by rfl) ?_ ?_; rotate_left; (intro w hSw; (try dsimp only at hSw); go_simp; try with_reducible rfl); (try simp only [Act.put, List.setIfInBounds_toArray, List.set_cons_zero, List.set_cons_succ]))
        refine wpT_fork ?_ ?_
        · refine wpT_move rfl (fun K hK => ?_)
          go_simp
          refine hK.out _ _ hev.cell ?_
          clear hK K
          (try simp only [Act.put, List.setIfInBounds_toArray, List.set_cons_zero, List.set_cons_succ])
          (refine wpT_take rfl ?_ (by rfl) ?_ ?_; rotate_left; (intro w hSw; (try dsimp only at hSw); go_simp; try with_reducible rfl); (try simp only [Act.put, List.setIfInBounds_toArray, List.set_cons_zero, List.set_cons_succ]))
          refine wpT_move rfl (fun K hK => ?_)
          go_simp
          go_at_call 105
          refine (Hds.out _ _ (Hg.out.below hbb) hsl).mono ?_
          rintro e Y18 ⟨rfl, D⟩
          clear hsl
          replace hev := hev.kept D hev.lt
          replace hbb := hbb.trans (D.mono hbb.size)
          replace hc := (D.cell (p := ⟨B, k, none⟩) (by simpa using World.block_lt_of_cell? _ _ hc)).trans hc
          refine hK.out _ _ hev.cell ?_
          clear hK K
          (try simp only [Act.put, List.setIfInBounds_toArray, List.set_cons_zero, List.set_cons_succ])
          (refine wpT_take rfl ?_ (by rfl) ?_ ?_; rotate_left; (intro w hSw; (try dsimp only at hSw); go_simp; try with_reducible rfl); (try simp only [Act.put, List.setIfInBounds_toArray, List.set_cons_zero, List.set_cons_succ]))
          (refine wpT_take rfl ?_ (by rfl) ?_ ?_; rotate_left; (intro w hSw; (try dsimp only at hSw); go_simp; try with_reducible rfl); (try simp only [Act.put, List.setIfInBounds_toArray, List.set_cons_zero, List.set_cons_succ]))
          refine wpT_move rfl (fun K hK => ?_)
          go_simp
          go_at_call 46
          refine (Hit.out _ (Hg.out.below hbb)).mono ?_
          rintro e Y19 ⟨rfl, D⟩
          replace hev := hev.kept D hev.lt
          replace hbb := hbb.trans (D.mono hbb.size)
          replace hc := (D.cell (p := ⟨B, k, none⟩) (by simpa using World.block_lt_of_cell? _ _ hc)).trans hc
          refine hK.out _ _ hev.cell ?_
          clear hK K
          (try simp only [Act.put, List.setIfInBounds_toArray, List.set_cons_zero, List.set_cons_succ])
          refine wpT_nil ?_
          go_wp2_with fail
          refine NoPanic.normal ?_
          go_wp2_with fail
          go_meet
          exact ⟨congrArg Value.string (by rw [ba_app, ba_app, ba_app, ba_app]), hev, Lib.hid hbb⟩
        · refine wpT_move rfl (fun K hK => ?_)
          go_simp
          go_at_call 105
          refine (Hds.out _ _ (Hg.out.below hbb) hsl).mono ?_
          rintro e Y20 ⟨rfl, D⟩
          clear hsl
          replace hev := hev.kept D hev.lt
          replace hbb := hbb.trans (D.mono hbb.size)
          replace hc := (D.cell (p := ⟨B, k, none⟩) (by simpa using World.block_lt_of_cell? _ _ hc)).trans hc
          refine hK.out _ _ hev.cell ?_
          clear hK K
          (try simp only [Act.put, List.setIfInBounds_toArray, List.set_cons_zero, List.set_cons_succ])
          refine wpT_fork ?_ ?_
          · refine wpT_move rfl (fun K hK => ?_)
            go_simp
            refine hK.out _ _ hev.cell ?_
            clear hK K
            (try simp only [Act.put, List.setIfInBounds_toArray, List.set_cons_zero, List.set_cons_succ])
            (refine wpT_take rfl ?_ (by rfl) ?_ ?_; rotate_left; (intro w hSw; (try dsimp only at hSw); go_simp; try with_reducible rfl); (try simp only [Act.put, List.setIfInBounds_toArray, List.set_cons_zero, List.set_cons_succ]))
            (refine wpT_take rfl ?_ (by rfl) ?_ ?_; rotate_left; (intro w hSw; (try dsimp only at hSw); go_simp; try with_reducible rfl); (try simp only [Act.put, List.setIfInBounds_toArray, List.set_cons_zero, List.set_cons_succ]))
            (refine wpT_take rfl ?_ (by rfl) ?_ ?_; rotate_left; (intro w hSw; (try dsimp only at hSw); go_simp; try with_reducible rfl); (try simp only [Act.put, List.setIfInBounds_toArray, List.set_cons_zero, List.set_cons_succ]))
            refine wpT_move rfl (fun K hK => ?_)
            go_simp
            go_at_call 46
            refine (Hit.out _ (Hg.out.below hbb)).mono ?_
            rintro e Y22 ⟨rfl, D⟩
            replace hev := hev.kept D hev.lt
            replace hbb := hbb.trans (D.mono hbb.size)
            replace hc := (D.cell (p := ⟨B, k, none⟩) (by simpa using World.block_lt_of_cell? _ _ hc)).trans hc
            refine hK.out _ _ hev.cell ?_
            clear hK K
            (try simp only [Act.put, List.setIfInBounds_toArray, List.set_cons_zero, List.set_cons_succ])
            refine wpT_nil ?_
            go_wp2_with fail
            refine NoPanic.normal ?_
            go_wp2_with fail
            go_meet
            exact ⟨congrArg Value.string (by rw [ba_app, ba_app, ba_app, ba_app]), hev, Lib.hid hbb⟩
          · refine wpT_move rfl (fun K hK => ?_)
            go_simp
            go_at_call 46
            refine (Hit.out _ (Hg.out.below hbb)).mono ?_
            rintro e Y23 ⟨rfl, D⟩
            replace hev := hev.kept D hev.lt
            replace hbb := hbb.trans (D.mono hbb.size)
            replace hc := (D.cell (p := ⟨B, k, none⟩) (by simpa using World.block_lt_of_cell? _ _ hc)).trans hc
            refine hK.out _ _ hev.cell ?_
            clear hK K
            (try simp only [Act.put, List.setIfInBounds_toArray, List.set_cons_zero, List.set_cons_succ])
            refine wpT_move rfl (fun K hK => ?_)
            go_simp
            refine hK.out _ _ hev.cell ?_
            clear hK K
            (try simp only [Act.put, List.setIfInBounds_toArray, List.set_cons_zero, List.set_cons_succ])
            (refine wpT_take rfl ?_ (by rfl) ?_ ?_; rotate_left; (intro w hSw; (try dsimp only at hSw); go_simp; try with_reducible rfl); (try simp only [Act.put, List.setIfInBounds_toArray, List.set_cons_zero, List.set_cons_succ]))
            (refine wpT_take rfl ?_ (by rfl) ?_ ?_; rotate_left; (intro w hSw; (try dsimp only at hSw); go_simp; try with_reducible rfl); (try simp only [Act.put, List.setIfInBounds_toArray, List.set_cons_zero, List.set_cons_succ]))
            (refine wpT_take rfl ?_ (by rfl) ?_ ?_; rotate_left; (intro w hSw; (try dsimp only at hSw); go_simp; try with_reducible rfl); (try simp only [Act.put, List.setIfInBounds_toArray, List.set_cons_zero, List.set_cons_succ]))
            refine wpT_nil ?_
            go_wp2_with fail
            refine NoPanic.normal ?_
            go_wp2_with fail
            go_meet
            exact ⟨congrArg Value.string (by rw [ba_app, ba_app, ba_app, ba_app]), hev, Lib.hid hbb⟩
    case rest =>
      obtain ⟨rfl, hev2, Hbb2⟩ := hcut
      have Hev2 := Lib.hid hev2
      obtain ⟨x, hx⟩ : ∃ x, x = word ++ [32] ++ j ++ [32] ++ dn := ⟨_, rfl⟩
      have hxl : x.length ≤ 1000 := by rw [hx]; simp; omega
      rw [← hx] at HT ⊢
      clear hx hev2 hl1 hl2 hl3 hl4
      have Hp := Lib.hid (parseQnC x _ (Hg.out.below Hbb2.out) (by omega))
      unfold QuR at Hp
      cases hpe : parseQn x with
      | none =>
        rw [hpe] at Hp
        have HF := Lib.hid (show T = [] by rw [← HT.out, if_neg (by rw [hpe]; simp)])
        clear HT hpe
        unfold sv at Hp
        go_wp2_with (go_at_call 88; refine Hp.out.mono ?_; rintro e w5 ⟨rfl, D5⟩; unfold qva; replace D5 := Lib.hid D5)
        go_ret
        exact ⟨by rw [HF.out]; rfl, (Hbb2.out.trans (D5.out.mono Hbb2.out.size)).alloc (by have := Hbb2.out.size; have := D5.out.size; omega) _⟩
      | some e2 =>
        rw [hpe] at Hp
        have HF := Lib.hid (show T = if e2 = ⟨a, b, c, k, ix⟩ then x else [] by rw [← HT.out, hpe]; simp)
        clear HT hpe
        obtain ⟨a0, a1, a2, a3, a4⟩ := e2
        have hz := fun W => run_neq_Question a0 a1 a2 a3 a4 a b c k ix W
        obtain ⟨ee, hee⟩ : ∃ ee, ee = eqL [a0, a1, a2, a3, a4] [a, b, c, (k : Int), ix] := ⟨_, rfl⟩
        rw [← hee] at hz
        have HE := Lib.hid (show T = if ee = true then x else [] by
          rw [HF.out, hee]
          by_cases h : [a0, a1, a2, a3, a4] = [a, b, c, (k : Int), ix]
          · rw [eqL_true h, if_pos rfl, if_pos (by simp only [List.cons.injEq] at h; obtain ⟨e1, e2, e3, e4, e5, _⟩ := h; rw [e1, e2, e3, e4, e5])]
          · rw [eqL_false h, if_neg (fun e => h (by injection e with e1 e2 e3 e4 e5; rw [e1, e2, e3, e4, e5]))]; rfl)
        clear hee HF
        unfold sv at Hp
        go_upto_region 5 with (go_at_call 88; refine Hp.out.mono ?_; rintro e w5 ⟨rfl, D5⟩; unfold qva; replace D5 := Lib.hid D5)
        have h5 := (Hev2.out.kept D5.out Hev2.out.lt).alloc (.cells #[I a0, I a1, I a2, I a3, I a4] 58)
        have h6 := Blk.new w5 #[I a0, I a1, I a2, I a3, I a4] 58
        have hBB := Lib.hid ((Hbb2.out.trans (D5.out.mono Hbb2.out.size)).alloc (by have := Hbb2.out.size; have := D5.out.size; omega) (.cells #[I a0, I a1, I a2, I a3, I a4] 58))
        obtain ⟨V, hV⟩ : ∃ V, V = w5.alloc (.cells #[I a0, I a1, I a2, I a3, I a4] 58) := ⟨_, rfl⟩
        obtain ⟨G, hG⟩ : ∃ G, G = w5.heap.size := ⟨_, rfl⟩
        rw [← hV] at h5 h6 hBB ⊢
        rw [← hG] at h6 ⊢
        clear hV hG
        have x0 := h5.cell 0; have x1 := h5.cell 1; have x2 := h5.cell 2; have x3 := h5.cell 3; have x4 := h5.cell 4
        have y0 := h6.cell 0; have y1 := h6.cell 1; have y2 := h6.cell 2; have y3 := h6.cell 3; have y4 := h6.cell 4
        cases ee with
        | true =>
          go_wp2_with fail
          go_ret
          exact ⟨by rw [HE.out]; rfl, hBB.out⟩
        | false =>
          go_wp2_with fail
          go_ret
          exact ⟨by rw [HE.out]; rfl, hBB.out⟩

end Go.Proofs.YtljmonfobefiiaaGreatDoor
