/- tape.With. (Printed by mkG13.py, then gen.py.) -/
import Derived.Test.YtjdhcdbjfbhogaaG12
import Derived.Test.YtjdhcdbjfbhogaaOT
namespace Go.Proofs.Ytjdhcdbjfbhogaa
open Go.RowKit Go.Maps

theorem wanted_none {o : Oper} (h : o.guard = none) (y : Nat → Option Bool) : Region.wanted o y = true := by simp [Region.wanted, h]
theorem wp_appB {P : Program} {w : World} {o : Oper} {a : Act} {K : Act → World → Prop} {Q : Exit → Act → World → Prop} (hgd : o.guard = none) (s x : Operand) (t : TypeId)
    (ho : o.op = .call { callee := .builtin .append, args := #[s, x], argTypes := #[t, t] })
    (e : TypeId) (z : Value) (k bytes : Nat) (ht : P.underlying t = some (.slice e)) (hinfo : (P.info? e).map (fun i => (i.zero, i.size, i.bytes)) = some (some z, k, bytes)) (hzs : z.cells.size = k) (hk : 0 < k) (hby : bytes ≤ 1000)
    (B : Nat) (v : Value) (n : Nat) (xs : List Value) (hs : a.eval s = v) (hown : w.ownsRow B e k v n xs)
    (b m c : Nat) (cs : Array Value) (t' : TypeId) (hx : a.eval x = .slice (some ⟨b, 0, none⟩) m c) (hblk : w.heap[b]? = some (.cells cs t' (0, 0))) (hl : cs.size = m * k) (h1 : cs.toList.all Value.oneCell' = true)
    (hm : 0 < m) (hbd : n + m ≤ 100000000) (hbase : B ≤ w.heap.size)
    (h : ∀ g cap w', B ≤ g → g < w'.heap.size → (v.ownBlock = some g ∨ g = w.heap.size) → w'.ownsRow B e k (.slice (some ⟨g, 0, none⟩) (n + m) cap) (n + m) (xs ++ cs.toList) → w.grownBy w' v.ownBlock → Below B w w' →
      K (a.put o.dst (.slice (some ⟨g, 0, none⟩) (n + m) cap)) w') : Oper.wp P o a w K Q := by
  have := step_appB (ops := #[]) (E := False) (Q := Q) (K := K) hgd s x t ho e z k bytes ht hinfo hzs hk hby B v n xs hs hown b m c cs t' hx hblk hl h1 hm hbd hbase h
  rwa [if_pos (wanted_none hgd _)] at this

set_option maxHeartbeats 4000000 in
set_option maxRecDepth 100000 in
theorem withF (evs : List Ev) (l : List Ans) (ve va : Value) (q : Qn) (n : Int) (w : World) (he : EvSl w ve evs) (ha : AnsSl w va l) (hok : ∀ a ∈ l ++ [⟨q, n⟩], a.ok) (hle : evs.length ≤ 1000000) (hl : l.length ≤ 100000) :
    Calls Try.prog 38 #[.agg #[ve, va], .agg #[I q.node, I q.handler, I q.count, I q.kind, I q.index], I n] w fun e w' => ∃ ue ua, e = .returned (.agg #[ue, ua]) ∧ w'.ownsRow w.heap.size 56 8 ue evs.length (evs.flatMap ec) ∧ w'.ownsRow w.heap.size 75 6 ua (normA (l ++ [⟨q, n⟩])).length ((normA (l ++ [⟨q, n⟩])).flatMap ac) ∧ Below w.heap.size w w' := by
  have Hok := Lib.hid hok
  have He := Lib.hid he
  have Ha := Lib.hid ha
  have hk0 : Kp2 w #[ve, va] #[I q.node, I q.handler, I q.count, I q.kind, I q.index] ((w.alloc (.cells #[ve, va] 26)).alloc (.cells #[I q.node, I q.handler, I q.count, I q.kind, I q.index] 66)) := ⟨(Blk.new _ _ _).alloc _, ⟨_, heap_alloc2_new w _ _⟩, (by repeat (first | exact Below.refl _ _ | assumption | refine Below.drew ?_ | refine below_drewN ?_ _ | refine Below.alloc ?_ (by simp <;> omega) _ | refine Below.setCell ?_ (by simp <;> omega) _)), by simp⟩
  have kpT := hk0.alloc (.cells #[.slice none 0 0, .slice none 0 0] 26)
  have hres3 := Blk.new ((w.alloc (.cells #[ve, va] 26)).alloc (.cells #[I q.node, I q.handler, I q.count, I q.kind, I q.index] 66)) #[.slice none 0 0, .slice none 0 0] 26
  simp only [World.size_alloc] at hres3
  have hs3 : (((w.alloc (.cells #[ve, va] 26)).alloc (.cells #[I q.node, I q.handler, I q.count, I q.kind, I q.index] 66)).alloc (.cells #[.slice none 0 0, .slice none 0 0] 26)).heap.size = w.heap.size + 3 := by simp
  clear he ha hok hk0
  go_enter Try.func38, Try.ntmps38
  go_upto_region 1 with fail
  generalize ((w.alloc (.cells #[ve, va] 26)).alloc (.cells #[I q.node, I q.handler, I q.count, I q.kind, I q.index] 66)).alloc (.cells #[.slice none 0 0, .slice none 0 0] 26) = w3 at kpT hres3 hs3 ⊢
  refine wp_region_T 8 (.take 0 (.take 1 (.take 3 (.take 4 (.take 5 (.fork 2 6 (.move 6 (.move 7 .nil)) (.move 2 (.move 7 .nil)))))))) (fun w' => (∀ j, w'.cell? ⟨w.heap.size, j, none⟩ = (#[ve, va] : Array Value)[j]?) ∧ (∀ j, w'.cell? ⟨w.heap.size + 1, j, none⟩ = (#[I q.node, I q.handler, I q.count, I q.kind, I q.index] : Array Value)[j]?)) (by kernel_rfl) rfl (by kernel_rfl) (Kp2.S kpT.drew) ?_
  iterate 5 (refine wpT_take rfl ?_ (by rfl) ?_ ?_; rotate_left; (intro w hSw; (try dsimp only at hSw); go_simp; try with_reducible rfl); (try simp only [Act.put, List.setIfInBounds_toArray, List.set_cons_zero, List.set_cons_succ]))
  refine wpT_fork ?_ ?_
  · refine wpT_move rfl (fun K hK => ?_)
    go_simp
    refine (cloneAns l va _ (AnsSl.kept Ha.out kpT.2.2.1.drew (Nat.le_refl _)) (by omega)).mono ?_
    rintro e w4 ⟨u, rfl, ho4, hB4⟩
    obtain ⟨k9, c9, rfl, _⟩ := (Flat.of_owns ho4).open
    have hB4' : Below w3.heap.size w3 w4 := ⟨hB4.os, hB4.tape, hB4.output, hB4.size, hB4.block⟩
    have kp4 := kpT.call hB4'
    have hz4 := hB4'.size
    have ho4' : w4.ownsRow (w.heap.size + 3) 75 6 (.slice k9 l.length c9) l.length (l.flatMap ac) := owns_weaken ho4 (Nat.le_of_eq hs3.symm)
    refine hK.out _ _ (Kp2.S kp4) ?_
    clear hK K hB4 ho4
    (try simp only [Act.put, List.setIfInBounds_toArray, List.set_cons_zero, List.set_cons_succ])
    refine wpT_move rfl (fun K hK => ?_)
    go_simp
    refine hK.out _ _ (Kp2.S (kp4.alloc _)) ?_
    clear hK K
    (try simp only [Act.put, List.setIfInBounds_toArray, List.set_cons_zero, List.set_cons_succ])

    refine wpT_move rfl (fun K hK => ?_)
    refine wp_appB (by rfl) _ _ 24 (by rfl) 75 _ 6 48 Try.underlying24 info75 rfl (by omega) (by omega) (w.heap.size + 3) (.slice k9 l.length c9) l.length _ (by rfl) (ho4'.alloc _) w4.heap.size 1 1 #[I q.node, I q.handler, I q.count, I q.kind, I q.index, I n] 75 (by rfl) (heap_alloc_new w4 _) rfl rfl (by omega) (by omega) (by first | omega | (simp; omega)) ?_
    intro g6 cap6 w6 hg6a hg6b hg6c ho6 hgr6 hB6
    have hB36 : Below (w.heap.size + 3) w3 w6 := ((hB4'.mono (by omega)).alloc (by omega) _).trans hB6
    have hblkT := kpT.1.kept hB36 (by omega)
    have hblkq := kpT.2.1.kept hB36 (by omega)
    have hres6 := hres3.kept hB36 (by omega)
    have hB6w : Below w.heap.size w w6 := kpT.2.2.1.trans (hB36.mono (by omega))
    have hz6 := hB36.size
    refine hK.out _ _ ⟨hblkT.cell, hblkq.cell⟩ ?_
    clear hK K hgr6 hB6 hg6c

    have hblkT6 := hblkT.set 1 (.slice (some ⟨g6, 0, none⟩) (l.length + 1) cap6)
    have hresT6 := hres6.setOther ⟨w.heap.size, 1, none⟩ (.slice (some ⟨g6, 0, none⟩) (l.length + 1) cap6) (by simp <;> omega)
    have hbS := hB6w.setCell (p := ⟨w.heap.size, 1, none⟩) (by simp) (.slice (some ⟨g6, 0, none⟩) (l.length + 1) cap6)
    have hoS := ho6.kept (grown_set w6 ⟨w.heap.size, 1, none⟩ (.slice (some ⟨g6, 0, none⟩) (l.length + 1) cap6)) (.inr (by simp [Value.ownBlock]; omega))
    have hsS : (w6.setCell ⟨w.heap.size, 1, none⟩ (.slice (some ⟨g6, 0, none⟩) (l.length + 1) cap6)).heap.size = w6.heap.size := by simp
    have ct1 := hblkT.cell 1
    have ft1 := hblkT.frozen 1
    have HblkT6 := Lib.hid hblkT6
    have HresT6 := Lib.hid hresT6
    have HbS := Lib.hid hbS
    have HoS := Lib.hid hoS
    clear hblkT6 hresT6 hbS hoS hblkT hres6 ho6
    (try simp only [Act.put, List.setIfInBounds_toArray, List.set_cons_zero, List.set_cons_succ])
    refine wpT_nil ?_
    go_wp2_with fail
    refine NoPanic.normal ?_
    go_upto_region 2 with fail
    generalize w6.setCell ⟨w.heap.size, 1, none⟩ (.slice (some ⟨g6, 0, none⟩) (l.length + 1) cap6) = w7 at HblkT6 HresT6 HbS HoS hsS ⊢
    have cT := HblkT6.out.cell
    have hans7 : AnsSl w7 (.slice (some ⟨g6, 0, none⟩) (l.length + 1) cap6) (l ++ [⟨q, n⟩]) := by
      have h := Flat.of_owns HoS.out
      unfold AnsSl
      rw [List.length_append, List.flatMap_append]
      exact h
    have HN := Lib.hid (normalF evs (l ++ [⟨q, n⟩]) ve (.slice (some ⟨g6, 0, none⟩) (l.length + 1) cap6) w7 (EvSl.kept He.out HbS.out (Nat.le_refl _)) hans7 Hok.out hle (by simp; omega))
    clear hans7
    go_wp2_with (go_at_call 26; refine HN.out.mono ?_; rintro e w8 ⟨ue, ua, rfl, hue, hua, hB8⟩; obtain ⟨ke, ce, rfl, _⟩ := (Flat.of_owns hue).open; obtain ⟨ka8, ca8, rfl, _⟩ := (Flat.of_owns hua).open; have hres8 := HresT6.out.kept hB8 HresT6.out.lt; have r0 := hres8.cell 0; have r1 := hres8.cell 1; have fr0 := hres8.frozen 0; have fr1 := hres8.frozen 1)
    have hfin : Blk ((w8.setCell ⟨w.heap.size + 1 + 1, 0, none⟩ (.slice ke evs.length ce)).setCell ⟨w.heap.size + 1 + 1, 1, none⟩ (.slice ka8 (normA (l ++ [⟨q, n⟩])).length ca8)) (w.heap.size + 1 + 1) #[.slice ke evs.length ce, .slice ka8 (normA (l ++ [⟨q, n⟩])).length ca8] := (hres8.set 0 _).set 1 _
    have hgs : w8.grownBy ((w8.setCell ⟨w.heap.size + 1 + 1, 0, none⟩ (.slice ke evs.length ce)).setCell ⟨w.heap.size + 1 + 1, 1, none⟩ (.slice ka8 (normA (l ++ [⟨q, n⟩])).length ca8)) (some (w.heap.size + 1 + 1)) := (grown_set w8 ⟨w.heap.size + 1 + 1, 0, none⟩ _).trans (grown_set _ ⟨w.heap.size + 1 + 1, 1, none⟩ _)
    have hua' := hua.kept hgs (by
      cases hv : (Value.slice ka8 (normA (l ++ [⟨q, n⟩])).length ca8).ownBlock with
      | none => exact .inl rfl
      | some g => exact .inr (fun e => by have := (hua.lt g hv).1; simp at e; omega))
    have hue' := hue.kept hgs (by
      cases hv : (Value.slice ke evs.length ce).ownBlock with
      | none => exact .inl rfl
      | some g => exact .inr (fun e => by have := (hue.lt g hv).1; simp at e; omega))
    have hB9 : Below w.heap.size w ((w8.setCell ⟨w.heap.size + 1 + 1, 0, none⟩ (.slice ke evs.length ce)).setCell ⟨w.heap.size + 1 + 1, 1, none⟩ (.slice ka8 (normA (l ++ [⟨q, n⟩])).length ca8)) := (HbS.out.trans (hB8.mono (by omega))).grown hgs (by have := hB8.size; omega) (fun g hg => by cases hg; omega)
    generalize ((w8.setCell ⟨w.heap.size + 1 + 1, 0, none⟩ (.slice ke evs.length ce)).setCell ⟨w.heap.size + 1 + 1, 1, none⟩ (.slice ka8 (normA (l ++ [⟨q, n⟩])).length ca8)) = W5 at hfin hgs hua' hue' hB9 ⊢
    obtain ⟨t5, ht5⟩ := hfin
    have hr : ∀ tmps : Array Value, tmps.getD 6 undef = .pointer (some ⟨w.heap.size + 1 + 1, 0, none⟩) → (results Try.f38 tmps).run Try.prog W5 = .ok (.agg #[.slice ke evs.length ce, .slice ka8 (normA (l ++ [⟨q, n⟩])).length ca8]) W5 := fun tmps hp => results_cell_row Try.results38 tmps W5 (w.heap.size + 1 + 1) t5 _ (0, 0) _ hp ht5 Try.underlying26 rfl (by kernel_rfl)
    refine bodyPost_ret (hr _ rfl) rfl ?_
    exact ⟨_, _, rfl, owns_weaken hue' (by omega), owns_weaken hua' (by omega), hB9⟩

  · refine wpT_move rfl (fun K hK => ?_)
    go_simp
    refine hK.out _ _ (Kp2.S (kpT.alloc _).drew) ?_
    clear hK K
    (try simp only [Act.put, List.setIfInBounds_toArray, List.set_cons_zero, List.set_cons_succ])
    refine wpT_move rfl (fun K hK => ?_)
    go_simp
    refine (cloneAns l va _ (AnsSl.kept Ha.out (kpT.2.2.1.alloc (by omega) _).drew (Nat.le_refl _)) (by omega)).mono ?_
    rintro e w4 ⟨u, rfl, ho4, hB4⟩
    obtain ⟨k9, c9, rfl, _⟩ := (Flat.of_owns ho4).open
    have hB4' : Below (w3.heap.size + 1) (w3.alloc (.cells #[I q.node, I q.handler, I q.count, I q.kind, I q.index, I n] 75)) w4 := ⟨hB4.os, hB4.tape, hB4.output, hB4.size, fun k hk => hB4.block k (by simp; omega)⟩
    have hB34 : Below w3.heap.size w3 w4 := ((Below.refl _ w3).alloc (Nat.le_refl _) _).trans (hB4'.mono (by omega))
    have kp4 := kpT.call hB34
    have hz4 := hB4'.size
    simp only [World.size_alloc] at hz4
    have hlit : w4.heap[w.heap.size + 3]? = some (.cells #[I q.node, I q.handler, I q.count, I q.kind, I q.index, I n] 75) := by rw [← hs3]; exact (hB4'.block w3.heap.size (by omega)).trans (heap_alloc_new w3 _)
    have ho4' : w4.ownsRow (w.heap.size + 3) 75 6 (.slice k9 l.length c9) l.length (l.flatMap ac) := owns_weaken ho4 (by simp; omega)
    refine hK.out _ _ (Kp2.S kp4) ?_
    clear hK K hB4 ho4
    (try simp only [Act.put, List.setIfInBounds_toArray, List.set_cons_zero, List.set_cons_succ])

    refine wpT_move rfl (fun K hK => ?_)
    refine wp_appB (by rfl) _ _ 24 (by rfl) 75 _ 6 48 Try.underlying24 info75 rfl (by omega) (by omega) (w.heap.size + 3) (.slice k9 l.length c9) l.length _ (by rfl) ho4' (w.heap.size + 3) 1 1 #[I q.node, I q.handler, I q.count, I q.kind, I q.index, I n] 75 (by rfl) hlit rfl rfl (by omega) (by omega) (by first | omega | (simp; omega)) ?_
    intro g6 cap6 w6 hg6a hg6b hg6c ho6 hgr6 hB6
    have hB36 : Below (w.heap.size + 3) w3 w6 := (hB34.mono (by omega)).trans hB6
    have hblkT := kpT.1.kept hB36 (by omega)
    have hblkq := kpT.2.1.kept hB36 (by omega)
    have hres6 := hres3.kept hB36 (by omega)
    have hB6w : Below w.heap.size w w6 := kpT.2.2.1.trans (hB36.mono (by omega))
    have hz6 := hB36.size
    refine hK.out _ _ ⟨hblkT.cell, hblkq.cell⟩ ?_
    clear hK K hgr6 hB6 hg6c

    have hblkT6 := hblkT.set 1 (.slice (some ⟨g6, 0, none⟩) (l.length + 1) cap6)
    have hresT6 := hres6.setOther ⟨w.heap.size, 1, none⟩ (.slice (some ⟨g6, 0, none⟩) (l.length + 1) cap6) (by simp <;> omega)
    have hbS := hB6w.setCell (p := ⟨w.heap.size, 1, none⟩) (by simp) (.slice (some ⟨g6, 0, none⟩) (l.length + 1) cap6)
    have hoS := ho6.kept (grown_set w6 ⟨w.heap.size, 1, none⟩ (.slice (some ⟨g6, 0, none⟩) (l.length + 1) cap6)) (.inr (by simp [Value.ownBlock]; omega))
    have hsS : (w6.setCell ⟨w.heap.size, 1, none⟩ (.slice (some ⟨g6, 0, none⟩) (l.length + 1) cap6)).heap.size = w6.heap.size := by simp
    have ct1 := hblkT.cell 1
    have ft1 := hblkT.frozen 1
    have HblkT6 := Lib.hid hblkT6
    have HresT6 := Lib.hid hresT6
    have HbS := Lib.hid hbS
    have HoS := Lib.hid hoS
    clear hblkT6 hresT6 hbS hoS hblkT hres6 ho6
    (try simp only [Act.put, List.setIfInBounds_toArray, List.set_cons_zero, List.set_cons_succ])
    refine wpT_nil ?_
    go_wp2_with fail
    refine NoPanic.normal ?_
    go_upto_region 2 with fail
    generalize w6.setCell ⟨w.heap.size, 1, none⟩ (.slice (some ⟨g6, 0, none⟩) (l.length + 1) cap6) = w7 at HblkT6 HresT6 HbS HoS hsS ⊢
    have cT := HblkT6.out.cell
    have hans7 : AnsSl w7 (.slice (some ⟨g6, 0, none⟩) (l.length + 1) cap6) (l ++ [⟨q, n⟩]) := by
      have h := Flat.of_owns HoS.out
      unfold AnsSl
      rw [List.length_append, List.flatMap_append]
      exact h
    have HN := Lib.hid (normalF evs (l ++ [⟨q, n⟩]) ve (.slice (some ⟨g6, 0, none⟩) (l.length + 1) cap6) w7 (EvSl.kept He.out HbS.out (Nat.le_refl _)) hans7 Hok.out hle (by simp; omega))
    clear hans7
    go_wp2_with (go_at_call 26; refine HN.out.mono ?_; rintro e w8 ⟨ue, ua, rfl, hue, hua, hB8⟩; obtain ⟨ke, ce, rfl, _⟩ := (Flat.of_owns hue).open; obtain ⟨ka8, ca8, rfl, _⟩ := (Flat.of_owns hua).open; have hres8 := HresT6.out.kept hB8 HresT6.out.lt; have r0 := hres8.cell 0; have r1 := hres8.cell 1; have fr0 := hres8.frozen 0; have fr1 := hres8.frozen 1)
    have hfin : Blk ((w8.setCell ⟨w.heap.size + 1 + 1, 0, none⟩ (.slice ke evs.length ce)).setCell ⟨w.heap.size + 1 + 1, 1, none⟩ (.slice ka8 (normA (l ++ [⟨q, n⟩])).length ca8)) (w.heap.size + 1 + 1) #[.slice ke evs.length ce, .slice ka8 (normA (l ++ [⟨q, n⟩])).length ca8] := (hres8.set 0 _).set 1 _
    have hgs : w8.grownBy ((w8.setCell ⟨w.heap.size + 1 + 1, 0, none⟩ (.slice ke evs.length ce)).setCell ⟨w.heap.size + 1 + 1, 1, none⟩ (.slice ka8 (normA (l ++ [⟨q, n⟩])).length ca8)) (some (w.heap.size + 1 + 1)) := (grown_set w8 ⟨w.heap.size + 1 + 1, 0, none⟩ _).trans (grown_set _ ⟨w.heap.size + 1 + 1, 1, none⟩ _)
    have hua' := hua.kept hgs (by
      cases hv : (Value.slice ka8 (normA (l ++ [⟨q, n⟩])).length ca8).ownBlock with
      | none => exact .inl rfl
      | some g => exact .inr (fun e => by have := (hua.lt g hv).1; simp at e; omega))
    have hue' := hue.kept hgs (by
      cases hv : (Value.slice ke evs.length ce).ownBlock with
      | none => exact .inl rfl
      | some g => exact .inr (fun e => by have := (hue.lt g hv).1; simp at e; omega))
    have hB9 : Below w.heap.size w ((w8.setCell ⟨w.heap.size + 1 + 1, 0, none⟩ (.slice ke evs.length ce)).setCell ⟨w.heap.size + 1 + 1, 1, none⟩ (.slice ka8 (normA (l ++ [⟨q, n⟩])).length ca8)) := (HbS.out.trans (hB8.mono (by omega))).grown hgs (by have := hB8.size; omega) (fun g hg => by cases hg; omega)
    generalize ((w8.setCell ⟨w.heap.size + 1 + 1, 0, none⟩ (.slice ke evs.length ce)).setCell ⟨w.heap.size + 1 + 1, 1, none⟩ (.slice ka8 (normA (l ++ [⟨q, n⟩])).length ca8)) = W5 at hfin hgs hua' hue' hB9 ⊢
    obtain ⟨t5, ht5⟩ := hfin
    have hr : ∀ tmps : Array Value, tmps.getD 6 undef = .pointer (some ⟨w.heap.size + 1 + 1, 0, none⟩) → (results Try.f38 tmps).run Try.prog W5 = .ok (.agg #[.slice ke evs.length ce, .slice ka8 (normA (l ++ [⟨q, n⟩])).length ca8]) W5 := fun tmps hp => results_cell_row Try.results38 tmps W5 (w.heap.size + 1 + 1) t5 _ (0, 0) _ hp ht5 Try.underlying26 rfl (by kernel_rfl)
    refine bodyPost_ret (hr _ rfl) rfl ?_
    exact ⟨_, _, rfl, owns_weaken hue' (by omega), owns_weaken hua' (by omega), hB9⟩


end Go.Proofs.Ytjdhcdbjfbhogaa
