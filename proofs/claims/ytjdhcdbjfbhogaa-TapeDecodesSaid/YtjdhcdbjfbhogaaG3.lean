/- tape.answers. -/
import Derived.Test.YtjdhcdbjfbhogaaG2
import Derived.Deep.CutRange
import Derived.Deep.DeepMust
namespace Go.Proofs.Ytjdhcdbjfbhogaa
open Go.RowKit Go.Maps

theorem size75 : (Try.prog.info? 75).map (·.size) = some 6 := by kernel_rfl
theorem size66 : (Try.prog.info? 66).map (·.size) = some 5 := by kernel_rfl
theorem ranged_below {w w' : World} {B b o : Nat} {cs : List Value} (h : w.rangeAt b o cs) (hb : Below B w w') (hB : w.heap.size ≤ B) : w'.rangeAt b o cs := fun j v hv => by
  have h1 := h j v hv
  have h2 := World.block_lt_of_cell? _ _ h1
  rw [hb.cell (p := ⟨b, o + j, none⟩) (by simp at h2 ⊢; omega)]
  exact h1
theorem blk_range {W : World} {g : Nat} {cs : Array Value} (h : Blk W g cs) (o : Nat) (xs : List Value) (hx : ∀ j v, xs[j]? = some v → cs[o + j]? = some v) : W.rangeAt g o xs := fun j v hv => by
  rw [h.cell]
  exact hx j v hv
section
variable {ops : Array Oper} {Q : Exit → Act → World → Prop} {rest : List Oper} {o : Oper} {a : Act} {w : World}
theorem wpList_load75 (hgd : o.guard = none) (x : Operand) (ho : o.op = .load 75 x) (b off : Nat) (cs : List Value) (hl : cs.length = 6) (hx : a.eval x = .pointer (some ⟨b, off, none⟩)) (hc : w.rangeAt b off cs)
    (h : wpList Try.prog ops Q rest (a.put o.dst (.agg cs.toArray)) w) : wpList Try.prog ops Q (o :: rest) a w :=
  wpList_load_mid hgd 75 x ho b off hx cs _ hc Try.underlying75 rfl (by rw [hl]; exact size75) h
end

set_option maxHeartbeats 4000000 in
set_option maxRecDepth 100000 in
theorem answersF (l : List Ans) (ve va : Value) (w : World) (ha : AnsSl w va l) (hok : ∀ a ∈ l, a.ok) (hl : l.length ≤ 1000000) :
    Calls Try.prog 61 #[.agg #[ve, va]] w fun e w' => ∃ b D, e = .returned (.map (some b)) ∧ w.heap.size ≤ b ∧ w'.ownsMap (H := Unit) Try.prog 66 (plainElem Try.prog 3) b l.length D ∧ MapA D (getA l) ∧ Below w.heap.size w w' := by
  obtain ⟨ka, ca, rfl, hml⟩ := ha.open
  have Hok := Lib.hid hok
  have hmm := @run_makeMap Try.prog
  clear hok
  go_enter Try.func61, Try.ntmps61
  go_wp2_with fail
  clear hmm
  have hstart : ((w.alloc (.cells #[ve, .slice ka l.length ca] 26)).alloc (.map #[] 0)).ownsMap (H := Unit) Try.prog 66 (plainElem Try.prog 3) (w.heap.size + 1) 0 (.map []) := by
    have := World.ownsMap_made (H := Unit) (w.alloc (.cells #[ve, .slice ka l.length ca] 26)) Try.prog 66 (plainElem Try.prog 3)
    rwa [World.size_alloc] at this
  have Hstart := Lib.hid hstart
  clear hstart
  go_loopw [10] (fun p wr => ∃ (k : Nat) (D : DataW Unit), k ≤ l.length ∧ p = .int .i64 k ∧ Hid (wr.ownsMap (H := Unit) Try.prog 66 (plainElem Try.prog 3) (w.heap.size + 1) k D) ∧ Hid (MapA D (getA (l.take k))) ∧ Below w.heap.size w wr) (fun p _ => l.length - (intOf p).toNat)
  case atStart => exact ⟨0, .map [], by omega, rfl, Lib.hid Hstart.out, Lib.hid MapA.empty, (by repeat (first | exact Below.refl _ _ | assumption | refine Below.drew ?_ | refine below_drewN ?_ _ | refine Below.alloc ?_ (by simp <;> omega) _ | refine Below.setCell ?_ (by simp <;> omega) _))⟩
  case round =>
    clear Hstart
    obtain ⟨k, D, hk, rfl, Hown, HM, hB⟩ := hrel
    by_cases hlt : k < l.length
    · obtain ⟨b, o, rfl, hr⟩ := (ha.kept hB (Nat.le_refl _)).at (i := k) (x := l[k]) (by simp [hlt])
      have hq := Hok.out l[k] (List.getElem_mem hlt)
      have hkey := keyQ l[k].q hq.1
      have hwf := wf_of hq.2
      have Hq := Lib.hid hq.1
      have Hkey := Lib.hid hkey
      have Hwf := Lib.hid hwf
      have Hr := Lib.hid hr
      have hzz := hB.size
      have hbl : w.heap.size + 1 < wr.heap.size := Hown.out.lt
      have hgt := getA_snoc (l.take k) l[k]
      rw [← List.take_succ_eq_append_getElem hlt] at hgt
      have Hgt := Lib.hid hgt
      clear hq hkey hwf hr hgt
      go_upto_region 5 with ((with_reducible refine wpList_load75 rfl _ rfl b (o + k * 6) [I l[k].q.node, I l[k].q.handler, I l[k].q.count, I l[k].q.kind, I l[k].q.index, I l[k].n] rfl ?_ ?_ ?_); (rfl); (exact Hr.out))
      have hblk : Blk (wr.alloc (.cells #[I l[k].q.node, I l[k].q.handler, I l[k].q.count, I l[k].q.kind, I l[k].q.index, I l[k].n] 75)) wr.heap.size #[I l[k].q.node, I l[k].q.handler, I l[k].q.count, I l[k].q.kind, I l[k].q.index, I l[k].n] := Blk.new _ _ _
      have hown1 := Hown.out.alloc (.cells #[I l[k].q.node, I l[k].q.handler, I l[k].q.count, I l[k].q.kind, I l[k].q.index, I l[k].n] 75)
      have hB1 : Below w.heap.size w (wr.alloc (.cells #[I l[k].q.node, I l[k].q.handler, I l[k].q.count, I l[k].q.kind, I l[k].q.index, I l[k].n] 75)) := hB.alloc hzz _
      have hs1 : (wr.alloc (.cells #[I l[k].q.node, I l[k].q.handler, I l[k].q.count, I l[k].q.kind, I l[k].q.index, I l[k].n] 75)).heap.size = wr.heap.size + 1 := World.size_alloc _ _
      generalize wr.alloc (.cells #[I l[k].q.node, I l[k].q.handler, I l[k].q.count, I l[k].q.kind, I l[k].q.index, I l[k].n] 75) = w1 at hblk hown1 hB1 hs1 ⊢
      have Hown1 := Lib.hid hown1
      have Hblk := Lib.hid hblk
      have Hs1 := Lib.hid hs1
      have c0 := hblk.cell 0
      have c1 := hblk.cell 1
      have c2 := hblk.cell 2
      have c3 := hblk.cell 3
      have c4 := hblk.cell 4
      clear hown1 hblk hs1
      go_upto_region 6 with (at_delete; refine wpList_delete_own (H := Unit) _ rfl _ _ 102 66 rfl 3 law66 Try.underlying102 (plainElem Try.prog 3) (w.heap.size + 1) k D rfl Hown1.out l[k].q.val (qLit l[k].q) rfl Hkey.out ?_; intro w2 hown2 hturn2)
      simp only [Act.put]
      have hg2 := hturn2.grown
      have hblk2 : Blk w2 wr.heap.size #[I l[k].q.node, I l[k].q.handler, I l[k].q.count, I l[k].q.kind, I l[k].q.index, I l[k].n] := Hblk.out.grown hg2 (by simp; omega)
      have hB2 : Below w.heap.size w w2 := hB1.grown hg2 (by have := hB1.size; omega) (fun g hg => by cases hg; omega)
      have Hown2 := Lib.hid hown2
      have c0 := hblk2.cell 0
      have c1 := hblk2.cell 1
      have c2 := hblk2.cell 2
      have c3 := hblk2.cell 3
      have c4 := hblk2.cell 4
      have c5 := hblk2.cell 5
      clear hown2 hturn2 hg2 hblk2 hB1 Hown1 Hblk Hs1
      obtain ⟨nn, hnn⟩ : ∃ nn, nn = l[k].n := ⟨_, rfl⟩
      have Hnn := Lib.hid hnn
      by_cases hn : 0 < l[k].n
      · have hM : MapA ((D.del (qLit l[k].q)).put (qLit l[k].q) (.lit (.int .i64 l[k].n))) (getA (l.take (k + 1))) := ((HM.out.del l[k].q Hq.out).put l[k].q Hq.out l[k].n hn).congr fun p => by
          unfold getA
          rw [List.take_succ_eq_append_getElem hlt, List.foldl_append]
          by_cases e : l[k].q = p
          · simp [e]; omega
          · simp [e]
        have HM' := Lib.hid hM
        clear hM hnn
        go_wp2_with (at_mapUpdate; refine wpList_mapUpdate_own (H := Unit) _ rfl _ _ _ 102 rfl 66 3 law66 Try.underlying102 (plainElem Try.prog 3) (w.heap.size + 1) k _ rfl Hown2.out (by unfold maxLen; omega) l[k].q.val (I l[k].n) (qLit l[k].q) rfl rfl Hkey.out (.lit (.int .i64 l[k].n)) [] (plainElem_int Try.underlying3 Hwf.out) ?_; intro w3 hown3 hgr3)
        have hB3 : Below w.heap.size w w3 := hB2.grown hgr3 (by have := hB2.size; omega) (fun g hg => by cases hg; omega)
        have Hown3 := Lib.hid hown3
        clear hown3 hgr3 c0 c1 c2 c3 c4 c5
        go_roundw
        case rel => exact ⟨k + 1, _, by omega, by go_num, Hown3, HM', hB3⟩
        case measure => simp [intOf]; omega
      · have hM : MapA (D.del (qLit l[k].q)) (getA (l.take (k + 1))) := (HM.out.del l[k].q Hq.out).congr fun p => by
          unfold getA
          rw [List.take_succ_eq_append_getElem hlt, List.foldl_append]
          by_cases e : l[k].q = p
          · simp [e]; omega
          · simp [e]
        have HM' := Lib.hid hM
        have Hown3 := Lib.hid (Hown2.out.mono (show k ≤ k + 1 by omega))
        clear hM hnn
        go_wp2_with fail
        go_roundw
        case rel => exact ⟨k + 1, _, by omega, by go_num, Hown3, HM', hB2⟩
        case measure => simp [intOf]; omega
    · have hke : k = l.length := by omega
      have h1 := Hown.out
      have h2 := HM.out
      rw [hke] at h1
      rw [List.take_of_length_le (by omega)] at h2
      have H1 := Lib.hid h1
      have H2 := Lib.hid h2
      clear h1 h2
      go_wp2_with fail
      go_ret
      exact ⟨_, D, rfl, by omega, H1.out, H2.out, hB⟩

end Go.Proofs.Ytjdhcdbjfbhogaa
