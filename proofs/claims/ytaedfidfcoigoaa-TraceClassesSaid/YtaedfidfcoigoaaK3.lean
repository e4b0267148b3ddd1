/- Loads and stores of whole steps; Forced, the reference's Equivalent. (Printed by mkK3.py, then gen.py.) -/
import Derived.Test.YtaedfidfcoigoaaL2
import Derived.Test.YtaedfidfcoigoaaH5
import Derived.Deep.MidRow
namespace Go.Proofs.Ytaedfidfcoigoaa
open Go.RowKit

theorem ranged_below {w w' : World} {B b o : Nat} {cs : List Value} (h : w.rangeAt b o cs) (hb : Below B w w') (hB : w.heap.size ≤ B) : w'.rangeAt b o cs := fun j v hv => cell_below hb hB (h j v hv)
/-- The step at i: where its cells lie. -/
theorem StpSl.row {w : World} {a : Option Addr} {n c : Nat} {l : List Stp} (h : StpSl w (.slice a n c) l) {i : Nat} {s : Stp} (hi : l[i]? = some s) :
    ∃ b o qa ca qs cs, a = some ⟨b, o, none⟩ ∧ AskSl w (.slice qa s.asks.length ca) s.asks ∧ MsgSl w (.slice qs s.sent.length cs) s.sent ∧ w.rangeAt b (o + i * 11) [I s.ev.kind, I s.ev.node, I s.ev.arg, I s.ev.msg.node, I s.ev.msg.handler, I s.ev.msg.count, I s.ev.msg.index, I s.ev.msg.copy, .slice qa s.asks.length ca, .bool s.obs, .slice qs s.sent.length cs] := by
  obtain ⟨xs, h1, h2⟩ := h
  obtain ⟨va, vs, g1, g2, g3⟩ := h1.at hi
  have hlt := (List.getElem?_eq_some_iff.1 hi).1
  obtain ⟨b, o, ha, hc⟩ := h2.cells (by rw [h1.length]; omega)
  obtain ⟨qa, ca, rfl, _⟩ := g1.open
  obtain ⟨qs, cs, rfl, _⟩ := g2.open
  refine ⟨b, o, qa, ca, qs, cs, ha, g1, g2, fun j u hu => ?_⟩
  have := hc _ u (g3 j u hu)
  rwa [← Nat.add_assoc] at this
theorem setCells_row (W : World) (g o : Nat) (vs : List Value) : W.setCells g o vs = setRow W g o vs := by
  induction vs generalizing W o with
  | nil => rfl
  | cons v vs ih => exact ih _ _
theorem blk_there {W : World} {g o n : Nat} {cs : Array Value} (h : Blk W g cs) (ho : o + n ≤ cs.size) : W.there g o n := fun j hj => ⟨by rw [h.cell]; simp; omega, h.frozen _⟩
theorem size55 : (Try.prog.info? 55).map (·.size) = some 11 := by kernel_rfl
section
variable {ops : Array Oper} {Q : Exit → Act → World → Prop} {S : World → Prop}
/-- A whole step is read, in a region that draws its order. -/
theorem wpOrd_load55 {F : Act → World → Prop} {a : Act} {w : World} {o : Oper} {r : List (Oper × Bool)} (x : Operand) (ho : o.op = .load 55 x) (b off : Nat) (cs : List Value) (hl : cs.length = 11) (hx : a.eval x = .pointer (some ⟨b, off, none⟩))
    (hw : Region.wanted o (yielded ops a.tmps) = true) (hS : ∀ w, S w → w.rangeAt b off cs)
    (h : wpOrd Try.prog ops Q S F r (a.put o.dst (.agg cs.toArray)) w) : wpOrd Try.prog ops Q S F ((o, true) :: r) a w :=
  ⟨_, yieldsIf_load_mid hw 55 x ho b off hx cs _ hS Try.underlying55 rfl (by rw [hl]; exact size55), h⟩
theorem wpList_load55 {rest : List Oper} {o : Oper} {a : Act} {w : World} (hgd : o.guard = none) (x : Operand) (ho : o.op = .load 55 x) (b off : Nat) (cs : List Value) (hl : cs.length = 11) (hx : a.eval x = .pointer (some ⟨b, off, none⟩)) (hc : w.rangeAt b off cs)
    (h : wpList Try.prog ops Q rest (a.put o.dst (.agg cs.toArray)) w) : wpList Try.prog ops Q (o :: rest) a w :=
  wpList_load_mid hgd 55 x ho b off hx cs _ hc Try.underlying55 rfl (by rw [hl]; exact size55) h
theorem wpList_store55 {rest : List Oper} {o : Oper} {a : Act} {w : World} (hgd : o.guard = none) (x y : Operand) (ho : o.op = .store 55 x y) (b off : Nat) (cs : List Value) (hl : cs.length = 11) (hx : a.eval x = .pointer (some ⟨b, off, none⟩)) (hy : a.eval y = .agg cs.toArray)
    (ht : w.there b off 11) (h1 : ∀ v ∈ cs, v.oneCell' = true) (hd : o.dst = none) (h : wpList Try.prog ops Q rest a (setRow w b off cs)) : wpList Try.prog ops Q (o :: rest) a w :=
  wpList_store_mid hgd 55 x y ho b off cs.toArray hx hy (by rw [List.size_toArray, hl]; exact ht) (by rw [List.size_toArray, hl]; exact size55) (all_oneCell_toArray h1) (by rw [setCells_row, hd]; exact h)
theorem wp_store55 {o : Oper} {a : Act} {w : World} {K : Act → World → Prop} (x y : Operand) (ho : o.op = .store 55 x y) (b off : Nat) (cs : List Value) (hl : cs.length = 11) (hx : a.eval x = .pointer (some ⟨b, off, none⟩)) (hy : a.eval y = .agg cs.toArray)
    (ht : w.there b off 11) (h1 : ∀ v ∈ cs, v.oneCell' = true) (h : K (a.put o.dst undef) (setRow w b off cs)) : o.wp Try.prog a w K Q :=
  wp_store_mid 55 x y ho b off cs.toArray hx hy (by rw [List.size_toArray, hl]; exact ht) (by rw [List.size_toArray, hl]; exact size55) (all_oneCell_toArray h1) (by rw [setCells_row]; exact h)
end
theorem swapL_mem (run : List Stp) (i : Nat) (h : i + 1 < run.length) : ∀ s ∈ swapL run i, s ∈ run := by
  intro s hs
  obtain ⟨k, hk⟩ := List.getElem?_of_mem hs
  rw [swapL_get run i h] at hk
  split at hk
  · exact List.mem_of_getElem? hk
  · split at hk
    · exact List.mem_of_getElem? hk
    · exact List.mem_of_getElem? hk

set_option maxHeartbeats 1000000 in
set_option maxRecDepth 100000 in
theorem refForced (run : List Stp) (at' : Int) (v : Value) (w : World) (hrun : StpSl w v run) (hm : run.length ≤ 1000) (hat : InI64 at') :
    Calls Try.prog 20 #[v, I at'] w fun e w' => ∃ u m, e = .returned u ∧ StpSl w' u m ∧ m.length = run.length ∧ (∀ s ∈ m, s ∈ run) ∧ Below w.heap.size w w' := by
  obtain ⟨ka, ca, rfl, hml⟩ := hrun.open
  have Hrun := Lib.hid hrun
  obtain ⟨xs, hcs, hfl⟩ := hrun
  obtain ⟨ha1, ha2⟩ := hat
  have Hcs := Lib.hid hcs
  have Hfl := Lib.hid hfl
  clear hcs hfl
  go_enter Try.func20, Try.ntmps20
  go_upto_region 3 with (at_builtin; go_must (refine wpList_appN rfl _ _ rfl w.heap.size _ 0 [] rfl (World.ownsRow_nil _ _ _ _) _ rfl run.length xs Hfl.out (steps_one Hcs.out) (by omega) (Nat.le_refl _) ?_); intro u w1 hown hB1)
  rw [Nat.zero_add, List.nil_append] at hown
  have hz := hB1.size
  by_cases h2 : run.length < 2
  · have hsl : StpSl w1 u run := ⟨xs, Hcs.out.kept hB1 (Nat.le_refl _), Flat.of_owns hown⟩
    have Hsl := Lib.hid hsl
    clear hsl hown
    go_wp2_with fail
    go_ret
    exact ⟨_, run, rfl, Hsl.out, rfl, fun _ h => h, hB1⟩
  · obtain ⟨L1, hL1⟩ : ∃ L1 : Nat, run.length = L1 + 1 := ⟨run.length - 1, by omega⟩
    have har := around_range at' ((run.length : Int) - 1) (by omega)
    obtain ⟨i, hnn⟩ : ∃ i : Nat, around at' ((run.length : Int) - 1) = i := ⟨_, (Int.toNat_of_nonneg har.1).symm⟩
    have hi : i + 1 < run.length := by omega
    have Haround := Lib.hid (around_any at' ((run.length : Int) - 1))
    have Hnn := Lib.hid hnn
    obtain ⟨g, cap, cur, rfl, hg, hblk, hsz, hcur⟩ := own_blk hown (by omega)
    have Hblk := Lib.hid hblk
    have Hcur := Lib.hid hcur
    clear har hnn hL1 hown hblk hcur
    go_wp2_with fail
    refine (Haround.out _ (by omega) ha1 ha2).mono ?_
    rintro e w2 ⟨rfl, rfl⟩
    rw [Hnn.out]
    obtain ⟨b, o, qa0, ca0, qs0, cs0, rfl, hva, hvs, hr0⟩ := Hrun.out.row (i := i) (s := run[i]) (by simp)
    obtain ⟨b', o', qa1, ca1, qs1, cs1, hab, hua, hus, hr1⟩ := Hrun.out.row (i := i + 1) (s := run[i + 1]) (by simp)
    simp at hab
    obtain ⟨rfl, rfl⟩ := hab
    have Hr0 := Lib.hid hr0
    have Hr1 := Lib.hid hr1
    clear hr0 hr1
    go_upto_region 7 with (first
      | ((with_reducible refine wpList_load55 rfl _ rfl b (o + (i + 1) * 11) [I run[i + 1].ev.kind, I run[i + 1].ev.node, I run[i + 1].ev.arg, I run[i + 1].ev.msg.node, I run[i + 1].ev.msg.handler, I run[i + 1].ev.msg.count, I run[i + 1].ev.msg.index, I run[i + 1].ev.msg.copy, .slice qa1 run[i + 1].asks.length ca1, .bool run[i + 1].obs, .slice qs1 run[i + 1].sent.length cs1] rfl ?_ ?_ ?_); (rfl); (exact ranged_below Hr1.out hB1 (Nat.le_refl _)))
      | ((with_reducible refine wpList_store55 rfl _ _ rfl g (i * 11) [I run[i + 1].ev.kind, I run[i + 1].ev.node, I run[i + 1].ev.arg, I run[i + 1].ev.msg.node, I run[i + 1].ev.msg.handler, I run[i + 1].ev.msg.count, I run[i + 1].ev.msg.index, I run[i + 1].ev.msg.copy, .slice qa1 run[i + 1].asks.length ca1, .bool run[i + 1].obs, .slice qs1 run[i + 1].sent.length cs1] rfl ?_ ?_ ?_ ?_ rfl ?_); (rfl); (rfl); (exact blk_there Hblk.out (by omega)); (exact row_one run[i + 1] _ _ rfl rfl)))
    generalize hw3 : setRow w1 g (i * 11) [I run[i + 1].ev.kind, I run[i + 1].ev.node, I run[i + 1].ev.arg, I run[i + 1].ev.msg.node, I run[i + 1].ev.msg.handler, I run[i + 1].ev.msg.count, I run[i + 1].ev.msg.index, I run[i + 1].ev.msg.copy, .slice qa1 run[i + 1].asks.length ca1, .bool run[i + 1].obs, .slice qs1 run[i + 1].sent.length cs1] = w3
    have hB3 : Below w.heap.size w w3 := hw3 ▸ setRow_below hB1 hg _
    have hb3 : Blk w3 g (setArr cur (i * 11) [I run[i + 1].ev.kind, I run[i + 1].ev.node, I run[i + 1].ev.arg, I run[i + 1].ev.msg.node, I run[i + 1].ev.msg.handler, I run[i + 1].ev.msg.count, I run[i + 1].ev.msg.index, I run[i + 1].ev.msg.copy, .slice qa1 run[i + 1].asks.length ca1, .bool run[i + 1].obs, .slice qs1 run[i + 1].sent.length cs1]) := hw3 ▸ setRow_blk Hblk.out _
    clear hw3
    have Hb3 := Lib.hid hb3
    have hs3 : (setArr cur (i * 11) [I run[i + 1].ev.kind, I run[i + 1].ev.node, I run[i + 1].ev.arg, I run[i + 1].ev.msg.node, I run[i + 1].ev.msg.handler, I run[i + 1].ev.msg.count, I run[i + 1].ev.msg.index, I run[i + 1].ev.msg.copy, .slice qa1 run[i + 1].asks.length ca1, .bool run[i + 1].obs, .slice qs1 run[i + 1].sent.length cs1]).size = cur.size := setArr_size _ _ _
    have Hs3 := Lib.hid hs3
    clear hb3 hs3
    have b2 : (0 : Int) ≤ (i : Int) + 1 := by omega
    have b3 : (i : Int) + 1 < (run.length : Int) := by omega
    go_upto_region 8 with (first
      | ((with_reducible refine wpList_load55 rfl _ rfl b (o + i * 11) [I run[i].ev.kind, I run[i].ev.node, I run[i].ev.arg, I run[i].ev.msg.node, I run[i].ev.msg.handler, I run[i].ev.msg.count, I run[i].ev.msg.index, I run[i].ev.msg.copy, .slice qa0 run[i].asks.length ca0, .bool run[i].obs, .slice qs0 run[i].sent.length cs0] rfl ?_ ?_ ?_); (rfl); (exact ranged_below Hr0.out hB3 (Nat.le_refl _)))
      | ((with_reducible refine wpList_store55 rfl _ _ rfl g ((i + 1) * 11) [I run[i].ev.kind, I run[i].ev.node, I run[i].ev.arg, I run[i].ev.msg.node, I run[i].ev.msg.handler, I run[i].ev.msg.count, I run[i].ev.msg.index, I run[i].ev.msg.copy, .slice qa0 run[i].asks.length ca0, .bool run[i].obs, .slice qs0 run[i].sent.length cs0] rfl ?_ ?_ ?_ ?_ rfl ?_); (rfl); (rfl); (exact blk_there Hb3.out (by rw [Hs3.out]; omega)); (exact row_one run[i] _ _ rfl rfl)))
    have hb4 := setRow_blk (o := (i + 1) * 11) Hb3.out [I run[i].ev.kind, I run[i].ev.node, I run[i].ev.arg, I run[i].ev.msg.node, I run[i].ev.msg.handler, I run[i].ev.msg.count, I run[i].ev.msg.index, I run[i].ev.msg.copy, .slice qa0 run[i].asks.length ca0, .bool run[i].obs, .slice qs0 run[i].sent.length cs0]
    have hB4 := setRow_below (o := (i + 1) * 11) hB3 hg [I run[i].ev.kind, I run[i].ev.node, I run[i].ev.arg, I run[i].ev.msg.node, I run[i].ev.msg.handler, I run[i].ev.msg.count, I run[i].ev.msg.index, I run[i].ev.msg.copy, .slice qa0 run[i].asks.length ca0, .bool run[i].obs, .slice qs0 run[i].sent.length cs0]
    have hsl := swap_sl (cap := cap) hi (by omega) hsz (by rw [Hcur.out]; exact Hcs.out) hva hvs hua hus hb4 hB4
    have Hsl := Lib.hid hsl
    clear hsl hb4
    generalize setRow w3 g ((i + 1) * 11) [I run[i].ev.kind, I run[i].ev.node, I run[i].ev.arg, I run[i].ev.msg.node, I run[i].ev.msg.handler, I run[i].ev.msg.count, I run[i].ev.msg.index, I run[i].ev.msg.copy, .slice qa0 run[i].asks.length ca0, .bool run[i].obs, .slice qs0 run[i].sent.length cs0] = w4 at hB4 Hsl ⊢
    go_wp2_with fail
    go_ret
    exact ⟨_, swapL run i, rfl, Hsl.out, swapL_length run i hi, swapL_mem run i hi, hB4⟩

set_option maxHeartbeats 400000 in
theorem refEquivalent (a b : List Stp) (v u : Value) (w : World) (ha : StpSl w v a) (hb : StpSl w u b) (ha1 : RunOk a) (hb1 : RunOk b) :
    Calls Try.prog 30 #[v, u] w fun e w' => e = .returned (.bool (decide (normS a = normS b))) ∧ Below w.heap.size w w' := by
  have Ha := Lib.hid (refNormal a v w ha (by have := ha1.len; omega) (fun s hs => by have := ha1.asks s hs; omega))
  have hb27 : ∀ W, Below w.heap.size w W → Calls Try.prog 27 #[u] W fun e w' => ∃ z, e = .returned z ∧ StpSl w' z (normS b) ∧ Below W.heap.size W w' :=
    fun W hW => refNormal b u W (hb.kept hW (Nat.le_refl _)) (by have := hb1.len; omega) (fun s hs => by have := hb1.asks s hs; omega)
  have Hb := Lib.hid hb27
  obtain ⟨ka, ca, rfl, _⟩ := ha.open
  obtain ⟨kb, cb, rfl, _⟩ := hb.open
  have hla : (normS a).length ≤ 1000000 := by rw [normS_len]; have := ha1.len; omega
  have hlb : (normS b).length ≤ 1000000 := by rw [normS_len]; have := hb1.len; omega
  clear hb27 ha hb ha1 hb1
  go_enter Try.func30, Try.ntmps30
  go_wp2_with fail
  refine Ha.out.mono ?_
  rintro e w1 ⟨x, rfl, hx, hB1⟩
  go_wp2_with fail
  refine (Hb.out _ hB1).mono ?_
  rintro e w2 ⟨y, rfl, hy, hB2⟩
  have hB2' := hB1.trans (hB2.mono hB1.size)
  obtain ⟨kx, cx, rfl, _⟩ := hx.open
  obtain ⟨ky, cy, rfl, _⟩ := hy.open
  go_wp2_with fail
  refine (sameRun (normS a) (normS b) _ _ _ (hx.kept hB2 (Nat.le_refl _)) hy).mono ?_
  rintro e w3 ⟨rfl, hB3⟩
  have hB3' := hB2'.trans (hB3.mono hB2'.size)
  go_wp2_with fail
  go_ret
  exact ⟨rfl, hB3'⟩

end Go.Proofs.Ytaedfidfcoigoaa
