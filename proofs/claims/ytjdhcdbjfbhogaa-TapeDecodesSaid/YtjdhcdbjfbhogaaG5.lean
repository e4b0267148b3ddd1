/- maps.Keys, slices.AppendSeq, slices.Collect over a map of questions. -/
import Derived.Test.YtjdhcdbjfbhogaaG4
import Derived.Maps.AppendAt
namespace Go.Proofs.Ytjdhcdbjfbhogaa
open Go.RowKit Go.Shelf Go.Maps
attribute [local go_sem] Oper.semAt_some

theorem info66 : (Try.prog.info? 66).map (fun i => (i.zero, i.size, i.bytes)) = some (some (.agg #[.int .i64 0, .int .i64 0, .int .i64 0, .int .i64 0, .int .i64 0]), 5, 40) := by kernel_rfl
def qc (q : Qn) : List Value := iv q.ints

theorem wpListIn_appB {F : Fence} {nn : Nat} {P : Program} {w : World} {ops : Array Oper} {rest : List Oper} {o : Oper} {a : Act} {Q : Exit → Act → World → Prop} (hgd : o.guard = none) (s x : Operand) (t : TypeId)
    (ho : o.op = .call { callee := .builtin .append, args := #[s, x], argTypes := #[t, t] })
    (e : TypeId) (z : Value) (k bytes : Nat) (ht : P.underlying t = some (.slice e)) (hinfo : (P.info? e).map (fun i => (i.zero, i.size, i.bytes)) = some (some z, k, bytes)) (hzs : z.cells.size = k) (hk : 0 < k) (hby : bytes ≤ 1000)
    (B : Nat) (v : Value) (n : Nat) (xs : List Value) (hs : a.eval s = v) (hown : w.ownsRow B e k v n xs)
    (b m c : Nat) (cs : Array Value) (t' : TypeId) (hx : a.eval x = .slice (some ⟨b, 0, none⟩) m c) (hblk : w.heap[b]? = some (.cells cs t' (0, 0))) (hl : cs.size = m * k) (h1 : cs.toList.all Value.oneCell' = true)
    (hbd : n + m ≤ 100000000) (hbase : B ≤ w.heap.size)
    (h : ∀ u w', w'.ownsRow B e k u (n + m) (xs ++ cs.toList) → w.grownBy w' v.ownBlock → wpListIn F nn P ops Q rest (a.put o.dst u) w') : wpListIn F nn P ops Q (o :: rest) a w := by
  obtain ⟨i0, hi, hz0, hz1, hz2⟩ := info_parts hinfo
  refine wpListIn_append_own w hgd s x t ho B e i0 z k bytes ht hi hz0 hz1 hz2 hzs hk v n xs hs hown ⟨b, 0, none⟩ m c cs.toList hx (by simpa using hl) (fun j u hu => ?_) (List.all_eq_true.1 h1) (by unfold maxLen; omega)
    (Nat.le_trans (Nat.mul_le_mul hbd hby) (by omega)) hbase ?_
  · have hadd : (⟨b, 0, none⟩ : Addr).add j = ⟨b, 0 + j, none⟩ := by unfold Addr.add; split <;> simp_all
    rw [hadd, Nat.zero_add, cell_of_row w b j cs t' _ hblk]
    simpa using hu
  · intro u w' h2 h3 _
    exact h u w' h2 h3

/-- A box that holds a question. -/
def BoxQ (W : World) (B : Nat) (x : Qn) : Prop := W.heap[B]? = some (.cells #[I x.node, I x.handler, I x.count, I x.kind, I x.index] 66 (0, 0))
theorem BoxQ.lt {W : World} {B : Nat} {x : Qn} (h : BoxQ W B x) : B < W.heap.size := (Array.getElem?_eq_some_iff.1 h).1
theorem boxQ_own (B : Nat) (x : Qn) : Own (fun (_ : Unit) W => BoxQ W B x) := fun _ X Y row hs hg hrow =>
  (hg.block B (BoxQ.lt hs) (fun e => by
    obtain ⟨o, ho, hc⟩ := hrow B e.symm
    rw [show X.heap[B]? = _ from hs] at ho
    cases ho
    cases hc)).trans hs

set_option maxHeartbeats 4000000 in
set_option maxRecDepth 100000 in
theorem appendSeqQ (mb b nn : Nat) (D : DataW Unit) (w : World) (hbox : w.cell? ⟨mb, 0, none⟩ = some (.map (some b))) (hown : w.ownsMap (H := Unit) Try.prog 66 (plainElem Try.prog 3) b nn D) (hsz : Maps.size D ≤ 1000000) :
    CallsIn Fence.wide 5 Try.prog 91 #[.slice none 0 0, .func (.func 85) #[] #[.pointer (some ⟨mb, 0, none⟩)]] w fun e w' => ∃ u xs, e = .returned u ∧ KeysD D xs ∧ w'.ownsRow w.heap.size 66 5 u xs.length (xs.flatMap qc) ∧ Below w.heap.size w w' := by
  have hseq := keysIter (5 - 1) (by omega) mb b nn D w hbox hown
  have Hseq := Lib.hid hseq
  clear hseq
  refine callsIn_of_wp_marks Try.func91 rfl trivial ?_ rfl
  simp only [Try.ntmps91, List.size_toArray, List.length_cons, List.length_nil, Nat.reduceAdd, Nat.reduceSub, Array.replicate_succ, Array.replicate_zero, List.push_toArray, List.append_toArray, List.nil_append, List.cons_append]
  gi_wp2
  have bS := Boxed.new w 69 (.slice none 0 0)
  have hB0 : Below w.heap.size w (w.alloc (.cells #[.slice none 0 0] 69)) := (Below.refl _ w).alloc (Nat.le_refl _) _
  refine wpIn_rangeFunc_ownH rfl (by omega) (gf := 85) (lb := #[.pointer (some ⟨mb, 0, none⟩)]) rfl trivial (enters_of Try.func85 (by kernel_rfl) rfl)
    Hseq.out walksK_t walksK_b hB0 (fun _ => rfl)
    (fun (pre : List Qn) W => (∃ u, Boxed W w.heap.size 69 u ∧ W.ownsRow w.heap.size 66 5 u pre.length (pre.flatMap qc) ∧ True) ∧ Below w.heap.size w W)
    (fun _ _ _ => False)
    (OwnFrom.and (Own.from (holdsRow_own _ _ _ _ _ (fun pre : List Qn => pre.length) (fun pre => pre.flatMap qc) (fun _ _ => True)) _) (ownFrom_below (Nat.le_refl _) (by simp)))
    (fun _ _ _ _ _ hs _ _ => hs)
    ⟨⟨_, bS, World.ownsRow_nil _ _ _ _, trivial⟩, hB0⟩
    (fun x a' W => ∃ Bx, w.heap.size < Bx ∧ BoxQ W Bx x ∧ a' = { tmps := #[.slice none 0 0, .func (.func 85) #[] #[.pointer (some ⟨mb, 0, none⟩)], .pointer (some ⟨w.heap.size, 0, none⟩), undef, .slice none 0 0, .pointer (some ⟨Bx, 0, none⟩), .func (.func 85) #[] #[.pointer (some ⟨mb, 0, none⟩)], .agg #[I x.node, I x.handler, I x.count, I x.kind, I x.index], undef, undef, undef, undef, undef], defers := [] })
    (fun x a' _ X Y row hs hg hr => by obtain ⟨Bx, h1, h2, h3⟩ := hs; exact ⟨Bx, h1, boxQ_own Bx x () X Y row h2 hg (fun r e => (hr r e).2), h3⟩)
    ?assign ?body ?done ?stop
  case assign =>
    rintro l pre x W K ⟨⟨u, b1, o1, _⟩, hB1⟩ hK
    simp only [Qn.val]
    gi_wp2
    exact hK _ _ ((KeepsOthers.alloc _ _).from _) (KeepsWalks.alloc _ _) ⟨⟨u, b1.alloc _, o1.alloc _, trivial⟩, hB1.alloc hB1.size _⟩ ⟨W.heap.size, b1.lt, World.alloc_heap_new W _, rfl⟩
  case body =>
    rintro l pre x a' W hl ⟨r, hr⟩ ⟨⟨u, b1, o1, _⟩, hB1⟩ ⟨Bx, hBx, bX, rfl⟩ hlt
    have c1 := b1.cell
    have hlen2 : pre.length ≤ 1000000 := by omega
    have cX := fun j => cell_of_row W Bx j _ _ _ bX
    have hsW := hB1.size
    clear hlt
    gi_wp2_with (gi_at_builtin; refine wpListIn_appB rfl _ _ 69 rfl 66 _ 5 40 Try.underlying69 info66 rfl (by omega) (by omega) w.heap.size _ _ _ rfl (o1.alloc _) W.heap.size 1 1 _ 66 rfl (heap_alloc_new _ _) rfl rfl (by omega) (by simp; omega) ?_; intro u2 w1 hown1 hgrow; obtain ⟨g', cap', rfl⟩ := ownsRow_succ hown1; obtain ⟨hv1, hv2, hr2, hk2, hb2⟩ := b1.appended (by decide) o1 hsW (Nat.le_refl _) hown1 hgrow; have hc1 := hv1.cell; have hf1 := hv1.frozen)
    have hh : (w1.setCell ⟨w.heap.size, 0, none⟩ (.slice (some ⟨g', 0, none⟩) (pre.length + 1) cap')).ownsRow w.heap.size 66 5 (.slice (some ⟨g', 0, none⟩) (pre.length + 1) cap') (pre ++ [x]).length ((pre ++ [x]).flatMap qc) := by
      rw [List.length_append, List.flatMap_append]
      simpa [qc, Qn.ints, iv] using hr2
    exact ⟨hk2.from _, hk2.walks, ⟨_, hv2, by first | exact hh | exact ⟨hh, trivial⟩⟩, hB1.trans hb2⟩
  case done =>
    rintro D' ys W hD hks ⟨⟨u, b1, o1, _⟩, hB1⟩ hK
    have c1 := b1.cell
    gi_wp2
    refine ⟨by simp, .inl ⟨_, _, rfl, run_takeDeferred hK, ?_⟩⟩
    exact ⟨_, results_tmp rfl _ _ _, _, ys, rfl, hks, ownsRow_putObj o1 _ hK rfl, hB1.trans (belowK_b (w := w) (Nat.le_refl _) W D' _ _ (by simp at hD; omega) hK rfl rfl)⟩
  case stop =>
    rintro D' c pre W hD _ hf _
    exact hf.elim

end Go.Proofs.Ytjdhcdbjfbhogaa
