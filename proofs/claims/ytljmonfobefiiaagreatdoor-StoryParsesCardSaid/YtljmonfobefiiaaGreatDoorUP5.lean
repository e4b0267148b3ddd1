import Derived.Test.YtljmonfobefiiaaGreatDoorUP5A
import Derived.Test.YtljmonfobefiiaaGreatDoorUO
import Derived.RangeFuncNested
import Derived.RangeFuncBound
import Derived.RangeFuncCalls
import Derived.RangeFuncLeaves
import Derived.Shelf.Abstract
import Derived.Shelf.RegionOpen
import Derived.OwnWalkIn
import Derived.TacticsInMore
import Derived.LoopNIn
import Derived.LoopIn
import Derived.Maps.AppendAt
/- The pairs of dependent steps of a run: the iterator, and their list. -/
namespace Go.Proofs.YtljmonfobefiiaaGreatDoor
open Go.RowKit Go.Shelf
attribute [local go_sem] Oper.semAt_some

set_option maxHeartbeats 8000000 in
set_option maxRecDepth 100000 in
theorem depIter (n : Nat) (hn : 1 ≤ n) (run : List Stp) (tb : Nat) (v : Value) (w0 : World) (hbox : w0.cell? ⟨tb, 0, none⟩ = some v) (hrun : StpSl w0 v run) (hlen : run.length ≤ 1000000) :
    SeqStopsK Fence.wide n Tryz.prog 135 #[.pointer (some ⟨tb, 0, none⟩)] encPTr (Below w0.heap.size) (fun xs => xs = pairsL run) (fun pre => pre <+: pairsL run) (pairsL run).length w0 := by
  intro l J Jx W hW hJ hJx hY h0
  obtain ⟨ka, ca, rfl, hml⟩ := hrun.open
  have hbl : tb < w0.heap.size := by simpa using World.block_lt_of_cell? _ _ hbox
  have hmix : Tryz.prog.follows .mixedOrders = true := by kernel_rfl
  have HY := Lib.hid hY
  clear hY
  refine callsIn_of_wp Tryz.func135 rfl trivial ?_ rfl
  simp only [Tryz.ntmps135, List.size_toArray, List.length_cons, List.length_nil, Nat.reduceAdd, Nat.reduceSub, Array.replicate_succ, Array.replicate_zero, List.push_toArray, List.append_toArray, List.nil_append, List.cons_append]
  have hb0 := (hW.cell (p := ⟨tb, 0, none⟩) hbl).trans hbox
  gi_wp2
  gi_loopw [7] (fun p wr => ∃ i : Nat, i ≤ run.length ∧ p = .int .i64 i ∧ Below w0.heap.size w0 wr ∧ J (rowsP run i) wr) (fun p _ => run.length - (intOf p).toNat)
  case atStart => exact ⟨0, by omega, rfl, hW, h0⟩
  case round =>
    obtain ⟨i, hi, rfl, hB, hJi⟩ := hrel
    have hbx := (hB.cell (p := ⟨tb, 0, none⟩) hbl).trans hbox
    by_cases hlt : i < run.length
    · gi_wp2
      gi_loopw [4] (fun p wr => ∃ k : Nat, i + 1 ≤ k ∧ k ≤ run.length ∧ p = .int .i64 k ∧ Below w0.heap.size w0 wr ∧ J (rowsP run i ++ rowP run i k) wr) (fun p _ => run.length - (intOf p).toNat)
      case atStart => exact ⟨i + 1, by omega, by omega, by go_num, hB, by rw [rowP_start, List.append_nil]; exact hJi⟩
      case round =>
        clear hB hJi hbx
        obtain ⟨k, hik, hk, rfl, hB, hJk⟩ := hrel
        have hbx := (hB.cell (p := ⟨tb, 0, none⟩) hbl).trans hbox
        by_cases hlt2 : k < run.length
        · obtain ⟨b, o, va, vs, rfl, hva, hvs, x0, x1, x2, x3, x4, x5, x6, x7, x8, x9, x10⟩ := (hrun.kept hB (Nat.le_refl _)).at (i := i) (s := run[i]) (by simp [hlt])
          obtain ⟨b', o', ua, us, hab, hua, hus, y0, y1, y2, y3, y4, y5, y6, y7, y8, y9, y10⟩ := (hrun.kept hB (Nat.le_refl _)).at (i := k) (s := run[k]) (by simp [hlt2])
          simp at hab
          obtain ⟨rfl, rfl⟩ := hab
          have c := fun W (hBW : Below wr.heap.size wr W) => pdependent run[i] run[k] (run[i].val va vs) (run[k].val ua us) W ⟨va, vs, rfl, hva.kept hBW (Nat.le_refl _), hvs.kept hBW (Nat.le_refl _)⟩ ⟨ua, us, rfl, hua.kept hBW (Nat.le_refl _), hus.kept hBW (Nat.le_refl _)⟩
          have hsucc := rowP_succ run i k hik
          rw [depAt_eq hlt hlt2] at hsucc
          have Hs := Lib.hid hsucc
          clear hsucc
          by_cases hd : depB run[i] run[k] = true
          · rw [hd] at c
            simp only [Stp.val, Stp.row] at c
            have C := Lib.hid c
            rw [hd, if_pos rfl] at Hs
            have hpp : rowsP run i ++ rowP run i k ++ [(i, k)] <+: pairsL run := by
              rw [List.append_assoc, ← Hs.out]
              exact part_prefix run i (k + 1) hlt (by omega) (by omega)
            have Hlt := Lib.hid (show (rowsP run i ++ rowP run i k).length < (pairsL run).length by
              have := hpp.length_le
              simp at this ⊢
              omega)
            have Hpp := Lib.hid hpp
            clear c hd hpp
            gi_wp2
            have hbl1 : tb < wr.heap.size := Nat.lt_of_lt_of_le hbl hB.size
            have hbl2 : b < wr.heap.size := by simpa using World.block_lt_of_cell? _ _ x0
            refine wpIn_region_ord 14 [(0, true), (1, true), (2, true), (3, true), (4, true), (5, true), (6, true), (7, true), (8, false), (9, true), (10, true), (11, true), (12, true), (13, true)] (fun w' => ∀ b o, b < wr.heap.size → w'.cell? ⟨b, o, none⟩ = wr.cell? ⟨b, o, none⟩) (by kernel_rfl) rfl rfl (by kernel_rfl) (by kernel_rfl) (fun _ _ _ _ h => h) (fun _ _ _ => rfl) ?_
            iterate 8 (refine wpOrdIn_take ?_ (by rfl) (fun _ => by rfl) ?_ ?_; rotate_left; (intro w hSw; (try dsimp only at hSw); go_simp; try with_reducible rfl); (try simp only [Act.put, List.setIfInBounds_toArray, List.set_cons_zero, List.set_cons_succ]))
            refine wpOrdIn_move (fun K hK => ?_)
            go_simp
            refine ⟨trivial, ?_⟩
            refine (callsIn_wide.2 (C.out _ (by repeat (first | exact Below.refl _ _ | assumption | refine Below.drew ?_ | refine below_drewN ?_ _ | refine Below.alloc ?_ (by simp <;> omega) _ | refine Below.setCell ?_ (by simp <;> omega) _)))).mono ?_
            rintro e w1 ⟨rfl, hB1⟩
            have hBr : Below wr.heap.size wr w1 := Below.then (w := wr) (by repeat (first | exact Below.refl _ _ | assumption | refine Below.drew ?_ | refine below_drewN ?_ _ | refine Below.alloc ?_ (by simp <;> omega) _ | refine Below.setCell ?_ (by simp <;> omega) _)) hB1
            have hJ1 := hJ _ wr w1 none hJk ⟨hBr.os, hBr.tape, hBr.output, hBr.size, fun q hq _ => hBr.block q hq⟩ (fun _ h => by cases h)
            obtain ⟨fn, tmps, assign, body, hy, hR⟩ := HY.out _ (i, k) w1 hJ1 Hlt.out
            dsimp only [encPTr] at hy
            refine hK.out _ _ (fun b o hb => hBr.cell (p := ⟨b, o, none⟩) hb) ?_
            clear hK K
            (try simp only [Act.put, List.setIfInBounds_toArray, List.set_cons_zero, List.set_cons_succ])
            iterate 5 (refine wpOrdIn_take ?_ (by rfl) (fun _ => by rfl) ?_ ?_; rotate_left; (intro w hSw; (try dsimp only at hSw); go_simp; try with_reducible rfl); (try simp only [Act.put, List.setIfInBounds_toArray, List.set_cons_zero, List.set_cons_succ]))
            refine wpOrdIn_nil ?_
            gi_wp2
            refine hR.mono ?_
            rintro e w2 (⟨rfl, hJ2, hk2⟩ | ⟨rfl, hJx2⟩)
            · gi_wp2
              go_roundw
              case rel => exact ⟨k + 1, by omega, by omega, by go_num, hB.trans ((hBr.mono hB.size).trans hk2), by rw [Hs.out, ← List.append_assoc]; exact hJ2⟩
              case measure => simp [intOf]; omega
            · gi_wp2
              refine bodyPost_ret (results_none rfl _ _ _) rfl ?_
              exact ⟨⟨_, rfl⟩, .inr ⟨_, Hpp.out, hJx2⟩⟩
          · have hd' : depB run[i] run[k] = false := by simpa using hd
            rw [hd'] at c
            simp only [Stp.val, Stp.row] at c
            have C := Lib.hid c
            rw [hd', if_neg (by simp)] at Hs
            clear c hd hd'
            gi_wp2
            have hbl1 : tb < wr.heap.size := Nat.lt_of_lt_of_le hbl hB.size
            have hbl2 : b < wr.heap.size := by simpa using World.block_lt_of_cell? _ _ x0
            refine wpIn_region_ord 14 [(0, true), (1, true), (2, true), (3, true), (4, true), (5, true), (6, true), (7, true), (8, false), (9, true), (10, true), (11, true), (12, true), (13, true)] (fun w' => ∀ b o, b < wr.heap.size → w'.cell? ⟨b, o, none⟩ = wr.cell? ⟨b, o, none⟩) (by kernel_rfl) rfl rfl (by kernel_rfl) (by kernel_rfl) (fun _ _ _ _ h => h) (fun _ _ _ => rfl) ?_
            iterate 8 (refine wpOrdIn_take ?_ (by rfl) (fun _ => by rfl) ?_ ?_; rotate_left; (intro w hSw; (try dsimp only at hSw); go_simp; try with_reducible rfl); (try simp only [Act.put, List.setIfInBounds_toArray, List.set_cons_zero, List.set_cons_succ]))
            refine wpOrdIn_move (fun K hK => ?_)
            go_simp
            refine ⟨trivial, ?_⟩
            refine (callsIn_wide.2 (C.out _ (by repeat (first | exact Below.refl _ _ | assumption | refine Below.drew ?_ | refine below_drewN ?_ _ | refine Below.alloc ?_ (by simp <;> omega) _ | refine Below.setCell ?_ (by simp <;> omega) _)))).mono ?_
            rintro e w1 ⟨rfl, hB1⟩
            have hBr : Below wr.heap.size wr w1 := Below.then (w := wr) (by repeat (first | exact Below.refl _ _ | assumption | refine Below.drew ?_ | refine below_drewN ?_ _ | refine Below.alloc ?_ (by simp <;> omega) _ | refine Below.setCell ?_ (by simp <;> omega) _)) hB1
            have hJ1 := hJ _ wr w1 none hJk ⟨hBr.os, hBr.tape, hBr.output, hBr.size, fun q hq _ => hBr.block q hq⟩ (fun _ h => by cases h)
            refine hK.out _ _ (fun b o hb => hBr.cell (p := ⟨b, o, none⟩) hb) ?_
            clear hK K
            (try simp only [Act.put, List.setIfInBounds_toArray, List.set_cons_zero, List.set_cons_succ])
            iterate 1 (refine wpOrdIn_take ?_ (by rfl) (fun _ => by rfl) ?_ ?_; rotate_left; (intro w hSw; (try dsimp only at hSw); go_simp; try with_reducible rfl); (try simp only [Act.put, List.setIfInBounds_toArray, List.set_cons_zero, List.set_cons_succ]))
            iterate 4 (refine wpOrdIn_leave (by rfl) (fun _ => by rfl) ?_; (try simp only [Act.put, List.setIfInBounds_toArray, List.set_cons_zero, List.set_cons_succ]))
            refine wpOrdIn_nil ?_
            gi_wp2
            all_goals (try refine ⟨fun _ _ => trivial, ?_⟩)
            all_goals gi_wp2
            go_roundw
            case rel => exact ⟨k + 1, by omega, by omega, by go_num, hB.trans (hBr.mono hB.size), by rw [Hs.out, List.append_nil]; exact hJ1⟩
            case measure => simp [intOf]; omega
        · have hkk : k = run.length := by omega
          gi_wp2
          go_roundw
          case rel => exact ⟨i + 1, by omega, by go_num, hB, by rw [rowsP_succ, ← hkk]; exact hJk⟩
          case measure => simp [intOf]; omega
    · have hii : i = run.length := by omega
      gi_wp2
      go_end0
      subst hii
      exact ⟨⟨_, rfl⟩, .inl ⟨_, rfl, hJi⟩⟩

end Go.Proofs.YtljmonfobefiiaaGreatDoor

/- slices.AppendSeq, slices.Collect over the pairs of dependent steps. -/
namespace Go.Proofs.YtljmonfobefiiaaGreatDoor
open Go.RowKit Go.Shelf
attribute [local go_sem] Oper.semAt_some

theorem wpListIn_appBTr {F : Fence} {nn : Nat} {P : Program} {w : World} {ops : Array Oper} {rest : List Oper} {o : Oper} {a : Act} {Q : Exit → Act → World → Prop} (hgd : o.guard = none) (s x : Operand) (t : TypeId)
    (ho : o.op = .call { callee := .builtin .append, args := #[s, x], argTypes := #[t, t] })
    (e : TypeId) (z : Value) (k bytes : Nat) (ht : P.underlying t = some (.slice e)) (hinfo : (P.info? e).map (fun i => (i.zero, i.size, i.bytes)) = some (some z, k, bytes)) (hzs : z.cells.size = k) (hk : 0 < k) (hby : bytes ≤ 1000)
    (B : Nat) (v : Value) (n : Nat) (xs : List Value) (hs : a.eval s = v) (hown : w.ownsRow B e k v n xs)
    (b m c : Nat) (cs : Array Value) (t' : TypeId) (hx : a.eval x = .slice (some ⟨b, 0, none⟩) m c) (hblk : w.heap[b]? = some (.cells cs t' (0, 0))) (hl : cs.size = m * k) (h1 : cs.toList.all Value.oneCell' = true)
    (hbd : n + m ≤ 100000000) (hbase : B ≤ w.heap.size)
    (h : ∀ u w', w'.ownsRow B e k u (n + m) (xs ++ cs.toList) → w.grownBy w' v.ownBlock → wpListIn F nn P ops Q rest (a.put o.dst u) w') : wpListIn F nn P ops Q (o :: rest) a w := by
  obtain ⟨i0, hi, hz0, hz1, hz2⟩ := info_parts hinfo
  refine wpListIn_append_own w hgd s x t ho B e i0 z k bytes ht hi hz0 hz1 hz2 hzs hk v n xs hs hown ⟨b, 0, none⟩ m c cs.toList hx (by simpa using hl) (fun j u hu => ?_) (List.all_eq_true.1 h1) (by unfold maxLen; omega)
    (Nat.le_trans (Nat.mul_le_mul hbd hby) (by omega)) hbase ?_
  · have hadd : (⟨b, 0, none⟩ : Addr).add j = ⟨b, 0 + j, none⟩ := by unfold Addr.add; split <;> simp_all
    rw [hadd, Nat.zero_add, cell_of_row w b j cs t' _ hblk]
    simpa using hu
  · intro u w' h2 h3 _
    exact h u w' h2 h3

/-- A box of two cells. -/
def Box2 (W : World) (B : Nat) (x : Nat × Nat) : Prop := W.heap[B]? = some (.cells #[I x.1, I x.2] 120 (0, 0))
theorem Box2.lt {W : World} {B : Nat} {x : Nat × Nat} (h : Box2 W B x) : B < W.heap.size := (Array.getElem?_eq_some_iff.1 h).1
theorem box2_own (B : Nat) (x : Nat × Nat) : Own (fun (_ : Unit) W => Box2 W B x) := fun _ X Y row hs hg hrow =>
  (hg.block B (Box2.lt hs) (fun e => by
    obtain ⟨o, ho, hc⟩ := hrow B e.symm
    rw [show X.heap[B]? = _ from hs] at ho
    cases ho
    cases hc)).trans hs

set_option maxHeartbeats 4000000 in
set_option maxRecDepth 100000 in
theorem appendSeq (run : List Stp) (tb : Nat) (v : Value) (w : World) (hbox : w.cell? ⟨tb, 0, none⟩ = some v) (hrun : StpSl w v run) (hlen : run.length ≤ 1000000) (hpl : (pairsL run).length ≤ 1000000) :
    CallsIn Fence.wide 5 Tryz.prog 134 #[.slice none 0 0, .func (.func 135) #[] #[.pointer (some ⟨tb, 0, none⟩)]] w fun e w' => ∃ u, e = .returned u ∧ w'.ownsRow w.heap.size 120 2 u (pairsL run).length ((pairsL run).flatMap pc) ∧ Below w.heap.size w w' := by
  have hseq := depIter (5 - 1) (by omega) run tb v w hbox hrun hlen
  have Hseq := Lib.hid hseq
  clear hseq
  refine callsIn_of_wp_marks Tryz.func134 rfl trivial ?_ rfl
  simp only [Tryz.ntmps134, List.size_toArray, List.length_cons, List.length_nil, Nat.reduceAdd, Nat.reduceSub, Array.replicate_succ, Array.replicate_zero, List.push_toArray, List.append_toArray, List.nil_append, List.cons_append]
  gi_wp2
  have bS := Boxed.new w 116 (.slice none 0 0)
  have hB0 : Below w.heap.size w (w.alloc (.cells #[.slice none 0 0] 116)) := (Below.refl _ w).alloc (Nat.le_refl _) _
  have hsz : (w.alloc (.cells #[.slice none 0 0] 116)).heap.size = w.heap.size + 1 := by simp
  refine wpIn_rangeFunc_ownH rfl (by omega) (gf := 135) (lb := #[.pointer (some ⟨tb, 0, none⟩)]) rfl trivial (enters_of Tryz.func135 (by kernel_rfl) rfl)
    Hseq.out belowK_t (belowK_b (by simp)) hB0 (fun _ => rfl)
    (fun (pre : List (Nat × Nat)) W => (∃ u, Boxed W w.heap.size 116 u ∧ W.ownsRow w.heap.size 120 2 u pre.length (pre.flatMap pc) ∧ True) ∧ Below w.heap.size w W)
    (fun _ _ _ => False)
    (OwnFrom.and (Own.from (holdsRow_own _ _ _ _ _ (fun pre : List (Nat × Nat) => pre.length) (fun pre => pre.flatMap pc) (fun _ _ => True)) _) (ownFrom_below (Nat.le_refl _) (by simp)))
    (fun _ _ _ _ _ hs _ _ => hs)
    ⟨⟨_, bS, World.ownsRow_nil _ _ _ _, trivial⟩, hB0⟩
    (fun x a' W => ∃ Bx, w.heap.size < Bx ∧ Box2 W Bx x ∧ a' = { tmps := #[.slice none 0 0, .func (.func 135) #[] #[.pointer (some ⟨tb, 0, none⟩)], .pointer (some ⟨w.heap.size, 0, none⟩), undef, .slice none 0 0, .pointer (some ⟨Bx, 0, none⟩), .func (.func 135) #[] #[.pointer (some ⟨tb, 0, none⟩)], .agg #[I x.1, I x.2], undef, undef, undef, undef, undef], defers := [] })
    (fun x a' _ X Y row hs hg hr => by obtain ⟨Bx, h1, h2, h3⟩ := hs; exact ⟨Bx, h1, box2_own Bx x () X Y row h2 hg (fun r e => (hr r e).2), h3⟩)
    ?assign ?body ?done ?stop
  case assign =>
    rintro l pre x W K ⟨⟨u, b1, o1, _⟩, hB1⟩ hK
    dsimp only [encPTr]
    gi_wp2
    exact hK _ _ ((KeepsOthers.alloc _ _).from _) ((Below.refl _ W).alloc hB1.size _) ⟨⟨u, b1.alloc _, o1.alloc _, trivial⟩, hB1.alloc hB1.size _⟩ ⟨W.heap.size, b1.lt, World.alloc_heap_new W _, rfl⟩
  case body =>
    rintro l pre x a' W hl ⟨r, hr⟩ ⟨⟨u, b1, o1, _⟩, hB1⟩ ⟨Bx, hBx, bX, rfl⟩ hlt
    have c1 := b1.cell
    have hlen2 : pre.length ≤ 1000000 := by omega
    have cX := fun j => cell_of_row W Bx j _ _ _ bX
    have hsW := hB1.size
    clear hlt
    gi_wp2_with (gi_at_builtin; refine wpListIn_appBTr rfl _ _ 116 rfl 120 _ 2 16 Tryz.underlying116 info_2int rfl (by omega) (by omega) w.heap.size _ _ _ rfl (o1.alloc _) W.heap.size 1 1 _ 120 rfl (heap_alloc_new _ _) rfl rfl (by omega) (by simp; omega) ?_; intro u2 w1 hown1 hgrow; obtain ⟨g', cap', rfl⟩ := ownsRow_succ hown1; obtain ⟨hv1, hv2, hr2, hk2, hb2⟩ := b1.appended (by decide) o1 hsW (Nat.le_refl _) hown1 hgrow; have hc1 := hv1.cell; have hf1 := hv1.frozen)
    have hh : (w1.setCell ⟨w.heap.size, 0, none⟩ (.slice (some ⟨g', 0, none⟩) (pre.length + 1) cap')).ownsRow w.heap.size 120 2 (.slice (some ⟨g', 0, none⟩) (pre.length + 1) cap') (pre ++ [x]).length ((pre ++ [x]).flatMap pc) := by
      rw [List.length_append, List.flatMap_append]
      simpa [pc] using hr2
    exact ⟨hk2.from _, hb2, ⟨_, hv2, by first | exact hh | exact ⟨hh, trivial⟩⟩, hB1.trans hb2⟩
  case done =>
    rintro D ys W hD rfl ⟨⟨u, b1, o1, _⟩, hB1⟩ hK
    have c1 := b1.cell
    gi_wp2
    refine ⟨by simp, .inl ⟨_, _, rfl, run_takeDeferred hK, ?_⟩⟩
    exact ⟨_, results_tmp rfl _ _ _, _, rfl, ownsRow_putObj o1 _ hK rfl, hB1.trans (belowK_b (w := w) (Nat.le_refl _) W D _ _ (by simp at hD; omega) hK rfl rfl)⟩
  case stop =>
    rintro D c pre W hD _ hf _
    exact hf.elim

end Go.Proofs.YtljmonfobefiiaaGreatDoor

/- depend.Order: the happens-before order of a run. -/
namespace Go.Proofs.YtljmonfobefiiaaGreatDoor
open Go.RowKit

theorem mem_pairsL (run : List Stp) (a b : Nat) : (a, b) ∈ pairsL run ↔ a < b ∧ b < run.length ∧ depAt run a b = true := by
  unfold pairsL rowsP
  rw [List.mem_flatMap]
  constructor
  · rintro ⟨i, hi, h⟩
    unfold rowP at h
    obtain ⟨j, hj, e⟩ := List.mem_map.1 h
    obtain ⟨h1, h2⟩ := List.mem_filter.1 hj
    have h3 := List.mem_range.1 hi
    rw [List.mem_range'_1] at h1
    cases e
    exact ⟨by omega, by omega, h2⟩
  · rintro ⟨h1, h2, h3⟩
    refine ⟨a, List.mem_range.2 (by omega), ?_⟩
    unfold rowP
    refine List.mem_map.2 ⟨b, List.mem_filter.2 ⟨?_, h3⟩, rfl⟩
    rw [List.mem_range'_1]
    omega
theorem mem_nxL (run : List Stp) (a b : Nat) : b ∈ nxL (pairsL run) a ↔ a < b ∧ b < run.length ∧ depAt run a b = true := by
  rw [← mem_pairsL]
  unfold nxL
  constructor
  · intro h
    obtain ⟨p, hp, e⟩ := List.mem_map.1 h
    obtain ⟨h1, h2⟩ := List.mem_filter.1 hp
    obtain ⟨x, y⟩ := p
    simp at h2 e
    subst h2 e
    exact h1
  · intro h
    exact List.mem_map.2 ⟨(a, b), List.mem_filter.2 ⟨h, by simp⟩, rfl⟩
theorem lessB_nx (run : List Stp) (a k : Nat) : lessB run a k = (nxL (pairsL run) a).any fun b => b == k || lessB run b k := by
  rw [lessB_eq, Bool.eq_iff_iff, List.any_eq_true, List.any_eq_true]
  constructor
  · rintro ⟨j, hj, h⟩
    simp only [Bool.and_eq_true, decide_eq_true_eq] at h
    exact ⟨j, (mem_nxL run a j).2 ⟨h.1.1, List.mem_range.1 hj, h.1.2⟩, h.2⟩
  · rintro ⟨j, hj, h⟩
    obtain ⟨h1, h2, h3⟩ := (mem_nxL run a j).1 hj
    exact ⟨j, List.mem_range.2 h2, by simp only [Bool.and_eq_true, decide_eq_true_eq]; exact ⟨⟨h1, h3⟩, h⟩⟩
theorem flatMap_len {α β : Type} (f : α → List β) (c : Nat) (l : List α) (h : ∀ a ∈ l, (f a).length ≤ c) : (l.flatMap f).length ≤ l.length * c := by
  induction l with
  | nil => simp
  | cons a l ih =>
    have h1 := h a (by simp)
    have h2 := ih (fun x hx => h x (by simp [hx]))
    simp only [List.flatMap_cons, List.length_append, List.length_cons, Nat.add_mul]
    omega
theorem pairsL_len (run : List Stp) (h : run.length ≤ 64) : (pairsL run).length ≤ 10000 := by
  unfold pairsL rowsP
  have := flatMap_len (fun j => rowP run j run.length) 64 (List.range run.length) (fun j _ => by
    unfold rowP
    rw [List.length_map]
    exact Nat.le_trans (List.length_filter_le _ _) (by rw [List.length_range']; omega))
  rw [List.length_range] at this
  have h2 : run.length * 64 ≤ 64 * 64 := Nat.mul_le_mul_right _ h
  omega

set_option maxHeartbeats 400000 in
theorem depPairs (a : Option Addr) (n c : Nat) (w : World) : Calls Tryz.prog 101 #[.slice a n c] w fun e w' => e = .returned (.func (.func 135) #[] #[.pointer (some ⟨w.heap.size, 0, none⟩)]) ∧ w' = w.alloc (.cells #[.slice a n c] 24) := by
  go_enter Tryz.func101, Tryz.ntmps101
  go_wp2_with fail
  go_ret
  exact ⟨rfl, rfl⟩

set_option maxHeartbeats 400000 in
theorem collect (run : List Stp) (tb : Nat) (v : Value) (w : World) (hbox : w.cell? ⟨tb, 0, none⟩ = some v) (hrun : StpSl w v run) (hlen : run.length ≤ 64) :
    Calls Tryz.prog 100 #[.func (.func 135) #[] #[.pointer (some ⟨tb, 0, none⟩)]] w fun e w' => ∃ u, e = .returned u ∧ w'.ownsRow w.heap.size 120 2 u (pairsL run).length ((pairsL run).flatMap pc) ∧ Below w.heap.size w w' := by
  have hp := pairsL_len run hlen
  have H := Lib.hid (callsIn_wide.1 (appendSeq run tb v w hbox hrun (by omega) (by omega)))
  clear hp
  go_enter Tryz.func100, Tryz.ntmps100
  go_wp2_with fail
  refine H.out.mono ?_
  rintro e w1 ⟨u, rfl, h1, h2⟩
  go_wp2_with fail
  go_ret
  exact ⟨u, rfl, h1, h2⟩

set_option maxHeartbeats 400000 in
theorem depOrder (run : List Stp) (v : Value) (w : World) (hrun : StpSl w v run) (hlen : run.length ≤ 64) :
    Calls Tryz.prog 64 #[v] w fun e w' => ∃ p, e = .returned p ∧ OrdRep w' p run.length (lessB run) ∧ Below w.heap.size w w' := by
  obtain ⟨ka, ca, rfl, _⟩ := hrun.open
  have hB1 : Below w.heap.size w (w.alloc (.cells #[.slice ka run.length ca] 24)) := (Below.refl _ _).alloc (Nat.le_refl _) _
  have hbox : (w.alloc (.cells #[.slice ka run.length ca] 24)).cell? ⟨w.heap.size, 0, none⟩ = some (.slice ka run.length ca) := (Blk.new w _ 24).cell 0
  have H := Lib.hid (collect run w.heap.size _ _ hbox (hrun.kept hB1 (Nat.le_refl _)) hlen)
  have hp := pairsL_len run hlen
  have Hp := Lib.hid hp
  clear hp hbox hrun
  go_enter Tryz.func64, Tryz.ntmps64
  go_wp2_with fail
  refine (depPairs _ _ _ _).mono ?_
  rintro e w1 ⟨rfl, rfl⟩
  go_wp2_with fail
  refine H.out.mono ?_
  rintro e w2 ⟨u, rfl, h1, h2⟩
  have hfl := Flat.of_owns h1
  go_wp2_with fail
  refine (posetNew run.length (pairsL run) u w2 hfl hlen (fun p hp => by
    obtain ⟨a, b⟩ := p
    have := (mem_pairsL run a b).1 hp
    exact ⟨this.1, this.2.1⟩) Hp.out (lessB run) (fun a _ k _ => lessB_nx run a k)).mono ?_
  rintro e w3 ⟨p, rfl, h3, h4⟩
  go_wp2_with fail
  go_ret
  exact ⟨p, rfl, h3, (hB1.trans (h2.mono (by simp))).trans (h4.mono (Nat.le_trans hB1.size (by have := h2.size; simpa using this)))⟩

end Go.Proofs.YtljmonfobefiiaaGreatDoor

/- poset.Order.Covers: the pairs that come immediately one before the other. -/
namespace Go.Proofs.YtljmonfobefiiaaGreatDoor
open Go.RowKit

def furB (f : Nat → Nat → Bool) (m a c : Nat) : Bool := (List.range m).any fun b => f a b && f b c
theorem furB_succ (f : Nat → Nat → Bool) (m a c : Nat) : furB f (m + 1) a c = (furB f m a c || (f a m && f m c)) := by
  unfold furB
  rw [List.range_succ, List.any_append]
  simp
def covB (f : Nat → Nat → Bool) (n a c : Nat) : Bool := f a c && !furB f n a c
def covRow (f : Nat → Nat → Bool) (n a m : Nat) : List (Nat × Nat) := ((List.range m).filter fun c => covB f n a c).map fun c => (a, c)
theorem covRow_succ (f : Nat → Nat → Bool) (n a m : Nat) : covRow f n a (m + 1) = covRow f n a m ++ if covB f n a m then [(a, m)] else [] := by
  unfold covRow
  rw [List.range_succ, List.filter_append, List.map_append]
  congr 1
  cases h : covB f n a m <;> simp [h]
theorem covRow_len (f : Nat → Nat → Bool) (n a m : Nat) : (covRow f n a m).length ≤ m := by
  unfold covRow
  rw [List.length_map]
  exact Nat.le_trans (List.length_filter_le _ _) (by simp)
def covs (f : Nat → Nat → Bool) (n m : Nat) : List (Nat × Nat) := (List.range m).flatMap fun a => covRow f n a n
theorem covs_succ (f : Nat → Nat → Bool) (n m : Nat) : covs f n (m + 1) = covs f n m ++ covRow f n m n := by
  unfold covs
  rw [List.range_succ, List.flatMap_append]
  simp
theorem covs_len (f : Nat → Nat → Bool) (n m : Nat) : (covs f n m).length ≤ m * n := by
  have := flatMap_len (fun a => covRow f n a n) n (List.range m) (fun a _ => covRow_len f n a n)
  rw [List.length_range] at this
  exact this
theorem pcs_snoc (l : List (Nat × Nat)) (p : Nat × Nat) : (l ++ [p]).flatMap pc = l.flatMap pc ++ [I p.1, I p.2] := by
  rw [List.flatMap_append]; rfl

set_option maxHeartbeats 8000000 in
set_option maxRecDepth 100000 in
theorem coversC (p : Value) (n : Nat) (f : Nat → Nat → Bool) (w : World) (h : OrdRep w p n f) :
    Calls Tryz.prog 65 #[p] w fun e w' => ∃ v, e = .returned v ∧ w'.ownsRow w.heap.size 120 2 v (covs f n n).length ((covs f n n).flatMap pc) ∧ Below w.heap.size w w' := by
  have HO := Lib.hid h
  obtain ⟨hn, g, gb, c, rfl, h0, h1, hr⟩ := h
  have Hr := Lib.hid hr
  clear hr
  have hmk : ∀ W : World, (Instr.makeSlice 160 (.int .i64 1) (.int .i64 1)).run Tryz.prog W = .ok (.slice (some ⟨W.heap.size, 0, none⟩) 1 1) (W.alloc (.cells #[.int .u64 0] 143)) := fun W => run_mk1 (P := Tryz.prog) 160 143 (.int .u64 0) 8 1 Tryz.underlying160 info_uint64 rfl (by omega) (by omega) W
  go_enter Tryz.func65, Tryz.ntmps65
  go_wp2_with fail
  go_loopw [3, 12] (fun vo vi wr => ∃ (a : Nat) (av : Option Addr) (ac : Nat), a ≤ n ∧ vo = .slice av (covs f n a).length ac ∧ vi = I a ∧ Hid (wr.ownsRow w.heap.size 120 2 (.slice av (covs f n a).length ac) (covs f n a).length ((covs f n a).flatMap pc)) ∧ Hid (Below w.heap.size w wr)) (fun _ i _ => n - (intOf i).toNat)
  case atStart => exact ⟨0, none, 0, by omega, rfl, rfl, Lib.hid (World.ownsRow_nil _ _ _ _), Lib.hid (Below.refl _ _)⟩
  case round =>
    obtain ⟨a, av, ac, ha, rfl, rfl, Hown, HB⟩ := hrel
    have hwz := HB.out.size
    have d0 := cell_below HB.out (Nat.le_refl _) h0
    have hgl : g < wr.heap.size := by simpa using World.block_lt_of_cell? _ _ d0
    by_cases hlt : a < n
    · have hq : ((n : Int) + 63) / 64 = 1 := by omega
      have hq2 : ((n : Int) + 63).tdiv 64 = 1 := by rw [Int.tdiv_eq_ediv_of_nonneg (by omega)]; omega
      have hn63 : (n : Int) + 63 ≤ 127 := by omega
      obtain ⟨w1, rfl⟩ : ∃ w1 : World, w1 = wr := ⟨_, rfl⟩
      go_wp2_with fail
      go_loopw [26] (fun vj wc => ∃ (j m : Nat), j ≤ n ∧ vj = I j ∧ Blk wc w1.heap.size #[.int .u64 ((m : Nat) : Int)] ∧ m < lim64 ∧ Hid (∀ k < n, m.testBit k = furB f j a k) ∧ Hid (Below w1.heap.size w1 wc)) (fun j _ => n - (intOf j).toNat)
      case atStart => exact ⟨0, 0, by omega, rfl, Blk.new _ _ _, by decide, Lib.hid (fun k _ => by simp [furB]), Lib.hid ((Below.refl _ _).alloc (Nat.le_refl _) _)⟩
      case round =>
        obtain ⟨j, m, hj, rfl, hG, hm, Hm, HB1⟩ := hrel
        have HBw := Lib.hid (HB.out.trans (HB1.out.mono hwz))
        have c0 := cell_below HBw.out (Nat.le_refl _) h0
        have c1 := cell_below HBw.out (Nat.le_refl _) h1
        have hz1 := HB1.out.size
        by_cases hjl : j < n
        · have Hless := Lib.hid (ordLess _ n f a j wr (HO.out.kept HBw.out (Nat.le_refl _)) hlt hjl)
          obtain ⟨gi, ci, m', k0, k1, hm', hf'⟩ := Hr.out j hjl
          have q0 := cell_below HBw.out (Nat.le_refl _) k0
          have q1 := cell_below HBw.out (Nat.le_refl _) k1
          cases hfl : f a j with
          | false =>
            rw [hfl] at Hless
            have Hm2 := Lib.hid (show ∀ k < n, m.testBit k = furB f (j + 1) a k from fun k hk => by rw [furB_succ, hfl, Hm.out k hk]; simp)
            clear hfl k0 k1 hf'
            go_wp2_with (go_at_call 74; refine Hless.out.mono ?_; rintro e w3 ⟨rfl, rfl⟩)
            go_roundw
            case rel => exact ⟨j + 1, m, by omega, by go_num, hG, hm, Hm2, HB1⟩
            case measure => simp [intOf]; omega
          | true =>
            rw [hfl] at Hless
            have Hm2 := Lib.hid (show ∀ k < n, (m ||| m').testBit k = furB f (j + 1) a k from fun k hk => by rw [furB_succ, hfl, Nat.testBit_or, Hm.out k hk, hf' k hk]; simp)
            have HJ := Lib.hid (setJoin w1.heap.size 0 1 gi 0 ci m m' wr (hG.cell 0) (hG.frozen 0) hm q1 hm')
            clear hfl k0 k1 hf'
            go_wp2_with (first
              | (go_at_call 74; refine Hless.out.mono ?_; rintro e w3 ⟨rfl, rfl⟩)
              | (go_at_call 102; refine HJ.out.mono ?_; rintro e w3 ⟨rfl, rfl⟩))
            go_roundw
            case rel => exact ⟨j + 1, m ||| m', by omega, by go_num, hG.set 0 _, Nat.or_lt_two_pow hm hm', Hm2, Lib.hid (HB1.out.setCell (Nat.le_refl _) _)⟩
            case measure => simp [intOf]; omega
        · obtain rfl : j = n := by omega
          have Hown2 := Lib.hid (owns_below Hown.out HB1.out)
          have hcl := covs_len f j a
          have hcl2 : a * j ≤ 64 * 64 := Nat.mul_le_mul (by omega) (by omega)
          have hav : ∀ b, (Value.slice av (covs f j a).length ac).ownBlock = some b → b ≠ w1.heap.size := fun b hb => by have := Hown.out.lt b hb; omega
          have Hav := Lib.hid hav
          have HG := Lib.hid hG
          clear hav hG
          obtain ⟨w2, rfl⟩ : ∃ w2 : World, w2 = wr := ⟨_, rfl⟩
          go_wp2_with fail
          go_loopw [3, 47] (fun vo vi wr => ∃ (c k : Nat) (av : Option Addr) (ac : Nat), c ≤ j ∧ vo = .slice av k ac ∧ vi = I c ∧ Hid (k = (covs f j a ++ covRow f j a c).length) ∧ Hid (wr.ownsRow w.heap.size 120 2 (.slice av k ac) k ((covs f j a ++ covRow f j a c).flatMap pc)) ∧ Hid (Below w.heap.size w wr) ∧ Hid (Blk wr w1.heap.size #[.int .u64 ((m : Nat) : Int)]) ∧ Hid (∀ b, (Value.slice av k ac).ownBlock = some b → b ≠ w1.heap.size)) (fun _ i _ => j - (intOf i).toNat)
          case atStart =>
            refine ⟨0, (covs f j a).length, av, ac, by omega, rfl, rfl, Lib.hid (by simp [covRow]), ?_, HBw, HG, Hav⟩
            simpa [covRow] using Hown2
          case round =>
            clear Hown Hown2 Hav HG c0 c1
            obtain ⟨c, k, av, ac, hc, rfl, rfl, Hk, Hown, HB3, HG, Hav⟩ := hrel
            have hwz3 := HB3.out.size
            have hGl := HG.out.lt
            have hcl3 := covRow_len f j a c
            have hcl4 : k ≤ 5000 := by rw [Hk.out, List.length_append]; omega
            clear hcl3
            by_cases hcl' : c < j
            · have Hless := Lib.hid (ordLess _ j f a c wr (HO.out.kept HB3.out (Nat.le_refl _)) hlt hcl')
              have Hhas := Lib.hid (setHas w1.heap.size 0 1 m c wr (HG.out.cell 0) hm (by omega))
              rw [Hm.out c hcl'] at Hhas
              have Hrs := Lib.hid (covRow_succ f j a c)
              unfold covB at Hrs
              cases hfl : f a c with
              | false =>
                rw [hfl] at Hless Hrs
                have Hrs' : Hid (covRow f j a (c + 1) = covRow f j a c) := Lib.hid (by rw [Hrs.out]; simp)
                clear hfl Hrs Hhas
                go_wp2_with (go_at_call 74; refine Hless.out.mono ?_; rintro e w3 ⟨rfl, rfl⟩)
                go_roundw
                case rel => exact ⟨c + 1, k, av, ac, by omega, rfl, by go_num, by rw [Hrs'.out]; exact Hk, by rw [Hrs'.out]; exact Hown, HB3, HG, Hav⟩
                case measure => simp [intOf]; omega
              | true =>
                cases hfu : furB f j a c with
                | true =>
                  rw [hfl] at Hless Hrs
                  rw [hfu] at Hhas Hrs
                  have Hrs' : Hid (covRow f j a (c + 1) = covRow f j a c) := Lib.hid (by rw [Hrs.out]; simp)
                  clear hfl hfu Hrs
                  go_wp2_with (first
                    | (go_at_call 74; refine Hless.out.mono ?_; rintro e w3 ⟨rfl, rfl⟩)
                    | (go_at_call 103; refine Hhas.out.mono ?_; rintro e w3 ⟨rfl, rfl⟩))
                  go_roundw
                  case rel => exact ⟨c + 1, k, av, ac, by omega, rfl, by go_num, by rw [Hrs'.out]; exact Hk, by rw [Hrs'.out]; exact Hown, HB3, HG, Hav⟩
                  case measure => simp [intOf]; omega
                | false =>
                  rw [hfl] at Hless Hrs
                  rw [hfu] at Hhas Hrs
                  have Hrs' : Hid (covs f j a ++ covRow f j a (c + 1) = (covs f j a ++ covRow f j a c) ++ [(a, c)]) := Lib.hid (by rw [Hrs.out]; simp)
                  clear hfl hfu Hrs
                  go_wp2_with (first
                    | (go_at_call 74; refine Hless.out.mono ?_; rintro e w3 ⟨rfl, rfl⟩)
                    | (go_at_call 103; refine Hhas.out.mono ?_; rintro e w3 ⟨rfl, rfl⟩)
                    | (at_builtin; go_must (refine wpList_appB rfl _ _ 116 rfl 120 _ 2 16 Tryz.underlying116 info_2int rfl (by omega) (by omega) w.heap.size (.slice av k ac) k ((covs f j a ++ covRow f j a c).flatMap pc) rfl (Hown.out.alloc _) wr.heap.size 1 1 #[I a, I c] 120 rfl (heap_alloc_new _ _) rfl rfl (by omega) (by omega) (by rw [World.size_alloc]; omega) ?_); intro g5 cap5 w5 hg1 hg2 hg3 ho5 hgr5 hB5))
                  go_roundw
                  case rel =>
                    refine ⟨c + 1, k + 1, some ⟨g5, 0, none⟩, cap5, by omega, rfl, by go_num, ?_, ?_, Lib.hid ((HB3.out.alloc hwz3 _).trans hB5), Lib.hid ((HG.out.alloc _).grown hgr5 (fun e => Hav.out _ e rfl)), ?_⟩
                    · rw [Hrs'.out, List.length_append, ← Hk.out]; exact Lib.hid rfl
                    · rw [Hrs'.out, pcs_snoc]; exact Lib.hid ho5
                    · refine Lib.hid fun b hb => ?_
                      obtain rfl : g5 = b := by simpa [Value.ownBlock] using hb
                      rcases hg3 with h | h
                      · exact Hav.out _ h
                      · rw [World.size_alloc] at h; omega
                  case measure => simp [intOf]; omega
            · obtain rfl : c = j := by omega
              have Hcs : Hid (covs f c (a + 1) = covs f c a ++ covRow f c a c) := Lib.hid (covs_succ f c a)
              rw [← Hcs.out] at Hk Hown
              have Hk2 := Lib.hid Hk.out
              go_wp2_with fail
              go_roundw
              case rel =>
                have := Hk2.out
                subst this
                exact ⟨a + 1, av, ac, by omega, rfl, by go_num, Hown, HB3⟩
              case measure => simp [intOf]; omega
    · obtain rfl : a = n := by omega
      go_wp2_with fail
      go_ret
      exact ⟨_, rfl, Hown.out, HB.out⟩

end Go.Proofs.YtljmonfobefiiaaGreatDoor
