import Derived.Test.YtljmonfobefiiaaGreatDoorUR3
import Derived.Test.YtljmonfobefiiaaGreatDoorUBase
import Derived.BigRegion
import Derived.Lib.SliceRun
import Derived.Deep.RegionWith
import Derived.Test.YtljmonfobefiiaaGreatDoorUN1
import Derived.RangeFuncNested
import Derived.RangeFuncBound
import Derived.RangeFuncCalls
import Derived.RangeFuncLeaves
import Derived.Shelf.Abstract
import Derived.Shelf.RegionOpen
import Derived.OwnWalkIn
import Derived.TacticsInMore
import Derived.LoopNIn
import Derived.LoopIn
/- The pairs of dependent steps of a run, in plain words. -/
namespace Go.Proofs.YtljmonfobefiiaaGreatDoor
open Go.RowKit

def depAt (run : List Stp) (i k : Nat) : Bool := match run[i]?, run[k]? with | some a, some b => depB a b | _, _ => false
/-- The pairs of row i, up to k. -/
def rowP (run : List Stp) (i k : Nat) : List (Nat × Nat) := ((List.range' (i + 1) (k - (i + 1))).filter fun j => depAt run i j).map fun j => (i, j)
/-- The pairs of the rows before i. -/
def rowsP (run : List Stp) (i : Nat) : List (Nat × Nat) := (List.range i).flatMap fun j => rowP run j run.length
def pairsL (run : List Stp) : List (Nat × Nat) := rowsP run run.length

theorem rowP_start (run : List Stp) (i : Nat) : rowP run i (i + 1) = [] := by simp [rowP]
theorem rowP_succ (run : List Stp) (i k : Nat) (h : i + 1 ≤ k) : rowP run i (k + 1) = rowP run i k ++ (if depAt run i k then [(i, k)] else []) := by
  unfold rowP
  rw [show k + 1 - (i + 1) = (k - (i + 1)) + 1 by omega, List.range'_concat, List.filter_append, List.map_append]
  have : i + 1 + 1 * (k - (i + 1)) = k := by omega
  rw [this]
  by_cases hd : depAt run i k <;> simp [hd]
theorem rowsP_succ (run : List Stp) (i : Nat) : rowsP run (i + 1) = rowsP run i ++ rowP run i run.length := by
  unfold rowsP
  rw [List.range_succ, List.flatMap_append]
  simp
theorem rowP_prefix (run : List Stp) (i k : Nat) (h1 : i + 1 ≤ k) (h2 : k ≤ run.length) : rowP run i k <+: rowP run i run.length := by
  unfold rowP
  refine List.IsPrefix.map _ (List.IsPrefix.filter _ ?_)
  obtain ⟨d, rfl⟩ : ∃ d, k = i + 1 + d := ⟨k - (i + 1), by omega⟩
  obtain ⟨e, he⟩ : ∃ e, run.length = i + 1 + d + e := ⟨run.length - (i + 1 + d), by omega⟩
  refine ⟨List.range' (i + 1 + d) e, ?_⟩
  rw [he, show i + 1 + d - (i + 1) = d by omega, show i + 1 + d + e - (i + 1) = d + e by omega, List.range'_append_1]
theorem rowsP_prefix (run : List Stp) (i : Nat) (h : i ≤ run.length) : rowsP run i <+: pairsL run := by
  obtain ⟨d, hd⟩ : ∃ d, run.length = i + d := ⟨run.length - i, by omega⟩
  unfold pairsL
  rw [hd]
  clear h hd
  induction d with
  | zero => exact List.prefix_rfl
  | succ d ih => exact ih.trans (by rw [show i + (d + 1) = (i + d) + 1 by omega, rowsP_succ]; exact List.prefix_append _ _)
theorem part_prefix (run : List Stp) (i k : Nat) (hi : i < run.length) (h1 : i + 1 ≤ k) (h2 : k ≤ run.length) : rowsP run i ++ rowP run i k <+: pairsL run := by
  refine List.IsPrefix.trans ?_ (rowsP_prefix run (i + 1) (by omega))
  rw [rowsP_succ]
  exact (List.prefix_append_right_inj _).2 (rowP_prefix run i k h1 h2)

/-- A pair as yield is handed it. -/
def encPTr (x : Nat × Nat) : Array Value := #[.agg #[I x.1, I x.2]]

theorem depAt_eq {run : List Stp} {i k : Nat} (hi : i < run.length) (hk : k < run.length) : depAt run i k = depB run[i] run[k] := by simp [depAt, hi, hk]

theorem info_2int : (Tryz.prog.info? 120).map (fun i => (i.zero, i.size, i.bytes)) = some (some (.agg #[.int .i64 0, .int .i64 0]), 2, 16) := by kernel_rfl
/-- The cells of a pair. -/
def pc (x : Nat × Nat) : List Value := [I x.1, I x.2]

end Go.Proofs.YtljmonfobefiiaaGreatDoor

/- The happens-before order of a run, and the reference's matrix of it. -/
namespace Go.Proofs.YtljmonfobefiiaaGreatDoor
open Go.RowKit


def lessD (run : List Stp) : Nat → Nat → Nat → Bool
  | 0, _, _ => false
  | d + 1, i, k => (List.range run.length).any fun j => decide (i < j) && depAt run i j && (j == k || lessD run d j k)
/-- Step i happens before step k. -/
def lessB (run : List Stp) (i k : Nat) : Bool := lessD run run.length i k

theorem lessD_end (run : List Stp) (d i k : Nat) (h : run.length ≤ i + 1) : lessD run d i k = false := by
  cases d with
  | zero => rfl
  | succ d =>
    rw [lessD, List.any_eq_false]
    intro j hj
    have := List.mem_range.1 hj
    simp
    intro h1
    omega
theorem lessD_fuel (run : List Stp) : ∀ (m d d' i k : Nat), run.length ≤ i + 1 + m → m ≤ d → m ≤ d' → lessD run d i k = lessD run d' i k
  | 0, d, d', i, k, h, _, _ => by rw [lessD_end _ _ _ _ (by omega), lessD_end _ _ _ _ (by omega)]
  | m + 1, d, d', i, k, h, h1, h2 => by
    obtain ⟨d, rfl⟩ : ∃ e, d = e + 1 := ⟨d - 1, by omega⟩
    obtain ⟨d', rfl⟩ : ∃ e, d' = e + 1 := ⟨d' - 1, by omega⟩
    rw [lessD, lessD]
    congr 1
    funext j
    by_cases hj : i < j
    · rw [lessD_fuel run m d d' j k (by omega) (by omega) (by omega)]
    · simp [hj]
theorem lessB_eq (run : List Stp) (i k : Nat) : lessB run i k = (List.range run.length).any fun j => decide (i < j) && depAt run i j && (j == k || lessB run j k) := by
  unfold lessB
  rw [lessD_fuel run run.length run.length (run.length + 1) i k (by omega) (by omega) (by omega), lessD]

/-- What is known of row i when the steps before K have been looked at. -/
def rowS (run : List Stp) (i K k : Nat) : Bool := (List.range K).any fun j => decide (i < j) && depAt run i j && (j == k || lessB run j k)
theorem rowS_start (run : List Stp) (i k : Nat) : rowS run i (i + 1) k = false := by
  unfold rowS
  rw [List.any_eq_false]
  intro j hj
  have := List.mem_range.1 hj
  simp
  intro h1
  omega
theorem rowS_succ (run : List Stp) (i K k : Nat) (h : i < K) : rowS run i (K + 1) k = (rowS run i K k || (depAt run i K && (K == k || lessB run K k))) := by
  unfold rowS
  rw [List.range_succ, List.any_append]
  simp [h]
theorem rowS_end (run : List Stp) (i k : Nat) : rowS run i run.length k = lessB run i k := (lessB_eq run i k).symm
theorem lessB_lt (run : List Stp) : ∀ (m i k : Nat), run.length ≤ i + m → lessB run i k = true → i < k ∧ k < run.length
  | 0, i, k, h, hl => by
    unfold lessB at hl
    rw [lessD_end _ _ _ _ (by omega)] at hl
    cases hl
  | m + 1, i, k, h, hl => by
    rw [lessB_eq, List.any_eq_true] at hl
    obtain ⟨j, hj, hc⟩ := hl
    have hj' := List.mem_range.1 hj
    simp only [Bool.and_eq_true, decide_eq_true_eq, Bool.or_eq_true, beq_iff_eq] at hc
    obtain ⟨⟨h1, _⟩, h3⟩ := hc
    rcases h3 with rfl | h3
    · exact ⟨h1, hj'⟩
    · have := lessB_lt run m j k (by omega) h3
      exact ⟨by omega, this.2⟩
theorem lessB_false (run : List Stp) (i k : Nat) (h : k ≤ i) : lessB run i k = false := by
  rw [Bool.eq_false_iff]
  intro hl
  have := lessB_lt run run.length i k (by omega) hl
  omega

/-- n cells of one value. -/
def mk1 (n : Nat) (z : Value) : Array Value := (List.replicate n z).toArray
theorem mk1_size (n : Nat) (z : Value) : (mk1 n z).size = n := by simp [mk1]
theorem mk1_get (n : Nat) (z : Value) (j : Nat) (h : j < n) : (mk1 n z)[j]? = some z := by simp [mk1, h]
theorem run_mk1 {P : Program} (t e : TypeId) (z : Value) (bytes n : Nat) (ht : P.underlying t = some (.slice e)) (hinfo : (P.info? e).map (fun i => (i.zero, i.size, i.bytes)) = some (some z, 1, bytes)) (hz : z.cells = #[z]) (hby : bytes ≤ 1000) (hn : n ≤ 1000000) (w : World) :
    (Instr.makeSlice t (.int .i64 (n : Int)) (.int .i64 (n : Int))).run P w = .ok (.slice (some ⟨w.heap.size, 0, none⟩) n n) (w.alloc (.cells (mk1 n z) e)) := by
  obtain ⟨i0, hi, hz0, hz1, hz2⟩ := info_parts hinfo
  have hb : bytes * n ≤ 1000 * 1000000 := Nat.mul_le_mul hby hn
  have hr := run_make (P := P) w t e i0 z ht hi hz0 .i64 .i64 n n (by omega) (Int.le_refl _) (by
    rw [hz2]
    have h3 : ((bytes * n : Nat) : Int) ≤ 1000000000 := by omega
    rw [Int.natCast_mul] at h3
    omega) (by omega)
  simp only [Int.toNat_natCast] at hr
  rw [hr, hz, hz1]
  have : madeCells #[z] (n * 1) = mk1 n z := by
    rw [← Array.toList_inj, Nat.mul_one, toList_madeCells_one]
    rfl
  rw [this]

/-- In w the slice v holds n rows of n Bools: f. -/
def BoolMx (w : World) (v : Value) (n : Nat) (f : Nat → Nat → Bool) : Prop :=
  ∃ g c, v = .slice (some ⟨g, 0, none⟩) n c ∧ ∀ i < n, ∃ gi ci, w.cell? ⟨g, i, none⟩ = some (.slice (some ⟨gi, 0, none⟩) n ci) ∧ ∀ k < n, w.cell? ⟨gi, k, none⟩ = some (.bool (f i k))

theorem info_Sbool : (Tryz.prog.info? 83).map (fun i => (i.zero, i.size, i.bytes)) = some (some (.slice none 0 0), 1, 24) := by kernel_rfl
theorem info_bool : (Tryz.prog.info? 4).map (fun i => (i.zero, i.size, i.bytes)) = some (some (.bool false), 1, 1) := by kernel_rfl

/-- Row j of the matrix is done: it lies in a block of its own. -/
def RowDone (wr : World) (run : List Stp) (arr : Array Value) (g0 gi j : Nat) : Prop :=
  ∃ gj, arr[j]? = some (.slice (some ⟨gj, 0, none⟩) run.length run.length) ∧ gj ≠ g0 ∧ gj ≠ gi ∧ ∀ c < run.length, wr.cell? ⟨gj, c, none⟩ = some (.bool (lessB run j c))

theorem RowDone.of_blocks {wr w' : World} {run : List Stp} {arr : Array Value} {g0 gi j : Nat} (h : RowDone wr run arr g0 gi j) (hk : ∀ b, b < wr.heap.size → b ≠ g0 → b ≠ gi → w'.heap[b]? = wr.heap[b]?) : RowDone w' run arr g0 gi j := by
  obtain ⟨gj, h1, h2, h3, h4⟩ := h
  refine ⟨gj, h1, h2, h3, fun c hc => ?_⟩
  have h5 := h4 c hc
  have h6 := World.block_lt_of_cell? _ _ h5
  rw [World.cell?_of_block (w := wr) (hk gj (by simpa using h6) h2 h3)]
  exact h5

set_option maxHeartbeats 8000000 in
set_option maxRecDepth 100000 in
theorem refLess (run : List Stp) (v : Value) (w : World) (hrun : StpSl w v run) (hn : run.length ≤ 100000) :
    Calls Tryz.prog 15 #[v] w fun e w' => ∃ u, e = .returned u ∧ BoolMx w' u run.length (lessB run) ∧ Below w.heap.size w w' := by
  obtain ⟨ka, ca, rfl, hml⟩ := hrun.open
  have hmk := fun W => run_mk1 (P := Tryz.prog) 42 83 (.slice none 0 0) 24 run.length Tryz.underlying42 info_Sbool rfl (by omega) (by omega) W
  have hmk2 := fun W => run_mk1 (P := Tryz.prog) 83 4 (.bool false) 1 run.length Tryz.underlying83 info_bool rfl (by omega) (by omega) W
  go_enter Tryz.func15, Tryz.ntmps15
  go_wp2
  go_loopw [5] (fun p wr => ∃ (ii : Nat) (arr : Array Value), ii ≤ run.length ∧ p = .int .i64 ((ii : Int) - 1) ∧ Below w.heap.size w wr ∧ w.heap.size < wr.heap.size ∧ Blk wr w.heap.size arr ∧ Hid (arr.size = run.length) ∧
      (∀ j, ii ≤ j → j < run.length → RowDone wr run arr w.heap.size wr.heap.size j)) (fun p _ => (intOf p + 1).toNat)
  case atStart => exact ⟨run.length, _, Nat.le_refl _, rfl, (by repeat (first | exact Below.refl _ _ | assumption | refine Below.drew ?_ | refine below_drewN ?_ _ | refine Below.alloc ?_ (by simp <;> omega) _ | refine Below.setCell ?_ (by simp <;> omega) _)), by simp, Blk.new _ _ _, Lib.hid (mk1_size _ _), fun j h1 h2 => absurd h2 (by omega)⟩
  case round =>
    obtain ⟨ii, arr, hii, rfl, hB, hg0, hb0, Hsz, hdone⟩ := hrel
    have Hdone := Lib.hid hdone
    clear hdone
    have hc0 := hb0.cell
    have hf0 := hb0.frozen
    cases ii with
    | zero =>
      have e0 : (((0 : Nat) : Int) - 1) = -1 := by omega
      rw [e0]
      go_wp2
      go_ret
      refine ⟨_, rfl, ⟨_, _, rfl, fun i hi => ?_⟩, hB⟩
      obtain ⟨gj, h1, _, _, h4⟩ := Hdone.out i (by omega) hi
      exact ⟨gj, _, (hc0 i).trans h1, h4⟩
    | succ i =>
      have e0 : (((i + 1 : Nat) : Int) - 1) = (i : Int) := by omega
      rw [e0]
      clear e0
      have hi : i < run.length := by omega
      obtain ⟨x, hx⟩ : ∃ x, arr[i]? = some x := ⟨arr[i]'(by rw [Hsz.out]; exact hi), by simp⟩
      go_wp2
      have hW : Blk ((wr.setCell ⟨w.heap.size, i, none⟩ (.slice (some ⟨wr.heap.size, 0, none⟩) run.length run.length)).alloc (.cells (mk1 run.length (.bool false)) 4)) w.heap.size (arr.setIfInBounds i (.slice (some ⟨wr.heap.size, 0, none⟩) run.length run.length)) := (hb0.set i _).alloc _
      have hW2 : Blk ((wr.setCell ⟨w.heap.size, i, none⟩ (.slice (some ⟨wr.heap.size, 0, none⟩) run.length run.length)).alloc (.cells (mk1 run.length (.bool false)) 4)) wr.heap.size (mk1 run.length (.bool false)) := by
        have := Blk.new (wr.setCell ⟨w.heap.size, i, none⟩ (.slice (some ⟨wr.heap.size, 0, none⟩) run.length run.length)) (mk1 run.length (.bool false)) 4
        simpa using this
      have hai : (arr.setIfInBounds i (.slice (some ⟨wr.heap.size, 0, none⟩) run.length run.length))[i]? = some (.slice (some ⟨wr.heap.size, 0, none⟩) run.length run.length) := by
        rw [Array.getElem?_setIfInBounds_self_of_lt (by rw [Hsz.out]; exact hi)]
      obtain ⟨arr2, harr2⟩ : ∃ a, a = arr.setIfInBounds i (.slice (some ⟨wr.heap.size, 0, none⟩) run.length run.length) := ⟨_, rfl⟩
      have hd2 : ∀ j, i < j → j < run.length → RowDone ((wr.setCell ⟨w.heap.size, i, none⟩ (.slice (some ⟨wr.heap.size, 0, none⟩) run.length run.length)).alloc (.cells (mk1 run.length (.bool false)) 4)) run arr2 w.heap.size wr.heap.size j := by
        intro j h1 h2
        obtain ⟨gj, a1, a2, a3, a4⟩ := Hdone.out j (by omega) h2
        have hgj : gj < wr.heap.size := by simpa using World.block_lt_of_cell? _ _ (a4 j h2)
        refine RowDone.of_blocks (wr := wr) ⟨gj, ?_, a2, by omega, a4⟩ fun b hb1 hb2 hb3 => ?_
        · rw [harr2, Array.getElem?_setIfInBounds_ne (by omega)]
          exact a1
        · rw [Below.heap_alloc _ _ _ (by simpa using hb1)]
          exact heap_setCell_other _ _ _ _ (by simpa using hb2)
      rw [← harr2] at hW hai
      have Hsz2 : Hid (arr2.size = run.length) := Lib.hid (by rw [harr2, Array.size_setIfInBounds]; exact Hsz.out)
      have Hai := Lib.hid hai
      have Hd2 := Lib.hid hd2
      have hBW : Below w.heap.size w ((wr.setCell ⟨w.heap.size, i, none⟩ (.slice (some ⟨wr.heap.size, 0, none⟩) run.length run.length)).alloc (.cells (mk1 run.length (.bool false)) 4)) := (hB.setCell (by simp) _).alloc (by simp; omega) _
      clear harr2 hai hd2 hx hc0 hf0 Hdone hb0 hB
      generalize hgi : wr.heap.size = gi at *
      have Hgi := Lib.hid hgi
      clear hgi
      go_loopw [6] (fun p wr => ∃ (k : Nat) (rv : Array Value), i + 1 ≤ k ∧ k ≤ run.length ∧ p = .int .i64 k ∧ Below w.heap.size w wr ∧ gi < wr.heap.size ∧ Blk wr w.heap.size arr2 ∧ Blk wr gi rv ∧ Hid (rv.size = run.length) ∧
        (∀ c, c < run.length → rv[c]? = some (.bool (rowS run i k c))) ∧ (∀ j, i < j → j < run.length → RowDone wr run arr2 w.heap.size gi j)) (fun p _ => run.length - (intOf p).toNat)
      case atStart =>
        refine ⟨i + 1, _, by omega, by omega, by go_num, hBW, by have := Hgi.out; simp; omega, hW, hW2, Lib.hid (mk1_size _ _), fun c hc => ?_, Hd2.out⟩
        rw [rowS_start, mk1_get _ _ _ hc]
      case round =>
        rename_i wr0 _ _
        obtain ⟨k, rv, hik, hk, rfl, hB, hgw, hb0, hbi, Hrs, hrow, hdn⟩ := hrel
        have Hrow := Lib.hid hrow
        have Hdn := Lib.hid hdn
        clear hrow hdn
        by_cases hlt : k < run.length
        · obtain ⟨b, o, va, vs, rfl, hva, hvs, x0, x1, x2, x3, x4, x5, x6, x7, x8, x9, x10⟩ := (hrun.kept hB (Nat.le_refl _)).at (i := i) (s := run[i]) (by simp [hi])
          obtain ⟨b', o', ua, us, hab, hua, hus, y0, y1, y2, y3, y4, y5, y6, y7, y8, y9, y10⟩ := (hrun.kept hB (Nat.le_refl _)).at (i := k) (s := run[k]) (by simp [hlt])
          simp at hab
          obtain ⟨rfl, rfl⟩ := hab
          have c := dependent run[i] run[k] (run[i].val va vs) (run[k].val ua us) wr.drew ⟨va, vs, rfl, hva, hvs⟩ ⟨ua, us, rfl, hua, hus⟩
          have hde := depAt_eq hi hlt
          by_cases hd : depB run[i] run[k] = true
          · rw [hd] at c hde
            simp only [Stp.val, Stp.row] at c
            have C := Lib.hid c
            have Hde := Lib.hid hde
            clear c hd hde
            go_wp2
            go_still_tail 8, (by kernel_rfl)
            change wpList _ _ _ _ _ wr.drew
            go_wp2_with fail
            refine C.out.mono ?_
            rintro e w1 ⟨rfl, hB1⟩
            have hBw1 : Below w.heap.size w w1 := hB.drew.trans (hB1.mono hB.size)
            have hz1 := hB1.size
            simp only [heap_drew] at hz1
            have hb01 : Blk w1 w.heap.size arr2 := hb0.drew.kept hB1 hb0.lt
            have hbi1 : Blk w1 gi rv := hbi.drew.kept hB1 hbi.lt
            have Hdn1 : Hid (∀ j, i < j → j < run.length → RowDone w1 run arr2 w.heap.size gi j) := Lib.hid fun j h1 h2 => (Hdn.out j h1 h2).of_blocks fun b hb _ _ => hB1.block b hb
            have hc0 := (hb01.cell i).trans Hai.out
            have hci := (hbi1.cell k).trans (Hrow.out k hlt)
            have hfi := hbi1.frozen k
            go_wp2_with fail
            have hbi2 := hbi1.set k (.bool true)
            have hb02 := hb01.setOther ⟨gi, k, none⟩ (.bool true) (by have := hb01.lt; have := Hgi.out; simp; omega)
            have Hdn2 : Hid (∀ j, i < j → j < run.length → RowDone (w1.setCell ⟨gi, k, none⟩ (.bool true)) run arr2 w.heap.size gi j) := Lib.hid fun j h1 h2 => (Hdn1.out j h1 h2).of_blocks fun b _ _ hb => heap_setCell_other _ _ _ _ (by simpa using hb)
            go_loopw [7] (fun p w2 => ∃ (j : Nat) (rw : Array Value), k + 1 ≤ j ∧ j ≤ run.length ∧ p = .int .i64 j ∧ Below w.heap.size w w2 ∧ gi < w2.heap.size ∧ Blk w2 w.heap.size arr2 ∧ Blk w2 gi rw ∧ Hid (rw.size = run.length) ∧
              (∀ c, c < run.length → rw[c]? = some (.bool (if c < j then rowS run i (k + 1) c else rowS run i k c))) ∧ (∀ j, i < j → j < run.length → RowDone w2 run arr2 w.heap.size gi j)) (fun p _ => run.length - (intOf p).toNat)
            case atStart =>
              refine ⟨k + 1, _, by omega, by omega, by go_num, hBw1.setCell (by have := Hgi.out; have := hb01.lt; simp; omega) _, by simp; omega, hb02, hbi2, Lib.hid (by rw [Array.size_setIfInBounds]; exact Hrs.out), fun c hc => ?_, Hdn2.out⟩
              by_cases hck : c = k
              · subst hck
                rw [Array.getElem?_setIfInBounds_self_of_lt (by rw [Hrs.out]; exact hlt), if_pos (by omega), rowS_succ _ _ _ _ (by omega), Hde.out]
                simp
              · rw [Array.getElem?_setIfInBounds_ne (by omega), Hrow.out c hc]
                by_cases hc2 : c < k + 1
                · rw [if_pos hc2, rowS_succ _ _ _ _ (by omega), lessB_false run k c (by omega)]
                  have : (k == c) = false := by simp; omega
                  simp [this]
                · rw [if_neg hc2]
            case round =>
              clear hb01 hbi1 hc0 hci hfi hbi2 hb02 hBw1 hB1 hz1
              rename_i w2
              obtain ⟨j, rv2, hkj, hj, rfl, hB, hgw, hb0, hbi, Hrs2, hrow2, hdn2⟩ := hrel
              have Hrow2 := Lib.hid hrow2
              have Hdn2 := Lib.hid hdn2
              clear hrow2 hdn2
              by_cases hlt2 : j < run.length
              · obtain ⟨gk, a1, a2, a3, a4⟩ := Hdn2.out k (by omega) hlt
                have z0 := (hb0.cell i).trans Hai.out
                have z1 := (hb0.cell k).trans a1
                have z2 := a4 j hlt2
                have z3 := (hbi.cell j).trans (Hrow2.out j hlt2)
                rw [if_neg (by omega)] at z3
                have z4 := hbi.frozen j
                have hval : rowS run i (k + 1) j = (rowS run i k j || lessB run k j) := by
                  have : (k == j) = false := by simp; omega
                  rw [rowS_succ _ _ _ _ (by omega), Hde.out, this]
                  simp
                cases hx : rowS run i k j with
                | true =>
                  rw [hx] at z3 hval
                  have Hval := Lib.hid (hval.trans (Bool.true_or _))
                  clear hval hx a1 a4
                  go_wp2
                  go_region
                  go_wp2
                  go_roundw
                  case rel =>
                    refine ⟨j + 1, _, by omega, by omega, by go_num, (hB.setCell (p := ⟨gi, j, none⟩) (by have := Hgi.out; have := hb0.lt; simp; omega) (.bool true)).drew, by simpa [heap_drew] using hgw, (hb0.setOther ⟨gi, j, none⟩ (.bool true) (by have := hb0.lt; have := Hgi.out; simp; omega)).drew, (hbi.set j (.bool true)).drew, Lib.hid (by rw [Array.size_setIfInBounds]; exact Hrs2.out), fun c hc => ?_, fun q h1 h2 => (Hdn2.out q h1 h2).of_blocks fun b _ _ hb => heap_setCell_other _ _ _ _ (by simpa using hb)⟩
                    by_cases hcj : c = j
                    · subst hcj
                      rw [Array.getElem?_setIfInBounds_self_of_lt (by rw [Hrs2.out]; exact hlt2), if_pos (by omega)]
                      exact congrArg (fun b => some (Value.bool b)) Hval.out.symm
                    · rw [Array.getElem?_setIfInBounds_ne (by omega), Hrow2.out c hc]
                      by_cases hc2 : c < j
                      · rw [if_pos hc2, if_pos (by omega)]
                      · rw [if_neg hc2, if_neg (by omega)]
                  case measure => simp [intOf]; omega
                | false =>
                  rw [hx] at z3 hval
                  cases hy : lessB run k j with
                  | true =>
                    rw [hy] at z2 hval
                    have Hval := Lib.hid (show rowS run i (k + 1) j = true from hval)
                    clear hval hx hy a1 a4
                    go_wp2
                    go_region
                    go_wp2
                    go_roundw
                    case rel =>
                      refine ⟨j + 1, _, by omega, by omega, by go_num, (hB.setCell (p := ⟨gi, j, none⟩) (by have := Hgi.out; have := hb0.lt; simp; omega) (.bool true)).drew, by simpa [heap_drew] using hgw, (hb0.setOther ⟨gi, j, none⟩ (.bool true) (by have := hb0.lt; have := Hgi.out; simp; omega)).drew, (hbi.set j (.bool true)).drew, Lib.hid (by rw [Array.size_setIfInBounds]; exact Hrs2.out), fun c hc => ?_, fun q h1 h2 => (Hdn2.out q h1 h2).of_blocks fun b _ _ hb => heap_setCell_other _ _ _ _ (by simpa using hb)⟩
                      by_cases hcj : c = j
                      · subst hcj
                        rw [Array.getElem?_setIfInBounds_self_of_lt (by rw [Hrs2.out]; exact hlt2), if_pos (by omega)]
                        exact congrArg (fun b => some (Value.bool b)) Hval.out.symm
                      · rw [Array.getElem?_setIfInBounds_ne (by omega), Hrow2.out c hc]
                        by_cases hc2 : c < j
                        · rw [if_pos hc2, if_pos (by omega)]
                        · rw [if_neg hc2, if_neg (by omega)]
                    case measure => simp [intOf]; omega
                  | false =>
                    rw [hy] at z2 hval
                    have Hval := Lib.hid (show rowS run i (k + 1) j = false from hval)
                    clear hval hx hy a1 a4
                    go_wp2
                    go_region
                    go_wp2
                    go_roundw
                    case rel =>
                      refine ⟨j + 1, _, by omega, by omega, by go_num, (hB.setCell (p := ⟨gi, j, none⟩) (by have := Hgi.out; have := hb0.lt; simp; omega) (.bool false)).drew, by simpa [heap_drew] using hgw, (hb0.setOther ⟨gi, j, none⟩ (.bool false) (by have := hb0.lt; have := Hgi.out; simp; omega)).drew, (hbi.set j (.bool false)).drew, Lib.hid (by rw [Array.size_setIfInBounds]; exact Hrs2.out), fun c hc => ?_, fun q h1 h2 => (Hdn2.out q h1 h2).of_blocks fun b _ _ hb => heap_setCell_other _ _ _ _ (by simpa using hb)⟩
                      by_cases hcj : c = j
                      · subst hcj
                        rw [Array.getElem?_setIfInBounds_self_of_lt (by rw [Hrs2.out]; exact hlt2), if_pos (by omega)]
                        exact congrArg (fun b => some (Value.bool b)) Hval.out.symm
                      · rw [Array.getElem?_setIfInBounds_ne (by omega), Hrow2.out c hc]
                        by_cases hc2 : c < j
                        · rw [if_pos hc2, if_pos (by omega)]
                        · rw [if_neg hc2, if_neg (by omega)]
                    case measure => simp [intOf]; omega
              · go_wp2
                go_roundw
                case rel =>
                  refine ⟨k + 1, rv2, by omega, by omega, by go_num, hB, hgw, hb0, hbi, Hrs2, fun c hc => ?_, Hdn2.out⟩
                  rw [Hrow2.out c hc, if_pos (by omega)]
                case measure => simp [intOf]; omega
          · have hd' : depB run[i] run[k] = false := by simpa using hd
            rw [hd'] at c hde
            simp only [Stp.val, Stp.row] at c
            have C := Lib.hid c
            have Hde := Lib.hid hde
            clear c hd hd' hde
            go_wp2
            go_still_tail 8, (by kernel_rfl)
            change wpList _ _ _ _ _ wr.drew
            go_wp2_with fail
            refine C.out.mono ?_
            rintro e w1 ⟨rfl, hB1⟩
            have hz1 := hB1.size
            simp only [heap_drew] at hz1
            go_wp2_with fail
            go_roundw
            case rel =>
              refine ⟨k + 1, rv, by omega, by omega, by go_num, hB.drew.trans (hB1.mono hB.size), by omega, hb0.drew.kept hB1 hb0.lt, hbi.drew.kept hB1 hbi.lt, Hrs, fun c hc => ?_, fun j h1 h2 => (Hdn.out j h1 h2).of_blocks fun b hb _ _ => hB1.block b hb⟩
              rw [rowS_succ _ _ _ _ (by omega), Hde.out, Hrow.out c hc]
              simp
            case measure => simp [intOf]; omega
        · have hkk : k = run.length := by omega
          go_wp2
          go_roundw
          case rel =>
            refine ⟨i, arr2, by omega, rfl, hB, by have := hb0.lt; omega, hb0, Hsz2, fun j h1 h2 => ?_⟩
            by_cases hj : j = i
            · subst hj
              refine ⟨gi, Hai.out, by have := hb0.lt; have := Hgi.out; omega, by omega, fun c hc => ?_⟩
              rw [hbi.cell, Hrow.out c hc, hkk, rowS_end]
            · obtain ⟨gj, a1, a2, a3, a4⟩ := Hdn.out j (by omega) h2
              have hgj : gj < wr.heap.size := by simpa using World.block_lt_of_cell? _ _ (a4 j h2)
              exact ⟨gj, a1, a2, by omega, a4⟩
          case measure => simp [intOf]

end Go.Proofs.YtljmonfobefiiaaGreatDoor

/- slices.Clone of asks, messages and steps; trace.own. -/
namespace Go.Proofs.YtljmonfobefiiaaGreatDoor
open Go.RowKit

/-- append of m elements, m may be 0, onto a row of the call's own. -/
theorem wpList_app0Tr {P : Program} {w : World} {ops : Array Oper} {rest : List Oper} {o : Oper} {a : Act} {Q : Exit → Act → World → Prop} (hgd : o.guard = none) (s x : Operand) (t : TypeId)
    (ho : o.op = .call { callee := .builtin .append, args := #[s, x], argTypes := #[t, t] })
    (e : TypeId) (z : Value) (k bytes : Nat) (ht : P.underlying t = some (.slice e)) (hinfo : (P.info? e).map (fun i => (i.zero, i.size, i.bytes)) = some (some z, k, bytes)) (hzs : z.cells.size = k) (hk : 0 < k) (hby : bytes ≤ 1000)
    (B : Nat) (v : Value) (n : Nat) (xs : List Value) (hs : a.eval s = v) (hown : w.ownsRow B e k v n xs)
    (ad : Addr) (m c : Nat) (news : List Value) (hx : a.eval x = .slice (some ad) m c) (hfl : Flat w k (.slice (some ad) m c) m news) (h1 : ∀ u ∈ news, u.oneCell' = true)
    (hbd : n + m ≤ 100000000) (hbase : B ≤ w.heap.size)
    (h : ∀ u w', w'.ownsRow B e k u (n + m) (xs ++ news) → w.grownBy w' v.ownBlock → Below B w w' → wpList P ops Q rest (a.put o.dst u) w') : wpList P ops Q (o :: rest) a w := by
  obtain ⟨i0, hi, hz0, hz1, hz2⟩ := info_parts hinfo
  refine wpList_append_own_at w hgd s x t ho B e i0 z k bytes ht hi hz0 hz1 hz2 hzs hk v n xs hs hown ad m c news hx hfl.1 (fun j u hu => ?_) h1 (by unfold maxLen; omega)
    (Nat.le_trans (Nat.mul_le_mul hbd hby) (by omega)) hbase ?_
  · obtain ⟨b, of, e1, hnews⟩ := hfl.cells (by have := (List.getElem?_eq_some_iff.1 hu).1; omega)
    simp at e1
    subst e1
    have hadd : (⟨b, of, none⟩ : Addr).add j = ⟨b, of + j, none⟩ := by unfold Addr.add; split <;> simp_all
    rw [hadd]
    exact hnews j u hu
  · intro u w' h2 h3 _ _
    exact h u w' h2 h3 ((Below.refl B w).grown h3 hbase (fun k' hk' => (hown.lt k' hk').1))

theorem iv_oneTr (l : List Int) : ∀ u ∈ iv l, u.oneCell' = true := by
  intro u hu
  obtain ⟨x, _, rfl⟩ := List.mem_map.1 hu
  rfl
theorem asks_one (l : List Ask) : ∀ u ∈ l.flatMap Ask.cells, u.oneCell' = true := by
  intro u hu
  obtain ⟨x, _, h⟩ := List.mem_flatMap.1 hu
  exact iv_oneTr _ u h
theorem msgs_one (l : List Msg) : ∀ u ∈ l.flatMap Msg.cells, u.oneCell' = true := by
  intro u hu
  obtain ⟨x, _, h⟩ := List.mem_flatMap.1 hu
  exact iv_oneTr _ u h
theorem row_one (s : Stp) (va vs : Value) (ha : va.oneCell' = true) (hs : vs.oneCell' = true) : ∀ u ∈ s.row va vs, u.oneCell' = true := by
  intro u hu
  simp only [Stp.row, List.mem_cons, List.not_mem_nil, or_false] at hu
  rcases hu with rfl | rfl | rfl | rfl | rfl | rfl | rfl | rfl | rfl | rfl | rfl <;> first | rfl | assumption
theorem steps_one {w : World} : ∀ {l : List Stp} {xs : List Value}, StpCells w l xs → ∀ u ∈ xs, u.oneCell' = true
  | [], _, h => by
    have : _ = [] := h
    subst this
    simp
  | s :: l, xs, ⟨va, vs, ys, hx, h1, h2, h3⟩ => by
    intro u hu
    rw [hx] at hu
    obtain ⟨_, _, rfl, _⟩ := h1.open
    obtain ⟨_, _, rfl, _⟩ := h2.open
    rcases List.mem_append.1 hu with h | h
    · exact row_one s _ _ rfl rfl u h
    · exact steps_one h3 u h
theorem flat_noneTr {w : World} {k n c m : Nat} {xs : List Value} (h : Flat w k (.slice none m c) n xs) : xs = [] := by
  cases xs with
  | nil => rfl
  | cons x xs =>
    obtain ⟨b, o, e, _⟩ := h.cells (by simp)
    cases e

set_option maxHeartbeats 400000 in
theorem cloneAsk (l : List Ask) (v : Value) (w : World) (h : AskSl w v l) (hn : l.length ≤ 1000000) :
    Calls Tryz.prog 127 #[v] w fun e w' => ∃ u, e = .returned u ∧ w'.ownsRow w.heap.size 60 7 u l.length (l.flatMap Ask.cells) ∧ Below w.heap.size w w' := by
  obtain ⟨ka, ca, rfl, hml⟩ := h.open
  have qT : ∀ (w : World) (a : Option Addr) (n c n' c' : Nat), (binOp .eql 50 (.slice a n c) (.slice none n' c')).run Tryz.prog w = .ok (.bool a.isNone) w := fun w a n c n' c' => Lib.run_eql_slice_nil w _ _ a n c n' c' Tryz.underlying50
  go_enter Tryz.func127, Tryz.ntmps127
  cases ka with
  | none =>
    have e := flat_noneTr h
    have e0 : l.length = 0 := by have := h.1; rw [e] at this; simp at this; omega
    go_wp2_with fail
    go_ret
    exact ⟨_, rfl, by rw [e0, e]; exact World.ownsRow_nil _ _ _ _, Below.refl _ _⟩
  | some ad =>
    go_wp2_with (at_builtin; refine wpList_app0Tr rfl _ _ 50 rfl 60 _ 7 56 Tryz.underlying50 info_Ask rfl (by omega) (by omega) w.heap.size _ 0 [] rfl (owns_of_block (n := 0) (cs := #[]) (heap_alloc_new _ _) (by simp) rfl (by omega)) ad l.length ca _ rfl (Flat.kept (B := w.heap.size) h (by repeat (first | exact Below.refl _ _ | assumption | refine Below.drew ?_ | refine below_drewN ?_ _ | refine Below.alloc ?_ (by simp <;> omega) _ | refine Below.setCell ?_ (by simp <;> omega) _)) (Nat.le_refl _)) (asks_one l) (by omega) (by simp) ?_; intro u w1 hown hgr hB1)
    go_ret
    exact ⟨_, rfl, by simpa using hown, Below.trans (b := w.alloc (.cells #[] 60)) (by repeat (first | exact Below.refl _ _ | assumption | refine Below.drew ?_ | refine below_drewN ?_ _ | refine Below.alloc ?_ (by simp <;> omega) _ | refine Below.setCell ?_ (by simp <;> omega) _)) hB1⟩

set_option maxHeartbeats 400000 in
theorem cloneMsg (l : List Msg) (v : Value) (w : World) (h : MsgSl w v l) (hn : l.length ≤ 1000000) :
    Calls Tryz.prog 128 #[v] w fun e w' => ∃ u, e = .returned u ∧ w'.ownsRow w.heap.size 47 5 u l.length (l.flatMap Msg.cells) ∧ Below w.heap.size w w' := by
  obtain ⟨ka, ca, rfl, hml⟩ := h.open
  have qT : ∀ (w : World) (a : Option Addr) (n c n' c' : Nat), (binOp .eql 51 (.slice a n c) (.slice none n' c')).run Tryz.prog w = .ok (.bool a.isNone) w := fun w a n c n' c' => Lib.run_eql_slice_nil w _ _ a n c n' c' Tryz.underlying51
  go_enter Tryz.func128, Tryz.ntmps128
  cases ka with
  | none =>
    have e := flat_noneTr h
    have e0 : l.length = 0 := by have := h.1; rw [e] at this; simp at this; omega
    go_wp2_with fail
    go_ret
    exact ⟨_, rfl, by rw [e0, e]; exact World.ownsRow_nil _ _ _ _, Below.refl _ _⟩
  | some ad =>
    go_wp2_with (at_builtin; refine wpList_app0Tr rfl _ _ 51 rfl 47 _ 5 40 Tryz.underlying51 info_Msg rfl (by omega) (by omega) w.heap.size _ 0 [] rfl (owns_of_block (n := 0) (cs := #[]) (heap_alloc_new _ _) (by simp) rfl (by omega)) ad l.length ca _ rfl (Flat.kept (B := w.heap.size) h (by repeat (first | exact Below.refl _ _ | assumption | refine Below.drew ?_ | refine below_drewN ?_ _ | refine Below.alloc ?_ (by simp <;> omega) _ | refine Below.setCell ?_ (by simp <;> omega) _)) (Nat.le_refl _)) (msgs_one l) (by omega) (by simp) ?_; intro u w1 hown hgr hB1)
    go_ret
    exact ⟨_, rfl, by simpa using hown, Below.trans (b := w.alloc (.cells #[] 47)) (by repeat (first | exact Below.refl _ _ | assumption | refine Below.drew ?_ | refine below_drewN ?_ _ | refine Below.alloc ?_ (by simp <;> omega) _ | refine Below.setCell ?_ (by simp <;> omega) _)) hB1⟩

set_option maxHeartbeats 400000 in
theorem cloneStp (l : List Stp) (v : Value) (w : World) (h : StpSl w v l) (hn : l.length ≤ 1000000) :
    Calls Tryz.prog 126 #[v] w fun e w' => ∃ u xs, e = .returned u ∧ StpCells w l xs ∧ w'.ownsRow w.heap.size 53 11 u l.length xs ∧ Below w.heap.size w w' := by
  obtain ⟨ka, ca, rfl, hml⟩ := h.open
  obtain ⟨xs, hcs, hfl⟩ := h
  have qT : ∀ (w : World) (a : Option Addr) (n c n' c' : Nat), (binOp .eql 24 (.slice a n c) (.slice none n' c')).run Tryz.prog w = .ok (.bool a.isNone) w := fun w a n c n' c' => Lib.run_eql_slice_nil w _ _ a n c n' c' Tryz.underlying24
  go_enter Tryz.func126, Tryz.ntmps126
  cases ka with
  | none =>
    have e := flat_noneTr hfl
    have e0 : l.length = 0 := by have := hfl.1; rw [e] at this; simp at this; omega
    go_wp2_with fail
    go_ret
    exact ⟨_, xs, rfl, hcs, by rw [e0, e]; exact World.ownsRow_nil _ _ _ _, Below.refl _ _⟩
  | some ad =>
    go_wp2_with (at_builtin; refine wpList_app0Tr rfl _ _ 24 rfl 53 _ 11 120 Tryz.underlying24 info_Step rfl (by omega) (by omega) w.heap.size _ 0 [] rfl (owns_of_block (n := 0) (cs := #[]) (heap_alloc_new _ _) (by simp) rfl (by omega)) ad l.length ca _ rfl (Flat.kept (B := w.heap.size) hfl (by repeat (first | exact Below.refl _ _ | assumption | refine Below.drew ?_ | refine below_drewN ?_ _ | refine Below.alloc ?_ (by simp <;> omega) _ | refine Below.setCell ?_ (by simp <;> omega) _)) (Nat.le_refl _)) (steps_one hcs) (by omega) (by simp) ?_; intro u w1 hown hgr hB1)
    go_ret
    exact ⟨_, xs, rfl, hcs, by simpa using hown, Below.trans (b := w.alloc (.cells #[] 53)) (by repeat (first | exact Below.refl _ _ | assumption | refine Below.drew ?_ | refine below_drewN ?_ _ | refine Below.alloc ?_ (by simp <;> omega) _ | refine Below.setCell ?_ (by simp <;> omega) _)) hB1⟩

end Go.Proofs.YtljmonfobefiiaaGreatDoor

/- Blocks that stay as they were; steps whose slices lie in given blocks; a run that lies in new memory. -/
namespace Go.Proofs.YtljmonfobefiiaaGreatDoor
open Go.RowKit

/-- The blocks of P are as they were. -/
def Same (P : Nat → Prop) (A B : World) : Prop := A.heap.size ≤ B.heap.size ∧ ∀ b, P b → B.heap[b]? = A.heap[b]?
theorem Same.refl (P : Nat → Prop) (A : World) : Same P A A := ⟨Nat.le_refl _, fun _ _ => rfl⟩
theorem Same.trans {P : Nat → Prop} {A B C : World} (h : Same P A B) (k : Same P B C) : Same P A C := ⟨Nat.le_trans h.1 k.1, fun b hb => (k.2 b hb).trans (h.2 b hb)⟩
theorem Same.weak {P P' : Nat → Prop} {A B : World} (h : Same P A B) (hp : ∀ b, P' b → P b) : Same P' A B := ⟨h.1, fun b hb => h.2 b (hp b hb)⟩
theorem Same.below {P : Nat → Prop} {A B : World} {n : Nat} (h : Below n A B) (hp : ∀ b, P b → b < n) : Same P A B := ⟨h.size, fun b hb => h.block b (hp b hb)⟩
theorem Same.grown {P : Nat → Prop} {A B : World} {row : Option Nat} (h : A.grownBy B row) (hp : ∀ b, P b → b < A.heap.size ∧ some b ≠ row) : Same P A B := ⟨h.size, fun b hb => h.block b (hp b hb).1 (hp b hb).2⟩
theorem Same.set {P : Nat → Prop} {A B : World} (h : Same P A B) (a : Addr) (v : Value) (ha : ¬ P a.block) : Same P A (B.setCell a v) :=
  ⟨by simpa using h.1, fun b hb => (heap_setCell_other B a b v (fun e => ha (e ▸ hb))).trans (h.2 b hb)⟩
theorem Same.alloc {P : Nat → Prop} {A B : World} (h : Same P A B) (o : Obj) (hp : ∀ b, P b → b < A.heap.size) : Same P A (B.alloc o) :=
  h.trans (Same.below ((Below.refl B.heap.size B).alloc (Nat.le_refl _) o) fun b hb => Nat.lt_of_lt_of_le (hp b hb) h.1)
theorem Same.drew {P : Nat → Prop} {A B : World} (h : Same P A B) : Same P A B.drew := h
theorem Same.blk {P : Nat → Prop} {A B : World} (h : Same P A B) {g : Nat} {cs : Array Value} (hb : Blk A g cs) (hg : P g) : Blk B g cs := by
  obtain ⟨t, hb⟩ := hb
  exact ⟨t, (h.2 g hg).trans hb⟩
theorem Same.own {P : Nat → Prop} {A B : World} (h : Same P A B) {B0 : Nat} {e : TypeId} {k : Nat} {v : Value} {n : Nat} {xs : List Value} (ho : A.ownsRow B0 e k v n xs) (hv : ∀ g, v.ownBlock = some g → P g) : B.ownsRow B0 e k v n xs := by
  refine ⟨ho.1, ?_⟩
  rcases ho.2 with h0 | ⟨g, cap, cur, rfl, h1, h2, h3⟩
  · exact .inl h0
  · exact .inr ⟨g, cap, cur, rfl, h1, (h.2 g (hv g rfl)).trans h2, h3⟩
theorem Same.cell {P : Nat → Prop} {A B : World} (h : Same P A B) {b : Nat} (o : Nat) (hb : P b) : B.cell? ⟨b, o, none⟩ = A.cell? ⟨b, o, none⟩ := World.cell?_of_block (h.2 b hb)

/-- The slice's block is one of P. -/
def InP (P : Nat → Prop) (v : Value) : Prop := ∀ b o n c, v = .slice (some ⟨b, o, none⟩) n c → P b
theorem Flat.sameP {P : Nat → Prop} {A B : World} {k : Nat} {v : Value} {n : Nat} {xs : List Value} (h : Flat A k v n xs) (hv : InP P v) (hs : Same P A B) : Flat B k v n xs := by
  obtain ⟨hl, hm, a, c, rfl, hr⟩ := h
  refine ⟨hl, hm, a, c, rfl, fun j u hu => ?_⟩
  obtain ⟨b, o, ha, hc⟩ := hr j u hu
  subst ha
  exact ⟨b, o, rfl, (hs.cell _ (hv b o n c rfl)).trans hc⟩

/-- The cells xs are the steps l; what their slices hold lies in the blocks of P. -/
def StpCellsP (P : Nat → Prop) (w : World) : List Stp → List Value → Prop
  | [], xs => xs = []
  | s :: l, xs => ∃ va vs ys, xs = s.row va vs ++ ys ∧ (AskSl w va s.asks ∧ InP P va) ∧ (MsgSl w vs s.sent ∧ InP P vs) ∧ StpCellsP P w l ys
theorem StpCellsP.kept {P : Nat → Prop} {w w' : World} (hs : Same P w w') : ∀ {l : List Stp} {xs : List Value}, StpCellsP P w l xs → StpCellsP P w' l xs
  | [], _, h => h
  | _ :: _, _, ⟨va, vs, ys, hx, h1, h2, h3⟩ => ⟨va, vs, ys, hx, ⟨Flat.sameP h1.1 h1.2 hs, h1.2⟩, ⟨Flat.sameP h2.1 h2.2 hs, h2.2⟩, h3.kept hs⟩
theorem StpCellsP.weak {P P' : Nat → Prop} {w : World} (hp : ∀ b, P b → P' b) : ∀ {l : List Stp} {xs : List Value}, StpCellsP P w l xs → StpCellsP P' w l xs
  | [], _, h => h
  | _ :: _, _, ⟨va, vs, ys, hx, h1, h2, h3⟩ => ⟨va, vs, ys, hx, ⟨h1.1, fun b o n c e => hp b (h1.2 b o n c e)⟩, ⟨h2.1, fun b o n c e => hp b (h2.2 b o n c e)⟩, h3.weak hp⟩
theorem StpCellsP.cells {P : Nat → Prop} {w : World} : ∀ {l : List Stp} {xs : List Value}, StpCellsP P w l xs → StpCells w l xs
  | [], _, h => h
  | _ :: _, _, ⟨va, vs, ys, hx, h1, h2, h3⟩ => ⟨va, vs, ys, hx, h1.1, h2.1, h3.cells⟩
theorem StpCellsP.snoc {P : Nat → Prop} {w : World} {s : Stp} {va vs : Value} (h1 : AskSl w va s.asks ∧ InP P va) (h2 : MsgSl w vs s.sent ∧ InP P vs) : ∀ {l : List Stp} {xs : List Value}, StpCellsP P w l xs → StpCellsP P w (l ++ [s]) (xs ++ s.row va vs)
  | [], xs, h => by
    have : xs = [] := h
    subst this
    exact ⟨va, vs, [], by simp, h1, h2, rfl⟩
  | _ :: _, _, ⟨va', vs', ys, hx, g1, g2, g3⟩ => ⟨va', vs', ys ++ s.row va vs, by rw [hx, List.append_assoc], g1, g2, g3.snoc h1 h2⟩

theorem StpCellsP.at {P : Nat → Prop} {w : World} : ∀ {l : List Stp} {xs : List Value} {i : Nat} {s : Stp}, StpCellsP P w l xs → l[i]? = some s →
    ∃ va vs, (AskSl w va s.asks ∧ InP P va) ∧ (MsgSl w vs s.sent ∧ InP P vs) ∧ ∀ j u, (s.row va vs)[j]? = some u → xs[i * 11 + j]? = some u
  | [], _, _, _, _, h => by simp at h
  | t :: l, xs, 0, s, ⟨va, vs, zs, hx, h1, h2, h3⟩, h => by
    simp at h
    subst h
    refine ⟨va, vs, h1, h2, fun j u hu => ?_⟩
    have hj := (List.getElem?_eq_some_iff.1 hu).1
    rw [hx, Nat.zero_mul, Nat.zero_add, List.getElem?_append_left hj]
    exact hu
  | t :: l, xs, i + 1, s, ⟨va, vs, zs, hx, h1, h2, h3⟩, h => by
    have h' : l[i]? = some s := by simpa using h
    obtain ⟨va', vs', g1, g2, g3⟩ := h3.at h'
    refine ⟨va', vs', g1, g2, fun j u hu => ?_⟩
    have := g3 j u hu
    have e : (i + 1) * 11 + j = 11 + (i * 11 + j) := by omega
    have hl : (t.row va vs).length = 11 := rfl
    rw [hx, e, List.getElem?_append_right (by omega), hl, Nat.add_sub_cancel_left]
    exact this

/-- The slice value v reads, in w, as the steps l, all of it in blocks from B on. -/
def StpSlF (B : Nat) (w : World) (v : Value) (l : List Stp) : Prop := ∃ xs, StpCellsP (fun b => B ≤ b) w l xs ∧ Flat w 11 v l.length xs ∧ InP (fun b => B ≤ b) v
theorem StpSlF.sl {B : Nat} {w : World} {v : Value} {l : List Stp} (h : StpSlF B w v l) : StpSl w v l := by
  obtain ⟨xs, h1, h2, _⟩ := h
  exact ⟨xs, h1.cells, h2⟩
theorem StpSlF.keptP {B : Nat} {w w' : World} {v : Value} {l : List Stp} (h : StpSlF B w v l) (hs : Same (fun b => B ≤ b ∧ b < w.heap.size) w w') : StpSlF B w' v l := by
  obtain ⟨xs, h1, h2, h3⟩ := h
  have key : ∀ {k : Nat} {u : Value} {n : Nat} {ys : List Value}, Flat w k u n ys → InP (fun b => B ≤ b) u → Flat w' k u n ys := fun {k u n ys} hf hp => by
    obtain ⟨hl, hm, a, c, rfl, hr⟩ := hf
    refine ⟨hl, hm, a, c, rfl, fun j x hx => ?_⟩
    obtain ⟨b, o, ha, hc⟩ := hr j x hx
    subst ha
    have := World.block_lt_of_cell? _ _ hc
    exact ⟨b, o, rfl, (hs.cell _ ⟨hp b o n c rfl, by simpa using this⟩).trans hc⟩
  refine ⟨xs, ?_, key h2 h3, h3⟩
  clear h2 h3
  revert xs
  induction l with
  | nil => intro xs h1; exact h1
  | cons s l ih =>
    rintro xs ⟨va, vs, ys, hx, g1, g2, g3⟩
    exact ⟨va, vs, ys, hx, ⟨key g1.1 g1.2, g1.2⟩, ⟨key g2.1 g2.2, g2.2⟩, ih ys g3⟩
theorem StpSlF.kept {B : Nat} {w w' : World} {v : Value} {l : List Stp} (h : StpSlF B w v l) (hb : Below w.heap.size w w') : StpSlF B w' v l := h.keptP (Same.below hb fun _ hb => hb.2)
theorem StpSlF.open {B : Nat} {w : World} {v : Value} {l : List Stp} (h : StpSlF B w v l) : ∃ a c, v = .slice a l.length c ∧ l.length ≤ 9223372036854775807 := h.sl.open
theorem StpSlF.at {B : Nat} {w : World} {a : Option Addr} {n c : Nat} {l : List Stp} (h : StpSlF B w (.slice a n c) l) {i : Nat} {s : Stp} (hi : l[i]? = some s) :
    ∃ b o va vs, a = some ⟨b, o, none⟩ ∧ (AskSl w va s.asks ∧ InP (fun b => B ≤ b) va) ∧ (MsgSl w vs s.sent ∧ InP (fun b => B ≤ b) vs) ∧
      w.cell? ⟨b, o + i * 11, none⟩ = some (I s.ev.kind) ∧ w.cell? ⟨b, o + i * 11 + 1, none⟩ = some (I s.ev.node) ∧ w.cell? ⟨b, o + i * 11 + 2, none⟩ = some (I s.ev.arg) ∧
      w.cell? ⟨b, o + i * 11 + 3, none⟩ = some (I s.ev.msg.node) ∧ w.cell? ⟨b, o + i * 11 + 4, none⟩ = some (I s.ev.msg.handler) ∧ w.cell? ⟨b, o + i * 11 + 5, none⟩ = some (I s.ev.msg.count) ∧
      w.cell? ⟨b, o + i * 11 + 6, none⟩ = some (I s.ev.msg.index) ∧ w.cell? ⟨b, o + i * 11 + 7, none⟩ = some (I s.ev.msg.copy) ∧ w.cell? ⟨b, o + i * 11 + 8, none⟩ = some va ∧
      w.cell? ⟨b, o + i * 11 + 9, none⟩ = some (.bool s.obs) ∧ w.cell? ⟨b, o + i * 11 + 10, none⟩ = some vs := by
  obtain ⟨xs, h1, h2, _⟩ := h
  obtain ⟨va, vs, g1, g2, g3⟩ := h1.at hi
  have hlt := (List.getElem?_eq_some_iff.1 hi).1
  obtain ⟨b, o, ha, hc⟩ := h2.cells (by rw [h1.cells.length]; omega)
  have key : ∀ j u, (s.row va vs)[j]? = some u → w.cell? ⟨b, o + i * 11 + j, none⟩ = some u := fun j u hu => by
    have := hc _ u (g3 j u hu)
    rwa [← Nat.add_assoc] at this
  exact ⟨b, o, va, vs, ha, g1, g2, key 0 _ rfl, key 1 _ rfl, key 2 _ rfl, key 3 _ rfl, key 4 _ rfl, key 5 _ rfl, key 6 _ rfl, key 7 _ rfl, key 8 _ rfl, key 9 _ rfl, key 10 _ rfl⟩
theorem StpSlF.nil (B : Nat) (w : World) (c : Nat) : StpSlF B w (.slice none 0 c) [] := ⟨[], rfl, Flat.nil _ _ _ _, fun b o n c e => by simp at e⟩
theorem StpCellsP.below {P : Nat → Prop} {w w' : World} {B : Nat} (hb : Below B w w') (hB : w.heap.size ≤ B) : ∀ {l : List Stp} {xs : List Value}, StpCellsP P w l xs → StpCellsP P w' l xs
  | [], _, h => h
  | _ :: _, _, ⟨va, vs, ys, hx, h1, h2, h3⟩ => ⟨va, vs, ys, hx, ⟨h1.1.kept hb hB, h1.2⟩, ⟨h2.1.kept hb hB, h2.2⟩, h3.below hb hB⟩
theorem own_inB {W : World} {B : Nat} {e : TypeId} {k : Nat} {v : Value} {n : Nat} {xs : List Value} (h : W.ownsRow B e k v n xs) {B' : Nat} (hB : B' ≤ B) : InP (fun b => B' ≤ b) v := fun b o n c e => by
  subst e
  exact Nat.le_trans hB (h.lt b rfl).1
theorem StpSlF.of_owns {w W : World} {B0 B B' : Nat} {e : TypeId} {v : Value} {l : List Stp} {n : Nat} {xs : List Value} (h : w.ownsRow B e 11 v n xs) (hn : n = l.length) (hc : StpCellsP (fun b => B' ≤ b) W l xs) (hb : Below B0 W w) (hB : W.heap.size ≤ B0) (hBB : B' ≤ B) : StpSlF B' w v l := by
  subst hn
  exact ⟨xs, hc.below hb hB, Flat.of_owns h, own_inB h hBB⟩

end Go.Proofs.YtljmonfobefiiaaGreatDoor

/- trace.own: a copy of a run, its asks and messages too. -/
namespace Go.Proofs.YtljmonfobefiiaaGreatDoor
open Go.RowKit

/-- w' is as w in all blocks but g, and bears no fewer. -/
def Agr (g : Nat) (w w' : World) : Prop := w.heap.size ≤ w'.heap.size ∧ ∀ b o, b < w.heap.size → b ≠ g → w'.cell? ⟨b, o, none⟩ = w.cell? ⟨b, o, none⟩
theorem Agr.refl (g : Nat) (w : World) : Agr g w w := ⟨Nat.le_refl _, fun _ _ _ _ => rfl⟩
theorem Agr.trans {g : Nat} {a b c : World} (h : Agr g a b) (k : Agr g b c) : Agr g a c :=
  ⟨Nat.le_trans h.1 k.1, fun x o hx hg => (k.2 x o (Nat.lt_of_lt_of_le hx h.1) hg).trans (h.2 x o hx hg)⟩
theorem Agr.below {g B : Nat} {w w' : World} (h : Below B w w') (hB : w.heap.size ≤ B) : Agr g w w' := ⟨h.size, fun b o hb _ => h.cell (p := ⟨b, o, none⟩) (Nat.lt_of_lt_of_le hb hB)⟩
theorem Agr.set (g : Nat) (w : World) (o : Nat) (v : Value) : Agr g w (w.setCell ⟨g, o, none⟩ v) :=
  ⟨by simp, fun b o' _ hg => World.cell?_setCell_other _ _ _ _ (by intro h; simp at h <;> exact hg h.1)⟩
theorem Agr.drew {g : Nat} {w w' : World} (h : Agr g w w') : Agr g w w'.drew := h

theorem Flat.same {w w' : World} {k : Nat} {v : Value} {n : Nat} {xs : List Value} (h : Flat w k v n xs) (hb : ∀ b o, b < w.heap.size → w'.cell? ⟨b, o, none⟩ = w.cell? ⟨b, o, none⟩) : Flat w' k v n xs := by
  obtain ⟨hl, hm, a, c, hv, hr⟩ := h
  refine ⟨hl, hm, a, c, hv, fun j u hu => ?_⟩
  obtain ⟨b, o, ha, hc⟩ := hr j u hu
  have h2 := World.block_lt_of_cell? _ _ hc
  exact ⟨b, o, ha, (hb b _ h2).trans hc⟩
/-- A row of the call's own that lies behind g. -/
theorem Flat.own_off {w w' : World} {B g : Nat} {e : TypeId} {k : Nat} {v : Value} {n : Nat} {xs : List Value} (h : w.ownsRow B e k v n xs) (hg : g < B) (ha : Agr g w w') : Flat w' k v n xs := by
  have hf := Flat.of_owns h
  obtain ⟨hl, hm, a, c, hv, hr⟩ := hf
  refine ⟨hl, hm, a, c, hv, fun j u hu => ?_⟩
  obtain ⟨b, o, ha', hc⟩ := hr j u hu
  have h2 := World.block_lt_of_cell? _ _ hc
  refine ⟨b, o, ha', (ha.2 b _ h2 ?_).trans hc⟩
  rcases h.2 with ⟨rfl, _⟩ | ⟨g', cap, cur, rfl, hg', _⟩
  · simp at hv
    rw [← hv.1] at ha'
    cases ha'
  · simp at hv
    rw [← hv.1] at ha'
    simp at ha'
    omega

/-- The cells xs are the steps; what their slices hold lies outside block g. -/
def StpO (w : World) (g : Nat) (l : List Stp) (xs : List Value) : Prop := ∀ i s, l[i]? = some s → ∃ va vs, (∀ w', Agr g w w' → AskSl w' va s.asks ∧ MsgSl w' vs s.sent) ∧ ∀ j u, (s.row va vs)[j]? = some u → xs[i * 11 + j]? = some u
theorem StpO.kept {w w' : World} {g : Nat} {l : List Stp} {xs : List Value} (h : StpO w g l xs) (ha : Agr g w w') : StpO w' g l xs := by
  intro i s hi
  obtain ⟨va, vs, h1, h2⟩ := h i s hi
  exact ⟨va, vs, fun w2 h3 => h1 w2 (ha.trans h3), h2⟩
theorem StpO.start {w w1 : World} {g : Nat} {l : List Stp} {xs : List Value} (h : StpCells w l xs) (hb : Below w.heap.size w w1) (hg : w.heap.size ≤ g) : StpO w1 g l xs := by
  intro i s hi
  obtain ⟨va, vs, h1, h2, h3⟩ := h.at hi
  refine ⟨va, vs, fun w2 ha => ?_, h3⟩
  have key : ∀ b o, b < w.heap.size → w2.cell? ⟨b, o, none⟩ = w.cell? ⟨b, o, none⟩ := fun b o hlt =>
    (ha.2 b o (Nat.lt_of_lt_of_le hlt hb.size) (by omega)).trans (hb.cell (p := ⟨b, o, none⟩) hlt)
  exact ⟨Flat.same h1 key, Flat.same h2 key⟩
theorem cells_ext {w : World} : ∀ (l : List Stp) (xs : List Value), xs.length = l.length * 11 → (∀ i s, l[i]? = some s → ∃ va vs, AskSl w va s.asks ∧ MsgSl w vs s.sent ∧ ∀ j u, (s.row va vs)[j]? = some u → xs[i * 11 + j]? = some u) → StpCells w l xs
  | [], xs, hl, _ => List.length_eq_zero_iff.1 (by simpa using hl)
  | s :: l, xs, hl, h => by
    obtain ⟨va, vs, h1, h2, h3⟩ := h 0 s rfl
    refine ⟨va, vs, xs.drop 11, ?_, h1, h2, cells_ext l (xs.drop 11) ?_ ?_⟩
    · have hx : xs.take 11 = s.row va vs := by
        have e11 : (s.row va vs).length = 11 := rfl
        have hxl : 11 ≤ xs.length := by rw [hl, List.length_cons]; omega
        refine ext_of (by rw [List.length_take, e11]; omega) fun j hj => ?_
        rw [List.length_take] at hj
        have hj2 : j < (s.row va vs).length := by rw [e11]; omega
        have := h3 j _ (List.getElem?_eq_getElem hj2)
        rw [List.getElem?_take_of_lt (by omega), List.getElem?_eq_getElem hj2]
        simpa using this
      rw [← hx, List.take_append_drop]
    · rw [List.length_drop, hl, List.length_cons]; omega
    · intro i t hi
      obtain ⟨va', vs', g1, g2, g3⟩ := h (i + 1) t (by simpa using hi)
      refine ⟨va', vs', g1, g2, fun j u hu => ?_⟩
      rw [List.getElem?_drop]
      have := g3 j u hu
      rw [show (i + 1) * 11 + j = 11 + (i * 11 + j) by omega] at this
      exact this
theorem StpO.cells {w : World} {g : Nat} {l : List Stp} {xs : List Value} (h : StpO w g l xs) (hl : xs.length = l.length * 11) : StpCells w l xs :=
  cells_ext l xs hl fun i s hi => by
    obtain ⟨va, vs, h1, h2⟩ := h i s hi
    have := h1 w (Agr.refl _ _)
    exact ⟨va, vs, this.1, this.2, h2⟩
/-- Two slices of one step are stored anew. -/
theorem StpO.store {w : World} {g k : Nat} {l : List Stp} {xs : List Value} (h : StpO w g l xs) (hk : k < l.length) (hl : xs.length = l.length * 11) {ua us : Value} (hu : ∀ w', Agr g w w' → AskSl w' ua l[k].asks ∧ MsgSl w' us l[k].sent) :
    StpO w g l ((xs.set (k * 11 + 8) ua).set (k * 11 + 10) us) := by
  intro i s hi
  obtain ⟨va, vs, h1, h2⟩ := h i s hi
  have hil := (List.getElem?_eq_some_iff.1 hi).1
  by_cases hik : i = k
  · subst hik
    have es : s = l[i] := by simpa [hil] using hi.symm
    subst es
    refine ⟨ua, us, hu, fun j u hj => ?_⟩
    have hj11 : j < 11 := by have := (List.getElem?_eq_some_iff.1 hj).1; exact this
    by_cases h8 : j = 8
    · subst h8
      rw [List.getElem?_set_ne (by omega), List.getElem?_set_self (by omega)]
      exact hj
    · by_cases h10 : j = 10
      · subst h10
        rw [List.getElem?_set_self (by simp; omega)]
        exact hj
      · rw [List.getElem?_set_ne (by omega), List.getElem?_set_ne (by omega)]
        refine h2 j u ?_
        rw [← hj]
        match j, hj11, h8, h10 with
        | 0, _, _, _ => rfl
        | 1, _, _, _ => rfl
        | 2, _, _, _ => rfl
        | 3, _, _, _ => rfl
        | 4, _, _, _ => rfl
        | 5, _, _, _ => rfl
        | 6, _, _, _ => rfl
        | 7, _, _, _ => rfl
        | 9, _, _, _ => rfl
        | 8, _, h, _ => exact absurd rfl h
        | 10, _, _, h => exact absurd rfl h
        | n + 11, h, _, _ => omega
  · refine ⟨va, vs, h1, fun j u hj => ?_⟩
    have hj11 : j < 11 := by have := (List.getElem?_eq_some_iff.1 hj).1; exact this
    rw [List.getElem?_set_ne (by omega), List.getElem?_set_ne (by omega)]
    exact h2 j u hj

/-- The block g holds xs in its first cells, and may be written. -/
def RowAt (w : World) (g : Nat) (xs : List Value) : Prop := ∀ j, j < xs.length → w.cell? ⟨g, j, none⟩ = xs[j]? ∧ w.frozen? ⟨g, j, none⟩ = false
theorem RowAt.kept {w w' : World} {g : Nat} {xs : List Value} (h : RowAt w g xs) {B : Nat} (hb : Below B w w') (hg : g < B) : RowAt w' g xs := fun j hj => by
  have := h j hj
  exact ⟨(hb.cell (p := ⟨g, j, none⟩) hg).trans this.1, (hb.frozen (p := ⟨g, j, none⟩) hg).trans this.2⟩
theorem RowAt.set {w : World} {g : Nat} {xs : List Value} (h : RowAt w g xs) (i : Nat) (hi : i < xs.length) (v : Value) : RowAt (w.setCell ⟨g, i, none⟩ v) g (xs.set i v) := fun j hj => by
  rw [List.length_set] at hj
  have hij := h j hj
  have hii := h i hi
  refine ⟨?_, ?_⟩
  · by_cases e : i = j
    · subst e
      rw [List.getElem?_set_self hi]
      exact World.cell?_setCell_same _ _ _ (hii.1.trans (List.getElem?_eq_getElem hi))
    · rw [List.getElem?_set_ne e, World.cell?_setCell_other _ _ _ _ (by intro h; simp at h <;> exact e h.symm)]
      exact hij.1
  · simpa using hij.2
theorem RowAt.of_owns {w : World} {B : Nat} {e : TypeId} {k : Nat} {v : Value} {n : Nat} {xs : List Value} (h : w.ownsRow B e k v n xs) (hn : 0 < n) : ∃ g cap, v = .slice (some ⟨g, 0, none⟩) n cap ∧ B ≤ g ∧ g < w.heap.size ∧ RowAt w g xs := by
  obtain ⟨g, cap, rfl, hB, hg⟩ := h.form hn
  refine ⟨g, cap, rfl, hB, hg, fun j hj => ⟨?_, ?_⟩⟩
  · have := h.cells (g := g) rfl j xs[j] (by simp [hj])
    have hadd : (⟨g, 0, none⟩ : Addr).add j = ⟨g, 0 + j, none⟩ := by unfold Addr.add; split <;> simp_all
    rw [hadd, Nat.zero_add] at this
    rw [this]
    simp [hj]
  · rcases h.2 with ⟨e, _⟩ | ⟨g', cap', cur, e, _, hb, _⟩
    · cases e
    · simp at e
      obtain ⟨rfl, rfl⟩ := e
      exact frozen_of_row w g j cur _ hb
theorem RowAt.flat {w : World} {g n cap : Nat} {xs : List Value} (h : RowAt w g xs) (hl : xs.length = n * 11) (hn : n ≤ 1000000) : Flat w 11 (.slice (some ⟨g, 0, none⟩) n cap) n xs :=
  Flat.of_cells hl (by omega) fun j u hu => by
    have := h j (List.getElem?_eq_some_iff.1 hu).1
    rw [Nat.zero_add, this.1, hu]

/-- The slices of the first k steps lie in blocks from B on. -/
def FreshTo (B k : Nat) (xs : List Value) : Prop := ∀ i, i < k → ∀ u, (xs[i * 11 + 8]? = some u ∨ xs[i * 11 + 10]? = some u) → InP (fun b => B ≤ b) u
theorem FreshTo.set {B k : Nat} {xs : List Value} (h : FreshTo B k xs) (hk : k * 11 + 11 ≤ xs.length) {ua us : Value} (h1 : InP (fun b => B ≤ b) ua) (h2 : InP (fun b => B ≤ b) us) : FreshTo B (k + 1) ((xs.set (k * 11 + 8) ua).set (k * 11 + 10) us) := by
  intro i hi u hu
  by_cases e : i = k
  · subst e
    rcases hu with hu | hu
    · rw [List.getElem?_set_ne (by omega), List.getElem?_set_self (by omega)] at hu
      cases hu
      exact h1
    · rw [List.getElem?_set_self (by rw [List.length_set]; omega)] at hu
      cases hu
      exact h2
  · rcases hu with hu | hu
    · rw [List.getElem?_set_ne (by omega), List.getElem?_set_ne (by omega)] at hu
      exact h i (by omega) u (.inl hu)
    · rw [List.getElem?_set_ne (by omega), List.getElem?_set_ne (by omega)] at hu
      exact h i (by omega) u (.inr hu)
theorem StpO.cellsP {w : World} {g B : Nat} {l : List Stp} {xs : List Value} (h : StpO w g l xs) (hl : xs.length = l.length * 11) (hf : FreshTo B l.length xs) : StpCellsP (fun b => B ≤ b) w l xs := by
  have key : ∀ (m : List Stp) (d : Nat) (ys : List Value), l.drop d = m → ys = xs.drop (d * 11) → StpCellsP (fun b => B ≤ b) w m ys := by
    intro m
    induction m with
    | nil =>
      intro d ys hd hy
      have : l.length ≤ d := by
        have := congrArg List.length hd
        simp at this
        omega
      show ys = []
      rw [hy, List.drop_eq_nil_iff]
      omega
    | cons s m ih =>
      intro d ys hd hy
      have hdl : d < l.length := by
        have := congrArg List.length hd
        simp at this
        omega
      have hs : l[d]? = some s := by
        have : (l.drop d)[0]? = some s := by rw [hd]; rfl
        simpa using this
      obtain ⟨va, vs, h1, h2⟩ := h d s hs
      have hq := h1 w (Agr.refl _ _)
      refine ⟨va, vs, xs.drop ((d + 1) * 11), ?_, ⟨hq.1, hf d hdl va (.inl (h2 8 va rfl))⟩, ⟨hq.2, hf d hdl vs (.inr (h2 10 vs rfl))⟩, ih (d + 1) _ ?_ rfl⟩
      · rw [hy]
        apply List.ext_getElem?
        intro j
        have hrl : (s.row va vs).length = 11 := rfl
        by_cases hj : j < 11
        · rw [List.getElem?_append_left (by omega), List.getElem?_drop]
          have hu : (s.row va vs)[j]? = some ((s.row va vs)[j]'(by omega)) := List.getElem?_eq_getElem (by omega)
          rw [hu, h2 j _ hu]
        · rw [List.getElem?_append_right (by omega), List.getElem?_drop, List.getElem?_drop, hrl]
          congr 1
          omega
      · have h3 := congrArg List.tail hd
        rwa [List.tail_drop, List.tail_cons] at h3
  exact key l 0 xs (by simp) (by simp)

set_option maxHeartbeats 1600000 in
set_option maxRecDepth 100000 in
theorem trOwnF (run : List Stp) (v : Value) (w : World) (hrun : StpSl w v run) (hn : run.length ≤ 1000000) (hask : ∀ s ∈ run, s.asks.length ≤ 1000000) (hsent : ∀ s ∈ run, s.sent.length ≤ 1000000) :
    Calls Tryz.prog 97 #[v] w fun e w' => ∃ u, e = .returned u ∧ StpSlF w.heap.size w' u run ∧ Below w.heap.size w w' := by
  have hrun' := hrun
  obtain ⟨ka, ca, rfl, hml⟩ := hrun.open
  go_enter Tryz.func97, Tryz.ntmps97
  go_wp2_with fail
  refine (cloneStp run _ _ hrun' hn).mono ?_
  rintro e w1 ⟨u, xs, rfl, hcs, hown, hB1⟩
  by_cases h0 : run.length = 0
  · have hr : run = [] := List.length_eq_zero_iff.1 h0
    subst hr
    have hfl := Flat.of_owns hown
    have hin := own_inB hown (Nat.le_refl _)
    obtain ⟨a, c, rfl, _⟩ := hfl.open
    simp only [List.length_nil] at hown hfl ⊢
    go_wp2_with fail
    refine wp_loop_rounds 1 ?_
    rw [rounds_succ]
    go_wp2_with fail
    go_ret
    exact ⟨_, rfl, ⟨[], rfl, Flat.nil _ _ _ _, hin⟩, hB1⟩
  · obtain ⟨g, cap, rfl, hgB, hg1, hra⟩ := RowAt.of_owns hown (by omega)
    have hso := StpO.start hcs hB1 hgB
    have hxl := hown.1
    clear hown hcs
    go_wp2_with fail
    go_loopw [9] (fun p wr => ∃ (k : Nat) (xs : List Value), k ≤ run.length ∧ p = .int .i64 k ∧ xs.length = run.length * 11 ∧ RowAt wr g xs ∧ StpO wr g run xs ∧ FreshTo w.heap.size k xs ∧ Below w.heap.size w wr ∧ g < wr.heap.size) (fun p _ => run.length - (intOf p).toNat)
    case atStart => exact ⟨0, xs, by omega, rfl, hxl, hra, hso, fun i hi => by omega, hB1, hg1⟩
    case round =>
      clear hra hso hxl
      obtain ⟨k, xs, hk, rfl, hxl, hra, hso, hfr, hB, hgl⟩ := hrel
      have Hfr := Lib.hid hfr
      clear hfr
      by_cases hlt : k < run.length
      · obtain ⟨va, vs, h1, h2⟩ := hso k run[k] (by simp [hlt])
        have hq := h1 wr (Agr.refl _ _)
        obtain ⟨qa, da, rfl, _⟩ := hq.1.open
        obtain ⟨qs, ds, rfl, _⟩ := hq.2.open
        have e8 := h2 8 _ rfl
        have e10 := h2 10 _ rfl
        have r8 := hra (k * 11 + 8) (by omega)
        have r10 := hra (k * 11 + 10) (by omega)
        have c8 := r8.1.trans e8
        have c10 := r10.1.trans e10
        have f8 := r8.2
        have f10 := r10.2
        have hsa := hask run[k] (List.getElem_mem hlt)
        have hss := hsent run[k] (List.getElem_mem hlt)
        have hqa : ∀ W, Below wr.heap.size wr W → Calls Tryz.prog 127 #[.slice qa run[k].asks.length da] W fun e w' => ∃ u, e = .returned u ∧ w'.ownsRow W.heap.size 60 7 u run[k].asks.length (run[k].asks.flatMap Ask.cells) ∧ Below W.heap.size W w' :=
          fun W hW => cloneAsk _ _ _ (hq.1.kept hW (Nat.le_refl _)) hsa
        have hqs : ∀ W, Below wr.heap.size wr W → Calls Tryz.prog 128 #[.slice qs run[k].sent.length ds] W fun e w' => ∃ u, e = .returned u ∧ w'.ownsRow W.heap.size 47 5 u run[k].sent.length (run[k].sent.flatMap Msg.cells) ∧ Below W.heap.size W w' :=
          fun W hW => cloneMsg _ _ _ (hq.2.kept hW (Nat.le_refl _)) hss
        have Hqa := Lib.hid hqa
        have Hqs := Lib.hid hqs
        have He8 := Lib.hid e8
        have He10 := Lib.hid e10
        clear hqa hqs h1 h2 r8 r10 e8 e10 hq hrun'
        go_wp2_with fail
        go_region_with (first
          | (go_at_call 127; refine (Hqa.out _ (by repeat (first | exact Below.refl _ _ | assumption | refine Below.drew ?_ | refine below_drewN ?_ _ | refine Below.alloc ?_ (by simp <;> omega) _ | refine Below.setCell ?_ (by simp <;> omega) _))).mono ?_; rintro e w2 ⟨ua, rfl, hoa, hB2⟩
             obtain ⟨a1, d1, rfl, hm1⟩ := (Flat.of_owns hoa).open
             have hz2 := hB2.size
             simp only [heap_drew] at hz2
             have c8' := (hB2.cell (p := ⟨g, k * 11 + 8, none⟩) hgl).trans c8
             have c10' := (hB2.cell (p := ⟨g, k * 11 + 10, none⟩) hgl).trans c10
             have hBr2 := Below.then (w := wr) (by repeat (first | exact Below.refl _ _ | assumption | refine Below.drew ?_ | refine below_drewN ?_ _ | refine Below.alloc ?_ (by simp <;> omega) _ | refine Below.setCell ?_ (by simp <;> omega) _)) hB2)
          | (go_at_call 128; refine (Hqs.out _ hBr2).mono ?_; rintro e w3 ⟨us, rfl, hos, hB3⟩
             obtain ⟨a2, d2, rfl, hm2⟩ := (Flat.of_owns hos).open
             have hz3 := hB3.size
             have hgl2 : g < w2.heap.size := by omega
             have c8'' := (hB3.cell (p := ⟨g, k * 11 + 8, none⟩) hgl2).trans c8'
             have c10'' := (hB3.cell (p := ⟨g, k * 11 + 10, none⟩) hgl2).trans c10'
             have f8'' := (hB3.frozen (p := ⟨g, k * 11 + 8, none⟩) hgl2).trans ((hB2.frozen (p := ⟨g, k * 11 + 8, none⟩) hgl).trans f8)
             have f10'' := (hB3.frozen (p := ⟨g, k * 11 + 10, none⟩) hgl2).trans ((hB2.frozen (p := ⟨g, k * 11 + 10, none⟩) hgl).trans f10)))
        all_goals
          go_wp2_with fail
          go_roundw
          case rel =>
            have hag3 : Agr g w2 w3 := Agr.below hB3 (Nat.le_refl _)
            have hag : Agr g wr w3 := (Agr.below hBr2 (Nat.le_refl _)).trans hag3
            have hgl3 : g < w3.heap.size := by omega
            have hra3 : RowAt w3 g xs := (hra.kept hBr2 hgl).kept hB3 hgl2
            have hB3w : Below w.heap.size w w3 := (hB.trans (hBr2.mono hB.size)).trans (hB3.mono (Nat.le_trans hB.size hz2))
            refine ⟨k + 1, _, by omega, by go_num, ?_, (hra3.set (k * 11 + 8) (by omega) _).set (k * 11 + 10) (by rw [List.length_set]; omega) _, ?_, Hfr.out.set (by omega) (own_inB hoa (Nat.le_trans hB.size (Nat.le_refl _))) (own_inB hos (Nat.le_trans hB.size hz2)), Below.setCell (Below.setCell hB3w hgB _) hgB _, by simpa using hgl3⟩
            · rw [List.length_set, List.length_set]; exact hxl
            · refine StpO.kept (StpO.store (hso.kept hag) hlt hxl (fun W hW => ?_)) ((Agr.set _ _ _ _).trans (Agr.set _ _ _ _))
              exact ⟨Flat.own_off hoa hgl (hag3.trans hW), Flat.own_off hos hgl2 hW⟩
          case measure => simp [intOf]; omega
      · go_wp2_with fail
        go_ret
        exact ⟨_, rfl, ⟨xs, hso.cellsP hxl (by rw [show run.length = k by omega]; exact Hfr.out), hra.flat hxl hn, fun b o n c e => by simp at e; show w.heap.size ≤ b; omega⟩, hB⟩

end Go.Proofs.YtljmonfobefiiaaGreatDoor

/- What poset.New holds in memory while it reads the pairs. -/
namespace Go.Proofs.YtljmonfobefiiaaGreatDoor
open Go.RowKit

theorem info_Sint : (Tryz.prog.info? 22).map (fun i => (i.zero, i.size, i.bytes)) = some (some (.slice none 0 0), 1, 24) := by kernel_rfl
/-- The second parts of the pairs whose first part is a. -/
def nxL (L : List (Nat × Nat)) (a : Nat) : List Nat := (L.filter fun p => p.1 == a).map fun p => p.2
theorem nxL_snoc (L : List (Nat × Nat)) (p : Nat × Nat) (a : Nat) : nxL (L ++ [p]) a = if p.1 = a then nxL L a ++ [p.2] else nxL L a := by
  unfold nxL
  rw [List.filter_append, List.map_append]
  by_cases h : p.1 = a <;> simp [h]
theorem pc_length (x : Nat × Nat) : (pc x).length = 2 := rfl
theorem pair_at {w : World} {a : Option Addr} {n c m : Nat} {L : List (Nat × Nat)} (h : Flat w 2 (.slice a m c) n (L.flatMap pc)) {i : Nat} {x : Nat × Nat} (hi : L[i]? = some x) :
    ∃ b o, a = some ⟨b, o, none⟩ ∧ w.cell? ⟨b, o + i * 2, none⟩ = some (I x.1) ∧ w.cell? ⟨b, o + i * 2 + 1, none⟩ = some (I x.2) := by
  obtain ⟨b, o, ha, hc⟩ := flat_at pc_length (by omega) h hi
  exact ⟨b, o, ha, hc 0 _ rfl, hc 1 _ rfl⟩

def nv (l : List Nat) : List Value := l.map fun (i : Nat) => I (i : Int)
/-- How often b is a second part. -/
def wtL (L : List (Nat × Nat)) (b : Nat) : Nat := (L.map fun p => p.2).count b
theorem wtL_snoc (L : List (Nat × Nat)) (p : Nat × Nat) (b : Nat) : wtL (L ++ [p]) b = wtL L b + if p.2 = b then 1 else 0 := by
  unfold wtL
  rw [List.map_append, List.count_append]
  by_cases h : p.2 = b <;> simp [h]

/-- The rows of second parts (arr, in block gn) and the numbers of predecessors (wa, in block gw). -/
structure NxAt (B gn gw n : Nat) (W : World) (L : List (Nat × Nat)) (arr wa : Array Value) : Prop where
  bn : Blk W gn arr
  bw : Blk W gw wa
  ne : gn ≠ gw
  ln : gn < B
  lw : gw < B
  hB : B ≤ W.heap.size
  sn : arr.size = n
  sw : wa.size = n
  wt : ∀ b < n, wa[b]? = some (I (wtL L b : Nat))
  row : ∀ a < n, ∃ va, arr[a]? = some va ∧ W.ownsRow B 3 1 va (nxL L a).length (nv (nxL L a))
  sep : ∀ (a a' : Nat) (va va' : Value), a ≠ a' → arr[a]? = some va → arr[a']? = some va' → va.ownBlock = none ∨ va.ownBlock ≠ va'.ownBlock

theorem NxAt.kept {B gn gw n : Nat} {W W' : World} {L : List (Nat × Nat)} {arr wa : Array Value} (h : NxAt B gn gw n W L arr wa) (hb : Below W.heap.size W W') : NxAt B gn gw n W' L arr wa :=
  { h with
    bn := h.bn.kept hb h.bn.lt
    bw := h.bw.kept hb h.bw.lt
    hB := Nat.le_trans h.hB hb.size
    row := fun a ha => by
      obtain ⟨va, h1, h2⟩ := h.row a ha
      exact ⟨va, h1, owns_below h2 hb⟩ }
theorem NxAt.drew {B gn gw n : Nat} {W : World} {L : List (Nat × Nat)} {arr wa : Array Value} (h : NxAt B gn gw n W L arr wa) : NxAt B gn gw n W.drew L arr wa := h.kept ((Below.refl _ W).drew)
theorem NxAt.start {B gn gw n : Nat} {W : World} (hn : Blk W gn (mk1 n (.slice none 0 0))) (hw : Blk W gw (mk1 n (.int .i64 0))) (hne : gn ≠ gw) (h1 : gn < B) (h2 : gw < B) (hB : B ≤ W.heap.size) : NxAt B gn gw n W [] (mk1 n (.slice none 0 0)) (mk1 n (.int .i64 0)) where
  bn := hn
  bw := hw
  ne := hne
  ln := h1
  lw := h2
  hB := hB
  sn := mk1_size _ _
  sw := mk1_size _ _
  wt := fun b hb => by rw [mk1_get _ _ _ hb]; rfl
  row := fun a ha => ⟨_, mk1_get _ _ _ ha, World.ownsRow_nil _ _ _ _⟩
  sep := fun a a' va va' _ h1 _ => by
    have : va = .slice none 0 0 := by
      have hlt := (Array.getElem?_eq_some_iff.1 h1).1
      rw [mk1_size] at hlt
      rw [mk1_get _ _ _ hlt] at h1
      exact (Option.some.inj h1).symm
    subst this
    exact .inl rfl

theorem owns_block {W : World} {B : Nat} {e : TypeId} {k : Nat} {v : Value} {n : Nat} {xs : List Value} (h : W.ownsRow B e k v n xs) : v.ownBlock = none ∨ ∃ g, v.ownBlock = some g ∧ B ≤ g ∧ g < W.heap.size := by
  cases hv : v.ownBlock with
  | none => exact .inl rfl
  | some g => exact .inr ⟨g, rfl, h.lt g hv⟩

/-- One more pair: the row of its first part has grown, its second part has one predecessor more. -/
theorem NxAt.step {B gn gw n : Nat} {W W2 : World} {L : List (Nat × Nat)} {arr wa : Array Value} (h : NxAt B gn gw n W L arr wa) (p : Nat × Nat) (hp1 : p.1 < n) (hp2 : p.2 < n) (va : Value) (hva : arr[p.1]? = some va)
    (g cap : Nat) (hown : W2.ownsRow B 3 1 (.slice (some ⟨g, 0, none⟩) ((nxL L p.1).length + 1) cap) ((nxL L p.1).length + 1) (nv (nxL L p.1) ++ [I (p.2 : Nat)])) (hgr : W.grownBy W2 va.ownBlock) (hg : va.ownBlock = some g ∨ W.heap.size ≤ g) (hsz : W.heap.size ≤ W2.heap.size) :
    NxAt B gn gw n ((W2.setCell ⟨gn, p.1, none⟩ (.slice (some ⟨g, 0, none⟩) ((nxL L p.1).length + 1) cap)).setCell ⟨gw, p.2, none⟩ (I ((wtL L p.2 + 1 : Nat)))) (L ++ [p])
      (arr.setIfInBounds p.1 (.slice (some ⟨g, 0, none⟩) ((nxL L p.1).length + 1) cap)) (wa.setIfInBounds p.2 (I ((wtL L p.2 + 1 : Nat)))) := by
  have hvb : va.ownBlock = none ∨ ∃ g, va.ownBlock = some g ∧ B ≤ g ∧ g < W.heap.size := by
    obtain ⟨va', e1, e2⟩ := h.row p.1 hp1
    rw [hva] at e1
    cases e1
    exact owns_block e2
  have hne : ∀ x, x < B → va.ownBlock ≠ some x := fun x hx e => by
    rcases hvb with h0 | ⟨g', h0, h1, _⟩
    · rw [h0] at e; cases e
    · rw [h0] at e; cases e; omega
  have hgB : B ≤ g := (hown.lt g rfl).1
  have hset : ∀ {va' : Value} {m : Nat} {xs : List Value}, W2.ownsRow B 3 1 va' m xs → ((W2.setCell ⟨gn, p.1, none⟩ (.slice (some ⟨g, 0, none⟩) ((nxL L p.1).length + 1) cap)).setCell ⟨gw, p.2, none⟩ (I ((wtL L p.2 + 1 : Nat)))).ownsRow B 3 1 va' m xs := by
    intro va' m xs ho
    have hnb : ∀ x, x < B → va'.ownBlock = none ∨ va'.ownBlock ≠ some x := fun x hx => by
      rcases owns_block ho with h0 | ⟨g', h0, h1, _⟩
      · exact .inl h0
      · exact .inr (by rw [h0]; intro e; cases e; omega)
    have h1 : W2.grownBy (W2.setCell ⟨gn, p.1, none⟩ (.slice (some ⟨g, 0, none⟩) ((nxL L p.1).length + 1) cap)) (some gn) := ⟨rfl, rfl, rfl, by simp, fun k _ hk => heap_setCell_other _ _ _ _ (fun e => hk (by rw [e]))⟩
    have h2 : ∀ W3 : World, W3.grownBy (W3.setCell ⟨gw, p.2, none⟩ (I ((wtL L p.2 + 1 : Nat)))) (some gw) := fun W3 => ⟨rfl, rfl, rfl, by simp, fun k _ hk => heap_setCell_other _ _ _ _ (fun e => hk (by rw [e]))⟩
    exact (ho.kept h1 (hnb gn h.ln)).kept (h2 _) (hnb gw h.lw)
  exact {
    bn := (((h.bn.grown hgr (hne gn h.ln)).set p.1 _).setOther _ _ (fun e => h.ne e.symm))
    bw := (((h.bw.grown hgr (hne gw h.lw)).setOther ⟨gn, p.1, none⟩ _ h.ne).set p.2 _)
    ne := h.ne
    ln := h.ln
    lw := h.lw
    hB := by simp only [World.size_setCell]; exact Nat.le_trans h.hB hsz
    sn := by rw [Array.size_setIfInBounds]; exact h.sn
    sw := by rw [Array.size_setIfInBounds]; exact h.sw
    wt := fun b hb => by
      rw [wtL_snoc]
      by_cases e : p.2 = b
      · subst e
        rw [Array.getElem?_setIfInBounds_self_of_lt (by rw [h.sw]; exact hp2)]
        simp
      · rw [Array.getElem?_setIfInBounds_ne e, h.wt b hb]
        simp [e]
    row := fun a ha => by
      by_cases e : p.1 = a
      · subst e
        refine ⟨_, by rw [Array.getElem?_setIfInBounds_self_of_lt (by rw [h.sn]; exact hp1)], ?_⟩
        rw [nxL_snoc, if_pos rfl]
        have := hset hown
        simpa [nv] using this
      · obtain ⟨va', e1, e2⟩ := h.row a ha
        refine ⟨va', by rw [Array.getElem?_setIfInBounds_ne e]; exact e1, ?_⟩
        rw [nxL_snoc, if_neg e]
        exact hset (e2.kept hgr (h.sep a p.1 va' va (fun x => e x.symm) e1 hva))
    sep := fun a a' x y hne' hx hy => by
      by_cases e : p.1 = a
      · subst e
        rw [Array.getElem?_setIfInBounds_self_of_lt (by rw [h.sn]; exact hp1)] at hx
        cases hx
        rw [Array.getElem?_setIfInBounds_ne hne'] at hy
        right
        intro e2
        have hy2 : y.ownBlock = some g := e2.symm
        have ha' : a' < n := by have := (Array.getElem?_eq_some_iff.1 hy).1; rw [h.sn] at this; exact this
        obtain ⟨y', f1, f2⟩ := h.row a' ha'
        rw [hy] at f1
        cases f1
        have hlt := (f2.lt g hy2).2
        rcases hg with hg | hg
        · rcases h.sep p.1 a' va y hne' hva hy with h0 | h0
          · rw [h0] at hg; cases hg
          · exact h0 (hg.trans hy2.symm)
        · omega
      · rw [Array.getElem?_setIfInBounds_ne e] at hx
        by_cases e' : p.1 = a'
        · subst e'
          rw [Array.getElem?_setIfInBounds_self_of_lt (by rw [h.sn]; exact hp1)] at hy
          cases hy
          right
          intro e2
          have hx2 : x.ownBlock = some g := e2
          have ha : a < n := by have := (Array.getElem?_eq_some_iff.1 hx).1; rw [h.sn] at this; exact this
          obtain ⟨x', f1, f2⟩ := h.row a ha
          rw [hx] at f1
          cases f1
          have hlt := (f2.lt g hx2).2
          rcases hg with hg | hg
          · rcases h.sep p.1 a va x (fun z => e z) hva hx with h0 | h0
            · rw [h0] at hg; cases hg
            · exact h0 (hg.trans hx2.symm)
          · omega
        · rw [Array.getElem?_setIfInBounds_ne e'] at hy
          exact h.sep a a' x y hne' hx hy }

end Go.Proofs.YtljmonfobefiiaaGreatDoor

/- What poset.New holds in memory while it sorts: the numbers of predecessors that are left, and the rows of second parts. -/
namespace Go.Proofs.YtljmonfobefiiaaGreatDoor
open Go.RowKit

theorem sum_upd (f g : Nat → Nat) (i c : Nat) : ∀ n, i < n → (∀ a < n, a ≠ i → f a = g a) → f i = g i + c → ((List.range n).map f).sum = ((List.range n).map g).sum + c
  | 0, h, _, _ => by omega
  | n + 1, h, h1, h2 => by
    rw [List.range_succ, List.map_append, List.map_append, List.sum_append, List.sum_append]
    simp only [List.map_cons, List.map_nil, List.sum_cons, List.sum_nil]
    by_cases e : i = n
    · subst e
      have : (List.range i).map f = (List.range i).map g := List.map_congr_left fun a ha => h1 a (by have := List.mem_range.1 ha; omega) (by have := List.mem_range.1 ha; omega)
      rw [this]
      omega
    · rw [sum_upd f g i c n (by omega) (fun a ha => h1 a (by omega)) h2, h1 n (by omega) (fun e' => e e'.symm)]
      omega
theorem wt_all (n b : Nat) (L : List (Nat × Nat)) (h : ∀ p ∈ L, p.1 < n) : (allS (nxL L) n).count b = wtL L b := by
  induction L with
  | nil =>
    have : allS (nxL []) n = [] := by
      unfold allS
      rw [List.flatMap_eq_nil_iff]
      intro a _
      rfl
    rw [this]
    rfl
  | cons p L ih =>
    have ih := ih (fun q hq => h q (List.mem_cons_of_mem _ hq))
    unfold allS at ih ⊢
    rw [List.count_flatMap] at ih ⊢
    rw [sum_upd (List.count b ∘ nxL (p :: L)) (List.count b ∘ nxL L) p.1 (if p.2 = b then 1 else 0) n (h p List.mem_cons_self), ih]
    · unfold wtL
      rw [List.map_cons, List.count_cons]
      simp
    · intro a _ ha
      simp [nxL, Ne.symm ha]
    · simp [nxL, List.count_cons]

theorem nxL_lt {L : List (Nat × Nat)} {n a b : Nat} (h : ∀ p ∈ L, p.1 < p.2 ∧ p.2 < n) (hb : b ∈ nxL L a) : a < b ∧ b < n := by
  unfold nxL at hb
  obtain ⟨p, hp, rfl⟩ := List.mem_map.1 hb
  obtain ⟨h1, h2⟩ := List.mem_filter.1 hp
  have := h p h1
  simp at h2
  omega
/-- What is left to be counted off. -/
def WtAt (W : World) (gw n : Nat) (t : Nat → Nat) : Prop := ∃ wa : Array Value, Blk W gw wa ∧ wa.size = n ∧ ∀ b < n, wa[b]? = some (I (t b : Nat))
theorem WtAt.cell {W : World} {gw n : Nat} {t : Nat → Nat} (h : WtAt W gw n t) {b : Nat} (hb : b < n) : W.cell? ⟨gw, b, none⟩ = some (I (t b : Nat)) ∧ W.frozen? ⟨gw, b, none⟩ = false := by
  obtain ⟨wa, h1, h2, h3⟩ := h
  exact ⟨(h1.cell b).trans (h3 b hb), h1.frozen b⟩
theorem WtAt.set {W : World} {gw n : Nat} {t t' : Nat → Nat} (h : WtAt W gw n t) (b : Nat) (ho : ∀ c, c ≠ b → t' c = t c) : WtAt (W.setCell ⟨gw, b, none⟩ (I (t' b : Nat))) gw n t' := by
  obtain ⟨wa, h1, h2, h3⟩ := h
  refine ⟨_, h1.set b _, by rw [Array.size_setIfInBounds]; exact h2, fun c hc => ?_⟩
  by_cases e : b = c
  · subst e
    rw [Array.getElem?_setIfInBounds_self_of_lt (by rw [h2]; exact hc)]
  · rw [Array.getElem?_setIfInBounds_ne e, h3 c hc, ho c (fun x => e x.symm)]
theorem WtAt.kept {W W' : World} {gw n B : Nat} {t : Nat → Nat} (h : WtAt W gw n t) (hb : Below B W W') (hg : gw < B) : WtAt W' gw n t := by
  obtain ⟨wa, h1, h2, h3⟩ := h
  exact ⟨wa, h1.kept hb hg, h2, h3⟩
theorem WtAt.congr {W : World} {gw n : Nat} {t t' : Nat → Nat} (h : WtAt W gw n t) (ht : ∀ b < n, t' b = t b) : WtAt W gw n t' := by
  obtain ⟨wa, h1, h2, h3⟩ := h
  exact ⟨wa, h1, h2, fun b hb => by rw [ht b hb]; exact h3 b hb⟩

/-- The row of a: where it is read. -/
theorem NxAt.read {B gn gw n : Nat} {W : World} {L : List (Nat × Nat)} {arr wa : Array Value} (h : NxAt B gn gw n W L arr wa) {a : Nat} (ha : a < n) :
    ∃ va, ∀ W', Agr gw W W' → W'.cell? ⟨gn, a, none⟩ = some va ∧ Flat W' 1 va (nxL L a).length (nv (nxL L a)) := by
  obtain ⟨va, h1, h2⟩ := h.row a ha
  refine ⟨va, fun W' hA => ⟨?_, Flat.own_off h2 h.lw hA⟩⟩
  rw [hA.2 gn a (Nat.lt_of_lt_of_le h.ln h.hB) h.ne]
  exact (h.bn.cell a).trans h1
theorem NxAt.wtAt {B gn gw n : Nat} {W : World} {L : List (Nat × Nat)} {arr wa : Array Value} (h : NxAt B gn gw n W L arr wa) : WtAt W gw n (wtL L) := ⟨wa, h.bw, h.sw, h.wt⟩

theorem own_set {W : World} {B : Nat} {e : TypeId} {k : Nat} {v : Value} {n : Nat} {xs : List Value} (h : W.ownsRow B e k v n xs) (a : Addr) (u : Value) (ha : a.block < B) : (W.setCell a u).ownsRow B e k v n xs := by
  refine h.kept ⟨rfl, rfl, rfl, by simp, fun j _ hj => heap_setCell_other _ _ _ _ (fun e => hj (by rw [e]))⟩ (row := some a.block) ?_
  rcases owns_block h with h0 | ⟨g, h0, h1, _⟩
  · exact .inl h0
  · exact .inr (by rw [h0]; intro e; cases e; omega)
theorem nv_length (l : List Nat) : (nv l).length = l.length := by simp [nv]
theorem nv_snoc (l : List Nat) (i : Nat) : nv (l ++ [i]) = nv l ++ [I (i : Int)] := by simp [nv]
theorem nv_get {l : List Nat} {i x : Nat} (h : l[i]? = some x) : (nv l)[i]? = some (I (x : Int)) := by simp [nv, h]
theorem flat_nv {w : World} {a : Option Addr} {m c n : Nat} {l : List Nat} (h : Flat w 1 (.slice a m c) n (nv l)) {i x : Nat} (hi : l[i]? = some x) : ∃ b o, a = some ⟨b, o, none⟩ ∧ w.cell? ⟨b, o + i, none⟩ = some (I (x : Int)) := by
  have hlt := (List.getElem?_eq_some_iff.1 hi).1
  obtain ⟨b, o, ha, hc⟩ := h.cells (by rw [nv_length]; omega)
  exact ⟨b, o, ha, hc i _ (nv_get hi)⟩
theorem filter_succ (Z : Nat → Bool) (k : Nat) : (List.range (k + 1)).filter Z = (List.range k).filter Z ++ if Z k then [k] else [] := by
  rw [List.range_succ, List.filter_append]
  by_cases h : Z k <;> simp [h]

/-- What poset.New holds while it sorts: w3: where the sorting begins; done: the second parts that have been counted off; v: the row. -/
structure QM (n gw : Nat) (L : List (Nat × Nat)) (w w3 W : World) (row done : List Nat) (v : Value) : Prop where
  ag : Agr gw w3 W
  wt : WtAt W gw n (fun b => wtL L b - done.count b)
  own : W.ownsRow w3.heap.size 3 1 v row.length (nv row)
  be : Below w.heap.size w W
theorem QM.drew {n gw : Nat} {L : List (Nat × Nat)} {w w3 W : World} {row done : List Nat} {v : Value} (h : QM n gw L w w3 W row done v) : QM n gw L w w3 W.drew row done v :=
  ⟨h.ag.drew, h.wt, owns_below h.own (Below.refl _ _).drew, h.be.drew⟩
theorem QM.kept {n gw : Nat} {L : List (Nat × Nat)} {w w3 W W' : World} {row done : List Nat} {v : Value} (h : QM n gw L w w3 W row done v) (hb : Below W.heap.size W W') (h1 : gw < w3.heap.size) : QM n gw L w w3 W' row done v :=
  ⟨⟨Nat.le_trans h.ag.1 hb.size, fun x o hx hg => (hb.cell (p := ⟨x, o, none⟩) (Nat.lt_of_lt_of_le hx h.ag.1)).trans (h.ag.2 x o hx hg)⟩, h.wt.kept hb (Nat.lt_of_lt_of_le h1 h.ag.1), owns_below h.own hb, h.be.trans (hb.mono h.be.size)⟩
theorem QM.set {n gw : Nat} {L : List (Nat × Nat)} {w w3 W : World} {row done : List Nat} {v : Value} (h : QM n gw L w w3 W row done v) (b c : Nat) (hc : wtL L b - done.count b = c + 1) (h1 : gw < w3.heap.size) (h2 : w.heap.size ≤ gw) :
    QM n gw L w w3 (W.setCell ⟨gw, b, none⟩ (I c)) row (done ++ [b]) v where
  ag := h.ag.trans (Agr.set gw W b _)
  wt := by
    have := h.wt.set (t' := fun x => wtL L x - (done ++ [b]).count x) b (fun x hx => by
      show wtL L x - (done ++ [b]).count x = wtL L x - done.count x
      rw [List.count_append]
      simp [Ne.symm hx])
    have e : wtL L b - (done ++ [b]).count b = c := by
      rw [List.count_append]
      simp
      omega
    simp only [e] at this
    exact this
  own := own_set h.own _ _ h1
  be := h.be.setCell h2 _
theorem QM.app {n gw : Nat} {L : List (Nat × Nat)} {w w3 W W' : World} {row done : List Nat} {v v' : Value} (h : QM n gw L w w3 W row done v) (b : Nat) (h1 : gw < w3.heap.size) (h2 : w.heap.size ≤ gw)
    (ho : W'.ownsRow w3.heap.size 3 1 v' (row.length + 1) (nv row ++ [I (b : Int)])) (hb : Below w3.heap.size W W') : QM n gw L w w3 W' (row ++ [b]) done v' where
  ag := ⟨Nat.le_trans h.ag.1 hb.size, fun x o hx hg => (hb.cell (p := ⟨x, o, none⟩) hx).trans (h.ag.2 x o hx hg)⟩
  wt := h.wt.kept hb h1
  own := by rw [List.length_append, nv_snoc]; exact ho
  be := h.be.trans (hb.mono (by omega))

/-- A new order of k elements: its three blocks. -/
def OrdMade (w4 : World) (k : Nat) (v : Value) (wc : World) : Prop := ∃ ga gp gv : Nat, v = .pointer (some ⟨gv, 0, none⟩) ∧ w4.heap.size ≤ ga ∧ w4.heap.size ≤ gp ∧ w4.heap.size ≤ gv ∧ ga ≠ gp ∧ ga ≠ gv ∧ gp ≠ gv ∧
  Blk wc ga (mk1 k (.slice none 0 0)) ∧ Blk wc gp #[I k, .slice (some ⟨ga, 0, none⟩) k k] ∧ Blk wc gv #[.pointer (some ⟨gp, 0, none⟩)] ∧ Below w4.heap.size w4 wc

end Go.Proofs.YtljmonfobefiiaaGreatDoor

/- slices.Backward over a row of numbers. -/
namespace Go.Proofs.YtljmonfobefiiaaGreatDoor
open Go.RowKit Go.Shelf
attribute [local go_sem] Oper.semAt_some

/-- What a round keeps: the blocks of P. -/
def KpP (P : Nat → Prop) (A B : World) : Prop := ∀ b o, P b → B.cell? ⟨b, o, none⟩ = A.cell? ⟨b, o, none⟩
theorem KpP.refl (P : Nat → Prop) (A : World) : KpP P A A := fun _ _ _ => rfl
theorem KpP.trans {P : Nat → Prop} {A B C : World} (h : KpP P A B) (k : KpP P B C) : KpP P A C := fun b o hb => (k b o hb).trans (h b o hb)
theorem KpP.set {P : Nat → Prop} {A B : World} (h : KpP P A B) (a : Addr) (v : Value) (ha : ¬ P a.block) : KpP P A (B.setCell a v) := fun b o hb =>
  (World.cell?_setCell_other _ _ _ _ (fun e => ha (by rw [e]; exact hb))).trans (h b o hb)
theorem KpP.below {P : Nat → Prop} {A B : World} {n : Nat} (h : Below n A B) (hP : ∀ b, P b → b < n) : KpP P A B := fun b o hb => h.cell (p := ⟨b, o, none⟩) (hP b hb)

/-- The places of a row from the last one down to k. -/
def bwdL {n : Nat} (row : List (Fin n)) (k : Nat) : List (Fin n × Nat) := (row.zipIdx.drop k).reverse
def fv {n : Nat} (row : List (Fin n)) : List Nat := row.map Fin.val
theorem bwdL_start {n : Nat} (row : List (Fin n)) : bwdL row (fv row).length = [] := by simp [bwdL, fv]
theorem bwdL_step {n : Nat} (row : List (Fin n)) (k : Nat) (x : Fin n) (h : row[k]? = some x) : bwdL row k = bwdL row (k + 1) ++ [(x, k)] := by
  obtain ⟨hk, rfl⟩ := List.getElem?_eq_some_iff.1 h
  unfold bwdL
  rw [List.drop_eq_getElem_cons (by simpa using hk)]
  simp
theorem bwdL_length {n : Nat} (row : List (Fin n)) (k : Nat) : (bwdL row k).length = row.length - k := by simp [bwdL]
theorem bwdL_fst {n : Nat} (row : List (Fin n)) : (bwdL row 0).map Prod.fst = row.reverse := by
  unfold bwdL
  rw [List.drop_zero, List.map_reverse, List.zipIdx_map_fst]
/-- A place as yield is handed it. -/
def encB {n : Nat} (x : Fin n × Nat) : Array Value := #[I x.2, I x.1.val]

set_option maxHeartbeats 2000000 in
set_option maxRecDepth 100000 in
theorem backIter {m : Nat} (n : Nat) (hn : 1 ≤ n) (row : List (Fin m)) (tb : Nat) (v : Value) (w0 : World) (P : Nat → Prop) (hbox : w0.cell? ⟨tb, 0, none⟩ = some v) (hrow : Flat w0 1 v (fv row).length (nv (fv row))) (hlen : (fv row).length ≤ 1000000)
    (hP : ∀ b, P b → b < w0.heap.size) (hPt : P tb) (hPr : ∀ b o m c, v = .slice (some ⟨b, o, none⟩) m c → P b) :
    SeqStopsK Fence.wide n Tryz.prog 166 #[.pointer (some ⟨tb, 0, none⟩)] encB (KpP P) (fun xs => xs = bwdL row 0) (fun _ => True) (fv row).length w0 := by
  intro l J Jx W hW hJ hJx hY h0
  obtain ⟨ka, ca, rfl, hml⟩ := hrow.open
  have hb0 : W.cell? ⟨tb, 0, none⟩ = some (.slice ka (fv row).length ca) := (hW.cell (p := ⟨tb, 0, none⟩) (hP _ hPt)).trans hbox
  have HY := Lib.hid hY
  clear hY
  refine callsIn_of_wp Tryz.func166 rfl trivial ?_ rfl
  simp only [Tryz.ntmps166, List.size_toArray, List.length_cons, List.length_nil, Nat.reduceAdd, Nat.reduceSub, Array.replicate_succ, Array.replicate_zero, List.push_toArray, List.append_toArray, List.nil_append, List.cons_append]
  gi_wp2
  gi_loopw [3] (fun p wr => ∃ k : Nat, k ≤ (fv row).length ∧ p = .int .i64 ((k : Int) - 1) ∧ KpP P w0 wr ∧ J (bwdL row k) wr) (fun p _ => (intOf p + 1).toNat)
  case atStart => exact ⟨(fv row).length, Nat.le_refl _, rfl, KpP.below hW hP, by rw [bwdL_start]; exact h0⟩
  case round =>
    clear hb0
    obtain ⟨k, hk, rfl, hK, hJk⟩ := hrel
    cases k with
    | zero =>
      gi_wp2
      go_end0
      exact ⟨⟨_, rfl⟩, .inl ⟨_, rfl, hJk⟩⟩
    | succ k =>
      have hkl : k < (fv row).length := by omega
      have e1 : ((k + 1 : Nat) : Int) - 1 = (k : Int) := by omega
      rw [e1]
      have hbx := (hK tb 0 hPt).trans hbox
      obtain ⟨x, hx⟩ : ∃ x, row[k]? = some x := ⟨row[k]'(by simpa [fv] using hkl), by simp⟩
      obtain ⟨b, o, rfl, hc⟩ := flat_nv hrow (i := k) (x := x.val) (by simp [fv, hx])
      have hcx := (hK b (o + k) (hPr b o _ _ rfl)).trans hc
      have hsx := bwdL_step row k x hx
      have Hs := Lib.hid hsx
      have Hlt := Lib.hid (show (bwdL row (k + 1)).length < (fv row).length by rw [bwdL_length]; simp [fv] at hkl ⊢; omega)
      obtain ⟨fn, tmps, assign, body, hy, hR⟩ := HY.out _ (x, k) wr hJk Hlt.out
      dsimp only [encB] at hy
      clear hsx e1 hx hc
      gi_wp2
      refine hR.mono ?_
      rintro e W3 (⟨rfl, hJ3, hk3⟩ | ⟨rfl, hJx3⟩)
      · gi_wp2
        go_roundw
        case rel => exact ⟨k, by omega, rfl, hK.trans hk3, by rw [Hs.out]; exact hJ3⟩
        case measure => simp [intOf]
      · gi_wp2
        refine bodyPost_ret (results_none rfl _ _ _) rfl ?_
        exact ⟨⟨_, rfl⟩, .inr ⟨_, trivial, hJx3⟩⟩

theorem backward (a : Option Addr) (n c : Nat) (w : World) : Calls Tryz.prog 132 #[.slice a n c] w fun e w' => e = .returned (.func (.func 166) #[] #[.pointer (some ⟨w.heap.size, 0, none⟩)]) ∧ w' = w.alloc (.cells #[.slice a n c] 22) := by
  go_enter Tryz.func132, Tryz.ntmps132
  go_wp2_with fail
  go_ret
  exact ⟨rfl, rfl⟩

theorem KpP.putObj {P : Nat → Prop} (W : World) (l : Nat) (o' : Obj) (h : ¬ P l) : KpP P W (W.putObj l o') := fun b o hb => by
  have hne : b ≠ l := by
    rintro rfl
    exact h hb
  simp [World.cell?, World.putObj_heap_other hne]

theorem snocRec {α : Type} {P : List α → Prop} (nil : P []) (append_singleton : ∀ l a, P l → P (l ++ [a])) (l : List α) : P l := by
  have h : ∀ m : List α, P m.reverse := fun m => by
    induction m with
    | nil => exact nil
    | cons a m ih => rw [List.reverse_cons]; exact append_singleton _ _ ih
  have := h l.reverse
  rwa [List.reverse_reverse] at this
/-- The sets above the elements as the last loop fills them: what has been made for the elements of a list. -/
def foldS (g : Nat → Nat) (l : List Nat) : Nat := l.foldl (fun m b => (m ||| 2 ^ b) ||| g b) 0
def stepW (nx : Nat → List Nat) (wd : Nat → Option Nat) (a : Nat) : Nat → Option Nat := fun x => if x = a then some (foldS (fun b => (wd b).getD 0) (nx a)) else wd x
def wdOf (nx : Nat → List Nat) (al : List Nat) : Nat → Option Nat := al.foldl (stepW nx) (fun _ => none)
theorem foldS_snoc (g : Nat → Nat) (l : List Nat) (b : Nat) : foldS g (l ++ [b]) = (foldS g l ||| 2 ^ b) ||| g b := by simp [foldS]
theorem foldS_lt (g : Nat → Nat) (l : List Nat) (hl : ∀ b ∈ l, b < 64 ∧ g b < lim64) : foldS g l < lim64 := by
  induction l using snocRec with
  | nil => show 0 < 2 ^ 64; omega
  | append_singleton l b ih =>
    rw [foldS_snoc]
    have h1 := ih (fun c hc => hl c (List.mem_append_left _ hc))
    have h2 := hl b (by simp)
    exact Nat.or_lt_two_pow (Nat.or_lt_two_pow h1 (pow_lt b h2.1)) h2.2
theorem foldS_bit (g : Nat → Nat) (l : List Nat) (k : Nat) : (foldS g l).testBit k = l.any fun b => b == k || (g b).testBit k := by
  induction l using snocRec with
  | nil => simp [foldS]
  | append_singleton l b ih =>
    rw [foldS_snoc, Nat.testBit_or, Nat.testBit_or, ih, Nat.testBit_two_pow]
    simp [Bool.or_assoc]
    rfl
theorem wdOf_snoc (nx : Nat → List Nat) (al : List Nat) (a : Nat) : wdOf nx (al ++ [a]) = stepW nx (wdOf nx al) a := by simp [wdOf]
/-- Where each element comes behind all that are above it, the sets are what they should be. -/
theorem wdOf_law (nx : Nat → List Nat) (n : Nat) (hn : n ≤ 64) (f : Nat → Nat → Bool) (hnx : ∀ a < n, ∀ b ∈ nx a, b < n) (hf : ∀ a < n, ∀ k < n, f a k = (nx a).any fun b => b == k || f b k) (al : List Nat) (hnd : al.Nodup) (hlt : ∀ a ∈ al, a < n)
    (ho : ∀ q a, al[q]? = some a → ∀ b ∈ nx a, b ∈ al.take q) : ∀ a ∈ al, ∃ m, wdOf nx al a = some m ∧ m < lim64 ∧ ∀ k < n, m.testBit k = f a k := by
  induction al using snocRec with
  | nil => intro a ha; simp at ha
  | append_singleton al a ih =>
    have hnd' := List.nodup_append.1 hnd
    have hlt' : ∀ x ∈ al, x < n := fun x hx => hlt x (List.mem_append_left _ hx)
    have ih := ih hnd'.1 hlt' (fun q x hq b hb => by
      have hql := (List.getElem?_eq_some_iff.1 hq).1
      have := ho q x (by rw [List.getElem?_append_left hql]; exact hq) b hb
      rwa [List.take_append_of_le_length (by omega)] at this)
    have han := hlt a (by simp)
    have hin : ∀ b ∈ nx a, b ∈ al := fun b hb => by
      have := ho al.length a (by simp) b hb
      rwa [List.take_left] at this
    intro x hx
    rw [wdOf_snoc]
    unfold stepW
    by_cases e : x = a
    · subst e
      rw [if_pos rfl]
      refine ⟨_, rfl, foldS_lt _ _ fun b hb => ?_, fun k hk => ?_⟩
      · obtain ⟨m, h1, h2, _⟩ := ih b (hin b hb)
        rw [h1]
        have := hnx x han b hb
        exact ⟨by omega, h2⟩
      · rw [foldS_bit, hf x han k hk, Bool.eq_iff_iff, List.any_eq_true, List.any_eq_true]
        have key : ∀ b ∈ nx x, ((wdOf nx al b).getD 0).testBit k = f b k := fun b hb => by
          obtain ⟨m, h1, _, h3⟩ := ih b (hin b hb)
          rw [h1]
          exact h3 k hk
        constructor
        · rintro ⟨b, hb, h⟩; exact ⟨b, hb, by rwa [key b hb] at h⟩
        · rintro ⟨b, hb, h⟩; exact ⟨b, hb, by rwa [key b hb]⟩
    · rw [if_neg e]
      refine ih x ?_
      rcases List.mem_append.1 hx with h | h
      · exact h
      · simp at h; exact absurd h e

/-- The sets above the elements, in memory: arr: what the order's row holds. -/
def Above (W : World) (n lo : Nat) (arr : Array Value) (wd : Nat → Option Nat) : Prop := arr.size = n ∧ ∀ a < n, match wd a with
  | none => arr[a]? = some (.slice none 0 0)
  | some m => m < lim64 ∧ ∃ gi, lo ≤ gi ∧ gi < W.heap.size ∧ arr[a]? = some (.slice (some ⟨gi, 0, none⟩) 1 1) ∧ W.cell? ⟨gi, 0, none⟩ = some (.int .u64 ((m : Nat) : Int))
theorem Above.kept {W W' : World} {n lo : Nat} {arr : Array Value} {wd : Nat → Option Nat} (h : Above W n lo arr wd) (hs : W.heap.size ≤ W'.heap.size) (hc : ∀ b v, lo ≤ b → b < W.heap.size → W.cell? ⟨b, 0, none⟩ = some v → W'.cell? ⟨b, 0, none⟩ = some v) : Above W' n lo arr wd := by
  refine ⟨h.1, fun a ha => ?_⟩
  have := h.2 a ha
  split
  · rename_i e
    rw [e] at this
    exact this
  · rename_i m e
    rw [e] at this
    obtain ⟨h1, gi, h2, h3, h4, h5⟩ := this
    exact ⟨h1, gi, h2, by omega, h4, hc gi _ h2 h3 h5⟩
/-- One more set: made in block g behind all. -/
theorem Above.step {W W' : World} {n lo : Nat} {arr : Array Value} {nx : Nat → List Nat} {wd : Nat → Option Nat} (h : Above W n lo arr wd) (a : Nat) (ha : a < n) (hnx : ∀ b ∈ nx a, b < n) (hn : n ≤ 64) (hlo : lo ≤ W.heap.size)
    (hs : W.heap.size < W'.heap.size) (hc : ∀ b v, lo ≤ b → b < W.heap.size → W.cell? ⟨b, 0, none⟩ = some v → W'.cell? ⟨b, 0, none⟩ = some v)
    (hg : W'.cell? ⟨W.heap.size, 0, none⟩ = some (.int .u64 ((foldS (fun b => (wd b).getD 0) (nx a) : Nat) : Int))) :
    Above W' n lo (arr.setIfInBounds a (.slice (some ⟨W.heap.size, 0, none⟩) 1 1)) (stepW nx wd a) := by
  have hk := h.kept (W' := W') (by omega) hc
  refine ⟨by rw [Array.size_setIfInBounds]; exact h.1, fun x hx => ?_⟩
  unfold stepW
  by_cases e : x = a
  · subst e
    rw [if_pos rfl]
    refine ⟨foldS_lt _ _ fun b hb => ⟨by have := hnx b hb; omega, ?_⟩, W.heap.size, hlo, hs, by rw [Array.getElem?_setIfInBounds_self_of_lt (by rw [h.1]; exact hx)], hg⟩
    have := h.2 b (hnx b hb)
    cases hw : wd b with
    | none => show 0 < 2 ^ 64; omega
    | some m =>
      rw [hw] at this
      exact this.1
  · rw [if_neg e]
    have := hk.2 x hx
    rw [Array.getElem?_setIfInBounds_ne (Ne.symm e)]
    exact this
theorem Above.start (W : World) (n lo : Nat) : Above W n lo (mk1 n (.slice none 0 0)) (fun _ => none) := ⟨mk1_size _ _, fun _ ha => mk1_get _ _ _ ha⟩

set_option maxHeartbeats 400000 in
theorem setJoinNil (b o c : Nat) (w : World) :
    Calls Tryz.prog 102 #[.slice (some ⟨b, o, none⟩) 1 c, .slice none 0 0] w fun e w' => e = .returned (.tuple #[]) ∧ w' = w := by
  go_enter Tryz.func102, Tryz.ntmps102
  go_wp2
  refine wp_loop_rounds 1 ?_
  rw [rounds_succ]
  go_wp2
  go_end0
  exact ⟨rfl, rfl⟩

theorem Blk.ownFrom {W W' : World} {g : Nat} {cs : Array Value} (h : Blk W g cs) {row : Option Nat} (hg : W.grownBy W' row) (hr : ∀ r, row = some r → ∃ o : Obj, W.heap[r]? = some o ∧ o.isCells = false) : Blk W' g cs := by
  refine h.grown hg fun e => ?_
  obtain ⟨o, h1, h2⟩ := hr g e
  obtain ⟨t, h3⟩ := h
  rw [h3] at h1
  cases h1
  cases h2
theorem Blk.putObj {W : World} {g : Nat} {cs : Array Value} (h : Blk W g cs) {l : Nat} {o : Obj} (o' : Obj) (hl : W.heap[l]? = some o) (ho : o.isCells = false) : Blk (W.putObj l o') g cs :=
  h.ownFrom (grownBy_putObj' W l o') (fun r e => by cases e; exact ⟨o, hl, ho⟩)

theorem rev_order {nx : Nat → List Nat} {n : Nat} {row done : List Nat} (h : QAt nx n row done) (hfull : ∀ i < n, i ∈ row) (hnx : ∀ a < n, ∀ b ∈ nx a, b < n) : ∀ q a, row.reverse[q]? = some a → ∀ b ∈ nx a, b ∈ row.reverse.take q := by
  intro q a hq b hb
  have hql : q < row.length := by have := (List.getElem?_eq_some_iff.1 hq).1; simpa using this
  rw [List.getElem?_reverse hql] at hq
  have han := h.lt a (List.mem_of_getElem? hq)
  obtain ⟨p, hp⟩ := List.getElem?_of_mem (hfull b (hnx a han b hb))
  have hpl := (List.getElem?_eq_some_iff.1 hp).1
  have ha := h.order p b hp a han hb
  obtain ⟨j, hj⟩ := List.getElem?_of_mem ha
  have hjl := (List.getElem?_eq_some_iff.1 hj).1
  rw [List.length_take] at hjl
  rw [List.getElem?_take_of_lt (by omega)] at hj
  have hjq : j = row.length - 1 - q := (List.getElem?_inj (by omega) h.nodup).1 (hj.trans hq.symm)
  have : row.reverse[row.length - 1 - p]? = some b := by
    rw [List.getElem?_reverse (by omega), show row.length - 1 - (row.length - 1 - p) = p by omega]
    exact hp
  refine List.mem_of_getElem? (i := row.length - 1 - p) ?_
  rw [List.getElem?_take_of_lt (by omega)]
  exact this
theorem ord_rep {k ga gp lo : Nat} {W : World} {arr : Array Value} {f : Nat → Nat → Bool} {wd : Nat → Option Nat} (hn : k ≤ 64) (hb : Blk W ga arr) (h0 : W.cell? ⟨gp, 0, none⟩ = some (I k)) (h1 : W.cell? ⟨gp, 1, none⟩ = some (.slice (some ⟨ga, 0, none⟩) k k))
    (hab : Above W k lo arr wd) (hall : ∀ i < k, ∃ m, wd i = some m ∧ m < lim64 ∧ ∀ j < k, m.testBit j = f i j) : OrdRep W (.pointer (some ⟨gp, 0, none⟩)) k f := by
  refine ⟨hn, gp, ga, k, rfl, h0, h1, fun i hi => ?_⟩
  obtain ⟨m, e, h2, h3⟩ := hall i hi
  have := hab.2 i hi
  rw [e] at this
  obtain ⟨_, gi, _, _, h4, h5⟩ := this
  exact ⟨gi, 1, m, (hb.cell i).trans h4, h5, h2, h3⟩
theorem cell_putObj {W : World} {a : Addr} {v : Value} {l : Nat} {o : Obj} (h : W.cell? a = some v) (o' : Obj) (hl : W.heap[l]? = some o) (ho : o.isCells = false) : (W.putObj l o').cell? a = some v :=
  cell_kept h (grownBy_putObj' W l o') (fun r e => by cases e; exact ⟨o, hl, ho⟩)

/-- Block G alone has been written. -/
structure Touch (G : Nat) (W W' : World) : Prop where
  size : W'.heap.size = W.heap.size
  cell : ∀ b o, b ≠ G → W'.cell? ⟨b, o, none⟩ = W.cell? ⟨b, o, none⟩
  others : KeepsOthers W W'
  below : ∀ B, B ≤ G → Below B W W'
  blk : ∀ g cs, g ≠ G → Blk W g cs → Blk W' g cs
theorem Touch.refl (G : Nat) (W : World) : Touch G W W := ⟨rfl, fun _ _ _ => rfl, KeepsOthers.refl W, fun _ _ => Below.refl _ _, fun _ _ _ h => h⟩
theorem Touch.trans {G : Nat} {A B C : World} (h : Touch G A B) (k : Touch G B C) : Touch G A C :=
  ⟨k.size.trans h.size, fun b o hb => (k.cell b o hb).trans (h.cell b o hb), h.others.trans k.others, fun n hn => (h.below n hn).trans (k.below n hn), fun g cs hg hb => k.blk g cs hg (h.blk g cs hg hb)⟩
theorem Touch.set (G o : Nat) (W : World) (v : Value) : Touch G W (W.setCell ⟨G, o, none⟩ v) :=
  ⟨by simp, fun b o' hb => World.cell?_setCell_other _ _ _ _ (fun e => hb (congrArg Addr.block e).symm), KeepsOthers.setCell _ _ _, fun _ hB => (Below.refl _ W).setCell hB _, fun _ _ hg hb => hb.setOther _ _ (fun e => hg e.symm)⟩
theorem Touch.drew {G : Nat} {W W' : World} (h : Touch G W W') : Touch G W W'.drew :=
  ⟨h.size, h.cell, h.others.trans (KeepsOthers.drew _), fun B hB => (h.below B hB).drew, fun g cs hg hb => (h.blk g cs hg hb).drew⟩
theorem Touch.drewN {G : Nat} {W W' : World} (h : Touch G W W') (n : Nat) : Touch G W (W'.drewN n) :=
  ⟨h.size, h.cell, h.others.trans ⟨Nat.le_refl _, fun _ _ h _ => h⟩, fun B hB => below_drewN (h.below B hB) n, fun g cs hg hb => (h.blk g cs hg hb).drewN n⟩

theorem setAddB (G m i : Nat) (w : World) (hG : Blk w G #[.int .u64 ((m : Nat) : Int)]) (hm : m < lim64) (hi : i < 64) :
    Calls Tryz.prog 133 #[.slice (some ⟨G, 0, none⟩) 1 1, I i] w fun e w' => e = .returned (.tuple #[]) ∧ Blk w' G #[.int .u64 ((m ||| 2 ^ i : Nat) : Int)] ∧ Touch G w w' := by
  refine (setAdd G 0 1 m i w (hG.cell 0) (hG.frozen 0) hm hi).mono ?_
  rintro e w' ⟨rfl, n, rfl⟩
  exact ⟨rfl, (hG.set 0 _).drewN n, (Touch.set G 0 w _).drewN n⟩
theorem setJoinB (G m mb : Nat) (tv : Value) (w : World) (hG : Blk w G #[.int .u64 ((m : Nat) : Int)]) (hm : m < lim64)
    (ht : (tv = .slice none 0 0 ∧ mb = 0) ∨ ∃ gi, tv = .slice (some ⟨gi, 0, none⟩) 1 1 ∧ w.cell? ⟨gi, 0, none⟩ = some (.int .u64 ((mb : Nat) : Int)) ∧ mb < lim64) :
    Calls Tryz.prog 102 #[.slice (some ⟨G, 0, none⟩) 1 1, tv] w fun e w' => e = .returned (.tuple #[]) ∧ Blk w' G #[.int .u64 ((m ||| mb : Nat) : Int)] ∧ Touch G w w' := by
  rcases ht with ⟨rfl, rfl⟩ | ⟨gi, rfl, hc, hmb⟩
  · refine (setJoinNil G 0 1 w).mono ?_
    rintro e w' ⟨rfl, rfl⟩
    exact ⟨rfl, by rw [Nat.or_zero]; exact hG, Touch.refl _ _⟩
  · refine (setJoin G 0 1 gi 0 1 m mb w (hG.cell 0) (hG.frozen 0) hm hc hmb).mono ?_
    rintro e w' ⟨rfl, rfl⟩
    exact ⟨rfl, hG.set 0 _, Touch.set G 0 w _⟩

/-- What the last loop keeps. -/
def BkI (k ga : Nat) (L : List (Nat × Nat)) (w W6 : World) (al : List Nat) (W : World) : Prop := ∃ arr : Array Value, Blk W ga arr ∧ Above W k W6.heap.size arr (wdOf (nxL L) al) ∧ KpP (fun b => b < W6.heap.size ∧ b ≠ ga) W6 W ∧ W6.heap.size ≤ W.heap.size ∧ Below w.heap.size w W
theorem kpp_grown {P : Nat → Prop} {A B : World} {n : Nat} {row : Option Nat} (hg : A.grownBy B row) (hr : ∀ r, row = some r → n ≤ r) (hP : ∀ b, P b → b < n) (hn : n ≤ A.heap.size) : KpP P A B := fun b o hb => by
  have := hg.block b (Nat.lt_of_lt_of_le (hP b hb) hn) (fun e => by have := hr b e.symm; have := hP b hb; omega)
  simp [World.cell?, this]
theorem bki_own (k ga : Nat) (L : List (Nat × Nat)) (w W6 : World) (hw : w.heap.size ≤ W6.heap.size) : OwnFrom W6.heap.size (fun (pre : List (Fin k × Nat)) W => BkI k ga L w W6 (pre.map fun x => x.1.val) W) := by
  intro s A B row hs hg hr
  obtain ⟨arr, h1, h2, h3, h4, h5⟩ := hs
  refine ⟨arr, h1.ownFrom hg (fun r e => (hr r e).2), h2.kept hg.size (fun b v _ _ hc => cell_kept hc hg (fun r e => (hr r e).2)), h3.trans (kpp_grown hg (fun r e => (hr r e).1) (fun b hb => hb.1) h4), Nat.le_trans h4 hg.size, ?_⟩
  exact h5.grown hg h5.size (fun r e => by have := (hr r e).1; omega)

theorem KpP.weak {P P' : Nat → Prop} {A B : World} (h : KpP P A B) (hp : ∀ b, P' b → P b) : KpP P' A B := fun b o hb => h b o (hp b hb)
theorem Above.val {W : World} {n lo : Nat} {arr : Array Value} {wd : Nat → Option Nat} (h : Above W n lo arr wd) {b : Nat} (hb : b < n) : ∃ tv, arr[b]? = some tv ∧ ((tv = .slice none 0 0 ∧ (wd b).getD 0 = 0) ∨ ∃ gi, tv = .slice (some ⟨gi, 0, none⟩) 1 1 ∧ lo ≤ gi ∧ gi < W.heap.size ∧ W.cell? ⟨gi, 0, none⟩ = some (.int .u64 (((wd b).getD 0 : Nat) : Int)) ∧ (wd b).getD 0 < lim64) := by
  have := h.2 b hb
  cases hw : wd b with
  | none => rw [hw] at this; exact ⟨_, this, .inl ⟨rfl, rfl⟩⟩
  | some m => rw [hw] at this; obtain ⟨h1, gi, h2, h3, h4, h5⟩ := this; exact ⟨_, h4, .inr ⟨gi, rfl, h2, h3, h5, h1⟩⟩

theorem ordMade1 (w : World) (k : Nat) : OrdMade w k (.pointer (some ⟨w.heap.size + 1 + 1, 0, none⟩)) (((w.alloc (.cells (mk1 k (.slice none 0 0)) 160)).alloc (.cells #[I k, .slice (some ⟨w.heap.size, 0, none⟩) k k] 158)).alloc (.cells #[.pointer (some ⟨w.heap.size + 1, 0, none⟩)] 117)).drew := by
  refine ⟨w.heap.size, w.heap.size + 1, w.heap.size + 1 + 1, rfl, by omega, by omega, by omega, by omega, by omega, by omega, (((Blk.new w _ 160).alloc _).alloc _).drew, ?_, ?_, ((((Below.refl _ w).alloc (Nat.le_refl _) _).alloc (by simp) _).alloc (by simp; omega) _).drew⟩
  · have := ((Blk.new (w.alloc (.cells (mk1 k (.slice none 0 0)) 160)) #[I k, .slice (some ⟨w.heap.size, 0, none⟩) k k] 158).alloc (.cells #[.pointer (some ⟨w.heap.size + 1, 0, none⟩)] 117)).drew
    simpa using this
  · have := (Blk.new ((w.alloc (.cells (mk1 k (.slice none 0 0)) 160)).alloc (.cells #[I k, .slice (some ⟨w.heap.size, 0, none⟩) k k] 158)) #[.pointer (some ⟨w.heap.size + 1, 0, none⟩)] 117).drew
    simpa using this
theorem ordMade2 (w : World) (k : Nat) : OrdMade w k (.pointer (some ⟨w.heap.size + 1, 0, none⟩)) (((w.alloc (.cells (mk1 k (.slice none 0 0)) 160)).alloc (.cells #[.pointer (some ⟨w.heap.size + 1 + 1, 0, none⟩)] 117)).alloc (.cells #[I k, .slice (some ⟨w.heap.size, 0, none⟩) k k] 158)).drew := by
  refine ⟨w.heap.size, w.heap.size + 1 + 1, w.heap.size + 1, rfl, by omega, by omega, by omega, by omega, by omega, by omega, (((Blk.new w _ 160).alloc _).alloc _).drew, ?_, ?_, ((((Below.refl _ w).alloc (Nat.le_refl _) _).alloc (by simp) _).alloc (by simp; omega) _).drew⟩
  · have := (Blk.new ((w.alloc (.cells (mk1 k (.slice none 0 0)) 160)).alloc (.cells #[.pointer (some ⟨w.heap.size + 1 + 1, 0, none⟩)] 117)) #[I k, .slice (some ⟨w.heap.size, 0, none⟩) k k] 158).drew
    simpa using this
  · have := ((Blk.new (w.alloc (.cells (mk1 k (.slice none 0 0)) 160)) #[.pointer (some ⟨w.heap.size + 1 + 1, 0, none⟩)] 117).alloc (.cells #[I k, .slice (some ⟨w.heap.size, 0, none⟩) k k] 158)).drew
    simpa using this
theorem ordMade3 (w : World) (k : Nat) : OrdMade w k (.pointer (some ⟨w.heap.size, 0, none⟩)) (((w.alloc (.cells #[.pointer (some ⟨w.heap.size + 1 + 1, 0, none⟩)] 117)).alloc (.cells (mk1 k (.slice none 0 0)) 160)).alloc (.cells #[I k, .slice (some ⟨w.heap.size + 1, 0, none⟩) k k] 158)).drew := by
  refine ⟨w.heap.size + 1, w.heap.size + 1 + 1, w.heap.size, rfl, by omega, by omega, by omega, by omega, by omega, by omega, ?_, ?_, (((Blk.new w _ 117).alloc _).alloc _).drew, ((((Below.refl _ w).alloc (Nat.le_refl _) _).alloc (by simp) _).alloc (by simp; omega) _).drew⟩
  · have := ((Blk.new (w.alloc (.cells #[.pointer (some ⟨w.heap.size + 1 + 1, 0, none⟩)] 117)) (mk1 k (.slice none 0 0)) 160).alloc (.cells #[I k, .slice (some ⟨w.heap.size + 1, 0, none⟩) k k] 158)).drew
    simpa using this
  · have := (Blk.new ((w.alloc (.cells #[.pointer (some ⟨w.heap.size + 1 + 1, 0, none⟩)] 117)).alloc (.cells (mk1 k (.slice none 0 0)) 160)) #[I k, .slice (some ⟨w.heap.size + 1, 0, none⟩) k k] 158).drew
    simpa using this

end Go.Proofs.YtljmonfobefiiaaGreatDoor
