/- The happens-before order of a run, and the reference's matrix of it. -/
import Derived.Test.YtaedfidfcoigoaaR3
import Derived.Test.YtaedfidfcoigoaaR5
import Derived.Test.YtaedfidfcoigoaaP5A
import Derived.BigRegion
namespace Go.Proofs.Ytaedfidfcoigoaa
open Go.RowKit


def lessD (run : List Stp) : Nat → Nat → Nat → Bool
  | 0, _, _ => false
  | d + 1, i, k => (List.range run.length).any fun j => decide (i < j) && depAt run i j && (j == k || lessD run d j k)
/-- Step i happens before step k. -/
def lessB (run : List Stp) (i k : Nat) : Bool := lessD run run.length i k

theorem lessD_end (run : List Stp) (d i k : Nat) (h : run.length ≤ i + 1) : lessD run d i k = false := by
  cases d with
  | zero => rfl
  | succ d =>
    rw [lessD, List.any_eq_false]
    intro j hj
    have := List.mem_range.1 hj
    simp
    intro h1
    omega
theorem lessD_fuel (run : List Stp) : ∀ (m d d' i k : Nat), run.length ≤ i + 1 + m → m ≤ d → m ≤ d' → lessD run d i k = lessD run d' i k
  | 0, d, d', i, k, h, _, _ => by rw [lessD_end _ _ _ _ (by omega), lessD_end _ _ _ _ (by omega)]
  | m + 1, d, d', i, k, h, h1, h2 => by
    obtain ⟨d, rfl⟩ : ∃ e, d = e + 1 := ⟨d - 1, by omega⟩
    obtain ⟨d', rfl⟩ : ∃ e, d' = e + 1 := ⟨d' - 1, by omega⟩
    rw [lessD, lessD]
    congr 1
    funext j
    by_cases hj : i < j
    · rw [lessD_fuel run m d d' j k (by omega) (by omega) (by omega)]
    · simp [hj]
theorem lessB_eq (run : List Stp) (i k : Nat) : lessB run i k = (List.range run.length).any fun j => decide (i < j) && depAt run i j && (j == k || lessB run j k) := by
  unfold lessB
  rw [lessD_fuel run run.length run.length (run.length + 1) i k (by omega) (by omega) (by omega), lessD]

/-- What is known of row i when the steps before K have been looked at. -/
def rowS (run : List Stp) (i K k : Nat) : Bool := (List.range K).any fun j => decide (i < j) && depAt run i j && (j == k || lessB run j k)
theorem rowS_start (run : List Stp) (i k : Nat) : rowS run i (i + 1) k = false := by
  unfold rowS
  rw [List.any_eq_false]
  intro j hj
  have := List.mem_range.1 hj
  simp
  intro h1
  omega
theorem rowS_succ (run : List Stp) (i K k : Nat) (h : i < K) : rowS run i (K + 1) k = (rowS run i K k || (depAt run i K && (K == k || lessB run K k))) := by
  unfold rowS
  rw [List.range_succ, List.any_append]
  simp [h]
theorem rowS_end (run : List Stp) (i k : Nat) : rowS run i run.length k = lessB run i k := (lessB_eq run i k).symm
theorem lessB_lt (run : List Stp) : ∀ (m i k : Nat), run.length ≤ i + m → lessB run i k = true → i < k ∧ k < run.length
  | 0, i, k, h, hl => by
    unfold lessB at hl
    rw [lessD_end _ _ _ _ (by omega)] at hl
    cases hl
  | m + 1, i, k, h, hl => by
    rw [lessB_eq, List.any_eq_true] at hl
    obtain ⟨j, hj, hc⟩ := hl
    have hj' := List.mem_range.1 hj
    simp only [Bool.and_eq_true, decide_eq_true_eq, Bool.or_eq_true, beq_iff_eq] at hc
    obtain ⟨⟨h1, _⟩, h3⟩ := hc
    rcases h3 with rfl | h3
    · exact ⟨h1, hj'⟩
    · have := lessB_lt run m j k (by omega) h3
      exact ⟨by omega, this.2⟩
theorem lessB_false (run : List Stp) (i k : Nat) (h : k ≤ i) : lessB run i k = false := by
  rw [Bool.eq_false_iff]
  intro hl
  have := lessB_lt run run.length i k (by omega) hl
  omega

/-- n cells of one value. -/
def mk1 (n : Nat) (z : Value) : Array Value := (List.replicate n z).toArray
theorem mk1_size (n : Nat) (z : Value) : (mk1 n z).size = n := by simp [mk1]
theorem mk1_get (n : Nat) (z : Value) (j : Nat) (h : j < n) : (mk1 n z)[j]? = some z := by simp [mk1, h]
theorem run_mk1 {P : Program} (t e : TypeId) (z : Value) (bytes n : Nat) (ht : P.underlying t = some (.slice e)) (hinfo : (P.info? e).map (fun i => (i.zero, i.size, i.bytes)) = some (some z, 1, bytes)) (hz : z.cells = #[z]) (hby : bytes ≤ 1000) (hn : n ≤ 1000000) (w : World) :
    (Instr.makeSlice t (.int .i64 (n : Int)) (.int .i64 (n : Int))).run P w = .ok (.slice (some ⟨w.heap.size, 0, none⟩) n n) (w.alloc (.cells (mk1 n z) e)) := by
  obtain ⟨i0, hi, hz0, hz1, hz2⟩ := info_parts hinfo
  have hb : bytes * n ≤ 1000 * 1000000 := Nat.mul_le_mul hby hn
  have hr := run_make (P := P) w t e i0 z ht hi hz0 .i64 .i64 n n (by omega) (Int.le_refl _) (by
    rw [hz2]
    have h3 : ((bytes * n : Nat) : Int) ≤ 1000000000 := by omega
    rw [Int.natCast_mul] at h3
    omega) (by omega)
  simp only [Int.toNat_natCast] at hr
  rw [hr, hz, hz1]
  have : madeCells #[z] (n * 1) = mk1 n z := by
    rw [← Array.toList_inj, Nat.mul_one, toList_madeCells_one]
    rfl
  rw [this]

/-- In w the slice v holds n rows of n Bools: f. -/
def BoolMx (w : World) (v : Value) (n : Nat) (f : Nat → Nat → Bool) : Prop :=
  ∃ g c, v = .slice (some ⟨g, 0, none⟩) n c ∧ ∀ i < n, ∃ gi ci, w.cell? ⟨g, i, none⟩ = some (.slice (some ⟨gi, 0, none⟩) n ci) ∧ ∀ k < n, w.cell? ⟨gi, k, none⟩ = some (.bool (f i k))

theorem info69 : (Try.prog.info? 69).map (fun i => (i.zero, i.size, i.bytes)) = some (some (.slice none 0 0), 1, 24) := by kernel_rfl
theorem info4 : (Try.prog.info? 4).map (fun i => (i.zero, i.size, i.bytes)) = some (some (.bool false), 1, 1) := by kernel_rfl

/-- Row j of the matrix is done: it lies in a block of its own. -/
def RowDone (wr : World) (run : List Stp) (arr : Array Value) (g0 gi j : Nat) : Prop :=
  ∃ gj, arr[j]? = some (.slice (some ⟨gj, 0, none⟩) run.length run.length) ∧ gj ≠ g0 ∧ gj ≠ gi ∧ ∀ c < run.length, wr.cell? ⟨gj, c, none⟩ = some (.bool (lessB run j c))

theorem RowDone.of_blocks {wr w' : World} {run : List Stp} {arr : Array Value} {g0 gi j : Nat} (h : RowDone wr run arr g0 gi j) (hk : ∀ b, b < wr.heap.size → b ≠ g0 → b ≠ gi → w'.heap[b]? = wr.heap[b]?) : RowDone w' run arr g0 gi j := by
  obtain ⟨gj, h1, h2, h3, h4⟩ := h
  refine ⟨gj, h1, h2, h3, fun c hc => ?_⟩
  have h5 := h4 c hc
  have h6 := World.block_lt_of_cell? _ _ h5
  rw [World.cell?_of_block (w := wr) (hk gj (by simpa using h6) h2 h3)]
  exact h5

set_option maxHeartbeats 8000000 in
set_option maxRecDepth 100000 in
theorem refLess (run : List Stp) (v : Value) (w : World) (hrun : StpSl w v run) (hn : run.length ≤ 100000) :
    Calls Try.prog 48 #[v] w fun e w' => ∃ u, e = .returned u ∧ BoolMx w' u run.length (lessB run) ∧ Below w.heap.size w w' := by
  obtain ⟨ka, ca, rfl, hml⟩ := hrun.open
  have hmk := fun W => run_mk1 (P := Try.prog) 72 69 (.slice none 0 0) 24 run.length Try.underlying72 info69 rfl (by omega) (by omega) W
  have hmk2 := fun W => run_mk1 (P := Try.prog) 69 4 (.bool false) 1 run.length Try.underlying69 info4 rfl (by omega) (by omega) W
  go_enter Try.func48, Try.ntmps48
  go_wp2
  go_loopw [5] (fun p wr => ∃ (ii : Nat) (arr : Array Value), ii ≤ run.length ∧ p = .int .i64 ((ii : Int) - 1) ∧ Below w.heap.size w wr ∧ w.heap.size < wr.heap.size ∧ Blk wr w.heap.size arr ∧ Hid (arr.size = run.length) ∧
      (∀ j, ii ≤ j → j < run.length → RowDone wr run arr w.heap.size wr.heap.size j)) (fun p _ => (intOf p + 1).toNat)
  case atStart => exact ⟨run.length, _, Nat.le_refl _, rfl, (by repeat (first | exact Below.refl _ _ | assumption | refine Below.drew ?_ | refine below_drewN ?_ _ | refine Below.alloc ?_ (by simp <;> omega) _ | refine Below.setCell ?_ (by simp <;> omega) _)), by simp, Blk.new _ _ _, Lib.hid (mk1_size _ _), fun j h1 h2 => absurd h2 (by omega)⟩
  case round =>
    obtain ⟨ii, arr, hii, rfl, hB, hg0, hb0, Hsz, hdone⟩ := hrel
    have Hdone := Lib.hid hdone
    clear hdone
    have hc0 := hb0.cell
    have hf0 := hb0.frozen
    cases ii with
    | zero =>
      have e0 : (((0 : Nat) : Int) - 1) = -1 := by omega
      rw [e0]
      go_wp2
      go_ret
      refine ⟨_, rfl, ⟨_, _, rfl, fun i hi => ?_⟩, hB⟩
      obtain ⟨gj, h1, _, _, h4⟩ := Hdone.out i (by omega) hi
      exact ⟨gj, _, (hc0 i).trans h1, h4⟩
    | succ i =>
      have e0 : (((i + 1 : Nat) : Int) - 1) = (i : Int) := by omega
      rw [e0]
      clear e0
      have hi : i < run.length := by omega
      obtain ⟨x, hx⟩ : ∃ x, arr[i]? = some x := ⟨arr[i]'(by rw [Hsz.out]; exact hi), by simp⟩
      go_wp2
      have hW : Blk ((wr.setCell ⟨w.heap.size, i, none⟩ (.slice (some ⟨wr.heap.size, 0, none⟩) run.length run.length)).alloc (.cells (mk1 run.length (.bool false)) 4)) w.heap.size (arr.setIfInBounds i (.slice (some ⟨wr.heap.size, 0, none⟩) run.length run.length)) := (hb0.set i _).alloc _
      have hW2 : Blk ((wr.setCell ⟨w.heap.size, i, none⟩ (.slice (some ⟨wr.heap.size, 0, none⟩) run.length run.length)).alloc (.cells (mk1 run.length (.bool false)) 4)) wr.heap.size (mk1 run.length (.bool false)) := by
        have := Blk.new (wr.setCell ⟨w.heap.size, i, none⟩ (.slice (some ⟨wr.heap.size, 0, none⟩) run.length run.length)) (mk1 run.length (.bool false)) 4
        simpa using this
      have hai : (arr.setIfInBounds i (.slice (some ⟨wr.heap.size, 0, none⟩) run.length run.length))[i]? = some (.slice (some ⟨wr.heap.size, 0, none⟩) run.length run.length) := by
        rw [Array.getElem?_setIfInBounds_self_of_lt (by rw [Hsz.out]; exact hi)]
      obtain ⟨arr2, harr2⟩ : ∃ a, a = arr.setIfInBounds i (.slice (some ⟨wr.heap.size, 0, none⟩) run.length run.length) := ⟨_, rfl⟩
      have hd2 : ∀ j, i < j → j < run.length → RowDone ((wr.setCell ⟨w.heap.size, i, none⟩ (.slice (some ⟨wr.heap.size, 0, none⟩) run.length run.length)).alloc (.cells (mk1 run.length (.bool false)) 4)) run arr2 w.heap.size wr.heap.size j := by
        intro j h1 h2
        obtain ⟨gj, a1, a2, a3, a4⟩ := Hdone.out j (by omega) h2
        have hgj : gj < wr.heap.size := by simpa using World.block_lt_of_cell? _ _ (a4 j h2)
        refine RowDone.of_blocks (wr := wr) ⟨gj, ?_, a2, by omega, a4⟩ fun b hb1 hb2 hb3 => ?_
        · rw [harr2, Array.getElem?_setIfInBounds_ne (by omega)]
          exact a1
        · rw [Below.heap_alloc _ _ _ (by simpa using hb1)]
          exact heap_setCell_other _ _ _ _ (by simpa using hb2)
      rw [← harr2] at hW hai
      have Hsz2 : Hid (arr2.size = run.length) := Lib.hid (by rw [harr2, Array.size_setIfInBounds]; exact Hsz.out)
      have Hai := Lib.hid hai
      have Hd2 := Lib.hid hd2
      have hBW : Below w.heap.size w ((wr.setCell ⟨w.heap.size, i, none⟩ (.slice (some ⟨wr.heap.size, 0, none⟩) run.length run.length)).alloc (.cells (mk1 run.length (.bool false)) 4)) := (hB.setCell (by simp) _).alloc (by simp; omega) _
      clear harr2 hai hd2 hx hc0 hf0 Hdone hb0 hB
      generalize hgi : wr.heap.size = gi at *
      have Hgi := Lib.hid hgi
      clear hgi
      go_loopw [6] (fun p wr => ∃ (k : Nat) (rv : Array Value), i + 1 ≤ k ∧ k ≤ run.length ∧ p = .int .i64 k ∧ Below w.heap.size w wr ∧ gi < wr.heap.size ∧ Blk wr w.heap.size arr2 ∧ Blk wr gi rv ∧ Hid (rv.size = run.length) ∧
        (∀ c, c < run.length → rv[c]? = some (.bool (rowS run i k c))) ∧ (∀ j, i < j → j < run.length → RowDone wr run arr2 w.heap.size gi j)) (fun p _ => run.length - (intOf p).toNat)
      case atStart =>
        refine ⟨i + 1, _, by omega, by omega, by go_num, hBW, by have := Hgi.out; simp; omega, hW, hW2, Lib.hid (mk1_size _ _), fun c hc => ?_, Hd2.out⟩
        rw [rowS_start, mk1_get _ _ _ hc]
      case round =>
        rename_i wr0 _ _
        obtain ⟨k, rv, hik, hk, rfl, hB, hgw, hb0, hbi, Hrs, hrow, hdn⟩ := hrel
        have Hrow := Lib.hid hrow
        have Hdn := Lib.hid hdn
        clear hrow hdn
        by_cases hlt : k < run.length
        · obtain ⟨b, o, va, vs, rfl, hva, hvs, x0, x1, x2, x3, x4, x5, x6, x7, x8, x9, x10⟩ := (hrun.kept hB (Nat.le_refl _)).at (i := i) (s := run[i]) (by simp [hi])
          obtain ⟨b', o', ua, us, hab, hua, hus, y0, y1, y2, y3, y4, y5, y6, y7, y8, y9, y10⟩ := (hrun.kept hB (Nat.le_refl _)).at (i := k) (s := run[k]) (by simp [hlt])
          simp at hab
          obtain ⟨rfl, rfl⟩ := hab
          have c := dependent run[i] run[k] (run[i].val va vs) (run[k].val ua us) wr.drew ⟨va, vs, rfl, hva, hvs⟩ ⟨ua, us, rfl, hua, hus⟩
          have hde := depAt_eq hi hlt
          by_cases hd : depB run[i] run[k] = true
          · rw [hd] at c hde
            simp only [Stp.val, Stp.row] at c
            have C := Lib.hid c
            have Hde := Lib.hid hde
            clear c hd hde
            go_wp2
            go_still_tail 8, (by kernel_rfl)
            change wpList _ _ _ _ _ wr.drew
            go_wp2_with fail
            refine C.out.mono ?_
            rintro e w1 ⟨rfl, hB1⟩
            have hBw1 : Below w.heap.size w w1 := hB.drew.trans (hB1.mono hB.size)
            have hz1 := hB1.size
            simp only [heap_drew] at hz1
            have hb01 : Blk w1 w.heap.size arr2 := hb0.drew.kept hB1 hb0.lt
            have hbi1 : Blk w1 gi rv := hbi.drew.kept hB1 hbi.lt
            have Hdn1 : Hid (∀ j, i < j → j < run.length → RowDone w1 run arr2 w.heap.size gi j) := Lib.hid fun j h1 h2 => (Hdn.out j h1 h2).of_blocks fun b hb _ _ => hB1.block b hb
            have hc0 := (hb01.cell i).trans Hai.out
            have hci := (hbi1.cell k).trans (Hrow.out k hlt)
            have hfi := hbi1.frozen k
            go_wp2_with fail
            have hbi2 := hbi1.set k (.bool true)
            have hb02 := hb01.setOther ⟨gi, k, none⟩ (.bool true) (by have := hb01.lt; have := Hgi.out; simp; omega)
            have Hdn2 : Hid (∀ j, i < j → j < run.length → RowDone (w1.setCell ⟨gi, k, none⟩ (.bool true)) run arr2 w.heap.size gi j) := Lib.hid fun j h1 h2 => (Hdn1.out j h1 h2).of_blocks fun b _ _ hb => heap_setCell_other _ _ _ _ (by simpa using hb)
            go_loopw [7] (fun p w2 => ∃ (j : Nat) (rw : Array Value), k + 1 ≤ j ∧ j ≤ run.length ∧ p = .int .i64 j ∧ Below w.heap.size w w2 ∧ gi < w2.heap.size ∧ Blk w2 w.heap.size arr2 ∧ Blk w2 gi rw ∧ Hid (rw.size = run.length) ∧
              (∀ c, c < run.length → rw[c]? = some (.bool (if c < j then rowS run i (k + 1) c else rowS run i k c))) ∧ (∀ j, i < j → j < run.length → RowDone w2 run arr2 w.heap.size gi j)) (fun p _ => run.length - (intOf p).toNat)
            case atStart =>
              refine ⟨k + 1, _, by omega, by omega, by go_num, hBw1.setCell (by have := Hgi.out; have := hb01.lt; simp; omega) _, by simp; omega, hb02, hbi2, Lib.hid (by rw [Array.size_setIfInBounds]; exact Hrs.out), fun c hc => ?_, Hdn2.out⟩
              by_cases hck : c = k
              · subst hck
                rw [Array.getElem?_setIfInBounds_self_of_lt (by rw [Hrs.out]; exact hlt), if_pos (by omega), rowS_succ _ _ _ _ (by omega), Hde.out]
                simp
              · rw [Array.getElem?_setIfInBounds_ne (by omega), Hrow.out c hc]
                by_cases hc2 : c < k + 1
                · rw [if_pos hc2, rowS_succ _ _ _ _ (by omega), lessB_false run k c (by omega)]
                  have : (k == c) = false := by simp; omega
                  simp [this]
                · rw [if_neg hc2]
            case round =>
              clear hb01 hbi1 hc0 hci hfi hbi2 hb02 hBw1 hB1 hz1
              rename_i w2
              obtain ⟨j, rv2, hkj, hj, rfl, hB, hgw, hb0, hbi, Hrs2, hrow2, hdn2⟩ := hrel
              have Hrow2 := Lib.hid hrow2
              have Hdn2 := Lib.hid hdn2
              clear hrow2 hdn2
              by_cases hlt2 : j < run.length
              · obtain ⟨gk, a1, a2, a3, a4⟩ := Hdn2.out k (by omega) hlt
                have z0 := (hb0.cell i).trans Hai.out
                have z1 := (hb0.cell k).trans a1
                have z2 := a4 j hlt2
                have z3 := (hbi.cell j).trans (Hrow2.out j hlt2)
                rw [if_neg (by omega)] at z3
                have z4 := hbi.frozen j
                have hval : rowS run i (k + 1) j = (rowS run i k j || lessB run k j) := by
                  have : (k == j) = false := by simp; omega
                  rw [rowS_succ _ _ _ _ (by omega), Hde.out, this]
                  simp
                cases hx : rowS run i k j with
                | true =>
                  rw [hx] at z3 hval
                  have Hval := Lib.hid (hval.trans (Bool.true_or _))
                  clear hval hx a1 a4
                  go_wp2
                  go_region
                  go_wp2
                  go_roundw
                  case rel =>
                    refine ⟨j + 1, _, by omega, by omega, by go_num, (hB.setCell (p := ⟨gi, j, none⟩) (by have := Hgi.out; have := hb0.lt; simp; omega) (.bool true)).drew, by simpa [heap_drew] using hgw, (hb0.setOther ⟨gi, j, none⟩ (.bool true) (by have := hb0.lt; have := Hgi.out; simp; omega)).drew, (hbi.set j (.bool true)).drew, Lib.hid (by rw [Array.size_setIfInBounds]; exact Hrs2.out), fun c hc => ?_, fun q h1 h2 => (Hdn2.out q h1 h2).of_blocks fun b _ _ hb => heap_setCell_other _ _ _ _ (by simpa using hb)⟩
                    by_cases hcj : c = j
                    · subst hcj
                      rw [Array.getElem?_setIfInBounds_self_of_lt (by rw [Hrs2.out]; exact hlt2), if_pos (by omega)]
                      exact congrArg (fun b => some (Value.bool b)) Hval.out.symm
                    · rw [Array.getElem?_setIfInBounds_ne (by omega), Hrow2.out c hc]
                      by_cases hc2 : c < j
                      · rw [if_pos hc2, if_pos (by omega)]
                      · rw [if_neg hc2, if_neg (by omega)]
                  case measure => simp [intOf]; omega
                | false =>
                  rw [hx] at z3 hval
                  cases hy : lessB run k j with
                  | true =>
                    rw [hy] at z2 hval
                    have Hval := Lib.hid (show rowS run i (k + 1) j = true from hval)
                    clear hval hx hy a1 a4
                    go_wp2
                    go_region
                    go_wp2
                    go_roundw
                    case rel =>
                      refine ⟨j + 1, _, by omega, by omega, by go_num, (hB.setCell (p := ⟨gi, j, none⟩) (by have := Hgi.out; have := hb0.lt; simp; omega) (.bool true)).drew, by simpa [heap_drew] using hgw, (hb0.setOther ⟨gi, j, none⟩ (.bool true) (by have := hb0.lt; have := Hgi.out; simp; omega)).drew, (hbi.set j (.bool true)).drew, Lib.hid (by rw [Array.size_setIfInBounds]; exact Hrs2.out), fun c hc => ?_, fun q h1 h2 => (Hdn2.out q h1 h2).of_blocks fun b _ _ hb => heap_setCell_other _ _ _ _ (by simpa using hb)⟩
                      by_cases hcj : c = j
                      · subst hcj
                        rw [Array.getElem?_setIfInBounds_self_of_lt (by rw [Hrs2.out]; exact hlt2), if_pos (by omega)]
                        exact congrArg (fun b => some (Value.bool b)) Hval.out.symm
                      · rw [Array.getElem?_setIfInBounds_ne (by omega), Hrow2.out c hc]
                        by_cases hc2 : c < j
                        · rw [if_pos hc2, if_pos (by omega)]
                        · rw [if_neg hc2, if_neg (by omega)]
                    case measure => simp [intOf]; omega
                  | false =>
                    rw [hy] at z2 hval
                    have Hval := Lib.hid (show rowS run i (k + 1) j = false from hval)
                    clear hval hx hy a1 a4
                    go_wp2
                    go_region
                    go_wp2
                    go_roundw
                    case rel =>
                      refine ⟨j + 1, _, by omega, by omega, by go_num, (hB.setCell (p := ⟨gi, j, none⟩) (by have := Hgi.out; have := hb0.lt; simp; omega) (.bool false)).drew, by simpa [heap_drew] using hgw, (hb0.setOther ⟨gi, j, none⟩ (.bool false) (by have := hb0.lt; have := Hgi.out; simp; omega)).drew, (hbi.set j (.bool false)).drew, Lib.hid (by rw [Array.size_setIfInBounds]; exact Hrs2.out), fun c hc => ?_, fun q h1 h2 => (Hdn2.out q h1 h2).of_blocks fun b _ _ hb => heap_setCell_other _ _ _ _ (by simpa using hb)⟩
                      by_cases hcj : c = j
                      · subst hcj
                        rw [Array.getElem?_setIfInBounds_self_of_lt (by rw [Hrs2.out]; exact hlt2), if_pos (by omega)]
                        exact congrArg (fun b => some (Value.bool b)) Hval.out.symm
                      · rw [Array.getElem?_setIfInBounds_ne (by omega), Hrow2.out c hc]
                        by_cases hc2 : c < j
                        · rw [if_pos hc2, if_pos (by omega)]
                        · rw [if_neg hc2, if_neg (by omega)]
                    case measure => simp [intOf]; omega
              · go_wp2
                go_roundw
                case rel =>
                  refine ⟨k + 1, rv2, by omega, by omega, by go_num, hB, hgw, hb0, hbi, Hrs2, fun c hc => ?_, Hdn2.out⟩
                  rw [Hrow2.out c hc, if_pos (by omega)]
                case measure => simp [intOf]; omega
          · have hd' : depB run[i] run[k] = false := by simpa using hd
            rw [hd'] at c hde
            simp only [Stp.val, Stp.row] at c
            have C := Lib.hid c
            have Hde := Lib.hid hde
            clear c hd hd' hde
            go_wp2
            go_still_tail 8, (by kernel_rfl)
            change wpList _ _ _ _ _ wr.drew
            go_wp2_with fail
            refine C.out.mono ?_
            rintro e w1 ⟨rfl, hB1⟩
            have hz1 := hB1.size
            simp only [heap_drew] at hz1
            go_wp2_with fail
            go_roundw
            case rel =>
              refine ⟨k + 1, rv, by omega, by omega, by go_num, hB.drew.trans (hB1.mono hB.size), by omega, hb0.drew.kept hB1 hb0.lt, hbi.drew.kept hB1 hbi.lt, Hrs, fun c hc => ?_, fun j h1 h2 => (Hdn.out j h1 h2).of_blocks fun b hb _ _ => hB1.block b hb⟩
              rw [rowS_succ _ _ _ _ (by omega), Hde.out, Hrow.out c hc]
              simp
            case measure => simp [intOf]; omega
        · have hkk : k = run.length := by omega
          go_wp2
          go_roundw
          case rel =>
            refine ⟨i, arr2, by omega, rfl, hB, by have := hb0.lt; omega, hb0, Hsz2, fun j h1 h2 => ?_⟩
            by_cases hj : j = i
            · subst hj
              refine ⟨gi, Hai.out, by have := hb0.lt; have := Hgi.out; omega, by omega, fun c hc => ?_⟩
              rw [hbi.cell, Hrow.out c hc, hkk, rowS_end]
            · obtain ⟨gj, a1, a2, a3, a4⟩ := Hdn.out j (by omega) h2
              have hgj : gj < wr.heap.size := by simpa using World.block_lt_of_cell? _ _ (a4 j h2)
              exact ⟨gj, a1, a2, by omega, a4⟩
          case measure => simp [intOf]

end Go.Proofs.Ytaedfidfcoigoaa
