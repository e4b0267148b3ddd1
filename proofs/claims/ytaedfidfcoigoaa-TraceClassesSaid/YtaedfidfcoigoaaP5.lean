/- The pairs of dependent steps of a run: the iterator, and their list. -/
import Derived.Test.YtaedfidfcoigoaaP5A
import Derived.Test.YtaedfidfcoigoaaOI
import Derived.RangeFuncNested
import Derived.RangeFuncBound
import Derived.RangeFuncCalls
import Derived.RangeFuncLeaves
import Derived.Shelf.Abstract
import Derived.Shelf.RegionOpen
import Derived.OwnWalkIn
import Derived.TacticsInMore
import Derived.LoopNIn
import Derived.LoopIn
namespace Go.Proofs.Ytaedfidfcoigoaa
open Go.RowKit Go.Shelf
attribute [local go_sem] Oper.semAt_some

set_option maxHeartbeats 8000000 in
set_option maxRecDepth 100000 in
theorem depIter (n : Nat) (hn : 1 ≤ n) (run : List Stp) (tb : Nat) (v : Value) (w0 : World) (hbox : w0.cell? ⟨tb, 0, none⟩ = some v) (hrun : StpSl w0 v run) (hlen : run.length ≤ 1000000) :
    SeqStopsK Fence.wide n Try.prog 85 #[.pointer (some ⟨tb, 0, none⟩)] encP (Below w0.heap.size) (fun xs => xs = pairsL run) (fun pre => pre <+: pairsL run) (pairsL run).length w0 := by
  intro l J Jx W hW hJ hJx hY h0
  obtain ⟨ka, ca, rfl, hml⟩ := hrun.open
  have hbl : tb < w0.heap.size := by simpa using World.block_lt_of_cell? _ _ hbox
  have hmix : Try.prog.follows .mixedOrders = true := by kernel_rfl
  have HY := Lib.hid hY
  clear hY
  refine callsIn_of_wp Try.func85 rfl trivial ?_ rfl
  simp only [Try.ntmps85, List.size_toArray, List.length_cons, List.length_nil, Nat.reduceAdd, Nat.reduceSub, Array.replicate_succ, Array.replicate_zero, List.push_toArray, List.append_toArray, List.nil_append, List.cons_append]
  have hb0 := (hW.cell (p := ⟨tb, 0, none⟩) hbl).trans hbox
  gi_wp2
  gi_loopw [7] (fun p wr => ∃ i : Nat, i ≤ run.length ∧ p = .int .i64 i ∧ Below w0.heap.size w0 wr ∧ J (rowsP run i) wr) (fun p _ => run.length - (intOf p).toNat)
  case atStart => exact ⟨0, by omega, rfl, hW, h0⟩
  case round =>
    obtain ⟨i, hi, rfl, hB, hJi⟩ := hrel
    have hbx := (hB.cell (p := ⟨tb, 0, none⟩) hbl).trans hbox
    by_cases hlt : i < run.length
    · gi_wp2
      gi_loopw [4] (fun p wr => ∃ k : Nat, i + 1 ≤ k ∧ k ≤ run.length ∧ p = .int .i64 k ∧ Below w0.heap.size w0 wr ∧ J (rowsP run i ++ rowP run i k) wr) (fun p _ => run.length - (intOf p).toNat)
      case atStart => exact ⟨i + 1, by omega, by omega, by go_num, hB, by rw [rowP_start, List.append_nil]; exact hJi⟩
      case round =>
        clear hB hJi hbx
        obtain ⟨k, hik, hk, rfl, hB, hJk⟩ := hrel
        have hbx := (hB.cell (p := ⟨tb, 0, none⟩) hbl).trans hbox
        by_cases hlt2 : k < run.length
        · obtain ⟨b, o, va, vs, rfl, hva, hvs, x0, x1, x2, x3, x4, x5, x6, x7, x8, x9, x10⟩ := (hrun.kept hB (Nat.le_refl _)).at (i := i) (s := run[i]) (by simp [hlt])
          obtain ⟨b', o', ua, us, hab, hua, hus, y0, y1, y2, y3, y4, y5, y6, y7, y8, y9, y10⟩ := (hrun.kept hB (Nat.le_refl _)).at (i := k) (s := run[k]) (by simp [hlt2])
          simp at hab
          obtain ⟨rfl, rfl⟩ := hab
          have c := fun W (hBW : Below wr.heap.size wr W) => pdependent run[i] run[k] (run[i].val va vs) (run[k].val ua us) W ⟨va, vs, rfl, hva.kept hBW (Nat.le_refl _), hvs.kept hBW (Nat.le_refl _)⟩ ⟨ua, us, rfl, hua.kept hBW (Nat.le_refl _), hus.kept hBW (Nat.le_refl _)⟩
          have hsucc := rowP_succ run i k hik
          rw [depAt_eq hlt hlt2] at hsucc
          have Hs := Lib.hid hsucc
          clear hsucc
          by_cases hd : depB run[i] run[k] = true
          · rw [hd] at c
            simp only [Stp.val, Stp.row] at c
            have C := Lib.hid c
            rw [hd, if_pos rfl] at Hs
            have hpp : rowsP run i ++ rowP run i k ++ [(i, k)] <+: pairsL run := by
              rw [List.append_assoc, ← Hs.out]
              exact part_prefix run i (k + 1) hlt (by omega) (by omega)
            have Hlt := Lib.hid (show (rowsP run i ++ rowP run i k).length < (pairsL run).length by
              have := hpp.length_le
              simp at this ⊢
              omega)
            have Hpp := Lib.hid hpp
            clear c hd hpp
            gi_wp2
            have hbl1 : tb < wr.heap.size := Nat.lt_of_lt_of_le hbl hB.size
            have hbl2 : b < wr.heap.size := by simpa using World.block_lt_of_cell? _ _ x0
            refine wpIn_region_ord 14 [(0, true), (1, true), (2, true), (3, true), (4, true), (5, true), (6, true), (7, true), (8, false), (9, true), (10, true), (11, true), (12, true), (13, true)] (fun w' => ∀ b o, b < wr.heap.size → w'.cell? ⟨b, o, none⟩ = wr.cell? ⟨b, o, none⟩) (by kernel_rfl) rfl rfl (by kernel_rfl) (by kernel_rfl) (fun _ _ _ _ h => h) (fun _ _ _ => rfl) ?_
            iterate 8 (refine wpOrdIn_take ?_ (by rfl) (fun _ => by rfl) ?_ ?_; rotate_left; (intro w hSw; (try dsimp only at hSw); go_simp; try with_reducible rfl); (try simp only [Act.put, List.setIfInBounds_toArray, List.set_cons_zero, List.set_cons_succ]))
            refine wpOrdIn_move (fun K hK => ?_)
            go_simp
            refine ⟨trivial, ?_⟩
            refine (callsIn_wide.2 (C.out _ (by repeat (first | exact Below.refl _ _ | assumption | refine Below.drew ?_ | refine below_drewN ?_ _ | refine Below.alloc ?_ (by simp <;> omega) _ | refine Below.setCell ?_ (by simp <;> omega) _)))).mono ?_
            rintro e w1 ⟨rfl, hB1⟩
            have hBr : Below wr.heap.size wr w1 := Below.then (w := wr) (by repeat (first | exact Below.refl _ _ | assumption | refine Below.drew ?_ | refine below_drewN ?_ _ | refine Below.alloc ?_ (by simp <;> omega) _ | refine Below.setCell ?_ (by simp <;> omega) _)) hB1
            have hJ1 := hJ _ wr w1 none hJk ⟨hBr.os, hBr.tape, hBr.output, hBr.size, fun q hq _ => hBr.block q hq⟩ (fun _ h => by cases h)
            obtain ⟨fn, tmps, assign, body, hy, hR⟩ := HY.out _ (i, k) w1 hJ1 Hlt.out
            dsimp only [encP] at hy
            refine hK.out _ _ (fun b o hb => hBr.cell (p := ⟨b, o, none⟩) hb) ?_
            clear hK K
            (try simp only [Act.put, List.setIfInBounds_toArray, List.set_cons_zero, List.set_cons_succ])
            iterate 5 (refine wpOrdIn_take ?_ (by rfl) (fun _ => by rfl) ?_ ?_; rotate_left; (intro w hSw; (try dsimp only at hSw); go_simp; try with_reducible rfl); (try simp only [Act.put, List.setIfInBounds_toArray, List.set_cons_zero, List.set_cons_succ]))
            refine wpOrdIn_nil ?_
            gi_wp2
            refine hR.mono ?_
            rintro e w2 (⟨rfl, hJ2, hk2⟩ | ⟨rfl, hJx2⟩)
            · gi_wp2
              go_roundw
              case rel => exact ⟨k + 1, by omega, by omega, by go_num, hB.trans ((hBr.mono hB.size).trans hk2), by rw [Hs.out, ← List.append_assoc]; exact hJ2⟩
              case measure => simp [intOf]; omega
            · gi_wp2
              refine bodyPost_ret (results_none rfl _ _ _) rfl ?_
              exact ⟨⟨_, rfl⟩, .inr ⟨_, Hpp.out, hJx2⟩⟩
          · have hd' : depB run[i] run[k] = false := by simpa using hd
            rw [hd'] at c
            simp only [Stp.val, Stp.row] at c
            have C := Lib.hid c
            rw [hd', if_neg (by simp)] at Hs
            clear c hd hd'
            gi_wp2
            have hbl1 : tb < wr.heap.size := Nat.lt_of_lt_of_le hbl hB.size
            have hbl2 : b < wr.heap.size := by simpa using World.block_lt_of_cell? _ _ x0
            refine wpIn_region_ord 14 [(0, true), (1, true), (2, true), (3, true), (4, true), (5, true), (6, true), (7, true), (8, false), (9, true), (10, true), (11, true), (12, true), (13, true)] (fun w' => ∀ b o, b < wr.heap.size → w'.cell? ⟨b, o, none⟩ = wr.cell? ⟨b, o, none⟩) (by kernel_rfl) rfl rfl (by kernel_rfl) (by kernel_rfl) (fun _ _ _ _ h => h) (fun _ _ _ => rfl) ?_
            iterate 8 (refine wpOrdIn_take ?_ (by rfl) (fun _ => by rfl) ?_ ?_; rotate_left; (intro w hSw; (try dsimp only at hSw); go_simp; try with_reducible rfl); (try simp only [Act.put, List.setIfInBounds_toArray, List.set_cons_zero, List.set_cons_succ]))
            refine wpOrdIn_move (fun K hK => ?_)
            go_simp
            refine ⟨trivial, ?_⟩
            refine (callsIn_wide.2 (C.out _ (by repeat (first | exact Below.refl _ _ | assumption | refine Below.drew ?_ | refine below_drewN ?_ _ | refine Below.alloc ?_ (by simp <;> omega) _ | refine Below.setCell ?_ (by simp <;> omega) _)))).mono ?_
            rintro e w1 ⟨rfl, hB1⟩
            have hBr : Below wr.heap.size wr w1 := Below.then (w := wr) (by repeat (first | exact Below.refl _ _ | assumption | refine Below.drew ?_ | refine below_drewN ?_ _ | refine Below.alloc ?_ (by simp <;> omega) _ | refine Below.setCell ?_ (by simp <;> omega) _)) hB1
            have hJ1 := hJ _ wr w1 none hJk ⟨hBr.os, hBr.tape, hBr.output, hBr.size, fun q hq _ => hBr.block q hq⟩ (fun _ h => by cases h)
            refine hK.out _ _ (fun b o hb => hBr.cell (p := ⟨b, o, none⟩) hb) ?_
            clear hK K
            (try simp only [Act.put, List.setIfInBounds_toArray, List.set_cons_zero, List.set_cons_succ])
            iterate 1 (refine wpOrdIn_take ?_ (by rfl) (fun _ => by rfl) ?_ ?_; rotate_left; (intro w hSw; (try dsimp only at hSw); go_simp; try with_reducible rfl); (try simp only [Act.put, List.setIfInBounds_toArray, List.set_cons_zero, List.set_cons_succ]))
            iterate 4 (refine wpOrdIn_leave (by rfl) (fun _ => by rfl) ?_; (try simp only [Act.put, List.setIfInBounds_toArray, List.set_cons_zero, List.set_cons_succ]))
            refine wpOrdIn_nil ?_
            gi_wp2
            all_goals (try refine ⟨fun _ _ => trivial, ?_⟩)
            all_goals gi_wp2
            go_roundw
            case rel => exact ⟨k + 1, by omega, by omega, by go_num, hB.trans (hBr.mono hB.size), by rw [Hs.out, List.append_nil]; exact hJ1⟩
            case measure => simp [intOf]; omega
        · have hkk : k = run.length := by omega
          gi_wp2
          go_roundw
          case rel => exact ⟨i + 1, by omega, by go_num, hB, by rw [rowsP_succ, ← hkk]; exact hJk⟩
          case measure => simp [intOf]; omega
    · have hii : i = run.length := by omega
      gi_wp2
      go_end0
      subst hii
      exact ⟨⟨_, rfl⟩, .inl ⟨_, rfl, hJi⟩⟩

end Go.Proofs.Ytaedfidfcoigoaa
