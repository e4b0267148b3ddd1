/- tape.Decode. (Printed by mkW8.py, then gen.py.) -/
import Derived.Test.YtjdhcdbjfbhogaaW7
import Derived.Test.YtjdhcdbjfbhogaaW6
namespace Go.Proofs.Ytjdhcdbjfbhogaa
open Go.RowKit

theorem Rd.after_add (s : Rd) (k m : Nat) : (s.after k).after m = s.after (k + m) := by
  induction m with
  | zero => rfl
  | succ m ih => show ((s.after k).after m).int.2 = (s.after (k + m)).int.2; rw [ih]
theorem Rd.nth_add (s : Rd) (k m : Nat) : (s.after k).nth m = s.nth (k + m) := by unfold Rd.nth; rw [Rd.after_add]
theorem Rd.ok_of {s : Rd} (hf : s.fine) (h : s.err = 0) : ∃ b, s = .ok b := by
  cases s with
  | ok b => exact ⟨b, rfl⟩
  | bad e => exact absurd h hf.1
theorem readEvs_stop {n : Nat} {s : Rd} {acc : List Ev} (hf : s.fine) (h : (decide (0 < n) && decide (s.err = 0)) = false) : readEvs n s acc = (acc, s) := by
  cases n with
  | zero => rfl
  | succ n =>
    cases s with
    | ok b => simp [Rd.err] at h
    | bad e => rfl
theorem readAs_stop {n : Nat} {s : Rd} {acc : List Ans} (hf : s.fine) (h : (decide (0 < n) && decide (s.err = 0)) = false) : readAs n s acc = (acc, s) := by
  cases n with
  | zero => rfl
  | succ n =>
    cases s with
    | ok b => simp [Rd.err] at h
    | bad e => rfl
theorem readEvs_next {n : Nat} {s : Rd} {acc : List Ev} (hf : s.fine) (h : s.err = 0) : readEvs (n + 1) s acc = readEvs n (s.after 8) (acc ++ [s.ev]) := by
  obtain ⟨b, rfl⟩ := Rd.ok_of hf h
  rfl
theorem readAs_next {n : Nat} {s : Rd} {acc : List Ans} (hf : s.fine) (h : s.err = 0) : readAs (n + 1) s acc = readAs n (ansNext acc s) (acc ++ [s.ans]) := by
  obtain ⟨b, rfl⟩ := Rd.ok_of hf h
  rfl
theorem Flat.keep {w w' : World} {k n m c : Nat} {a : Option Addr} {xs : List Value} {S : Nat → Prop} (h : Flat w k (.slice a m c) n xs) (hg : Keep S w w') (hne : ∀ x, a = some x → ¬ S x.block) : Flat w' k (.slice a m c) n xs := by
  obtain ⟨hl, hm, a', c', hv, hr⟩ := h
  refine ⟨hl, hm, a', c', hv, fun j u hu => ?_⟩
  obtain ⟨b', o', ha, hc⟩ := hr j u hu
  simp at hv
  obtain ⟨rfl, _⟩ := hv
  refine ⟨_, _, ha, ?_⟩
  have h2 := World.block_lt_of_cell? _ _ hc
  simp only [World.cell?] at hc ⊢
  rw [hg.block b' h2 (hne _ ha)]
  exact hc
theorem results_two {fn : Func} (h : fn.results = #[.cell 2 26, .tmp 3]) (tmps : Array Value) (w : World) (g : Nat) (t : TypeId) (cs : Array Value) (hl : cs.size = 2) (fr : Nat × Nat)
    (hp : tmps.getD 2 undef = .pointer (some ⟨g, 0, none⟩)) (hg : w.heap[g]? = some (.cells cs t fr)) :
    (results fn tmps).run Try.prog w = .ok (.tuple #[.agg cs, tmps.getD 3 undef]) w := by
  rw [results_cell_tmp h, hp]
  have h2 := run_loadVar_row (P := Try.prog) w g t 26 cs fr _ hg Try.underlying26 rfl (by rw [hl]; kernel_rfl)
  simp only [asAddr, Sem.run_pure, Result.andThen_ok, h2]
theorem ge_not_lt (x : Int) : decide (0 ≤ x) = !decide (x < 0) := by
  by_cases h : 0 ≤ x
  · rw [decide_eq_true h, decide_eq_false (by omega)]; rfl
  · rw [decide_eq_false h, decide_eq_true (by omega)]; rfl
theorem fine_ansNext (acc : List Ans) {s : Rd} (hf : s.fine) : (ansNext acc s).fine := by
  have h5 : ∀ x : Rd, x.fine → (x.fail 5).fine := fun x h => Rd.fine_fail h (by omega) (by unfold InI64; omega)
  have h6 : ∀ x : Rd, x.fine → (x.fail 6).fine := fun x h => Rd.fine_fail h (by omega) (by unfold InI64; omega)
  have ha := Rd.fine_after hf 6
  unfold ansNext
  simp only []
  split
  · split
    · exact h6 _ ha
    · exact h6 _ (h5 _ ha)
  · split
    · exact ha
    · exact h5 _ ha
theorem snoc_cases {α : Type} (l : List α) : l = [] ∨ ∃ ys a, l = ys ++ [a] := by
  rcases List.eq_nil_or_concat l with h | ⟨ys, a, h⟩
  · exact .inl h
  · exact .inr ⟨ys, a, by simpa using h⟩
theorem Rd.fine_count {s : Rd} (hf : s.fine) (most : Nat) : (s.count most).2.fine := by
  unfold Rd.count
  split
  · exact Rd.fine_fail (Rd.fine_uint hf) (by omega) (by unfold InI64; omega)
  · exact Rd.fine_uint hf
theorem Rd.count_le (s : Rd) (most : Nat) : (s.count most).1 ≤ most := by
  unfold Rd.count
  split
  · exact Nat.zero_le _
  · omega
theorem blk_set8 {w : World} {q : Nat} {a0 a1 a2 a3 a4 a5 a6 a7 : Value} (h : Blk w q #[a0, a1, a2, a3, a4, a5, a6, a7]) (b0 b1 b2 b3 b4 b5 b6 b7 : Value) : Blk ((((((((w.setCell ⟨q, 0, none⟩ b0).setCell ⟨q, 1, none⟩ b1).setCell ⟨q, 2, none⟩ b2).setCell ⟨q, 3, none⟩ b3).setCell ⟨q, 4, none⟩ b4).setCell ⟨q, 5, none⟩ b5).setCell ⟨q, 6, none⟩ b6).setCell ⟨q, 7, none⟩ b7) q #[b0, b1, b2, b3, b4, b5, b6, b7] ∧ w.grownBy ((((((((w.setCell ⟨q, 0, none⟩ b0).setCell ⟨q, 1, none⟩ b1).setCell ⟨q, 2, none⟩ b2).setCell ⟨q, 3, none⟩ b3).setCell ⟨q, 4, none⟩ b4).setCell ⟨q, 5, none⟩ b5).setCell ⟨q, 6, none⟩ b6).setCell ⟨q, 7, none⟩ b7) (some q) := by
  have h2 := ((((((((h.set 0 b0).set 1 b1).set 2 b2).set 3 b3).set 4 b4).set 5 b5).set 6 b6).set 7 b7)
  simp only [List.setIfInBounds_toArray, List.set_cons_zero, List.set_cons_succ] at h2
  exact ⟨h2, ((((((((grown_set' w ⟨q, 0, none⟩ _).trans (grown_set' _ ⟨q, 1, none⟩ _)).trans (grown_set' _ ⟨q, 2, none⟩ _)).trans (grown_set' _ ⟨q, 3, none⟩ _)).trans (grown_set' _ ⟨q, 4, none⟩ _)).trans (grown_set' _ ⟨q, 5, none⟩ _)).trans (grown_set' _ ⟨q, 6, none⟩ _)).trans (grown_set' _ ⟨q, 7, none⟩ _))⟩
theorem blk_set6 {w : World} {q : Nat} {a0 a1 a2 a3 a4 a5 : Value} (h : Blk w q #[a0, a1, a2, a3, a4, a5]) (b0 b1 b2 b3 b4 b5 : Value) : Blk ((((((w.setCell ⟨q, 0, none⟩ b0).setCell ⟨q, 1, none⟩ b1).setCell ⟨q, 2, none⟩ b2).setCell ⟨q, 3, none⟩ b3).setCell ⟨q, 4, none⟩ b4).setCell ⟨q, 5, none⟩ b5) q #[b0, b1, b2, b3, b4, b5] ∧ w.grownBy ((((((w.setCell ⟨q, 0, none⟩ b0).setCell ⟨q, 1, none⟩ b1).setCell ⟨q, 2, none⟩ b2).setCell ⟨q, 3, none⟩ b3).setCell ⟨q, 4, none⟩ b4).setCell ⟨q, 5, none⟩ b5) (some q) := by
  have h2 := ((((((h.set 0 b0).set 1 b1).set 2 b2).set 3 b3).set 4 b4).set 5 b5)
  simp only [List.setIfInBounds_toArray, List.set_cons_zero, List.set_cons_succ] at h2
  exact ⟨h2, ((((((grown_set' w ⟨q, 0, none⟩ _).trans (grown_set' _ ⟨q, 1, none⟩ _)).trans (grown_set' _ ⟨q, 2, none⟩ _)).trans (grown_set' _ ⟨q, 3, none⟩ _)).trans (grown_set' _ ⟨q, 4, none⟩ _)).trans (grown_set' _ ⟨q, 5, none⟩ _))⟩
theorem blk_set2 {w : World} {q : Nat} {a0 a1 : Value} (h : Blk w q #[a0, a1]) (b0 b1 : Value) : Blk ((w.setCell ⟨q, 0, none⟩ b0).setCell ⟨q, 1, none⟩ b1) q #[b0, b1] ∧ w.grownBy ((w.setCell ⟨q, 0, none⟩ b0).setCell ⟨q, 1, none⟩ b1) (some q) := by
  have h2 := ((h.set 0 b0).set 1 b1)
  simp only [List.setIfInBounds_toArray, List.set_cons_zero, List.set_cons_succ] at h2
  exact ⟨h2, ((grown_set' w ⟨q, 0, none⟩ _).trans (grown_set' _ ⟨q, 1, none⟩ _))⟩
theorem blk_setM {w : World} {q : Nat} {a0 a1 a2 a3 a4 a5 a6 a7 : Value} (h : Blk w q #[a0, a1, a2, a3, a4, a5, a6, a7]) (b3 b4 b5 b6 b7 : Value) : Blk (((((w.setCell ⟨q, 3, none⟩ b3).setCell ⟨q, 4, none⟩ b4).setCell ⟨q, 5, none⟩ b5).setCell ⟨q, 6, none⟩ b6).setCell ⟨q, 7, none⟩ b7) q #[a0, a1, a2, b3, b4, b5, b6, b7] ∧ w.grownBy (((((w.setCell ⟨q, 3, none⟩ b3).setCell ⟨q, 4, none⟩ b4).setCell ⟨q, 5, none⟩ b5).setCell ⟨q, 6, none⟩ b6).setCell ⟨q, 7, none⟩ b7) (some q) := by
  have h2 := (((((h.set 3 b3).set 4 b4).set 5 b5).set 6 b6).set 7 b7)
  simp only [List.setIfInBounds_toArray, List.set_cons_zero, List.set_cons_succ] at h2
  exact ⟨h2, (((((grown_set' w ⟨q, 3, none⟩ _).trans (grown_set' _ ⟨q, 4, none⟩ _)).trans (grown_set' _ ⟨q, 5, none⟩ _)).trans (grown_set' _ ⟨q, 6, none⟩ _)).trans (grown_set' _ ⟨q, 7, none⟩ _))⟩

set_option maxHeartbeats 8000000 in
set_option maxRecDepth 100000 in
theorem decodeF (b : List Int) (v : Value) (w : World) (h : BySl w v b) (hby : ∀ c ∈ b, IsByte c) (hl : b.length ≤ 1000000) :
    Calls Try.prog 20 #[v] w fun e w' => ∃ ue ua, e = .returned (.tuple #[.agg #[ue, ua], I (decP b).2]) ∧ EvSl w' ue (decP b).1.1 ∧ AnsSl w' ua (decP b).1.2 ∧ Below w.heap.size w w' := by
  have hB0 : Below w.heap.size w (w.alloc (.cells #[.slice none 0 0, .slice none 0 0] 26)) := (by repeat (first | exact Below.refl _ _ | assumption | refine Below.drew ?_ | refine below_drewN ?_ _ | refine Below.alloc ?_ (by simp <;> omega) _ | refine Below.setCell ?_ (by simp <;> omega) _))
  have hz0 : (w.alloc (.cells #[.slice none 0 0, .slice none 0 0] 26)).heap.size = w.heap.size + 1 := World.size_alloc _ _
  have hr0 : Blk (w.alloc (.cells #[.slice none 0 0, .slice none 0 0] 26)) w.heap.size #[.slice none 0 0, .slice none 0 0] := Blk.new _ _ _
  have HI := Lib.hid (newIn b v _ (h.kept hB0 (Nat.le_refl _)) (by omega))
  clear h
  go_enter Try.func20, Try.ntmps20
  go_upto_region 4 with (go_at_call 47; refine HI.out.mono ?_; rintro e w1 ⟨p, rfl, hp, hin1, hB1⟩)
  have hbx : Blk ((w1.alloc (.cells #[.pointer (some ⟨p, 0, none⟩)] 87)).alloc (.cells #[.slice none 0 0, .slice none 0 0] 26)) w1.heap.size #[.pointer (some ⟨p, 0, none⟩)] := (Blk.new _ _ _).alloc _
  have hbt : Blk ((w1.alloc (.cells #[.pointer (some ⟨p, 0, none⟩)] 87)).alloc (.cells #[.slice none 0 0, .slice none 0 0] 26)) (w1.heap.size + 1) #[.slice none 0 0, .slice none 0 0] := by
    have := Blk.new (w1.alloc (.cells #[.pointer (some ⟨p, 0, none⟩)] 87)) #[.slice none 0 0, .slice none 0 0] 26
    rwa [World.size_alloc] at this
  have hBa : Below w1.heap.size w1 ((w1.alloc (.cells #[.pointer (some ⟨p, 0, none⟩)] 87)).alloc (.cells #[.slice none 0 0, .slice none 0 0] 26)) := ((Below.refl _ _).alloc (Nat.le_refl _) _).alloc (by simp) _
  have hra := (hr0.kept hB1 (by omega)).kept hBa (by have := hB1.size; omega)
  have hina := hin1.below hBa
  have hBw := (hB0.trans (hB1.mono (by omega))).trans (hBa.mono (by have := hB1.size; omega))
  have hza : ((w1.alloc (.cells #[.pointer (some ⟨p, 0, none⟩)] 87)).alloc (.cells #[.slice none 0 0, .slice none 0 0] 26)).heap.size = w1.heap.size + 2 := by simp
  have hp1 := hin1.lt
  rw [hz0] at hp
  clear hin1 hB1 hB0 hz0 hr0 HI hBa
  generalize (w1.alloc (.cells #[.pointer (some ⟨p, 0, none⟩)] 87)).alloc (.cells #[.slice none 0 0, .slice none 0 0] 26) = wa at hbx hbt hra hina hBw hza ⊢
  obtain ⟨bx, hbxe⟩ : ∃ bx, bx = w1.heap.size := ⟨_, rfl⟩
  rw [← hbxe] at hbx hbt hza hp1 ⊢
  clear hbxe
  have Hra := Lib.hid hra
  have HBw := Lib.hid hBw
  clear hra hBw
  have hbxc := hbx.cell 0
  have Hc := Lib.hid (tapeCount (.ok b) p 5000 wa hina hby)
  go_upto_region 5 with (go_at_call 50; refine Hc.out.mono ?_; rintro e w4 ⟨rfl, hin4, hg4⟩)
  have hf4 := Rd.fine_count (s := .ok b) hby 5000
  have hn4 := Rd.count_le (.ok b) 5000
  have Hd : Hid (readEvs ((Rd.ok b).count 5000).1 ((Rd.ok b).count 5000).2 [] = decE b) := Lib.hid rfl
  generalize (Rd.ok b).count 5000 = cs at hin4 hf4 hn4 Hd ⊢
  obtain ⟨n0, s0⟩ := cs
  have Hin4 := Lib.hid (show InAt w4 p s0 from hin4)
  have Hf4 := Lib.hid (show s0.fine from hf4)
  have hn4' : n0 ≤ 5000 := hn4
  have hbt4 := hbt.grown hg4 (fun e => by simp at e; omega)
  have Hk4 := Lib.hid (show Keep (fun k => k = p ∨ k = bx + 1) wa w4 from (Keep.refl _ _).then hg4 (fun j hj => by cases hj; exact .inr (.inl rfl)))
  clear hin4 hf4 hn4 hg4 Hc hina hbxc
  have Hbx := Lib.hid hbx
  clear hbx hbt
  simp only []
  go_loopw [7] (fun t wr => ∃ (n : Nat) (s : Rd) (acc : List Ev) (va : Value), t = .int .u64 n ∧ Hid (readEvs n s acc = decE b ∧ s.fine ∧ n + acc.length ≤ 5000) ∧ Hid (InAt wr p s) ∧ Hid (wr.ownsRow wa.heap.size 56 8 va acc.length (acc.flatMap ec)) ∧ Blk wr (bx + 1) #[va, .slice none 0 0] ∧ Hid (Keep (fun k => k = p ∨ k = bx + 1) wa wr)) (fun t _ => (intOf t).toNat)
  case atStart => exact ⟨n0, s0, [], _, rfl, Lib.hid ⟨Hd.out, Hf4.out, by simpa using hn4'⟩, Hin4, Lib.hid (World.ownsRow_nil _ _ _ _), hbt4, Hk4⟩
  case round =>
    clear Hd Hin4 Hf4 hn4' hbt4 Hk4
    obtain ⟨n, s, acc, va, rfl, HR, Hin, Hva, hbt, HK⟩ := hrel
    have hbxr := HK.out.blk Hbx.out (by simp; omega)
    have hbxc := hbxr.cell 0
    have hzr := HK.out.size
    have hf := HR.out.2.1
    have Hf := Lib.hid hf
    obtain ⟨bb, hbb⟩ : ∃ bb : Bool, bb = (decide (0 < n) && decide (s.err = 0)) := ⟨_, rfl⟩
    have Hbb := Lib.hid hbb
    have HE := Lib.hid (inErr s p wr Hin.out)
    clear hbb hf
    go_upto_region 5 with fail
    go_cut [24] from 18 to 47 (fun t wc => t = .bool bb ∧ wc = wr)
    case first =>
      by_cases hn : (0 : Int) < n
      · by_cases he : s.err = 0
        · go_wp2_with (go_at_call 51; refine HE.out.mono ?_; rintro e w5 ⟨rfl, rfl⟩)
          go_meet
          exact ⟨by rw [Hbb.out]; simp [he]; omega, rfl⟩
        · go_wp2_with (go_at_call 51; refine HE.out.mono ?_; rintro e w5 ⟨rfl, rfl⟩)
          go_meet
          exact ⟨by rw [Hbb.out]; simp [he], rfl⟩
      · go_wp2_with fail
        go_meet
        exact ⟨by rw [Hbb.out]; simp; omega, rfl⟩
    case rest =>
      obtain ⟨rfl, hwc⟩ := hcut
      have hwc := hwc.symm
      subst hwc
      clear HE
      cases bb with
      | true =>
        have hne : 0 < n ∧ s.err = 0 := by
          have := Hbb.out
          simp at this
          omega
        obtain ⟨hn, he⟩ := hne
        obtain ⟨n, rfl⟩ : ∃ m, n = m + 1 := ⟨n - 1, by omega⟩
        have He := Lib.hid he
        have hw0 : InAt wr.drew p s := Hin.out.below (Below.refl _ _).drew
        have hbx0 : Blk wr.drew bx _ := hbxr
        have hgr0 : wr.grownBy wr.drew (some p) := ⟨rfl, rfl, rfl, Nat.le_refl _, fun _ _ _ => rfl⟩
        clear he
        go_upto_region 7 with fail
        go_cut [8] from 18 to 47 (fun t wd => ∃ q, t = .pointer (some ⟨q, 0, none⟩) ∧ wr.heap.size ≤ q ∧ Hid (InAt wd p (s.after 3)) ∧ Blk wd q #[I (s.nth 0), I (s.nth 1), I (s.nth 2), I 0, I 0, I 0, I 0, I 0] ∧ Hid (wr.grownBy wd (some p)))
        case first =>
          have hin0 := hw0
          clear hw0 hbxc
          refine wp_region_T 8 (.take 0 (.take 2 (.take 4 (.fork 1 7 (.fork 3 7 (.fork 5 7 (.take 6 (.move 7 .nil)) (.move 5 (.take 6 .nil))) (.move 3 (.move 5 (.take 6 .nil)))) (.move 1 (.move 3 (.move 5 (.take 6 .nil)))))))) (fun w' => ∀ j, w'.cell? ⟨bx, j, none⟩ = (#[.pointer (some ⟨p, 0, none⟩)] : Array Value)[j]?) (by kernel_rfl) rfl (by kernel_rfl) hbx0.cell ?_
          iterate 3 (refine wpT_take rfl ?_ (by rfl) ?_ ?_; rotate_left; (intro w hSw; (try dsimp only at hSw); go_simp; try with_reducible rfl); (try simp only [Act.put, List.setIfInBounds_toArray, List.set_cons_zero, List.set_cons_succ]))
          generalize wr.drew = w0 at hin0 hbx0 hgr0 ⊢
          refine wpT_fork ?_ ?_
          · refine wpT_move rfl (fun K hK => ?_)
            go_simp
            go_at_call 49
            refine (inInt (s.after 0) p _ hin0 (Rd.fine_after Hf.out 0)).mono ?_
            rintro e w1 ⟨rfl, hin1, hg1⟩
            rw [Rd.after_succ] at hin1
            have hbx1 := hbx0.grown hg1 (fun e => by simp at e; omega)
            have hgr1 := hgr0.trans hg1
            refine hK.out _ _ hbx1.cell ?_
            clear hK K
            (try simp only [Act.put, List.setIfInBounds_toArray, List.set_cons_zero, List.set_cons_succ])
            refine wpT_fork ?_ ?_
            · refine wpT_move rfl (fun K hK => ?_)
              go_simp
              go_at_call 49
              refine (inInt (s.after 1) p _ hin1 (Rd.fine_after Hf.out 1)).mono ?_
              rintro e w2 ⟨rfl, hin2, hg2⟩
              rw [Rd.after_succ] at hin2
              have hbx2 := hbx1.grown hg2 (fun e => by simp at e; omega)
              have hgr2 := hgr1.trans hg2
              refine hK.out _ _ hbx2.cell ?_
              clear hK K
              (try simp only [Act.put, List.setIfInBounds_toArray, List.set_cons_zero, List.set_cons_succ])
              refine wpT_fork ?_ ?_
              · refine wpT_move rfl (fun K hK => ?_)
                go_simp
                go_at_call 49
                refine (inInt (s.after 2) p _ hin2 (Rd.fine_after Hf.out 2)).mono ?_
                rintro e w3 ⟨rfl, hin3, hg3⟩
                rw [Rd.after_succ] at hin3
                have hbx3 := hbx2.grown hg3 (fun e => by simp at e; omega)
                have hgr3 := hgr2.trans hg3
                refine hK.out _ _ hbx3.cell ?_
                clear hK K
                (try simp only [Act.put, List.setIfInBounds_toArray, List.set_cons_zero, List.set_cons_succ])
                (refine wpT_take rfl ?_ (by rfl) ?_ ?_; rotate_left; (intro w hSw; (try dsimp only at hSw); go_simp; try with_reducible rfl); (try simp only [Act.put, List.setIfInBounds_toArray, List.set_cons_zero, List.set_cons_succ]))
                refine wpT_move rfl (fun K hK => ?_)
                go_simp
                have hq4 := Blk.new w3 #[I 0, I 0, I 0, I 0, I 0, I 0, I 0, I 0] 56
                have hin4 := hin3.below ((Below.refl _ _).alloc (Nat.le_refl _) (.cells #[I 0, I 0, I 0, I 0, I 0, I 0, I 0, I 0] 56))
                have hbx4 := hbx3.alloc (.cells #[I 0, I 0, I 0, I 0, I 0, I 0, I 0, I 0] 56)
                have hgr4 := hgr3.trans (World.grownBy_alloc w3 (.cells #[I 0, I 0, I 0, I 0, I 0, I 0, I 0, I 0] 56) (some p))
                have hzq := hgr3.size
                obtain ⟨q, hqe⟩ : ∃ q, q = w3.heap.size := ⟨_, rfl⟩
                rw [← hqe] at hq4 hzq ⊢
                generalize w3.alloc (.cells #[I 0, I 0, I 0, I 0, I 0, I 0, I 0, I 0] 56) = w4 at hq4 hin4 hbx4 hgr4 ⊢
                refine hK.out _ _ hbx4.cell ?_
                clear hK K hqe
                (try simp only [Act.put, List.setIfInBounds_toArray, List.set_cons_zero, List.set_cons_succ])
                refine wpT_nil ?_
                have hqq := hq4
                have x0 := hqq.cell 0
                have f0 := hqq.frozen 0
                have x1 := hqq.cell 1
                have f1 := hqq.frozen 1
                have x2 := hqq.cell 2
                have f2 := hqq.frozen 2
                have x3 := hqq.cell 3
                have f3 := hqq.frozen 3
                have x4 := hqq.cell 4
                have f4 := hqq.frozen 4
                have x5 := hqq.cell 5
                have f5 := hqq.frozen 5
                have x6 := hqq.cell 6
                have f6 := hqq.frozen 6
                have x7 := hqq.cell 7
                have f7 := hqq.frozen 7
                go_wp2_with fail
                refine NoPanic.normal ?_
                go_wp2_with fail
                go_meet
                simp only [Rd.nth_eq]
                obtain ⟨hbf, hgf⟩ := blk_set8 hqq (I (s.nth 0)) (I (s.nth 1)) (I (s.nth 2)) (I 0) (I 0) (I 0) (I 0) (I 0)
                exact ⟨q, rfl, hzq, Lib.hid (hin4.grown hgf (fun j hj => by cases hj; omega)), hbf, Lib.hid (World.grownBy.andThen hgr4 hgf (fun j hj => by cases hj; exact .inl hzq))⟩
              · refine wpT_move rfl (fun K hK => ?_)
                go_simp
                have hq3 := Blk.new w2 #[I 0, I 0, I 0, I 0, I 0, I 0, I 0, I 0] 56
                have hin3 := hin2.below ((Below.refl _ _).alloc (Nat.le_refl _) (.cells #[I 0, I 0, I 0, I 0, I 0, I 0, I 0, I 0] 56))
                have hbx3 := hbx2.alloc (.cells #[I 0, I 0, I 0, I 0, I 0, I 0, I 0, I 0] 56)
                have hgr3 := hgr2.trans (World.grownBy_alloc w2 (.cells #[I 0, I 0, I 0, I 0, I 0, I 0, I 0, I 0] 56) (some p))
                have hzq := hgr2.size
                obtain ⟨q, hqe⟩ : ∃ q, q = w2.heap.size := ⟨_, rfl⟩
                rw [← hqe] at hq3 hzq ⊢
                generalize w2.alloc (.cells #[I 0, I 0, I 0, I 0, I 0, I 0, I 0, I 0] 56) = w3 at hq3 hin3 hbx3 hgr3 ⊢
                refine hK.out _ _ hbx3.cell ?_
                clear hK K hqe
                (try simp only [Act.put, List.setIfInBounds_toArray, List.set_cons_zero, List.set_cons_succ])
                refine wpT_move rfl (fun K hK => ?_)
                go_simp
                go_at_call 49
                refine (inInt (s.after 2) p _ hin3 (Rd.fine_after Hf.out 2)).mono ?_
                rintro e w4 ⟨rfl, hin4, hg4⟩
                rw [Rd.after_succ] at hin4
                have hbx4 := hbx3.grown hg4 (fun e => by simp at e; omega)
                have hgr4 := hgr3.trans hg4
                have hq4 := hq3.grown hg4 (fun e => by simp at e; omega)
                refine hK.out _ _ hbx4.cell ?_
                clear hK K
                (try simp only [Act.put, List.setIfInBounds_toArray, List.set_cons_zero, List.set_cons_succ])
                (refine wpT_take rfl ?_ (by rfl) ?_ ?_; rotate_left; (intro w hSw; (try dsimp only at hSw); go_simp; try with_reducible rfl); (try simp only [Act.put, List.setIfInBounds_toArray, List.set_cons_zero, List.set_cons_succ]))
                refine wpT_nil ?_
                have hqq := hq4
                have x0 := hqq.cell 0
                have f0 := hqq.frozen 0
                have x1 := hqq.cell 1
                have f1 := hqq.frozen 1
                have x2 := hqq.cell 2
                have f2 := hqq.frozen 2
                have x3 := hqq.cell 3
                have f3 := hqq.frozen 3
                have x4 := hqq.cell 4
                have f4 := hqq.frozen 4
                have x5 := hqq.cell 5
                have f5 := hqq.frozen 5
                have x6 := hqq.cell 6
                have f6 := hqq.frozen 6
                have x7 := hqq.cell 7
                have f7 := hqq.frozen 7
                go_wp2_with fail
                refine NoPanic.normal ?_
                go_wp2_with fail
                go_meet
                simp only [Rd.nth_eq]
                obtain ⟨hbf, hgf⟩ := blk_set8 hqq (I (s.nth 0)) (I (s.nth 1)) (I (s.nth 2)) (I 0) (I 0) (I 0) (I 0) (I 0)
                exact ⟨q, rfl, hzq, Lib.hid (hin4.grown hgf (fun j hj => by cases hj; omega)), hbf, Lib.hid (World.grownBy.andThen hgr4 hgf (fun j hj => by cases hj; exact .inl hzq))⟩
            · refine wpT_move rfl (fun K hK => ?_)
              go_simp
              have hq2 := Blk.new w1 #[I 0, I 0, I 0, I 0, I 0, I 0, I 0, I 0] 56
              have hin2 := hin1.below ((Below.refl _ _).alloc (Nat.le_refl _) (.cells #[I 0, I 0, I 0, I 0, I 0, I 0, I 0, I 0] 56))
              have hbx2 := hbx1.alloc (.cells #[I 0, I 0, I 0, I 0, I 0, I 0, I 0, I 0] 56)
              have hgr2 := hgr1.trans (World.grownBy_alloc w1 (.cells #[I 0, I 0, I 0, I 0, I 0, I 0, I 0, I 0] 56) (some p))
              have hzq := hgr1.size
              obtain ⟨q, hqe⟩ : ∃ q, q = w1.heap.size := ⟨_, rfl⟩
              rw [← hqe] at hq2 hzq ⊢
              generalize w1.alloc (.cells #[I 0, I 0, I 0, I 0, I 0, I 0, I 0, I 0] 56) = w2 at hq2 hin2 hbx2 hgr2 ⊢
              refine hK.out _ _ hbx2.cell ?_
              clear hK K hqe
              (try simp only [Act.put, List.setIfInBounds_toArray, List.set_cons_zero, List.set_cons_succ])
              refine wpT_move rfl (fun K hK => ?_)
              go_simp
              go_at_call 49
              refine (inInt (s.after 1) p _ hin2 (Rd.fine_after Hf.out 1)).mono ?_
              rintro e w3 ⟨rfl, hin3, hg3⟩
              rw [Rd.after_succ] at hin3
              have hbx3 := hbx2.grown hg3 (fun e => by simp at e; omega)
              have hgr3 := hgr2.trans hg3
              have hq3 := hq2.grown hg3 (fun e => by simp at e; omega)
              refine hK.out _ _ hbx3.cell ?_
              clear hK K
              (try simp only [Act.put, List.setIfInBounds_toArray, List.set_cons_zero, List.set_cons_succ])
              refine wpT_move rfl (fun K hK => ?_)
              go_simp
              go_at_call 49
              refine (inInt (s.after 2) p _ hin3 (Rd.fine_after Hf.out 2)).mono ?_
              rintro e w4 ⟨rfl, hin4, hg4⟩
              rw [Rd.after_succ] at hin4
              have hbx4 := hbx3.grown hg4 (fun e => by simp at e; omega)
              have hgr4 := hgr3.trans hg4
              have hq4 := hq3.grown hg4 (fun e => by simp at e; omega)
              refine hK.out _ _ hbx4.cell ?_
              clear hK K
              (try simp only [Act.put, List.setIfInBounds_toArray, List.set_cons_zero, List.set_cons_succ])
              (refine wpT_take rfl ?_ (by rfl) ?_ ?_; rotate_left; (intro w hSw; (try dsimp only at hSw); go_simp; try with_reducible rfl); (try simp only [Act.put, List.setIfInBounds_toArray, List.set_cons_zero, List.set_cons_succ]))
              refine wpT_nil ?_
              have hqq := hq4
              have x0 := hqq.cell 0
              have f0 := hqq.frozen 0
              have x1 := hqq.cell 1
              have f1 := hqq.frozen 1
              have x2 := hqq.cell 2
              have f2 := hqq.frozen 2
              have x3 := hqq.cell 3
              have f3 := hqq.frozen 3
              have x4 := hqq.cell 4
              have f4 := hqq.frozen 4
              have x5 := hqq.cell 5
              have f5 := hqq.frozen 5
              have x6 := hqq.cell 6
              have f6 := hqq.frozen 6
              have x7 := hqq.cell 7
              have f7 := hqq.frozen 7
              go_wp2_with fail
              refine NoPanic.normal ?_
              go_wp2_with fail
              go_meet
              simp only [Rd.nth_eq]
              obtain ⟨hbf, hgf⟩ := blk_set8 hqq (I (s.nth 0)) (I (s.nth 1)) (I (s.nth 2)) (I 0) (I 0) (I 0) (I 0) (I 0)
              exact ⟨q, rfl, hzq, Lib.hid (hin4.grown hgf (fun j hj => by cases hj; omega)), hbf, Lib.hid (World.grownBy.andThen hgr4 hgf (fun j hj => by cases hj; exact .inl hzq))⟩
          · refine wpT_move rfl (fun K hK => ?_)
            go_simp
            have hq1 := Blk.new w0 #[I 0, I 0, I 0, I 0, I 0, I 0, I 0, I 0] 56
            have hin1 := hin0.below ((Below.refl _ _).alloc (Nat.le_refl _) (.cells #[I 0, I 0, I 0, I 0, I 0, I 0, I 0, I 0] 56))
            have hbx1 := hbx0.alloc (.cells #[I 0, I 0, I 0, I 0, I 0, I 0, I 0, I 0] 56)
            have hgr1 := hgr0.trans (World.grownBy_alloc w0 (.cells #[I 0, I 0, I 0, I 0, I 0, I 0, I 0, I 0] 56) (some p))
            have hzq := hgr0.size
            obtain ⟨q, hqe⟩ : ∃ q, q = w0.heap.size := ⟨_, rfl⟩
            rw [← hqe] at hq1 hzq ⊢
            generalize w0.alloc (.cells #[I 0, I 0, I 0, I 0, I 0, I 0, I 0, I 0] 56) = w1 at hq1 hin1 hbx1 hgr1 ⊢
            refine hK.out _ _ hbx1.cell ?_
            clear hK K hqe
            (try simp only [Act.put, List.setIfInBounds_toArray, List.set_cons_zero, List.set_cons_succ])
            refine wpT_move rfl (fun K hK => ?_)
            go_simp
            go_at_call 49
            refine (inInt (s.after 0) p _ hin1 (Rd.fine_after Hf.out 0)).mono ?_
            rintro e w2 ⟨rfl, hin2, hg2⟩
            rw [Rd.after_succ] at hin2
            have hbx2 := hbx1.grown hg2 (fun e => by simp at e; omega)
            have hgr2 := hgr1.trans hg2
            have hq2 := hq1.grown hg2 (fun e => by simp at e; omega)
            refine hK.out _ _ hbx2.cell ?_
            clear hK K
            (try simp only [Act.put, List.setIfInBounds_toArray, List.set_cons_zero, List.set_cons_succ])
            refine wpT_move rfl (fun K hK => ?_)
            go_simp
            go_at_call 49
            refine (inInt (s.after 1) p _ hin2 (Rd.fine_after Hf.out 1)).mono ?_
            rintro e w3 ⟨rfl, hin3, hg3⟩
            rw [Rd.after_succ] at hin3
            have hbx3 := hbx2.grown hg3 (fun e => by simp at e; omega)
            have hgr3 := hgr2.trans hg3
            have hq3 := hq2.grown hg3 (fun e => by simp at e; omega)
            refine hK.out _ _ hbx3.cell ?_
            clear hK K
            (try simp only [Act.put, List.setIfInBounds_toArray, List.set_cons_zero, List.set_cons_succ])
            refine wpT_move rfl (fun K hK => ?_)
            go_simp
            go_at_call 49
            refine (inInt (s.after 2) p _ hin3 (Rd.fine_after Hf.out 2)).mono ?_
            rintro e w4 ⟨rfl, hin4, hg4⟩
            rw [Rd.after_succ] at hin4
            have hbx4 := hbx3.grown hg4 (fun e => by simp at e; omega)
            have hgr4 := hgr3.trans hg4
            have hq4 := hq3.grown hg4 (fun e => by simp at e; omega)
            refine hK.out _ _ hbx4.cell ?_
            clear hK K
            (try simp only [Act.put, List.setIfInBounds_toArray, List.set_cons_zero, List.set_cons_succ])
            (refine wpT_take rfl ?_ (by rfl) ?_ ?_; rotate_left; (intro w hSw; (try dsimp only at hSw); go_simp; try with_reducible rfl); (try simp only [Act.put, List.setIfInBounds_toArray, List.set_cons_zero, List.set_cons_succ]))
            refine wpT_nil ?_
            have hqq := hq4
            have x0 := hqq.cell 0
            have f0 := hqq.frozen 0
            have x1 := hqq.cell 1
            have f1 := hqq.frozen 1
            have x2 := hqq.cell 2
            have f2 := hqq.frozen 2
            have x3 := hqq.cell 3
            have f3 := hqq.frozen 3
            have x4 := hqq.cell 4
            have f4 := hqq.frozen 4
            have x5 := hqq.cell 5
            have f5 := hqq.frozen 5
            have x6 := hqq.cell 6
            have f6 := hqq.frozen 6
            have x7 := hqq.cell 7
            have f7 := hqq.frozen 7
            go_wp2_with fail
            refine NoPanic.normal ?_
            go_wp2_with fail
            go_meet
            simp only [Rd.nth_eq]
            obtain ⟨hbf, hgf⟩ := blk_set8 hqq (I (s.nth 0)) (I (s.nth 1)) (I (s.nth 2)) (I 0) (I 0) (I 0) (I 0) (I 0)
            exact ⟨q, rfl, hzq, Lib.hid (hin4.grown hgf (fun j hj => by cases hj; omega)), hbf, Lib.hid (World.grownBy.andThen hgr4 hgf (fun j hj => by cases hj; exact .inl hzq))⟩
        case rest =>
          obtain ⟨q, rfl, hq, Hin3, hbq, Hg3⟩ := hcut
          have hin0 : InAt wc.drew p (s.after 3) := Hin3.out.below (Below.refl _ _).drew
          have hbx00 := hbxr.grown Hg3.out (fun e => by simp at e; omega)
          have hbx0 : Blk wc.drew bx _ := hbx00
          have hq0 : Blk wc.drew q _ := hbq
          have hgr0 : wr.grownBy wc.drew (some p) := ⟨Hg3.out.os, Hg3.out.tape, Hg3.out.output, Hg3.out.size, Hg3.out.block⟩
          clear Hin3 hbq Hg3 Hin hbx00
          go_upto_region 8 with fail
          refine wp_region_ordN 8 [(0, true), (2, true), (4, true), (1, false), (3, false), (5, false), (6, true), (7, true)] (fun w' => ∀ j, w'.cell? ⟨bx, j, none⟩ = (#[.pointer (some ⟨p, 0, none⟩)] : Array Value)[j]?) (by kernel_rfl) rfl rfl (by kernel_rfl) hbx0.cell ?_
          iterate 3 (refine wpOrd_take ?_ (by rfl) ?_ ?_; rotate_left; (intro w hSw; (try dsimp only at hSw); go_simp; try with_reducible rfl); (try simp only [Act.put, List.setIfInBounds_toArray, List.set_cons_zero, List.set_cons_succ]))
          generalize wc.drew = w0 at hin0 hbx0 hq0 hgr0 ⊢
          refine wpOrd_move (fun K hK => ?_)
          go_simp
          go_at_call 48
          refine (causeF (s.after 3) p bx _ hin0 (Rd.fine_after Hf.out 3) hbx0 (by omega)).mono ?_
          rintro e w1 ⟨rfl, hin1, hg1⟩
          rw [Rd.after_add] at hin1
          have hbx1 := hbx0.grown hg1 (fun e => by simp at e; omega)
          have hq1 := hq0.grown hg1 (fun e => by simp at e; omega)
          have hgr1 := hgr0.trans hg1
          refine hK.out _ _ hbx1.cell ?_
          clear hK K
          (try simp only [Act.put, List.setIfInBounds_toArray, List.set_cons_zero, List.set_cons_succ])
          refine wpOrd_move (fun K hK => ?_)
          go_simp
          go_at_call 49
          refine (inInt (s.after 6) p _ hin1 (Rd.fine_after Hf.out 6)).mono ?_
          rintro e w2 ⟨rfl, hin2, hg2⟩
          rw [Rd.after_succ] at hin2
          have hbx2 := hbx1.grown hg2 (fun e => by simp at e; omega)
          have hq2 := hq1.grown hg2 (fun e => by simp at e; omega)
          have hgr2 := hgr1.trans hg2
          refine hK.out _ _ hbx2.cell ?_
          clear hK K
          (try simp only [Act.put, List.setIfInBounds_toArray, List.set_cons_zero, List.set_cons_succ])
          refine wpOrd_move (fun K hK => ?_)
          go_simp
          go_at_call 49
          refine (inInt (s.after 7) p _ hin2 (Rd.fine_after Hf.out 7)).mono ?_
          rintro e w3 ⟨rfl, hin3, hg3⟩
          rw [Rd.after_succ] at hin3
          have hbx3 := hbx2.grown hg3 (fun e => by simp at e; omega)
          have hq3 := hq2.grown hg3 (fun e => by simp at e; omega)
          have hgr3 := hgr2.trans hg3
          refine hK.out _ _ hbx3.cell ?_
          clear hK K
          (try simp only [Act.put, List.setIfInBounds_toArray, List.set_cons_zero, List.set_cons_succ])
          iterate 2 (refine wpOrd_take ?_ (by rfl) ?_ ?_; rotate_left; (intro w hSw; (try dsimp only at hSw); go_simp; try with_reducible rfl); (try simp only [Act.put, List.setIfInBounds_toArray, List.set_cons_zero, List.set_cons_succ]))
          refine wpOrd_nil ?_
          have x3 := hq3.cell 3
          have f3 := hq3.frozen 3
          have x4 := hq3.cell 4
          have f4 := hq3.frozen 4
          have x5 := hq3.cell 5
          have f5 := hq3.frozen 5
          have x6 := hq3.cell 6
          have f6 := hq3.frozen 6
          have x7 := hq3.cell 7
          have f7 := hq3.frozen 7
          go_wp2_with fail
          refine NoPanic.normal ?_
          simp only [Rd.nth_eq, Rd.nth_add, Nat.add_zero, Nat.reduceAdd] at hin3 ⊢
          obtain ⟨hbf, hgf⟩ := blk_setM hq3 (I (s.nth 3)) (I (s.nth 4)) (I (s.nth 5)) (I (s.nth 6)) (I (s.nth 7))
          have hin5 := hin3.grown hgf (fun j hj => by cases hj; omega)
          have hgr5 := World.grownBy.andThen hgr3 hgf (fun j hj => by cases hj; exact .inl hq)
          clear hbx0 hbx1 hbx2 hbx3 hq0 hq1 hq2 hq3 hgr0 hgr1 hgr2 hgr3 hg1 hg2 hg3 hin0 hin1 hin2 hin3 hgf x3 f3 x4 f4 x5 f5 x6 f6 x7 f7
          go_upto_region 9 with fail
          generalize ((((w3.setCell ⟨q, 3, none⟩ (I (s.nth 3))).setCell ⟨q, 4, none⟩ (I (s.nth 4))).setCell ⟨q, 5, none⟩ (I (s.nth 5))).setCell ⟨q, 6, none⟩ (I (s.nth 6))).setCell ⟨q, 7, none⟩ (I (s.nth 7)) = wq at hbf hin5 hgr5 ⊢
          have hva5 := Hva.out.kept hgr5 (by
            cases hv : va.ownBlock with
            | none => exact .inl rfl
            | some g => exact .inr (fun e => by have := (Hva.out.lt g hv).1; simp at e; omega))
          have hown : ∀ g, va.ownBlock = some g → wa.heap.size ≤ g := fun g hv => (Hva.out.lt g hv).1
          have hbt5 := hbt.grown hgr5 (fun e => by simp at e; omega)
          have hk5 := HK.out.then hgr5 (fun j hj => by cases hj; exact .inr (.inl rfl))
          obtain ⟨ka, ca, rfl, _⟩ := (Flat.of_owns hva5).open
          have b0 := hbt5.cell 0
          have Hq := Lib.hid (blk_range hbf 0 [I (s.nth 0), I (s.nth 1), I (s.nth 2), I (s.nth 3), I (s.nth 4), I (s.nth 5), I (s.nth 6), I (s.nth 7)] (fun j v hv => by simpa using hv))
          have Hva5 := Lib.hid hva5
          have hal : acc.length ≤ 5000 := by have := HR.out.2.2; omega
          have hz5 := hgr5.size
          clear hbf hva5 hbt hgr5 hbxc hw0 hbx0 hgr0
          go_upto_region 6 with (first | ((with_reducible refine wpList_load56 rfl _ rfl q 0 [I (s.nth 0), I (s.nth 1), I (s.nth 2), I (s.nth 3), I (s.nth 4), I (s.nth 5), I (s.nth 6), I (s.nth 7)] rfl ?_ ?_ ?_); (rfl); (exact Hq.out)) | (at_builtin; go_must (refine wpList_appB rfl _ _ 23 rfl 56 _ 8 64 Try.underlying23 info56 rfl (by omega) (by omega) wa.heap.size (.slice ka acc.length ca) acc.length _ rfl (Hva5.out.alloc _) wq.heap.size 1 1 #[I (s.nth 0), I (s.nth 1), I (s.nth 2), I (s.nth 3), I (s.nth 4), I (s.nth 5), I (s.nth 6), I (s.nth 7)] 56 rfl (heap_alloc_new _ _) rfl rfl (by omega) (by omega) (by simp; omega) ?_); intro g6 cap6 w6 hg6a hg6b hg6c ho6 hgr6 hB6; have hbt6 := (hbt5.alloc (.cells #[I (s.nth 0), I (s.nth 1), I (s.nth 2), I (s.nth 3), I (s.nth 4), I (s.nth 5), I (s.nth 6), I (s.nth 7)] 56)).grown hgr6 (fun e => by have := hown _ e; omega); have d0 := hbt6.cell 0; have fd0 := hbt6.frozen 0))
          have hin6 := (hin5.below ((Below.refl _ _).alloc (Nat.le_refl _) (.cells #[I (s.nth 0), I (s.nth 1), I (s.nth 2), I (s.nth 3), I (s.nth 4), I (s.nth 5), I (s.nth 6), I (s.nth 7)] 56))).grown hgr6 (fun j hj => by have := hown _ hj; omega)
          have hk6 := (hk5.then (World.grownBy_alloc wq (.cells #[I (s.nth 0), I (s.nth 1), I (s.nth 2), I (s.nth 3), I (s.nth 4), I (s.nth 5), I (s.nth 6), I (s.nth 7)] 56) none) (fun j hj => by cases hj)).then hgr6 (fun j hj => .inl (hown j hj))
          have hwn : IntKind.u64.wrap (n : Int) = n := by have := HR.out.2.2; rw [IntKind.wrap_u64]; omega
          have hS := grown_set' w6 ⟨bx + 1, 0, none⟩ (.slice (some ⟨g6, 0, none⟩) (acc.length + 1) cap6)
          have hin7 := hin6.grown hS (fun j hj => by cases hj; show p < bx + 1; omega)
          have hk7 := hk6.then hS (fun j hj => by cases hj; exact .inr (.inr rfl))
          have hbt7 := hbt6.set 0 (.slice (some ⟨g6, 0, none⟩) (acc.length + 1) cap6)
          have ho7 := ho6.kept hS (.inr (by simp [Value.ownBlock]; omega))
          have Hin7 := Lib.hid hin7
          have Hk7 := Lib.hid hk7
          have Hbt7 := Lib.hid hbt7
          have Ho7 := Lib.hid ho7
          clear hin5 hin6 hin7 hk5 hk6 hk7 hS hbt5 hbt6 hbt7 ho6 ho7 hgr6 hB6 d0 fd0 Hva5 Hva HK b0
          go_wp2_with fail
          go_roundw
          case rel => exact ⟨n, s.after 8, acc ++ [s.ev], _, by go_num, Lib.hid ⟨by rw [← readEvs_next Hf.out He.out]; exact HR.out.1, Rd.fine_after Hf.out 8, by have := HR.out.2.2; simp; omega⟩, Hin7, Lib.hid (by rw [List.length_append, List.flatMap_append]; exact Ho7.out), Hbt7.out, Hk7⟩
          case measure => simp [intOf]
      | false =>
        have hE : decE b = (acc, s) := by rw [← HR.out.1, readEvs_stop Hf.out Hbb.out.symm]
        have HdE := Lib.hid hE
        have Hc := Lib.hid (tapeCount s p 10000 wr Hin.out Hf.out)
        have Hown := Lib.hid (show ∀ g, va.ownBlock = some g → wa.heap.size ≤ g from fun g hv => (Hva.out.lt g hv).1)
        have Hev := Lib.hid (show EvSl wr va acc from Flat.of_owns Hva.out)
        have Hlt := Lib.hid (show ∀ g, va.ownBlock = some g → g < wr.heap.size from fun g hv => (Hva.out.lt g hv).2)
        obtain ⟨ka, ca, rfl, _⟩ := (Flat.of_owns Hva.out).open
        have Haddr := Lib.hid (owns_addr Hva.out)
        clear hE Hbb Hva
        go_upto_region 11 with (go_at_call 50; refine Hc.out.mono ?_; rintro e w5 ⟨rfl, hin5, hg5⟩)
        have hf5 := Rd.fine_count Hf.out 10000
        have hn5 := Rd.count_le s 10000
        have Hd : Hid (readAs (s.count 10000).1 (s.count 10000).2 [] = decA s) := Lib.hid rfl
        obtain ⟨s1, hs1⟩ : ∃ s1, s1 = s := ⟨_, rfl⟩
        have Hs1 := Lib.hid hs1
        generalize s.count 10000 = cs at hin5 hf5 hn5 Hd ⊢
        obtain ⟨n1, s0⟩ := cs
        have Hin5 := Lib.hid (show InAt w5 p s0 from hin5)
        have Hf5 := Lib.hid (show s0.fine from hf5)
        have hn5' : n1 ≤ 10000 := hn5
        have hbt5 := hbt.grown hg5 (fun e => by simp at e; omega)
        have Hbx5 := Lib.hid (hbxr.grown hg5 (fun e => by simp at e; omega))
        have Hev5 := Lib.hid (show EvSl w5 (.slice ka acc.length ca) acc from Flat.grownO Hev.out hg5 (fun x hx e => by
          rcases Haddr.out with ⟨h1, _⟩ | ⟨g, h1⟩
          · rw [h1] at hx; cases hx
          · rw [h1] at hx
            cases hx
            have := Hown.out g (by rw [h1]; rfl)
            simp at e
            omega))
        have hz5 := hg5.size
        have HK5 := Lib.hid (HK.out.then hg5 (fun j hj => by cases hj; exact .inr (.inl rfl)))
        clear hin5 hf5 hn5 hg5 Hc Hin hbxc hs1 hbxr Hev hbt
        simp only []
        go_loopw [9] (fun t wr => ∃ (n : Nat) (s2 : Rd) (rs : List Ans) (vb : Value), t = .int .u64 n ∧ Hid (readAs n s2 rs = decA s1 ∧ s2.fine ∧ n + rs.length ≤ 10000) ∧ Hid (InAt wr p s2) ∧ Hid (wr.ownsRow w5.heap.size 75 6 vb rs.length (rs.flatMap ac)) ∧ Blk wr (bx + 1) #[.slice ka acc.length ca, vb] ∧ Hid (Keep (fun k => k = p ∨ k = bx + 1) w5 wr)) (fun t _ => (intOf t).toNat)
        case atStart => exact ⟨n1, s0, [], _, rfl, Lib.hid ⟨by rw [Hs1.out]; exact Hd.out, Hf5.out, by simpa using hn5'⟩, Hin5, Lib.hid (World.ownsRow_nil _ _ _ _), hbt5, Lib.hid (Keep.refl _ _)⟩
        case round =>
          rw [← Hs1.out] at HdE
          clear Hd Hin5 Hf5 hn5' hbt5 Hs1 HR Hf
          clear s
          obtain ⟨n, s, rs, vb, rfl, HR, Hin, Hva, hbt, HK⟩ := hrel
          have hbxr := HK.out.blk Hbx5.out (by simp; omega)
          have hbxc := hbxr.cell 0
          have hzr2 := HK.out.size
          have hf := HR.out.2.1
          have Hf := Lib.hid hf
          obtain ⟨bb, hbb⟩ : ∃ bb : Bool, bb = (decide (0 < n) && decide (s.err = 0)) := ⟨_, rfl⟩
          have Hbb := Lib.hid hbb
          have HE := Lib.hid (inErr s p wr Hin.out)
          clear hbb hf
          go_upto_region 11 with fail
          go_cut [56] from 50 to 99 (fun t wc => t = .bool bb ∧ wc = wr)
          case first =>
            by_cases hn : (0 : Int) < n
            · by_cases he : s.err = 0
              · go_wp2_with (go_at_call 51; refine HE.out.mono ?_; rintro e w6 ⟨rfl, rfl⟩)
                go_meet
                exact ⟨by rw [Hbb.out]; simp [he]; omega, rfl⟩
              · go_wp2_with (go_at_call 51; refine HE.out.mono ?_; rintro e w6 ⟨rfl, rfl⟩)
                go_meet
                exact ⟨by rw [Hbb.out]; simp [he], rfl⟩
            · go_wp2_with fail
              go_meet
              exact ⟨by rw [Hbb.out]; simp; omega, rfl⟩
          case rest =>
            obtain ⟨rfl, hwc⟩ := hcut
            have hwc := hwc.symm
            subst hwc
            clear HE
            cases bb with
            | true =>
              have hne : 0 < n ∧ s.err = 0 := by
                have := Hbb.out
                simp at this
                omega
              obtain ⟨hn, he⟩ := hne
              obtain ⟨n, rfl⟩ : ∃ m, n = m + 1 := ⟨n - 1, by omega⟩
              have He := Lib.hid he
              have hw0 : InAt wr.drew p s := Hin.out.below (Below.refl _ _).drew
              have hbx0 : Blk wr.drew bx _ := hbxr
              have hgr0 : wr.grownBy wr.drew (some p) := ⟨rfl, rfl, rfl, Nat.le_refl _, fun _ _ _ => rfl⟩
              clear he
              go_upto_region 13 with fail
              go_cut [10] from 50 to 99 (fun t wd => ∃ q, t = .pointer (some ⟨q, 0, none⟩) ∧ wr.heap.size ≤ q ∧ Hid (InAt wd p (s.after 6)) ∧ Blk wd q #[I (s.nth 0), I (s.nth 1), I (s.nth 2), I (s.nth 3), I (s.nth 4), I (s.nth 5)] ∧ Hid (wr.grownBy wd (some p)))
              case first =>
                have hin0 := hw0
                clear hw0 hbxc
                refine wp_region_T 11 (.take 0 (.take 2 (.take 4 (.take 7 (.fork 1 10 (.fork 3 10 (.fork 5 10 (.take 6 (.fork 8 10 (.take 9 (.move 10 .nil)) (.move 8 (.take 9 .nil)))) (.move 5 (.take 6 (.move 8 (.take 9 .nil))))) (.move 3 (.move 5 (.take 6 (.move 8 (.take 9 .nil)))))) (.move 1 (.move 3 (.move 5 (.take 6 (.move 8 (.take 9 .nil))))))))))) (fun w' => ∀ j, w'.cell? ⟨bx, j, none⟩ = (#[.pointer (some ⟨p, 0, none⟩)] : Array Value)[j]?) (by kernel_rfl) rfl (by kernel_rfl) hbx0.cell ?_
                iterate 4 (refine wpT_take rfl ?_ (by rfl) ?_ ?_; rotate_left; (intro w hSw; (try dsimp only at hSw); go_simp; try with_reducible rfl); (try simp only [Act.put, List.setIfInBounds_toArray, List.set_cons_zero, List.set_cons_succ]))
                generalize wr.drew = w0 at hin0 hbx0 hgr0 ⊢
                refine wpT_fork ?_ ?_
                · refine wpT_move rfl (fun K hK => ?_)
                  go_simp
                  go_at_call 48
                  refine (causeF (s.after 0) p bx _ hin0 (Rd.fine_after Hf.out 0) hbx0 (by omega)).mono ?_
                  rintro e w1 ⟨rfl, hin1, hg1⟩
                  rw [Rd.after_add] at hin1
                  have hbx1 := hbx0.grown hg1 (fun e => by simp at e; omega)
                  have hgr1 := hgr0.trans hg1
                  refine hK.out _ _ hbx1.cell ?_
                  clear hK K
                  (try simp only [Act.put, List.setIfInBounds_toArray, List.set_cons_zero, List.set_cons_succ])
                  refine wpT_fork ?_ ?_
                  · refine wpT_move rfl (fun K hK => ?_)
                    go_simp
                    go_at_call 49
                    refine (inInt (s.after 3) p _ hin1 (Rd.fine_after Hf.out 3)).mono ?_
                    rintro e w2 ⟨rfl, hin2, hg2⟩
                    rw [Rd.after_succ] at hin2
                    have hbx2 := hbx1.grown hg2 (fun e => by simp at e; omega)
                    have hgr2 := hgr1.trans hg2
                    refine hK.out _ _ hbx2.cell ?_
                    clear hK K
                    (try simp only [Act.put, List.setIfInBounds_toArray, List.set_cons_zero, List.set_cons_succ])
                    refine wpT_fork ?_ ?_
                    · refine wpT_move rfl (fun K hK => ?_)
                      go_simp
                      go_at_call 49
                      refine (inInt (s.after 4) p _ hin2 (Rd.fine_after Hf.out 4)).mono ?_
                      rintro e w3 ⟨rfl, hin3, hg3⟩
                      rw [Rd.after_succ] at hin3
                      have hbx3 := hbx2.grown hg3 (fun e => by simp at e; omega)
                      have hgr3 := hgr2.trans hg3
                      refine hK.out _ _ hbx3.cell ?_
                      clear hK K
                      (try simp only [Act.put, List.setIfInBounds_toArray, List.set_cons_zero, List.set_cons_succ])
                      (refine wpT_take rfl ?_ (by rfl) ?_ ?_; rotate_left; (intro w hSw; (try dsimp only at hSw); go_simp; try with_reducible rfl); (try simp only [Act.put, List.setIfInBounds_toArray, List.set_cons_zero, List.set_cons_succ]))
                      refine wpT_fork ?_ ?_
                      · refine wpT_move rfl (fun K hK => ?_)
                        go_simp
                        go_at_call 49
                        refine (inInt (s.after 5) p _ hin3 (Rd.fine_after Hf.out 5)).mono ?_
                        rintro e w4 ⟨rfl, hin4, hg4⟩
                        rw [Rd.after_succ] at hin4
                        have hbx4 := hbx3.grown hg4 (fun e => by simp at e; omega)
                        have hgr4 := hgr3.trans hg4
                        refine hK.out _ _ hbx4.cell ?_
                        clear hK K
                        (try simp only [Act.put, List.setIfInBounds_toArray, List.set_cons_zero, List.set_cons_succ])
                        (refine wpT_take rfl ?_ (by rfl) ?_ ?_; rotate_left; (intro w hSw; (try dsimp only at hSw); go_simp; try with_reducible rfl); (try simp only [Act.put, List.setIfInBounds_toArray, List.set_cons_zero, List.set_cons_succ]))
                        refine wpT_move rfl (fun K hK => ?_)
                        go_simp
                        have hq5 := Blk.new w4 #[I 0, I 0, I 0, I 0, I 0, I 0] 75
                        have hin5 := hin4.below ((Below.refl _ _).alloc (Nat.le_refl _) (.cells #[I 0, I 0, I 0, I 0, I 0, I 0] 75))
                        have hbx5 := hbx4.alloc (.cells #[I 0, I 0, I 0, I 0, I 0, I 0] 75)
                        have hgr5 := hgr4.trans (World.grownBy_alloc w4 (.cells #[I 0, I 0, I 0, I 0, I 0, I 0] 75) (some p))
                        have hzq := hgr4.size
                        obtain ⟨q, hqe⟩ : ∃ q, q = w4.heap.size := ⟨_, rfl⟩
                        rw [← hqe] at hq5 hzq ⊢
                        generalize w4.alloc (.cells #[I 0, I 0, I 0, I 0, I 0, I 0] 75) = w5 at hq5 hin5 hbx5 hgr5 ⊢
                        refine hK.out _ _ hbx5.cell ?_
                        clear hK K hqe
                        (try simp only [Act.put, List.setIfInBounds_toArray, List.set_cons_zero, List.set_cons_succ])
                        refine wpT_nil ?_
                        have hqq := hq5
                        have x0 := hqq.cell 0
                        have f0 := hqq.frozen 0
                        have x1 := hqq.cell 1
                        have f1 := hqq.frozen 1
                        have x2 := hqq.cell 2
                        have f2 := hqq.frozen 2
                        have x3 := hqq.cell 3
                        have f3 := hqq.frozen 3
                        have x4 := hqq.cell 4
                        have f4 := hqq.frozen 4
                        have x5 := hqq.cell 5
                        have f5 := hqq.frozen 5
                        go_wp2_with fail
                        refine NoPanic.normal ?_
                        go_wp2_with fail
                        go_meet
                        simp only [Rd.nth_eq, Rd.nth_add, Nat.zero_add]
                        obtain ⟨hbf, hgf⟩ := blk_set6 hqq (I (s.nth 0)) (I (s.nth 1)) (I (s.nth 2)) (I (s.nth 3)) (I (s.nth 4)) (I (s.nth 5))
                        exact ⟨q, rfl, hzq, Lib.hid (hin5.grown hgf (fun j hj => by cases hj; omega)), hbf, Lib.hid (World.grownBy.andThen hgr5 hgf (fun j hj => by cases hj; exact .inl hzq))⟩
                      · refine wpT_move rfl (fun K hK => ?_)
                        go_simp
                        have hq4 := Blk.new w3 #[I 0, I 0, I 0, I 0, I 0, I 0] 75
                        have hin4 := hin3.below ((Below.refl _ _).alloc (Nat.le_refl _) (.cells #[I 0, I 0, I 0, I 0, I 0, I 0] 75))
                        have hbx4 := hbx3.alloc (.cells #[I 0, I 0, I 0, I 0, I 0, I 0] 75)
                        have hgr4 := hgr3.trans (World.grownBy_alloc w3 (.cells #[I 0, I 0, I 0, I 0, I 0, I 0] 75) (some p))
                        have hzq := hgr3.size
                        obtain ⟨q, hqe⟩ : ∃ q, q = w3.heap.size := ⟨_, rfl⟩
                        rw [← hqe] at hq4 hzq ⊢
                        generalize w3.alloc (.cells #[I 0, I 0, I 0, I 0, I 0, I 0] 75) = w4 at hq4 hin4 hbx4 hgr4 ⊢
                        refine hK.out _ _ hbx4.cell ?_
                        clear hK K hqe
                        (try simp only [Act.put, List.setIfInBounds_toArray, List.set_cons_zero, List.set_cons_succ])
                        refine wpT_move rfl (fun K hK => ?_)
                        go_simp
                        go_at_call 49
                        refine (inInt (s.after 5) p _ hin4 (Rd.fine_after Hf.out 5)).mono ?_
                        rintro e w5 ⟨rfl, hin5, hg5⟩
                        rw [Rd.after_succ] at hin5
                        have hbx5 := hbx4.grown hg5 (fun e => by simp at e; omega)
                        have hgr5 := hgr4.trans hg5
                        have hq5 := hq4.grown hg5 (fun e => by simp at e; omega)
                        refine hK.out _ _ hbx5.cell ?_
                        clear hK K
                        (try simp only [Act.put, List.setIfInBounds_toArray, List.set_cons_zero, List.set_cons_succ])
                        (refine wpT_take rfl ?_ (by rfl) ?_ ?_; rotate_left; (intro w hSw; (try dsimp only at hSw); go_simp; try with_reducible rfl); (try simp only [Act.put, List.setIfInBounds_toArray, List.set_cons_zero, List.set_cons_succ]))
                        refine wpT_nil ?_
                        have hqq := hq5
                        have x0 := hqq.cell 0
                        have f0 := hqq.frozen 0
                        have x1 := hqq.cell 1
                        have f1 := hqq.frozen 1
                        have x2 := hqq.cell 2
                        have f2 := hqq.frozen 2
                        have x3 := hqq.cell 3
                        have f3 := hqq.frozen 3
                        have x4 := hqq.cell 4
                        have f4 := hqq.frozen 4
                        have x5 := hqq.cell 5
                        have f5 := hqq.frozen 5
                        go_wp2_with fail
                        refine NoPanic.normal ?_
                        go_wp2_with fail
                        go_meet
                        simp only [Rd.nth_eq, Rd.nth_add, Nat.zero_add]
                        obtain ⟨hbf, hgf⟩ := blk_set6 hqq (I (s.nth 0)) (I (s.nth 1)) (I (s.nth 2)) (I (s.nth 3)) (I (s.nth 4)) (I (s.nth 5))
                        exact ⟨q, rfl, hzq, Lib.hid (hin5.grown hgf (fun j hj => by cases hj; omega)), hbf, Lib.hid (World.grownBy.andThen hgr5 hgf (fun j hj => by cases hj; exact .inl hzq))⟩
                    · refine wpT_move rfl (fun K hK => ?_)
                      go_simp
                      have hq3 := Blk.new w2 #[I 0, I 0, I 0, I 0, I 0, I 0] 75
                      have hin3 := hin2.below ((Below.refl _ _).alloc (Nat.le_refl _) (.cells #[I 0, I 0, I 0, I 0, I 0, I 0] 75))
                      have hbx3 := hbx2.alloc (.cells #[I 0, I 0, I 0, I 0, I 0, I 0] 75)
                      have hgr3 := hgr2.trans (World.grownBy_alloc w2 (.cells #[I 0, I 0, I 0, I 0, I 0, I 0] 75) (some p))
                      have hzq := hgr2.size
                      obtain ⟨q, hqe⟩ : ∃ q, q = w2.heap.size := ⟨_, rfl⟩
                      rw [← hqe] at hq3 hzq ⊢
                      generalize w2.alloc (.cells #[I 0, I 0, I 0, I 0, I 0, I 0] 75) = w3 at hq3 hin3 hbx3 hgr3 ⊢
                      refine hK.out _ _ hbx3.cell ?_
                      clear hK K hqe
                      (try simp only [Act.put, List.setIfInBounds_toArray, List.set_cons_zero, List.set_cons_succ])
                      refine wpT_move rfl (fun K hK => ?_)
                      go_simp
                      go_at_call 49
                      refine (inInt (s.after 4) p _ hin3 (Rd.fine_after Hf.out 4)).mono ?_
                      rintro e w4 ⟨rfl, hin4, hg4⟩
                      rw [Rd.after_succ] at hin4
                      have hbx4 := hbx3.grown hg4 (fun e => by simp at e; omega)
                      have hgr4 := hgr3.trans hg4
                      have hq4 := hq3.grown hg4 (fun e => by simp at e; omega)
                      refine hK.out _ _ hbx4.cell ?_
                      clear hK K
                      (try simp only [Act.put, List.setIfInBounds_toArray, List.set_cons_zero, List.set_cons_succ])
                      (refine wpT_take rfl ?_ (by rfl) ?_ ?_; rotate_left; (intro w hSw; (try dsimp only at hSw); go_simp; try with_reducible rfl); (try simp only [Act.put, List.setIfInBounds_toArray, List.set_cons_zero, List.set_cons_succ]))
                      refine wpT_move rfl (fun K hK => ?_)
                      go_simp
                      go_at_call 49
                      refine (inInt (s.after 5) p _ hin4 (Rd.fine_after Hf.out 5)).mono ?_
                      rintro e w5 ⟨rfl, hin5, hg5⟩
                      rw [Rd.after_succ] at hin5
                      have hbx5 := hbx4.grown hg5 (fun e => by simp at e; omega)
                      have hgr5 := hgr4.trans hg5
                      have hq5 := hq4.grown hg5 (fun e => by simp at e; omega)
                      refine hK.out _ _ hbx5.cell ?_
                      clear hK K
                      (try simp only [Act.put, List.setIfInBounds_toArray, List.set_cons_zero, List.set_cons_succ])
                      (refine wpT_take rfl ?_ (by rfl) ?_ ?_; rotate_left; (intro w hSw; (try dsimp only at hSw); go_simp; try with_reducible rfl); (try simp only [Act.put, List.setIfInBounds_toArray, List.set_cons_zero, List.set_cons_succ]))
                      refine wpT_nil ?_
                      have hqq := hq5
                      have x0 := hqq.cell 0
                      have f0 := hqq.frozen 0
                      have x1 := hqq.cell 1
                      have f1 := hqq.frozen 1
                      have x2 := hqq.cell 2
                      have f2 := hqq.frozen 2
                      have x3 := hqq.cell 3
                      have f3 := hqq.frozen 3
                      have x4 := hqq.cell 4
                      have f4 := hqq.frozen 4
                      have x5 := hqq.cell 5
                      have f5 := hqq.frozen 5
                      go_wp2_with fail
                      refine NoPanic.normal ?_
                      go_wp2_with fail
                      go_meet
                      simp only [Rd.nth_eq, Rd.nth_add, Nat.zero_add]
                      obtain ⟨hbf, hgf⟩ := blk_set6 hqq (I (s.nth 0)) (I (s.nth 1)) (I (s.nth 2)) (I (s.nth 3)) (I (s.nth 4)) (I (s.nth 5))
                      exact ⟨q, rfl, hzq, Lib.hid (hin5.grown hgf (fun j hj => by cases hj; omega)), hbf, Lib.hid (World.grownBy.andThen hgr5 hgf (fun j hj => by cases hj; exact .inl hzq))⟩
                  · refine wpT_move rfl (fun K hK => ?_)
                    go_simp
                    have hq2 := Blk.new w1 #[I 0, I 0, I 0, I 0, I 0, I 0] 75
                    have hin2 := hin1.below ((Below.refl _ _).alloc (Nat.le_refl _) (.cells #[I 0, I 0, I 0, I 0, I 0, I 0] 75))
                    have hbx2 := hbx1.alloc (.cells #[I 0, I 0, I 0, I 0, I 0, I 0] 75)
                    have hgr2 := hgr1.trans (World.grownBy_alloc w1 (.cells #[I 0, I 0, I 0, I 0, I 0, I 0] 75) (some p))
                    have hzq := hgr1.size
                    obtain ⟨q, hqe⟩ : ∃ q, q = w1.heap.size := ⟨_, rfl⟩
                    rw [← hqe] at hq2 hzq ⊢
                    generalize w1.alloc (.cells #[I 0, I 0, I 0, I 0, I 0, I 0] 75) = w2 at hq2 hin2 hbx2 hgr2 ⊢
                    refine hK.out _ _ hbx2.cell ?_
                    clear hK K hqe
                    (try simp only [Act.put, List.setIfInBounds_toArray, List.set_cons_zero, List.set_cons_succ])
                    refine wpT_move rfl (fun K hK => ?_)
                    go_simp
                    go_at_call 49
                    refine (inInt (s.after 3) p _ hin2 (Rd.fine_after Hf.out 3)).mono ?_
                    rintro e w3 ⟨rfl, hin3, hg3⟩
                    rw [Rd.after_succ] at hin3
                    have hbx3 := hbx2.grown hg3 (fun e => by simp at e; omega)
                    have hgr3 := hgr2.trans hg3
                    have hq3 := hq2.grown hg3 (fun e => by simp at e; omega)
                    refine hK.out _ _ hbx3.cell ?_
                    clear hK K
                    (try simp only [Act.put, List.setIfInBounds_toArray, List.set_cons_zero, List.set_cons_succ])
                    refine wpT_move rfl (fun K hK => ?_)
                    go_simp
                    go_at_call 49
                    refine (inInt (s.after 4) p _ hin3 (Rd.fine_after Hf.out 4)).mono ?_
                    rintro e w4 ⟨rfl, hin4, hg4⟩
                    rw [Rd.after_succ] at hin4
                    have hbx4 := hbx3.grown hg4 (fun e => by simp at e; omega)
                    have hgr4 := hgr3.trans hg4
                    have hq4 := hq3.grown hg4 (fun e => by simp at e; omega)
                    refine hK.out _ _ hbx4.cell ?_
                    clear hK K
                    (try simp only [Act.put, List.setIfInBounds_toArray, List.set_cons_zero, List.set_cons_succ])
                    (refine wpT_take rfl ?_ (by rfl) ?_ ?_; rotate_left; (intro w hSw; (try dsimp only at hSw); go_simp; try with_reducible rfl); (try simp only [Act.put, List.setIfInBounds_toArray, List.set_cons_zero, List.set_cons_succ]))
                    refine wpT_move rfl (fun K hK => ?_)
                    go_simp
                    go_at_call 49
                    refine (inInt (s.after 5) p _ hin4 (Rd.fine_after Hf.out 5)).mono ?_
                    rintro e w5 ⟨rfl, hin5, hg5⟩
                    rw [Rd.after_succ] at hin5
                    have hbx5 := hbx4.grown hg5 (fun e => by simp at e; omega)
                    have hgr5 := hgr4.trans hg5
                    have hq5 := hq4.grown hg5 (fun e => by simp at e; omega)
                    refine hK.out _ _ hbx5.cell ?_
                    clear hK K
                    (try simp only [Act.put, List.setIfInBounds_toArray, List.set_cons_zero, List.set_cons_succ])
                    (refine wpT_take rfl ?_ (by rfl) ?_ ?_; rotate_left; (intro w hSw; (try dsimp only at hSw); go_simp; try with_reducible rfl); (try simp only [Act.put, List.setIfInBounds_toArray, List.set_cons_zero, List.set_cons_succ]))
                    refine wpT_nil ?_
                    have hqq := hq5
                    have x0 := hqq.cell 0
                    have f0 := hqq.frozen 0
                    have x1 := hqq.cell 1
                    have f1 := hqq.frozen 1
                    have x2 := hqq.cell 2
                    have f2 := hqq.frozen 2
                    have x3 := hqq.cell 3
                    have f3 := hqq.frozen 3
                    have x4 := hqq.cell 4
                    have f4 := hqq.frozen 4
                    have x5 := hqq.cell 5
                    have f5 := hqq.frozen 5
                    go_wp2_with fail
                    refine NoPanic.normal ?_
                    go_wp2_with fail
                    go_meet
                    simp only [Rd.nth_eq, Rd.nth_add, Nat.zero_add]
                    obtain ⟨hbf, hgf⟩ := blk_set6 hqq (I (s.nth 0)) (I (s.nth 1)) (I (s.nth 2)) (I (s.nth 3)) (I (s.nth 4)) (I (s.nth 5))
                    exact ⟨q, rfl, hzq, Lib.hid (hin5.grown hgf (fun j hj => by cases hj; omega)), hbf, Lib.hid (World.grownBy.andThen hgr5 hgf (fun j hj => by cases hj; exact .inl hzq))⟩
                · refine wpT_move rfl (fun K hK => ?_)
                  go_simp
                  have hq1 := Blk.new w0 #[I 0, I 0, I 0, I 0, I 0, I 0] 75
                  have hin1 := hin0.below ((Below.refl _ _).alloc (Nat.le_refl _) (.cells #[I 0, I 0, I 0, I 0, I 0, I 0] 75))
                  have hbx1 := hbx0.alloc (.cells #[I 0, I 0, I 0, I 0, I 0, I 0] 75)
                  have hgr1 := hgr0.trans (World.grownBy_alloc w0 (.cells #[I 0, I 0, I 0, I 0, I 0, I 0] 75) (some p))
                  have hzq := hgr0.size
                  obtain ⟨q, hqe⟩ : ∃ q, q = w0.heap.size := ⟨_, rfl⟩
                  rw [← hqe] at hq1 hzq ⊢
                  generalize w0.alloc (.cells #[I 0, I 0, I 0, I 0, I 0, I 0] 75) = w1 at hq1 hin1 hbx1 hgr1 ⊢
                  refine hK.out _ _ hbx1.cell ?_
                  clear hK K hqe
                  (try simp only [Act.put, List.setIfInBounds_toArray, List.set_cons_zero, List.set_cons_succ])
                  refine wpT_move rfl (fun K hK => ?_)
                  go_simp
                  go_at_call 48
                  refine (causeF (s.after 0) p bx _ hin1 (Rd.fine_after Hf.out 0) hbx1 (by omega)).mono ?_
                  rintro e w2 ⟨rfl, hin2, hg2⟩
                  rw [Rd.after_add] at hin2
                  have hbx2 := hbx1.grown hg2 (fun e => by simp at e; omega)
                  have hgr2 := hgr1.trans hg2
                  have hq2 := hq1.grown hg2 (fun e => by simp at e; omega)
                  refine hK.out _ _ hbx2.cell ?_
                  clear hK K
                  (try simp only [Act.put, List.setIfInBounds_toArray, List.set_cons_zero, List.set_cons_succ])
                  refine wpT_move rfl (fun K hK => ?_)
                  go_simp
                  go_at_call 49
                  refine (inInt (s.after 3) p _ hin2 (Rd.fine_after Hf.out 3)).mono ?_
                  rintro e w3 ⟨rfl, hin3, hg3⟩
                  rw [Rd.after_succ] at hin3
                  have hbx3 := hbx2.grown hg3 (fun e => by simp at e; omega)
                  have hgr3 := hgr2.trans hg3
                  have hq3 := hq2.grown hg3 (fun e => by simp at e; omega)
                  refine hK.out _ _ hbx3.cell ?_
                  clear hK K
                  (try simp only [Act.put, List.setIfInBounds_toArray, List.set_cons_zero, List.set_cons_succ])
                  refine wpT_move rfl (fun K hK => ?_)
                  go_simp
                  go_at_call 49
                  refine (inInt (s.after 4) p _ hin3 (Rd.fine_after Hf.out 4)).mono ?_
                  rintro e w4 ⟨rfl, hin4, hg4⟩
                  rw [Rd.after_succ] at hin4
                  have hbx4 := hbx3.grown hg4 (fun e => by simp at e; omega)
                  have hgr4 := hgr3.trans hg4
                  have hq4 := hq3.grown hg4 (fun e => by simp at e; omega)
                  refine hK.out _ _ hbx4.cell ?_
                  clear hK K
                  (try simp only [Act.put, List.setIfInBounds_toArray, List.set_cons_zero, List.set_cons_succ])
                  (refine wpT_take rfl ?_ (by rfl) ?_ ?_; rotate_left; (intro w hSw; (try dsimp only at hSw); go_simp; try with_reducible rfl); (try simp only [Act.put, List.setIfInBounds_toArray, List.set_cons_zero, List.set_cons_succ]))
                  refine wpT_move rfl (fun K hK => ?_)
                  go_simp
                  go_at_call 49
                  refine (inInt (s.after 5) p _ hin4 (Rd.fine_after Hf.out 5)).mono ?_
                  rintro e w5 ⟨rfl, hin5, hg5⟩
                  rw [Rd.after_succ] at hin5
                  have hbx5 := hbx4.grown hg5 (fun e => by simp at e; omega)
                  have hgr5 := hgr4.trans hg5
                  have hq5 := hq4.grown hg5 (fun e => by simp at e; omega)
                  refine hK.out _ _ hbx5.cell ?_
                  clear hK K
                  (try simp only [Act.put, List.setIfInBounds_toArray, List.set_cons_zero, List.set_cons_succ])
                  (refine wpT_take rfl ?_ (by rfl) ?_ ?_; rotate_left; (intro w hSw; (try dsimp only at hSw); go_simp; try with_reducible rfl); (try simp only [Act.put, List.setIfInBounds_toArray, List.set_cons_zero, List.set_cons_succ]))
                  refine wpT_nil ?_
                  have hqq := hq5
                  have x0 := hqq.cell 0
                  have f0 := hqq.frozen 0
                  have x1 := hqq.cell 1
                  have f1 := hqq.frozen 1
                  have x2 := hqq.cell 2
                  have f2 := hqq.frozen 2
                  have x3 := hqq.cell 3
                  have f3 := hqq.frozen 3
                  have x4 := hqq.cell 4
                  have f4 := hqq.frozen 4
                  have x5 := hqq.cell 5
                  have f5 := hqq.frozen 5
                  go_wp2_with fail
                  refine NoPanic.normal ?_
                  go_wp2_with fail
                  go_meet
                  simp only [Rd.nth_eq, Rd.nth_add, Nat.zero_add]
                  obtain ⟨hbf, hgf⟩ := blk_set6 hqq (I (s.nth 0)) (I (s.nth 1)) (I (s.nth 2)) (I (s.nth 3)) (I (s.nth 4)) (I (s.nth 5))
                  exact ⟨q, rfl, hzq, Lib.hid (hin5.grown hgf (fun j hj => by cases hj; omega)), hbf, Lib.hid (World.grownBy.andThen hgr5 hgf (fun j hj => by cases hj; exact .inl hzq))⟩
              case rest =>
                obtain ⟨q, rfl, hq, Hin6, hbq, Hg6⟩ := hcut
                obtain ⟨wx, rfl⟩ : ∃ wx, wx = wc := ⟨_, rfl⟩
                clear hw0 hbx0 hgr0 Hin
                have Hbx6 := Lib.hid (hbxr.grown Hg6.out (fun e => by simp at e; omega))
                have hbt6 := hbt.grown Hg6.out (fun e => by simp at e; omega)
                have Hva6 := Lib.hid (Hva.out.kept Hg6.out (by
                  cases hv : vb.ownBlock with
                  | none => exact .inl rfl
                  | some g => exact .inr (fun e => by have := (Hva.out.lt g hv).1; simp at e; omega)))
                have Hown2 := Lib.hid (show ∀ g, vb.ownBlock = some g → w5.heap.size ≤ g from fun g hv => (Hva.out.lt g hv).1)
                have Hk6 := Lib.hid (HK.out.then Hg6.out (fun j hj => by cases hj; exact .inr (.inl rfl)))
                have hrl : rs.length ≤ 10000 := by have := HR.out.2.2; omega
                have hzc := Hg6.out.size
                obtain ⟨kb, cb, rfl, _⟩ := (Flat.of_owns Hva6.out).open
                obtain ⟨L, hL⟩ : ∃ L : Nat, L = rs.length := ⟨_, rfl⟩
                rw [← hL] at hbt6 hrl
                have HL := Lib.hid hL
                clear hL
                have b1 := hbt6.cell 1
                have Hq := Lib.hid hbq
                have hql := hbq.lt
                have Hbt6 := Lib.hid hbt6
                clear hbxr hbxc hbt Hva HK hbq hbt6
                go_upto_region 15 with fail
                go_cut [86] from 50 to 99 (fun t wd => t = .bool (!behind rs s.ans.q) ∧ Below wx.heap.size wx wd)
                case first =>
                  rcases snoc_cases rs with rfl | ⟨ys, a, rfl⟩
                  · obtain rfl : L = 0 := HL.out
                    refine wp_region_ordN 15 [(0, true), (1, true), (2, true), (3, true), (4, true), (5, true), (6, true), (7, true), (8, true), (9, true), (10, true), (11, true), (12, true), (13, true), (14, true)] (fun _ => True) (by kernel_rfl) rfl rfl (by kernel_rfl) trivial ?_
                    iterate 15 (first | (refine wpOrd_take ?_ (by rfl) ?_ ?_; rotate_left; (intro w hSw; (try dsimp only at hSw); go_simp; try with_reducible rfl); (try simp only [Act.put, List.setIfInBounds_toArray, List.set_cons_zero, List.set_cons_succ])) | (refine wpOrd_leave (by rfl) ?_; (try simp only [Act.put, List.setIfInBounds_toArray, List.set_cons_zero, List.set_cons_succ])))
                    refine wpOrd_nil ?_
                    go_wp2_with fail
                    refine NoPanic.normal ?_
                    go_wp2_with fail
                    go_meet
                    exact ⟨rfl, (Below.refl _ _).drew⟩
                  · obtain ⟨m, hm⟩ : ∃ m, m = ys.length := ⟨_, rfl⟩
                    have hlen : (ys ++ [a]).length = m + 1 := by rw [hm]; simp
                    obtain rfl : L = m + 1 := by rw [HL.out, hlen]
                    have hbe : behind (ys ++ [a]) s.ans.q = decide (a.q.cmp s.ans.q < 0) := by simp [behind]
                    have hat : (ys ++ [a])[m]? = some a := by rw [hm]; simp
                    have hva7 := Hva6.out
                    rw [hlen] at hva7
                    obtain ⟨gb, ob, rfl, hr⟩ := AnsSl.at (show AnsSl wx (.slice kb (m + 1) cb) (ys ++ [a]) from by
                      have := Flat.of_owns hva7
                      unfold AnsSl
                      rwa [hlen]) hat
                    have x0 : wx.cell? ⟨gb, ob + m * 6, none⟩ = _ := hr 0 _ rfl
                    have x1 := hr 1 _ rfl
                    have x2 := hr 2 _ rfl
                    have x3 := hr 3 _ rfl
                    have x4 := hr 4 _ rfl
                    have hgl : gb < wx.heap.size := by simpa using World.block_lt_of_cell? _ _ x0
                    have hml : m ≤ 10000 := by omega
                    have S0 : (∀ j, wx.cell? ⟨bx + 1, j, none⟩ = (#[.slice ka acc.length ca, .slice (some ⟨gb, ob, none⟩) (m + 1) cb] : Array Value)[j]?) ∧ (∀ j, wx.cell? ⟨q, j, none⟩ = (#[I (s.nth 0), I (s.nth 1), I (s.nth 2), I (s.nth 3), I (s.nth 4), I (s.nth 5)] : Array Value)[j]?) ∧ (∀ o, wx.cell? ⟨gb, o, none⟩ = wx.cell? ⟨gb, o, none⟩) := ⟨Hbt6.out.cell, Hq.out.cell, fun _ => rfl⟩
                    have hc1 : ((m + 1 : Nat) : Int) = (m : Int) + 1 := by omega
                    have g1 : (0 : Int) < (m : Int) + 1 := by omega
                    have g2 : (m : Int) + 1 - 1 = m := by omega
                    have g3 : (0 : Int) ≤ m := by omega
                    have g4 : (m : Int) < (m : Int) + 1 := by omega
                    have g5 : decide ((0 : Int) < (m : Int) + 1) = true := decide_eq_true g1
                    have g6 : IntKind.i64.wrap (m : Int) = m := by rw [IntKind.wrap_i64]; omega
                    clear hr hva7 hm hlen hrl hat
                    refine wp_region_ordN 15 [(0, true), (1, true), (2, true), (3, true), (4, true), (5, true), (6, true), (7, true), (8, true), (9, true), (10, true), (11, true), (12, false), (13, true), (14, true)] (fun w' => (∀ j, w'.cell? ⟨bx + 1, j, none⟩ = (#[.slice ka acc.length ca, .slice (some ⟨gb, ob, none⟩) (m + 1) cb] : Array Value)[j]?) ∧ (∀ j, w'.cell? ⟨q, j, none⟩ = (#[I (s.nth 0), I (s.nth 1), I (s.nth 2), I (s.nth 3), I (s.nth 4), I (s.nth 5)] : Array Value)[j]?) ∧ (∀ o, w'.cell? ⟨gb, o, none⟩ = wx.cell? ⟨gb, o, none⟩)) (by kernel_rfl) rfl rfl (by kernel_rfl) S0 ?_
                    iterate 12 (refine wpOrd_take ?_ (by rfl) ?_ ?_; rotate_left; (intro w hSw; (try dsimp only at hSw); go_simp; try with_reducible rfl); (try simp only [Act.put, List.setIfInBounds_toArray, List.set_cons_zero, List.set_cons_succ]))
                    refine wpOrd_move (fun K hK => ?_)
                    go_simp
                    go_at_call 39
                    refine (compareQuestion _ _ _ _ _ _ _ _ _ _ _).mono ?_
                    rintro e w6 ⟨rfl, hB6d⟩
                    have hB6 : Below wx.heap.size wx w6 := ⟨hB6d.os, hB6d.tape, hB6d.output, hB6d.size, hB6d.block⟩
                    refine hK.out _ _ ⟨(Hbt6.out.kept hB6 (by omega)).cell, (Hq.out.kept hB6 hql).cell, fun o => bcell hB6 gb o hgl⟩ ?_
                    clear hK K
                    (try simp only [Act.put, List.setIfInBounds_toArray, List.set_cons_zero, List.set_cons_succ])
                    iterate 2 (refine wpOrd_take ?_ (by rfl) ?_ ?_; rotate_left; (intro w hSw; (try dsimp only at hSw); go_simp; try with_reducible rfl); (try simp only [Act.put, List.setIfInBounds_toArray, List.set_cons_zero, List.set_cons_succ]))
                    refine wpOrd_nil ?_
                    go_wp2_with fail
                    refine NoPanic.normal ?_
                    go_wp2_with fail
                    go_meet
                    exact ⟨by rw [hbe]; exact congrArg Value.bool (ge_not_lt _), hB6⟩
                case rest =>
                  obtain ⟨rfl, hB8⟩ := hcut
                  obtain ⟨wy, rfl⟩ : ∃ wy, wy = wc := ⟨_, rfl⟩
                  have hin8 := Hin6.out.below hB8
                  have hbx8 := Hbx6.out.kept hB8 (by omega)
                  have hbt8 := Hbt6.out.kept hB8 (by omega)
                  have hq8 := Hq.out.kept hB8 hql
                  have hva8 := owns_below Hva6.out hB8
                  have hk8 := Hk6.out.then (grown_below hB8 none) (fun j hj => by cases hj)
                  have hz8 := hB8.size
                  have Hin8 := Lib.hid hin8
                  have Hbt8 := Lib.hid hbt8
                  have Hq8 := Lib.hid hq8
                  have Hva8 := Lib.hid hva8
                  have Hk8 := Lib.hid hk8
                  have Hbx8 := Lib.hid hbx8
                  have xb8 := hbx8.cell 0
                  clear hin8 hbx8 hbt8 hq8 hva8 hk8 hB8 Hin6 Hbx6 Hbt6 Hq Hva6 Hk6 b1 Hg6
                  go_upto_if 86 with fail
                  go_cut [] from 50 to 99 (fun wd => InAt wd p (if behind rs s.ans.q then s.after 6 else (s.after 6).fail 5) ∧ wy.grownBy wd (some p))
                  case first =>
                    cases hb : behind rs s.ans.q with
                    | true =>
                      go_wp2_with fail
                      go_meet
                      exact ⟨by rw [hb, if_pos rfl]; exact Hin8.out, World.grownBy.refl _ _⟩
                    | false =>
                      go_wp2_with (go_at_call 52; refine (inFail _ p 5 wy Hin8.out (Rd.fine_after Hf.out 6)).mono ?_; rintro e w9 ⟨rfl, h9, g9⟩)
                      go_meet
                      exact ⟨by rw [hb, if_neg (by simp)]; exact h9, g9⟩
                  case rest =>
                    obtain ⟨hin9, hg9⟩ := hcut
                    obtain ⟨wz, rfl⟩ : ∃ wz, wz = wc := ⟨_, rfl⟩
                    have hf9 : (if behind rs s.ans.q then s.after 6 else (s.after 6).fail 5).fine := by
                      split
                      · exact Rd.fine_after Hf.out 6
                      · exact Rd.fine_fail (Rd.fine_after Hf.out 6) (by omega) (by unfold InI64; omega)
                    have hnx : ansNext rs s = if s.nth 5 < 1 then (if behind rs s.ans.q then s.after 6 else (s.after 6).fail 5).fail 6 else (if behind rs s.ans.q then s.after 6 else (s.after 6).fail 5) := rfl
                    generalize (if behind rs s.ans.q then s.after 6 else (s.after 6).fail 5) = s3 at hin9 hf9 hnx
                    have hbx9 := Hbx8.out.grown hg9 (fun e => by simp at e; omega)
                    have hq9 := Hq8.out.grown hg9 (fun e => by simp at e; omega)
                    have Hin9 := Lib.hid hin9
                    have Hq9 := Lib.hid hq9
                    have Hf9 := Lib.hid hf9
                    have Hnx := Lib.hid hnx
                    have xb9 := hbx9.cell 0
                    have xq9 := hq9.cell 5
                    have Hg9 := Lib.hid hg9
                    have hz9 := hg9.size
                    clear hin9 hf9 hnx hbx9 hq9 hg9 xb8 Hin8
                    go_upto_if 91 with fail
                    go_cut [] from 50 to 99 (fun wd => InAt wd p (ansNext rs s) ∧ wy.grownBy wd (some p))
                    case first =>
                      by_cases hn1 : s.nth 5 < 1
                      · go_wp2_with (go_at_call 52; refine (inFail _ p 6 wz Hin9.out Hf9.out).mono ?_; rintro e w9 ⟨rfl, h9, g9⟩)
                        go_meet
                        exact ⟨by rw [Hnx.out, if_pos hn1]; exact h9, Hg9.out.trans g9⟩
                      · go_wp2_with fail
                        go_meet
                        exact ⟨by rw [Hnx.out, if_neg (by omega)]; exact Hin9.out, Hg9.out⟩
                    case rest =>
                      obtain ⟨hin10, hg10⟩ := hcut
                      obtain ⟨wq, rfl⟩ : ∃ wq, wq = wc := ⟨_, rfl⟩
                      have hf10 : (ansNext rs s).fine := fine_ansNext rs Hf.out
                      have hva10 := Hva8.out.kept hg10 (by
                        cases hv : (Value.slice kb rs.length cb).ownBlock with
                        | none => exact .inl rfl
                        | some g => exact .inr (fun e => by have := (Hva8.out.lt g hv).1; simp at e; omega))
                      have hown := Hown2.out
                      rw [← HL.out] at hown hva10
                      have hbt10 := Hbt8.out.grown hg10 (fun e => by simp at e; omega)
                      have hk10 := Hk8.out.then hg10 (fun j hj => by cases hj; exact .inr (.inl rfl))
                      have hq10 := Hq8.out.grown hg10 (fun e => by simp at e; omega)
                      have b1 := hbt10.cell 1
                      have HQ := Lib.hid (blk_range hq10 0 [I (s.nth 0), I (s.nth 1), I (s.nth 2), I (s.nth 3), I (s.nth 4), I (s.nth 5)] (fun j v hv => by simpa using hv))
                      have Hva10 := Lib.hid hva10
                      have Hf10 := Lib.hid hf10
                      have hz10 := hg10.size
                      clear hva10 hq10 hg10 hf10 Hva8 Hbt8 Hq8 Hk8 Hbx8 Hin9 Hq9 Hf9 Hnx xb9 xq9 Hg9
                      go_upto_region 12 with (first | ((with_reducible refine wpList_load75 rfl _ rfl q 0 [I (s.nth 0), I (s.nth 1), I (s.nth 2), I (s.nth 3), I (s.nth 4), I (s.nth 5)] rfl ?_ ?_ ?_); (rfl); (exact HQ.out)) | (at_builtin; go_must (refine wpList_appB rfl _ _ 24 rfl 75 _ 6 48 Try.underlying24 info75 rfl (by omega) (by omega) w5.heap.size (.slice kb L cb) L _ rfl (Hva10.out.alloc _) wq.heap.size 1 1 #[I (s.nth 0), I (s.nth 1), I (s.nth 2), I (s.nth 3), I (s.nth 4), I (s.nth 5)] 75 rfl (heap_alloc_new _ _) rfl rfl (by omega) (by omega) (by simp; omega) ?_); intro g6 cap6 w6 hg6a hg6b hg6c ho6 hgr6 hB6; have hbt6 := (hbt10.alloc (.cells #[I (s.nth 0), I (s.nth 1), I (s.nth 2), I (s.nth 3), I (s.nth 4), I (s.nth 5)] 75)).grown hgr6 (fun e => by have := hown _ e; omega); have d0 := hbt6.cell 1; have fd0 := hbt6.frozen 1))
                      have hin6 := (hin10.below ((Below.refl _ _).alloc (Nat.le_refl _) (.cells #[I (s.nth 0), I (s.nth 1), I (s.nth 2), I (s.nth 3), I (s.nth 4), I (s.nth 5)] 75))).grown hgr6 (fun j hj => by have := hown _ hj; omega)
                      have hk6 := (hk10.then (World.grownBy_alloc wq (.cells #[I (s.nth 0), I (s.nth 1), I (s.nth 2), I (s.nth 3), I (s.nth 4), I (s.nth 5)] 75) none) (fun j hj => by cases hj)).then hgr6 (fun j hj => .inl (hown j hj))
                      have hS := grown_set' w6 ⟨bx + 1, 1, none⟩ (.slice (some ⟨g6, 0, none⟩) (L + 1) cap6)
                      have hin7 := hin6.grown hS (fun j hj => by cases hj; show p < bx + 1; omega)
                      have hk7 := hk6.then hS (fun j hj => by cases hj; exact .inr (.inr rfl))
                      have hbt7 := hbt6.set 1 (.slice (some ⟨g6, 0, none⟩) (L + 1) cap6)
                      have ho7 := ho6.kept hS (.inr (by simp [Value.ownBlock]; omega))
                      have Hin7 := Lib.hid hin7
                      have Hk7 := Lib.hid hk7
                      have Hbt7 := Lib.hid hbt7
                      have Ho7 := Lib.hid ho7
                      have hwn : IntKind.u64.wrap (n : Int) = n := by have := HR.out.2.2; rw [IntKind.wrap_u64]; omega
                      clear hin10 hin6 hin7 hk10 hk6 hk7 hS hbt10 hbt6 hbt7 ho6 ho7 hgr6 hB6 d0 fd0 Hva10 b1
                      go_wp2_with fail
                      go_roundw
                      case rel => exact ⟨n, ansNext rs s, rs ++ [s.ans], _, by go_num, Lib.hid ⟨by rw [← readAs_next Hf.out He.out]; exact HR.out.1, Hf10.out, by have := HR.out.2.2; simp; omega⟩, Hin7, Lib.hid (by rw [List.length_append, List.flatMap_append, ← HL.out]; exact Ho7.out), Hbt7.out, Hk7⟩
                      case measure => simp [intOf]
            | false =>
              have hA : decA s1 = (rs, s) := by rw [← HR.out.1, readAs_stop Hf.out Hbb.out.symm]
              have hdp : decP b = if s.stop = 0 then ((acc, rs), 0) else (([], []), s.stop) := by
                unfold decP
                rw [HdE.out]
                simp only []
                rw [hA]
              have HX := Lib.hid (inEnd s p wr Hin.out Hf.out)
              have hres := HK.out.blk (HK5.out.blk Hra.out (by simp; omega)) (by simp; omega)
              have hBf := (HBw.out.trans (HK5.out.below (B := w.heap.size) (by omega) (fun k hk => by rcases hk with rfl | rfl <;> omega))).trans (HK.out.below (B := w.heap.size) (by omega) (fun k hk => by rcases hk with rfl | rfl <;> omega))
              have hevF : EvSl wr (.slice ka acc.length ca) acc := Flat.keep Hev5.out HK.out (fun x hx e => by
                rcases Haddr.out with ⟨h1, _⟩ | ⟨g, h1⟩
                · rw [h1] at hx; cases hx
                · rw [h1] at hx
                  cases hx
                  have := Hown.out g (by rw [h1]; rfl)
                  simp at e
                  omega)
              obtain ⟨kb, cb, rfl, _⟩ := (Flat.of_owns Hva.out).open
              have hanF : AnsSl wr (.slice kb rs.length cb) rs := Flat.of_owns Hva.out
              have hkaw : ∀ x, ka = some x → x.block ≠ w.heap.size := fun x hx e => by
                rcases Haddr.out with ⟨h1, _⟩ | ⟨g, h1⟩
                · rw [h1] at hx; cases hx
                · rw [h1] at hx
                  cases hx
                  have := Hown.out g (by rw [h1]; rfl)
                  simp at e
                  omega
              have hkbw : ∀ x, kb = some x → x.block ≠ w.heap.size := fun x hx e => by
                rcases owns_addr Hva.out with ⟨h1, _⟩ | ⟨g, h1⟩
                · rw [h1] at hx; cases hx
                · rw [h1] at hx
                  cases hx
                  have := (Hva.out.lt g (by rw [h1]; rfl)).1
                  simp at e
                  omega
              have bc0 := hbt.cell 0
              have bc1 := hbt.cell 1
              have r0 := hres.cell 0
              have r1 := hres.cell 1
              have fr0 := hres.frozen 0
              have fr1 := hres.frozen 1
              have HevF := Lib.hid hevF
              have HanF := Lib.hid hanF
              have HBf := Lib.hid hBf
              have Hres := Lib.hid hres
              have Hdp := Lib.hid hdp
              have Hka := Lib.hid hkaw
              have Hkb := Lib.hid hkbw
              clear hA hdp hres hBf hevF hanF Hva HK Hin HdE HK5 Hra hkaw hkbw
              by_cases hst : s.stop = 0
              · go_wp2_with (go_at_call 53; refine HX.out.mono ?_; rintro e w6 ⟨rfl, rfl⟩)
                obtain ⟨hbf, hgf⟩ := blk_set2 Hres.out (.slice ka acc.length ca) (.slice kb rs.length cb)
                have e1 := Flat.grownO HevF.out hgf (fun x hx e => Hka.out x hx (by simpa using e.symm))
                have e2 := Flat.grownO HanF.out hgf (fun x hx e => Hkb.out x hx (by simpa using e.symm))
                have hB9 := HBf.out.grown hgf (by have := HBf.out.size; omega) (fun g hg => by cases hg; omega)
                generalize (w6.setCell ⟨w.heap.size, 0, none⟩ (.slice ka acc.length ca)).setCell ⟨w.heap.size, 1, none⟩ (.slice kb rs.length cb) = W5 at hbf hgf e1 e2 hB9 ⊢
                obtain ⟨t5, ht5⟩ := hbf
                refine bodyPost_ret (results_two Try.results20 _ _ _ t5 _ rfl (0, 0) rfl ht5) rfl ?_
                rw [Hdp.out, if_pos hst]
                exact ⟨_, _, rfl, e1, e2, hB9⟩
              · go_wp2_with (go_at_call 53; refine HX.out.mono ?_; rintro e w6 ⟨rfl, rfl⟩)
                obtain ⟨hbf, hgf⟩ := blk_set2 Hres.out (.slice none 0 0) (.slice none 0 0)
                have hB9 := HBf.out.grown hgf (by have := HBf.out.size; omega) (fun g hg => by cases hg; omega)
                generalize (w6.setCell ⟨w.heap.size, 0, none⟩ (.slice none 0 0)).setCell ⟨w.heap.size, 1, none⟩ (.slice none 0 0) = W5 at hbf hgf hB9 ⊢
                obtain ⟨t5, ht5⟩ := hbf
                refine bodyPost_ret (results_two Try.results20 _ _ _ t5 _ rfl (0, 0) rfl ht5) rfl ?_
                rw [Hdp.out, if_neg hst]
                exact ⟨_, _, rfl, Flat.nil _ _ _ _, Flat.nil _ _ _ _, hB9⟩

end Go.Proofs.Ytjdhcdbjfbhogaa
