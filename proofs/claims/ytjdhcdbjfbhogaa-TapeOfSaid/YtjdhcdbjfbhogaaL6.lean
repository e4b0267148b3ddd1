/- TapeOf: the walk. -/
import Derived.Test.YtjdhcdbjfbhogaaF8
import Derived.Test.YtjdhcdbjfbhogaaF7
import Derived.Test.YtjdhcdbjfbhogaaQ7
namespace Go.Proofs.Ytjdhcdbjfbhogaa
open Go.RowKit

/-- The run that grows. -/
structure RSt (B : Nat) (w wr : World) (v : Value) (run : List Stp) (xs : List Value) : Prop where
  own : wr.ownsRow B 60 11 v run.length xs
  sep : ∀ w', wr.grownBy w' v.ownBlock → StpCells w' run xs
  below : Below B w wr
  ok : ∀ s ∈ run, (∀ a ∈ s.asks, a.ans.ok) ∧ s.asks.length ≤ 3
theorem RSt.snoc {B : Nat} {w wr w1 w2 x w6 : World} {v : Value} {run : List Stp} {xs : List Value} (h : RSt B w wr v run xs) (hB : B ≤ wr.heap.size) (b1 : Below wr.heap.size wr w1) (b2 : Below w1.heap.size w1 w2) (b3 : Below w2.heap.size w2 x)
    (ev : Ev) (asks : List Ask) (va : Value) (ha : w2.ownsRow w1.heap.size 111 7 va asks.length (asks.flatMap Ask.cells)) (hok : ∀ a ∈ asks, a.ans.ok) (hl : asks.length ≤ 3)
    {g6 cap6 : Nat} (hg : v.ownBlock = some g6 ∨ g6 = x.heap.size) (ho : w6.ownsRow B 60 11 (.slice (some ⟨g6, 0, none⟩) (run.length + 1) cap6) (run.length + 1) (xs ++ Stp.row ⟨ev, asks, false, []⟩ va (.slice none 0 0))) (hgr : x.grownBy w6 v.ownBlock) :
    RSt B w w6 (.slice (some ⟨g6, 0, none⟩) (run.length + 1) cap6) (run ++ [⟨ev, asks, false, []⟩]) (xs ++ Stp.row ⟨ev, asks, false, []⟩ va (.slice none 0 0)) := by
  have bx := Below.then (Below.then b1 b2) b3
  have hvl : ∀ j, v.ownBlock = some j → j < wr.heap.size := fun j hj => (h.own.lt j hj).2
  have s1 := b1.size
  have s2 := b2.size
  have s3 := b3.size
  refine ⟨by rw [List.length_append]; exact ho, fun w' hw => ?_, (h.below.trans (bx.mono hB)).grown hgr (by have := h.below.size; omega) (fun j hj => (h.own.lt j hj).1), ?_⟩
  · refine StpCells.append (h.sep w' (World.grownBy.andThen ((grown_below bx _).trans hgr) hw (fun j hj => ?_))) (StpCells.one ?_ (Flat.nil _ _ _ _))
    · simp [Value.ownBlock] at hj
      subst hj
      rcases hg with hg | hg
      · exact .inr hg
      · exact .inl (by omega)
    · refine Flat.of_owns (((owns_below ha b3).kept hgr ?_).kept hw ?_)
      · cases hv : va.ownBlock with
        | none => exact .inl rfl
        | some j => exact .inr (fun e => by have := (ha.lt j hv).1; have := hvl j e.symm; omega)
      · cases hv : va.ownBlock with
        | none => exact .inl rfl
        | some j =>
          refine .inr (fun e => ?_)
          simp [Value.ownBlock] at e
          have := ha.lt j hv
          rcases hg with hg | hg
          · have := hvl _ hg
            omega
          · omega
  · intro s hs
    rcases List.mem_append.1 hs with hs | hs
    · exact h.ok s hs
    · simp at hs
      subst hs
      exact ⟨hok, hl⟩

set_option maxHeartbeats 8000000 in
set_option maxRecDepth 100000 in
theorem lawOf (m : List (List Int)) (v : Value) (w : World) (hm : MatSl w v m) :
    Calls Try.prog 6 #[v] w fun e w' => e = .returned (.bool true) ∧ Below w.heap.size w w' := by
  obtain ⟨am, cm, rfl, hml, hrow⟩ := hm
  have Hrow := Lib.hid hrow
  clear hrow
  have hst : RSt w.heap.size w w (.slice none 0 0) [] [] := ⟨World.ownsRow_nil _ _ _ _, fun w' _ => rfl, Below.refl _ _, fun s hs => by simp at hs⟩
  have Hst := Lib.hid hst
  clear hst
  go_enter Try.func6, Try.ntmps6
  go_wp2_with fail
  go_loopw [3, 4] (fun y i wr => ∃ (u : Value) (k : Nat) (run : List Stp) (xs : List Value), y = u ∧ k ≤ m.length ∧ k ≤ 8 ∧ i = .int .i64 k ∧ Hid (RSt w.heap.size w wr u run xs) ∧ run.length = k) (fun _ i _ => 8 - (intOf i).toNat)
  case atStart => exact ⟨_, 0, [], [], rfl, by omega, by omega, rfl, Hst, rfl⟩
  case round =>
    clear Hst
    obtain ⟨u, k, run, xs, hu, hk, hk8, rfl, H, hkr⟩ := hrel
    have hu := hu.symm
    subst hu
    have Hkr := Lib.hid hkr
    clear hkr
    have hzr := H.out.below.size
    obtain ⟨ku, cu, hue, _⟩ := (Flat.of_owns H.out.own).open
    rw [Hkr.out] at hue
    subst hue
    obtain ⟨bb, hbb⟩ : ∃ bb : Bool, bb = (decide (k < m.length) && decide (k < 8)) := ⟨_, rfl⟩
    have Hbb := Lib.hid hbb
    clear hbb
    go_upto_region 3 with fail
    go_cut [12] from 5 to 23 (fun t wc => t = .bool bb ∧ wc = wr)
    case first =>
      by_cases hlt : k < m.length
      · by_cases h8 : k < 8
        · go_wp2_with fail
          go_meet
          exact ⟨by rw [Hbb.out]; simp [hlt, h8]; omega, rfl⟩
        · go_wp2_with fail
          go_meet
          exact ⟨by rw [Hbb.out]; simp [h8]; omega, rfl⟩
      · go_wp2_with fail
        go_meet
        exact ⟨by rw [Hbb.out]; simp [hlt], rfl⟩
    case rest =>
      obtain ⟨rfl, hwc⟩ := hcut
      have hwc := hwc.symm
      subst hwc
      cases bb with
      | true =>
        have hh : k < m.length ∧ k < 8 := by
          have := Hbb.out
          simp at this
          exact this
        obtain ⟨hlt, h8⟩ := hh
        obtain ⟨b, o, kl, cl, rfl, x0, hl, hlc, hlo⟩ := Hrow.out k m[k] (by simp [hlt])
        generalize m[k] = l at x0 hl hlc hlo
        have hb0 : b < w.heap.size := by simpa using World.block_lt_of_cell? _ _ x0
        have x1 : wr.cell? ⟨b, o + k, none⟩ = some (.slice kl l.length cl) := (bcell H.out.below b _ hb0).trans x0
        have HI := Lib.hid (intsC l kl cl wr (hl.kept H.out.below (Nat.le_refl _)) hlc)
        have hlo2 : ∀ n ∈ l.take 20, InI64 n := fun n hn => hlo n (List.mem_of_mem_take hn)
        generalize l.take 20 = lt at HI hlo2
        have Hlo2 := Lib.hid hlo2
        have hrl : run.length ≤ 8 := by rw [Hkr.out]; exact hk8
        clear x0 hl hlc hlo hlo2 Hbb
        go_wp2_with (first | (go_at_call 28; refine HI.out.mono ?_; rintro e w1 ⟨k1, c1, rfl, ho1, hi1, B1⟩; have HSt := Lib.hid (stepOfC lt _ w1 hi1 Hlo2.out)) | (go_at_call 27; refine HSt.out.mono ?_; rintro e w2 ⟨ev, asks, va, rfl, hevok, hasok, hal, hao, B2⟩; obtain ⟨ka, ca, rfl, _⟩ := (Flat.of_owns hao).open) | (at_builtin; go_must (refine wpList_appB rfl _ _ 50 rfl 60 _ 11 120 Try.underlying50 info60 rfl (by omega) (by omega) w.heap.size (.slice ku k cu) k xs rfl ((owns_below (owns_below (owns_len H.out.own Hkr.out.symm) B1) B2).alloc _) w2.heap.size 1 1 #[I ev.kind, I ev.node, I ev.arg, I ev.msg.node, I ev.msg.handler, I ev.msg.count, I ev.msg.index, I ev.msg.copy, .slice ka asks.length ca, .bool false, .slice none 0 0] 60 rfl (heap_alloc_new _ _) rfl rfl (by omega) (by omega) (by have := B1.size; have := B2.size; simp; omega) ?_); intro g6 cap6 w6 hg6a hg6b hg6c ho6 hgr6 hB6))
        have hR := H.out.snoc hzr B1 B2 (boxed w2 #[I ev.kind, I ev.node, I ev.arg, I ev.msg.node, I ev.msg.handler, I ev.msg.count, I ev.msg.index, I ev.msg.copy, .slice ka asks.length ca, .bool false, .slice none 0 0] 60).2.1 ev asks (.slice ka asks.length ca) hao hasok hal hg6c (by rw [Hkr.out]; exact ho6) hgr6
        go_roundw
        case rel => exact ⟨_, k + 1, _, _, rfl, by omega, by omega, by go_num, Lib.hid (by rw [Hkr.out] at hR; exact hR), by simp [Hkr.out]⟩
        case measure => simp [intOf]; omega
      | false =>
        have hS : StpSl wr (.slice ku k cu) run := ⟨xs, H.out.sep wr (World.grownBy.refl _ _), Flat.of_owns H.out.own⟩
        have HO1 := Lib.hid (ofF run _ wr hS (fun s hs => (H.out.ok s hs).1) (by rw [Hkr.out]; omega) (fun s hs => by have := (H.out.ok s hs).2; omega))
        have HO2 := Lib.hid (fun (W : World) (hW : Below wr.heap.size wr W) => refOfF run _ W (hS.kept hW (Nat.le_refl _)) (by rw [Hkr.out]; omega) (fun s hs => by have := (H.out.ok s hs).2; omega))
        generalize runEv run = evs at HO1 HO2
        generalize normA (runAns run) = r at HO1 HO2
        clear hS Hbb
        go_wp2_with (first | (go_at_call 29; refine HO1.out.mono ?_; rintro e w1 ⟨k1, c1, k2, c2, rfl, h1, B1⟩) | (go_at_call 30; refine (HO2.out _ B1).mono ?_; rintro e w2 ⟨k3, c3, k4, c4, rfl, h2, B2⟩) | (go_at_call 22; refine (sameTT evs r k1 c1 k2 c2 k3 c3 k4 c4 _ (h1.kept B2) h2).mono ?_; rintro e w3 ⟨rfl, B3⟩) | (go_at_call 17; refine (livesF _).mono ?_; rintro e w4 ⟨rfl, B4⟩))
        go_ret
        exact ⟨rfl, Below.then (Below.then (Below.then (Below.then H.out.below B1) B2) B3) B4⟩
end Go.Proofs.Ytjdhcdbjfbhogaa
