/- The reference's Decode. -/
import Derived.Test.YtjdhcdbjfbhogaaX13
import Derived.Test.YtjdhcdbjfbhogaaF10
import Derived.Test.YtjdhcdbjfbhogaaW8
import Derived.Test.YtjdhcdbjfbhogaaF1
import Derived.Deep.CutRange
namespace Go.Proofs.Ytjdhcdbjfbhogaa
open Go.RowKit

theorem firsts_at (s : Rd) (k j : Nat) (h : j < k) : (s.firsts k)[j]? = some (s.nth j) := by simp [Rd.firsts, h]
set_option maxHeartbeats 8000000 in
set_option maxRecDepth 100000 in
theorem refDecodeF (b : List Int) (kb : Option Addr) (cb : Nat) (w : World) (h : BySl w (.slice kb b.length cb) b) (hc : b.length ≤ cb) (hkb : ∀ x, kb = some x → x.block < w.heap.size) (hby : ∀ c ∈ b, IsByte c) :
    Calls Try.prog 21 #[.slice kb b.length cb] w fun e w' => ∃ ue ua, e = .returned (.tuple #[.agg #[ue, ua], I (decP b).2]) ∧ EvSl w' ue (decP b).1.1 ∧ AnsSl w' ua (decP b).1.2 ∧ Below w.heap.size w w' := by
  have hB0 : Below w.heap.size w (((w.alloc (.cells #[.slice none 0 0, .slice none 0 0] 26)).alloc (.cells #[.slice kb b.length cb, I 0] 96)).alloc (.cells #[.slice none 0 0, .slice none 0 0] 26)) := (by repeat (first | exact Below.refl _ _ | assumption | refine Below.drew ?_ | refine below_drewN ?_ _ | refine Below.alloc ?_ (by simp <;> omega) _ | refine Below.setCell ?_ (by simp <;> omega) _))
  have hz0 : (((w.alloc (.cells #[.slice none 0 0, .slice none 0 0] 26)).alloc (.cells #[.slice kb b.length cb, I 0] 96)).alloc (.cells #[.slice none 0 0, .slice none 0 0] 26)).heap.size = w.heap.size + 3 := by simp
  have hr0 : Blk (((w.alloc (.cells #[.slice none 0 0, .slice none 0 0] 26)).alloc (.cells #[.slice kb b.length cb, I 0] 96)).alloc (.cells #[.slice none 0 0, .slice none 0 0] 26)) w.heap.size #[.slice none 0 0, .slice none 0 0] := ((Blk.new _ _ _).alloc _).alloc _
  have hp0 : Blk (((w.alloc (.cells #[.slice none 0 0, .slice none 0 0] 26)).alloc (.cells #[.slice kb b.length cb, I 0] 96)).alloc (.cells #[.slice none 0 0, .slice none 0 0] 26)) (w.heap.size + 1) #[.slice kb b.length cb, I 0] := by
    have h1 := Blk.new (w.alloc (.cells #[.slice none 0 0, .slice none 0 0] 26)) #[.slice kb b.length cb, I 0] 96
    rw [World.size_alloc] at h1
    exact h1.alloc _
  have ht0 : Blk (((w.alloc (.cells #[.slice none 0 0, .slice none 0 0] 26)).alloc (.cells #[.slice kb b.length cb, I 0] 96)).alloc (.cells #[.slice none 0 0, .slice none 0 0] 26)) (w.heap.size + 1 + 1) #[.slice none 0 0, .slice none 0 0] := by
    have h1 := Blk.new ((w.alloc (.cells #[.slice none 0 0, .slice none 0 0] 26)).alloc (.cells #[.slice kb b.length cb, I 0] 96)) #[.slice none 0 0, .slice none 0 0] 26
    rwa [World.size_alloc, World.size_alloc] at h1
  have hb0 := h.kept hB0 (Nat.le_refl _)
  clear h
  go_enter Try.func21, Try.ntmps21
  go_upto_region 3 with fail
  generalize (((w.alloc (.cells #[.slice none 0 0, .slice none 0 0] 26)).alloc (.cells #[.slice kb b.length cb, I 0] 96)).alloc (.cells #[.slice none 0 0, .slice none 0 0] 26)) = W0 at hB0 hz0 hr0 hp0 ht0 hb0 ⊢
  have hin0 : InAt W0 (w.heap.size + 1) (.ok b) := ⟨kb, cb, hp0, hb0, hc, fun x hx => by have := hkb x hx; omega⟩
  obtain ⟨gt, egt⟩ : ∃ g, g = w.heap.size + 1 + 1 := ⟨_, rfl⟩
  rw [← egt] at ht0 ⊢
  obtain ⟨p, ep⟩ : ∃ p, p = w.heap.size + 1 := ⟨_, rfl⟩
  rw [← ep] at hin0 egt ⊢
  have hD0 : DSt p gt W0 W0 (.ok b) (.slice none 0 0) (.slice none 0 0) [] [] := ⟨by omega, hin0, ht0, World.ownsRow_nil _ _ _ _, World.ownsRow_nil _ _ _ _, fun j hj => by simp [Value.ownBlock] at hj, Below.refl _ _⟩
  have Hp := Lib.hid ep
  have Hg := Lib.hid egt
  have Hr0 := Lib.hid hr0
  have HB0 := Lib.hid hB0
  have HD0 := Lib.hid hD0
  have HC := Lib.hid (refCount (.ok b) p 5000 W0 hin0 hby (by omega))
  clear hin0 hD0 hr0 hp0 ht0 hb0 hB0 ep egt
  go_upto_region 5 with (go_at_call 54; refine HC.out.mono ?_; rintro e w4 ⟨rfl, hn4, hin4, hg4⟩)
  have hf4 := Rd.fine_count (s := .ok b) hby 5000
  have Hd : Hid (readEvs ((Rd.ok b).count 5000).1 ((Rd.ok b).count 5000).2 [] = decE b) := Lib.hid rfl
  clear HC
  generalize (Rd.ok b).count 5000 = cs at hin4 hf4 hn4 Hd ⊢
  obtain ⟨n0, s0⟩ := cs
  have HD4 := Lib.hid (HD0.out.read (show InAt w4 p s0 from hin4) hg4)
  have Hf4 := Lib.hid (show s0.fine from hf4)
  have hn4' : n0 ≤ 5000 := hn4
  clear hin4 hf4 hn4 hg4 HD0
  simp only []
  go_loopw [7] (fun t wr => ∃ (k : Nat) (s : Rd) (acc : List Ev) (ve : Value), t = .int .i64 k ∧ k ≤ n0 ∧ Hid (readEvs (n0 - k) s acc = decE b ∧ s.fine ∧ acc.length = k) ∧ Hid (DSt p gt W0 wr s ve (.slice none 0 0) acc [])) (fun t _ => n0 - (intOf t).toNat)
  case atStart => exact ⟨0, s0, [], _, rfl, by omega, Lib.hid ⟨Hd.out, Hf4.out, rfl⟩, HD4⟩
  case round =>
    clear Hd Hf4 HD4
    obtain ⟨k, s, acc, ve, rfl, hk, HR, HD⟩ := hrel
    have Hf := Lib.hid HR.out.2.1
    obtain ⟨bb, hbb⟩ : ∃ bb : Bool, bb = (decide (0 < n0 - k) && decide (s.err = 0)) := ⟨_, rfl⟩
    have Hbb := Lib.hid hbb
    obtain ⟨vr, hbr⟩ := HD.out.rd.blk
    have e1 := hbr.cell 1
    clear hbb hbr
    go_upto_region 5 with fail
    go_cut [28] from 19 to 65 (fun t wc => t = .bool bb ∧ wc = wr)
    case first =>
      by_cases hn : (k : Int) < n0
      · by_cases he : s.err = 0
        · go_wp2_with fail
          go_meet
          exact ⟨by rw [Hbb.out]; simp [he]; omega, rfl⟩
        · go_wp2_with fail
          go_meet
          exact ⟨by rw [Hbb.out]; simp [he], rfl⟩
      · go_wp2_with fail
        go_meet
        exact ⟨by rw [Hbb.out]; simp; omega, rfl⟩
    case rest =>
      obtain ⟨rfl, hwc⟩ := hcut
      have hwc := hwc.symm
      subst hwc
      clear e1
      cases bb with
      | true =>
        have hne : k < n0 ∧ s.err = 0 := by
          have := Hbb.out
          simp at this
          omega
        obtain ⟨hn, he⟩ := hne
        have He := Lib.hid he
        have HN := Lib.hid (refRead s p 8 wr HD.out.rd Hf.out (by omega))
        clear he Hbb
        go_upto_region 8 with (go_at_call 55; refine HN.out.mono ?_; rintro e w5 ⟨u, rfl, ho5, hi5, hg5⟩)
        clear HN
        obtain ⟨r, c8, rfl, hr5, hrl, hrc⟩ := owns_ints ho5 (by omega)
        have HD5 := Lib.hid (HD.out.read hi5 hg5)
        have x0 := hrc 0 _ (firsts_at s 8 0 (by omega))
        have x1 := hrc 1 _ (firsts_at s 8 1 (by omega))
        have x2 := hrc 2 _ (firsts_at s 8 2 (by omega))
        have x3 := hrc 3 _ (firsts_at s 8 3 (by omega))
        have x4 := hrc 4 _ (firsts_at s 8 4 (by omega))
        have x5 := hrc 5 _ (firsts_at s 8 5 (by omega))
        have x6 := hrc 6 _ (firsts_at s 8 6 (by omega))
        have x7 := hrc 7 _ (firsts_at s 8 7 (by omega))
        have hzr := hg5.size
        clear ho5 hi5 hg5 hrc HD
        refine wp_region_ordN 28 [(0, true), (1, true), (2, true), (3, true), (4, true), (5, true), (6, true), (7, true), (8, true), (9, true), (10, true), (11, true), (12, true), (13, true), (14, true), (15, true), (16, true), (17, true), (18, true), (19, true), (20, true), (21, true), (22, true), (23, true), (24, true), (25, true), (26, true), (27, false)] (fun w' => ∀ o', w'.cell? ⟨r, o', none⟩ = w5.cell? ⟨r, o', none⟩) (by kernel_rfl) rfl rfl (by kernel_rfl) (fun _ => rfl) ?_
        iterate 27 (refine wpOrd_take ?_ (by rfl) ?_ ?_; rotate_left; (intro w hSw; (try dsimp only at hSw); go_simp; try with_reducible rfl); (try simp only [Act.put, List.setIfInBounds_toArray, List.set_cons_zero, List.set_cons_succ]))
        have Bd : Below w5.heap.size w5 w5.drew := (Below.refl _ w5).drew
        have hqe : w5.drew.heap.size = w5.heap.size := rfl
        generalize w5.drew = wd at Bd hqe ⊢
        have Bq : Below w5.heap.size w5 (wd.alloc (.cells #[I 0, I 0, I 0, I 0, I 0, I 0, I 0, I 0] 56)) := Bd.alloc (by omega) _
        have hq4 := Blk.new wd #[I 0, I 0, I 0, I 0, I 0, I 0, I 0, I 0] 56
        refine wpOrd_move (fun K hK => ?_)
        go_simp
        refine hK.out _ _ (fun o => bcell Bq r o hrl) ?_
        clear hK K
        (try simp only [Act.put, List.setIfInBounds_toArray, List.set_cons_zero, List.set_cons_succ])
        refine wpOrd_nil ?_
        rw [hqe] at hq4
        obtain ⟨q, hq⟩ : ∃ q, q = w5.heap.size := ⟨_, rfl⟩
        rw [← hq] at hq4 ⊢
        have hql : w5.heap.size ≤ q := by omega
        generalize wd.alloc (.cells #[I 0, I 0, I 0, I 0, I 0, I 0, I 0, I 0] 56) = w6 at hq4 Bq ⊢
        have Bq' := Bq
        clear Bq Bd hq hqe x0 x1 x2 x3 x4 x5 x6 x7
        have x0 := hq4.cell 0
        have f0 := hq4.frozen 0
        have x1 := hq4.cell 1
        have f1 := hq4.frozen 1
        have x2 := hq4.cell 2
        have f2 := hq4.frozen 2
        have x3 := hq4.cell 3
        have f3 := hq4.frozen 3
        have x4 := hq4.cell 4
        have f4 := hq4.frozen 4
        have x5 := hq4.cell 5
        have f5 := hq4.frozen 5
        have x6 := hq4.cell 6
        have f6 := hq4.frozen 6
        have x7 := hq4.cell 7
        have f7 := hq4.frozen 7
        go_wp2_with fail
        refine NoPanic.normal ?_
        obtain ⟨hbf, hgf⟩ := blk_set8 hq4 (I (s.nth 0)) (I (s.nth 1)) (I (s.nth 2)) (I (s.nth 3)) (I (s.nth 4)) (I (s.nth 5)) (I (s.nth 6)) (I (s.nth 7))
        have hB7 := Bq'.grown hgf (by have := Bq'.size; omega) (fun j hj => by cases hj; omega)
        clear hgf x0 x1 x2 x3 x4 x5 x6 x7 f0 f1 f2 f3 f4 f5 f6 f7 hq4 Bq'
        go_upto_region 9 with fail
        generalize ((((((((w6.setCell ⟨q, 0, none⟩ (I (s.nth 0))).setCell ⟨q, 1, none⟩ (I (s.nth 1))).setCell ⟨q, 2, none⟩ (I (s.nth 2))).setCell ⟨q, 3, none⟩ (I (s.nth 3))).setCell ⟨q, 4, none⟩ (I (s.nth 4))).setCell ⟨q, 5, none⟩ (I (s.nth 5))).setCell ⟨q, 6, none⟩ (I (s.nth 6))).setCell ⟨q, 7, none⟩ (I (s.nth 7))) = wq at hbf hB7 ⊢
        have hDq := HD5.out.later hB7
        have HDa := Lib.hid (hDq.later (boxed wq #[I (s.nth 0), I (s.nth 1), I (s.nth 2), I (s.nth 3), I (s.nth 4), I (s.nth 5), I (s.nth 6), I (s.nth 7)] 56).2.1)
        obtain ⟨N, hN⟩ : ∃ N, N = acc.length := ⟨_, rfl⟩
        obtain ⟨ke, ce, rfl, _⟩ := (Flat.of_owns hDq.oe).open
        have hbt := hDq.blk
        rw [← hN] at hDq HDa hbt
        have HN := Lib.hid hN
        have Hob := Lib.hid (owns_len hDq.oe hN)
        have hNl : N ≤ 5000 := by have := HR.out.2.2; omega
        have b0 := hbt.cell 0
        have hgl := hbt.lt
        have Hq := Lib.hid (blk_range hbf 0 [I (s.nth 0), I (s.nth 1), I (s.nth 2), I (s.nth 3), I (s.nth 4), I (s.nth 5), I (s.nth 6), I (s.nth 7)] (fun j v hv => by simpa using hv))
        clear hbf hbt hDq HD5 hB7 hN
        go_upto_region 6 with (first | ((with_reducible refine wpList_load56 rfl _ rfl q 0 [I (s.nth 0), I (s.nth 1), I (s.nth 2), I (s.nth 3), I (s.nth 4), I (s.nth 5), I (s.nth 6), I (s.nth 7)] rfl ?_ ?_ ?_); (rfl); (exact Hq.out)) | (at_builtin; go_must (refine wpList_appB rfl _ _ 23 rfl 56 _ 8 64 Try.underlying23 info56 rfl (by omega) (by omega) (gt + 1) (.slice ke N ce) N _ rfl (Hob.out.alloc _) wq.heap.size 1 1 #[I (s.nth 0), I (s.nth 1), I (s.nth 2), I (s.nth 3), I (s.nth 4), I (s.nth 5), I (s.nth 6), I (s.nth 7)] 56 rfl (heap_alloc_new _ _) rfl rfl (by omega) (by omega) (by simp; omega) ?_); intro g6 cap6 x6 hg6a hg6b hg6c ho6 hgr6 hB6; have hb6 := HDa.out.blk.grown hgr6 (fun e => by have := (HDa.out.oe.lt gt e).1; omega); have d0 := hb6.cell 0; have fd0 := hb6.frozen 0))
        have hT6 := HDa.out.appE s.ev hg6c ho6 HN.out hgr6
        have HT6 := Lib.hid hT6
        clear hT6 ho6 hgr6 hB6 d0 fd0 hb6 b0 Hob
        go_wp2_with fail
        go_roundw
        case rel => exact ⟨k + 1, s.after 8, acc ++ [s.ev], _, by go_num, by omega, Lib.hid ⟨by rw [← readEvs_next Hf.out He.out, show n0 - (k + 1) + 1 = n0 - k by omega]; exact HR.out.1, Rd.fine_after Hf.out 8, by have := HR.out.2.2; simp; omega⟩, HT6⟩
        case measure => simp [intOf]; omega
      | false =>
        have hE : decE b = (acc, s) := by rw [← HR.out.1, readEvs_stop Hf.out Hbb.out.symm]
        have HdE := Lib.hid hE
        have HC := Lib.hid (refCount s p 10000 wr HD.out.rd Hf.out (by omega))
        obtain ⟨ke, ce, rfl, _⟩ := (Flat.of_owns HD.out.oe).open
        clear hE Hbb HR
        go_upto_region 12 with (go_at_call 54; refine HC.out.mono ?_; rintro e w5 ⟨rfl, hn5, hin5, hg5⟩)
        have hf5 := Rd.fine_count Hf.out 10000
        have Hd : Hid (readAs (s.count 10000).1 (s.count 10000).2 [] = decA s) := Lib.hid rfl
        obtain ⟨s1, hs1⟩ : ∃ s1, s1 = s := ⟨_, rfl⟩
        have Hs1 := Lib.hid hs1
        clear HC
        generalize s.count 10000 = cs at hin5 hf5 hn5 Hd ⊢
        obtain ⟨n1, s0⟩ := cs
        have HD5 := Lib.hid (HD.out.read (show InAt w5 p s0 from hin5) hg5)
        have Hf5 := Lib.hid (show s0.fine from hf5)
        have hn5' : n1 ≤ 10000 := hn5
        clear hin5 hf5 hn5 hg5 HD hs1
        simp only []
        go_loopw [11] (fun t wr => ∃ (j : Nat) (s2 : Rd) (rs : List Ans) (va : Value), t = .int .i64 j ∧ j ≤ n1 ∧ Hid (readAs (n1 - j) s2 rs = decA s1 ∧ s2.fine ∧ rs.length = j) ∧ Hid (DSt p gt W0 wr s2 (.slice ke acc.length ce) va acc rs)) (fun t _ => n1 - (intOf t).toNat)
        case atStart => exact ⟨0, s0, [], _, rfl, by omega, Lib.hid ⟨by rw [Hs1.out]; exact Hd.out, Hf5.out, rfl⟩, HD5⟩
        case round =>
          rw [← Hs1.out] at HdE
          clear Hd HD5 Hf5 Hf Hs1
          clear s
          obtain ⟨j, s, rs, va, rfl, hj, HR, HD⟩ := hrel
          have Hf := Lib.hid HR.out.2.1
          obtain ⟨bb, hbb⟩ : ∃ bb : Bool, bb = (decide (0 < n1 - j) && decide (s.err = 0)) := ⟨_, rfl⟩
          have Hbb := Lib.hid hbb
          obtain ⟨vr, hbr⟩ := HD.out.rd.blk
          have e1 := hbr.cell 1
          clear hbb hbr
          go_upto_region 12 with fail
          go_cut [77] from 68 to 128 (fun t wc => t = .bool bb ∧ wc = wr)
          case first =>
            by_cases hn : (j : Int) < n1
            · by_cases he : s.err = 0
              · go_wp2_with fail
                go_meet
                exact ⟨by rw [Hbb.out]; simp [he]; omega, rfl⟩
              · go_wp2_with fail
                go_meet
                exact ⟨by rw [Hbb.out]; simp [he], rfl⟩
            · go_wp2_with fail
              go_meet
              exact ⟨by rw [Hbb.out]; simp; omega, rfl⟩
          case rest =>
            obtain ⟨rfl, hwc⟩ := hcut
            have hwc := hwc.symm
            subst hwc
            clear e1
            cases bb with
            | true =>
              have hne : j < n1 ∧ s.err = 0 := by
                have := Hbb.out
                simp at this
                omega
              obtain ⟨hn, he⟩ := hne
              have He := Lib.hid he
              have HN := Lib.hid (refRead s p 6 wr HD.out.rd Hf.out (by omega))
              clear he Hbb
              go_upto_region 15 with (go_at_call 55; refine HN.out.mono ?_; rintro e w5 ⟨u, rfl, ho5, hi5, hg5⟩)
              clear HN
              obtain ⟨r, c8, rfl, hr5, hrl, hrc⟩ := owns_ints ho5 (by omega)
              have HD5 := Lib.hid (HD.out.read hi5 hg5)
              have x0 := hrc 0 _ (firsts_at s 6 0 (by omega))
              have x1 := hrc 1 _ (firsts_at s 6 1 (by omega))
              have x2 := hrc 2 _ (firsts_at s 6 2 (by omega))
              have x3 := hrc 3 _ (firsts_at s 6 3 (by omega))
              have x4 := hrc 4 _ (firsts_at s 6 4 (by omega))
              have x5 := hrc 5 _ (firsts_at s 6 5 (by omega))
              have hzr := hg5.size
              clear ho5 hi5 hg5 hrc HD
              refine wp_region_ordN 22 [(0, true), (1, true), (2, true), (3, true), (4, true), (5, true), (6, true), (7, true), (8, true), (9, true), (10, true), (11, true), (12, true), (13, true), (14, true), (15, true), (16, true), (17, true), (18, true), (19, true), (20, true), (21, false)] (fun w' => ∀ o', w'.cell? ⟨r, o', none⟩ = w5.cell? ⟨r, o', none⟩) (by kernel_rfl) rfl rfl (by kernel_rfl) (fun _ => rfl) ?_
              iterate 21 (refine wpOrd_take ?_ (by rfl) ?_ ?_; rotate_left; (intro w hSw; (try dsimp only at hSw); go_simp; try with_reducible rfl); (try simp only [Act.put, List.setIfInBounds_toArray, List.set_cons_zero, List.set_cons_succ]))
              have Bd : Below w5.heap.size w5 w5.drew := (Below.refl _ w5).drew
              have hqe : w5.drew.heap.size = w5.heap.size := rfl
              generalize w5.drew = wd at Bd hqe ⊢
              have Bq : Below w5.heap.size w5 (wd.alloc (.cells #[I 0, I 0, I 0, I 0, I 0, I 0] 75)) := Bd.alloc (by omega) _
              have hq4 := Blk.new wd #[I 0, I 0, I 0, I 0, I 0, I 0] 75
              refine wpOrd_move (fun K hK => ?_)
              go_simp
              refine hK.out _ _ (fun o => bcell Bq r o hrl) ?_
              clear hK K
              (try simp only [Act.put, List.setIfInBounds_toArray, List.set_cons_zero, List.set_cons_succ])
              refine wpOrd_nil ?_
              rw [hqe] at hq4
              obtain ⟨q, hq⟩ : ∃ q, q = w5.heap.size := ⟨_, rfl⟩
              rw [← hq] at hq4 ⊢
              have hql : w5.heap.size ≤ q := by omega
              generalize wd.alloc (.cells #[I 0, I 0, I 0, I 0, I 0, I 0] 75) = w6 at hq4 Bq ⊢
              have Bq' := Bq
              clear Bq Bd hq hqe x0 x1 x2 x3 x4 x5
              have x0 := hq4.cell 0
              have f0 := hq4.frozen 0
              have x1 := hq4.cell 1
              have f1 := hq4.frozen 1
              have x2 := hq4.cell 2
              have f2 := hq4.frozen 2
              have x3 := hq4.cell 3
              have f3 := hq4.frozen 3
              have x4 := hq4.cell 4
              have f4 := hq4.frozen 4
              have x5 := hq4.cell 5
              have f5 := hq4.frozen 5
              go_wp2_with fail
              refine NoPanic.normal ?_
              obtain ⟨hbf, hgf⟩ := blk_set6 hq4 (I (s.nth 0)) (I (s.nth 1)) (I (s.nth 2)) (I (s.nth 3)) (I (s.nth 4)) (I (s.nth 5))
              have hB7 := Bq'.grown hgf (by have := Bq'.size; omega) (fun j hj => by cases hj; omega)
              clear hgf x0 x1 x2 x3 x4 x5 f0 f1 f2 f3 f4 f5 hq4 Bq'
              go_upto_region 16 with fail
              generalize ((((((w6.setCell ⟨q, 0, none⟩ (I (s.nth 0))).setCell ⟨q, 1, none⟩ (I (s.nth 1))).setCell ⟨q, 2, none⟩ (I (s.nth 2))).setCell ⟨q, 3, none⟩ (I (s.nth 3))).setCell ⟨q, 4, none⟩ (I (s.nth 4))).setCell ⟨q, 5, none⟩ (I (s.nth 5))) = wq at hbf hB7 ⊢
              have hDq := HD5.out.later hB7
              obtain ⟨kv, cv, rfl, _⟩ := (Flat.of_owns hDq.oa).open
              have HDq := Lib.hid hDq
              have Hq := Lib.hid hbf
              have hqlt := hbf.lt
              have hpq : p < q := by have := HD5.out.rd.lt; omega
              clear hbf hB7 HD5 hDq
              go_upto_if 104 with fail
              go_cut [] from 68 to 128 (fun wd => InAt wd p (if behind rs s.ans.q then s.after 6 else (s.after 6).fail 5) ∧ wq.grownBy wd (some p))
              case first =>
                rcases snoc_cases rs with rfl | ⟨ys, a, rfl⟩
                · obtain rfl : j = 0 := HR.out.2.2.symm
                  go_wp2_with fail
                  go_meet
                  exact ⟨by rw [show behind [] s.ans.q = true from rfl, if_pos rfl]; exact HDq.out.rd, World.grownBy.refl _ _⟩
                · obtain ⟨m, hm⟩ : ∃ m, m = ys.length := ⟨_, rfl⟩
                  have hlen : (ys ++ [a]).length = m + 1 := by rw [hm]; simp
                  obtain rfl : j = m + 1 := by rw [← HR.out.2.2, hlen]
                  have hbe : behind (ys ++ [a]) s.ans.q = decide (a.q.cmp s.ans.q < 0) := by simp [behind]
                  have hat : (ys ++ [a])[m]? = some a := by rw [hm]; simp
                  have hbt := HDq.out.blk
                  have hva7 := HDq.out.oa
                  rw [hlen] at hva7 hbt
                  obtain ⟨gb, ob, rfl, hr⟩ := AnsSl.at (show AnsSl wq (.slice kv (m + 1) cv) (ys ++ [a]) from by
                    have := Flat.of_owns hva7
                    unfold AnsSl
                    rwa [hlen]) hat
                  have x0 : wq.cell? ⟨gb, ob + m * 6, none⟩ = _ := hr 0 _ rfl
                  have x1 := hr 1 _ rfl
                  have x2 := hr 2 _ rfl
                  have x3 := hr 3 _ rfl
                  have x4 := hr 4 _ rfl
                  have hgl : gb < wq.heap.size := by simpa using World.block_lt_of_cell? _ _ x0
                  have hml : m ≤ 10000 := by omega
                  have S0 : (∀ j, wq.cell? ⟨gt, j, none⟩ = (#[.slice ke acc.length ce, .slice (some ⟨gb, ob, none⟩) (m + 1) cv] : Array Value)[j]?) ∧ (∀ j, wq.cell? ⟨q, j, none⟩ = (#[I (s.nth 0), I (s.nth 1), I (s.nth 2), I (s.nth 3), I (s.nth 4), I (s.nth 5)] : Array Value)[j]?) ∧ (∀ o, wq.cell? ⟨gb, o, none⟩ = wq.cell? ⟨gb, o, none⟩) := ⟨hbt.cell, Hq.out.cell, fun _ => rfl⟩
                  have Hbt := Lib.hid hbt
                  have hgtl := hbt.lt
                  have hc1 : ((m + 1 : Nat) : Int) = (m : Int) + 1 := by omega
                  have g1 : (0 : Int) < (m : Int) + 1 := by omega
                  have g2 : (m : Int) + 1 - 1 = m := by omega
                  have g3 : (0 : Int) ≤ m := by omega
                  have g4 : (m : Int) < (m : Int) + 1 := by omega
                  have g5 : decide ((0 : Int) < (m : Int) + 1) = true := decide_eq_true g1
                  have g6 : IntKind.i64.wrap (m : Int) = m := by rw [IntKind.wrap_i64]; omega
                  clear hr hva7 hm hlen hat hbt
                  go_upto_region 17 with fail
                  refine wp_region_ordN 11 [(0, true), (1, true), (2, true), (3, true), (4, true), (5, true), (6, true), (7, true), (8, true), (9, false), (10, true)] (fun w' => (∀ j, w'.cell? ⟨gt, j, none⟩ = (#[.slice ke acc.length ce, .slice (some ⟨gb, ob, none⟩) (m + 1) cv] : Array Value)[j]?) ∧ (∀ j, w'.cell? ⟨q, j, none⟩ = (#[I (s.nth 0), I (s.nth 1), I (s.nth 2), I (s.nth 3), I (s.nth 4), I (s.nth 5)] : Array Value)[j]?) ∧ (∀ o, w'.cell? ⟨gb, o, none⟩ = wq.cell? ⟨gb, o, none⟩)) (by kernel_rfl) rfl rfl (by kernel_rfl) S0 ?_
                  iterate 9 (refine wpOrd_take ?_ (by rfl) ?_ ?_; rotate_left; (intro w hSw; (try dsimp only at hSw); go_simp; try with_reducible rfl); (try simp only [Act.put, List.setIfInBounds_toArray, List.set_cons_zero, List.set_cons_succ]))
                  refine wpOrd_move (fun K hK => ?_)
                  go_simp
                  go_at_call 56
                  refine (refCmpQ a.q s.ans.q _).mono ?_
                  rintro e w7 ⟨rfl, hB6d⟩
                  have hB6 : Below wq.heap.size wq w7 := ⟨hB6d.os, hB6d.tape, hB6d.output, hB6d.size, hB6d.block⟩
                  refine hK.out _ _ ⟨(Hbt.out.kept hB6 (by omega)).cell, (Hq.out.kept hB6 hqlt).cell, fun o => bcell hB6 gb o hgl⟩ ?_
                  clear hK K
                  have Hbe := Lib.hid hbe
                  obtain ⟨z, hz⟩ : ∃ z, z = a.q.cmp s.ans.q := ⟨_, rfl⟩
                  rw [← hz] at Hbe ⊢
                  clear hz hbe
                  (try simp only [Act.put, List.setIfInBounds_toArray, List.set_cons_zero, List.set_cons_succ])
                  (refine wpOrd_take ?_ (by rfl) ?_ ?_; rotate_left; (intro w hSw; (try dsimp only at hSw); go_simp; try with_reducible rfl); (try simp only [Act.put, List.setIfInBounds_toArray, List.set_cons_zero, List.set_cons_succ]))
                  refine wpOrd_nil ?_
                  by_cases hz0 : (0 : Int) ≤ z
                  · go_wp2_with fail
                    refine NoPanic.normal ?_
                    go_wp2_with (go_at_call 57; refine (refFail _ p 5 w7 (HDq.out.rd.below hB6) (Rd.fine_after Hf.out 6)).mono ?_; rintro e w9 ⟨rfl, h9, g9⟩)
                    go_meet
                    exact ⟨by rw [Hbe.out, decide_eq_false (by omega), if_neg (by simp)]; exact h9, (grown_below hB6 (some p)).trans g9⟩
                  · go_wp2_with fail
                    refine NoPanic.normal ?_
                    go_wp2_with fail
                    go_meet
                    exact ⟨by rw [Hbe.out, decide_eq_true (by omega), if_pos rfl]; exact HDq.out.rd.below hB6, grown_below hB6 (some p)⟩
              case rest =>
                obtain ⟨hin9, hg9⟩ := hcut
                obtain ⟨wz, rfl⟩ : ∃ wz, wz = wc := ⟨_, rfl⟩
                have hf9 : (if behind rs s.ans.q then s.after 6 else (s.after 6).fail 5).fine := by
                  split
                  · exact Rd.fine_after Hf.out 6
                  · exact Rd.fine_fail (Rd.fine_after Hf.out 6) (by omega) (by unfold InI64; omega)
                have hnx : ansNext rs s = if s.nth 5 < 1 then (if behind rs s.ans.q then s.after 6 else (s.after 6).fail 5).fail 6 else (if behind rs s.ans.q then s.after 6 else (s.after 6).fail 5) := rfl
                generalize (if behind rs s.ans.q then s.after 6 else (s.after 6).fail 5) = s3 at hin9 hf9 hnx
                have HD9 := Lib.hid (HDq.out.read hin9 hg9)
                have hq9 := Hq.out.grown hg9 (fun e => by simp at e; omega)
                have Hq9 := Lib.hid hq9
                have Hf9 := Lib.hid hf9
                have Hnx := Lib.hid hnx
                have xq9 := hq9.cell 5
                clear hin9 hf9 hnx hq9 hg9 HDq Hq
                go_upto_if 120 with fail
                go_cut [] from 68 to 128 (fun wd => InAt wd p (ansNext rs s) ∧ wz.grownBy wd (some p))
                case first =>
                  by_cases hn1 : s.nth 5 < 1
                  · go_wp2_with (go_at_call 57; refine (refFail _ p 6 wz HD9.out.rd Hf9.out).mono ?_; rintro e w9 ⟨rfl, h9, g9⟩)
                    go_meet
                    exact ⟨by rw [Hnx.out, if_pos hn1]; exact h9, g9⟩
                  · go_wp2_with fail
                    go_meet
                    exact ⟨by rw [Hnx.out, if_neg (by omega)]; exact HD9.out.rd, World.grownBy.refl _ _⟩
                case rest =>
                  obtain ⟨hin10, hg10⟩ := hcut
                  obtain ⟨wv, rfl⟩ : ∃ wv, wv = wc := ⟨_, rfl⟩
                  have hD10 := HD9.out.read hin10 hg10
                  have hq10 := Hq9.out.grown hg10 (fun e => by simp at e; omega)
                  have HDa := Lib.hid (hD10.later (boxed wv #[I (s.nth 0), I (s.nth 1), I (s.nth 2), I (s.nth 3), I (s.nth 4), I (s.nth 5)] 75).2.1)
                  obtain ⟨L, hL⟩ : ∃ L, L = rs.length := ⟨_, rfl⟩
                  have hbt := hD10.blk
                  rw [← hL] at hD10 HDa hbt
                  have HL := Lib.hid hL
                  have Hob := Lib.hid (owns_len hD10.oa hL)
                  have hLl : L ≤ 10000 := by have := HR.out.2.2; omega
                  have b1 := hbt.cell 1
                  have hgl := hbt.lt
                  have Hf10 := Lib.hid (fine_ansNext rs Hf.out)
                  have HQ := Lib.hid (blk_range hq10 0 [I (s.nth 0), I (s.nth 1), I (s.nth 2), I (s.nth 3), I (s.nth 4), I (s.nth 5)] (fun j v hv => by simpa using hv))
                  clear hin10 hg10 hq10 hbt hD10 hL HD9 Hq9 Hf9 Hnx xq9
                  go_upto_region 13 with (first | ((with_reducible refine wpList_load75 rfl _ rfl q 0 [I (s.nth 0), I (s.nth 1), I (s.nth 2), I (s.nth 3), I (s.nth 4), I (s.nth 5)] rfl ?_ ?_ ?_); (rfl); (exact HQ.out)) | (at_builtin; go_must (refine wpList_appB rfl _ _ 24 rfl 75 _ 6 48 Try.underlying24 info75 rfl (by omega) (by omega) (gt + 1) (.slice kv L cv) L _ rfl (Hob.out.alloc _) wv.heap.size 1 1 #[I (s.nth 0), I (s.nth 1), I (s.nth 2), I (s.nth 3), I (s.nth 4), I (s.nth 5)] 75 rfl (heap_alloc_new _ _) rfl rfl (by omega) (by omega) (by simp; omega) ?_); intro g6 cap6 x6 hg6a hg6b hg6c ho6 hgr6 hB6; have hb6 := HDa.out.blk.grown hgr6 (fun e => by have := (HDa.out.oa.lt gt e).1; omega); have d1 := hb6.cell 1; have fd1 := hb6.frozen 1))
                  have hT6 := HDa.out.appA s.ans hg6c ho6 HL.out hgr6
                  have HT6 := Lib.hid hT6
                  clear hT6 ho6 hgr6 hB6 d1 fd1 hb6 b1 Hob
                  go_wp2_with fail
                  go_roundw
                  case rel => exact ⟨j + 1, ansNext rs s, rs ++ [s.ans], _, by go_num, by omega, Lib.hid ⟨by rw [← readAs_next Hf.out He.out, show n1 - (j + 1) + 1 = n1 - j by omega]; exact HR.out.1, Hf10.out, by have := HR.out.2.2; simp; omega⟩, HT6⟩
                  case measure => simp [intOf]; omega
            | false =>
              have hA : decA s1 = (rs, s) := by rw [← HR.out.1, readAs_stop Hf.out Hbb.out.symm]
              have hdp : decP b = if s.stop = 0 then ((acc, rs), 0) else (([], []), s.stop) := by
                unfold decP
                rw [HdE.out]
                simp only []
                rw [hA]
              have hD := HD.out
              have HX := Lib.hid (refEnd s p wr hD.rd Hf.out)
              have hpe := Hp.out
              have hge := Hg.out
              have hres := Hr0.out.kept hD.below (by omega)
              have hBf := HB0.out.trans (hD.below.mono (by omega))
              obtain ⟨kv, cv, rfl, _⟩ := (Flat.of_owns hD.oa).open
              have bc0 := hD.blk.cell 0
              have bc1 := hD.blk.cell 1
              have r0 := hres.cell 0
              have r1 := hres.cell 1
              have fr0 := hres.frozen 0
              have fr1 := hres.frozen 1
              have HBf := Lib.hid hBf
              have Hres := Lib.hid hres
              have Hdp := Lib.hid hdp
              have HDe := Lib.hid hD
              have Hge := Lib.hid (show w.heap.size < gt + 1 by omega)
              have Hws := Lib.hid (show w.heap.size ≤ wr.heap.size from hBf.size)
              clear hA hdp hres hBf hD HD HdE hpe hge
              by_cases hst : s.stop = 0
              · go_wp2_with (go_at_call 58; refine HX.out.mono ?_; rintro e w6 ⟨rfl, rfl⟩)
                obtain ⟨hbf, hgf⟩ := blk_set2 Hres.out (.slice ke acc.length ce) (.slice kv rs.length cv)
                have e1 := Flat.of_owns (HDe.out.oe.kept hgf (own_ne HDe.out.oe Hge.out))
                have e2 := Flat.of_owns (HDe.out.oa.kept hgf (own_ne HDe.out.oa Hge.out))
                have hB9 := HBf.out.grown hgf Hws.out (fun g hg => by cases hg; omega)
                generalize (w6.setCell ⟨w.heap.size, 0, none⟩ (.slice ke acc.length ce)).setCell ⟨w.heap.size, 1, none⟩ (.slice kv rs.length cv) = W5 at hbf hgf e1 e2 hB9 ⊢
                obtain ⟨t5, ht5⟩ := hbf
                refine bodyPost_ret (results_two Try.results21 _ _ _ t5 _ rfl (0, 0) rfl ht5) rfl ?_
                rw [Hdp.out, if_pos hst]
                exact ⟨_, _, rfl, e1, e2, hB9⟩
              · go_wp2_with (go_at_call 58; refine HX.out.mono ?_; rintro e w6 ⟨rfl, rfl⟩)
                obtain ⟨hbf, hgf⟩ := blk_set2 Hres.out (.slice none 0 0) (.slice none 0 0)
                have hB9 := HBf.out.grown hgf Hws.out (fun g hg => by cases hg; omega)
                generalize (w6.setCell ⟨w.heap.size, 0, none⟩ (.slice none 0 0)).setCell ⟨w.heap.size, 1, none⟩ (.slice none 0 0) = W5 at hbf hgf hB9 ⊢
                obtain ⟨t5, ht5⟩ := hbf
                refine bodyPost_ret (results_two Try.results21 _ _ _ t5 _ rfl (0, 0) rfl ht5) rfl ?_
                rw [Hdp.out, if_neg hst]
                exact ⟨_, _, rfl, Flat.nil _ _ _ _, Flat.nil _ _ _ _, hB9⟩
end Go.Proofs.Ytjdhcdbjfbhogaa
