/- TapeCanonical: the walk. (Printed by mkL5.py, then gen.py.) -/
import Derived.Test.YtjdhcdbjfbhogaaQ2
import Derived.Test.YtjdhcdbjfbhogaaQ4
import Derived.Test.YtjdhcdbjfbhogaaQ5
import Derived.Deep.CutRange
namespace Go.Proofs.Ytjdhcdbjfbhogaa
open Go.RowKit

theorem decP_bad {b : List Int} (h : (decP b).2 ≠ 0) : (decP b).1 = ([], []) := by
  unfold decP at h ⊢
  split
  · rename_i h2
    rw [if_pos h2] at h
    exact absurd rfl h
  · rfl
set_option maxHeartbeats 2000000 in
set_option maxRecDepth 100000 in
theorem lawCanonical (raw ns ms : List Int) (evn an : Int) (kr : Option Addr) (cr : Nat) (vn vm : Value) (w : World) (hraw : BySl w (.slice kr raw.length cr) raw) (hcr : raw.length ≤ cr) (hrb : ∀ c ∈ raw, IsByte c) (hns : IntSl w vn ns) (hms : IntSl w vm ms) (okn : ∀ n ∈ ns, InI64 n) (okm : ∀ n ∈ ms, InI64 n) (hev_ : InI64 evn) (han : InI64 an) :
    Calls Try.prog 5 #[.slice kr raw.length cr, I evn, vn, I an, vm] w fun e w' => e = .returned (.bool true) ∧ Below w.heap.size w w' := by
  obtain ⟨kn, cn, rfl, hmn⟩ := hns.open
  obtain ⟨km, cm, rfl, hmm⟩ := hms.open
  obtain ⟨_, _, _, hmr⟩ := hraw.open
  have Hraw := Lib.hid hraw
  have Hrb := Lib.hid hrb
  have Hns := Lib.hid hns
  have Hms := Lib.hid hms
  have Hokn := Lib.hid okn
  have Hokm := Lib.hid okm
  have hout : OutAt (w.alloc (.cells #[.slice none 0 0] 43)) w.heap.size w.heap.size [] (.slice none 0 0) := ⟨Blk.new _ _ _, World.ownsRow_nil _ _ _ _, by simp [Value.ownBlock]⟩
  obtain ⟨_, hB0, hz0⟩ := boxed w #[.slice none 0 0] 43
  have hxs : (∀ c ∈ ([] : List Int), IsByte c) ∧ ([] : List Int).length ≤ 0 := ⟨(by intro c hc; cases hc), (by simp)⟩
  clear hraw hrb hns hms okn okm
  go_enter Try.func5, Try.ntmps5
  go_upto_region 2 with fail
  generalize w.alloc (.cells #[.slice none 0 0] 43) = w0 at hout hB0 hz0 ⊢
  have hBo : Below w.heap.size w0 w0 := Below.refl _ _
  have hBz := hBo.size
  have HA := Lib.hid (around_any evn 3 w0 (by omega) hev_.1 hev_.2)
  obtain ⟨a0, a3⟩ := around_range evn 3 (by omega)
  obtain ⟨ev, hev⟩ : ∃ ev : Nat, around evn 3 = ev := ⟨(around evn 3).toNat, by omega⟩
  rw [hev] at HA
  have hev3 : ev < 3 := by omega
  clear hev a0 a3
  have HU := Lib.hid (outUint ev w.heap.size w.heap.size [] (.slice none 0 0) w0 (by omega) hout (by omega) (by have := hxs.2; omega))
  have hne : ∀ g, Value.ownBlock (.slice none 0 0) = some g → w.heap.size ≤ g := fun g hg => (hout.own.lt g hg).1
  have Hne := Lib.hid hne
  have Hxs := Lib.hid hxs
  have HBo := Lib.hid hBo
  clear hout hxs hBo hne
  go_wp2_with (first | (go_at_call 18; refine HA.out.mono ?_; rintro e w1 ⟨rfl, rfl⟩) | (go_at_call 23; refine HU.out.mono ?_; rintro e w2 ⟨rfl, u2, hout, hw2⟩))
  have hBo := HBo.out.trans (hw2.below (Nat.le_refl _) Hne.out (by omega))
  have hxs : (∀ c ∈ [] ++ encU ev, IsByte c) ∧ ([] ++ encU ev).length ≤ 10 := ⟨fun c hc => by
    rcases List.mem_append.1 hc with hc | hc
    · exact Hxs.out.1 c hc
    · exact encU_byte _ c hc, by
    rw [List.length_append]
    have := encU_length ev 9 (by omega)
    have := Hxs.out.2
    omega⟩
  clear HA HU Hne Hxs HBo hw2
  go_loopw [12] (fun i wr => ∃ (k : Nat) (u : Value) (xs : List Int), k ≤ 16 ∧ i = .int .i64 k ∧ Hid (OutAt wr w.heap.size w.heap.size xs u) ∧ Hid (Below w.heap.size w0 wr) ∧ Hid ((∀ c ∈ xs, IsByte c) ∧ xs.length ≤ 10 + 10 * k)) (fun i _ => 16 - (intOf i).toNat)
  case atStart => exact ⟨0, _, _, by omega, rfl, Lib.hid hout, Lib.hid hBo, Lib.hid hxs⟩
  case round =>
    clear hout hBo hxs
    obtain ⟨k, u, xs, hk, rfl, Ho, HB, Hx⟩ := hrel
    have hzr := HB.out.size
    obtain ⟨bb, hbb⟩ : ∃ bb : Bool, bb = (decide (k < ns.length) && decide (k < 16)) := ⟨_, rfl⟩
    have Hbb := Lib.hid hbb
    clear hbb
    go_upto_region 4 with fail
    go_cut [29] from 22 to 36 (fun t wc => t = .bool bb ∧ wc = wr)
    case first =>
      by_cases hlt : k < ns.length
      · by_cases h8 : k < 16
        · go_wp2_with fail
          go_meet
          exact ⟨by rw [Hbb.out]; simp [hlt, h8]; omega, rfl⟩
        · go_wp2_with fail
          go_meet
          exact ⟨by rw [Hbb.out]; simp [h8]; omega, rfl⟩
      · go_wp2_with fail
        go_meet
        exact ⟨by rw [Hbb.out]; simp [hlt], rfl⟩
    case rest =>
      obtain ⟨rfl, hwc⟩ := hcut
      have hwc := hwc.symm
      subst hwc
      cases bb with
      | true =>
        have hh : k < ns.length ∧ k < 16 := by
          have := Hbb.out
          simp at this
          exact this
        obtain ⟨hlt, h8⟩ := hh
        obtain ⟨b, o, rfl, x0⟩ := IntSl.at (Hns.out.kept (hB0.trans HB.out) (Nat.le_refl _)) (i := k) (x := ns[k]) (by simp [hlt])
        have hxo := Hokn.out _ (List.getElem_mem hlt)
        generalize ns[k] = x at x0 hxo ⊢
        have HI := Lib.hid (outInt x w.heap.size w.heap.size xs u wr hxo Ho.out (by omega) (by have := Hx.out.2; omega))
        have hne : ∀ g, u.ownBlock = some g → w.heap.size ≤ g := fun g hg => (Ho.out.own.lt g hg).1
        go_wp2_with (go_at_call 24; refine HI.out.mono ?_; rintro e w2 ⟨rfl, u2, h1, h2⟩)
        have hB2 := HB.out.trans (h2.below (Nat.le_refl _) hne (by omega))
        go_roundw
        case rel => exact ⟨k + 1, u2, _, by omega, by go_num, Lib.hid h1, Lib.hid hB2, Lib.hid ⟨fun c hc => by
            rcases List.mem_append.1 hc with hc | hc
            · exact Hx.out.1 c hc
            · exact encU_byte _ c hc, by
            rw [List.length_append]
            have := encI_length x hxo
            have := Hx.out.2
            omega⟩⟩
        case measure => simp [intOf]; omega
      | false =>
        clear Hbb
        have hout := Ho.out
        have hBo := HB.out
        have hxs := Hx.out
        clear Ho HB Hx
        obtain ⟨wb, rfl⟩ : ∃ wb, wb = wr := ⟨_, rfl⟩
        have hBz := hBo.size
        have HA := Lib.hid (around_any an 3 wb (by omega) han.1 han.2)
        obtain ⟨a0, a3⟩ := around_range an 3 (by omega)
        obtain ⟨ev, hev⟩ : ∃ ev : Nat, around an 3 = ev := ⟨(around an 3).toNat, by omega⟩
        rw [hev] at HA
        have hev3 : ev < 3 := by omega
        clear hev a0 a3
        have HU := Lib.hid (outUint ev w.heap.size w.heap.size xs u wb (by omega) hout (by omega) (by have := hxs.2; omega))
        have hne : ∀ g, Value.ownBlock u = some g → w.heap.size ≤ g := fun g hg => (hout.own.lt g hg).1
        have Hne := Lib.hid hne
        have Hxs := Lib.hid hxs
        have HBo := Lib.hid hBo
        clear hout hxs hBo hne
        go_wp2_with (first | (go_at_call 18; refine HA.out.mono ?_; rintro e w1 ⟨rfl, rfl⟩) | (go_at_call 23; refine HU.out.mono ?_; rintro e w2 ⟨rfl, u2, hout, hw2⟩))
        have hBo := HBo.out.trans (hw2.below (Nat.le_refl _) Hne.out (by omega))
        have hxs : (∀ c ∈ xs ++ encU ev, IsByte c) ∧ (xs ++ encU ev).length ≤ 180 := ⟨fun c hc => by
          rcases List.mem_append.1 hc with hc | hc
          · exact Hxs.out.1 c hc
          · exact encU_byte _ c hc, by
          rw [List.length_append]
          have := encU_length ev 9 (by omega)
          have := Hxs.out.2
          omega⟩
        clear HA HU Hne Hxs HBo hw2
        go_loopw [13] (fun i wr => ∃ (k : Nat) (u : Value) (xs : List Int), k ≤ 12 ∧ i = .int .i64 k ∧ Hid (OutAt wr w.heap.size w.heap.size xs u) ∧ Hid (Below w.heap.size w0 wr) ∧ Hid ((∀ c ∈ xs, IsByte c) ∧ xs.length ≤ 180 + 10 * k)) (fun i _ => 12 - (intOf i).toNat)
        case atStart => exact ⟨0, _, _, by omega, rfl, Lib.hid hout, Lib.hid hBo, Lib.hid hxs⟩
        case round =>
          clear hout hBo hxs
          obtain ⟨k, u, xs, hk, rfl, Ho, HB, Hx⟩ := hrel
          have hzr := HB.out.size
          obtain ⟨bb, hbb⟩ : ∃ bb : Bool, bb = (decide (k < ms.length) && decide (k < 12)) := ⟨_, rfl⟩
          have Hbb := Lib.hid hbb
          clear hbb
          go_upto_region 9 with fail
          go_cut [48] from 41 to 55 (fun t wc => t = .bool bb ∧ wc = wr)
          case first =>
            by_cases hlt : k < ms.length
            · by_cases h8 : k < 12
              · go_wp2_with fail
                go_meet
                exact ⟨by rw [Hbb.out]; simp [hlt, h8]; omega, rfl⟩
              · go_wp2_with fail
                go_meet
                exact ⟨by rw [Hbb.out]; simp [h8]; omega, rfl⟩
            · go_wp2_with fail
              go_meet
              exact ⟨by rw [Hbb.out]; simp [hlt], rfl⟩
          case rest =>
            obtain ⟨rfl, hwc⟩ := hcut
            have hwc := hwc.symm
            subst hwc
            cases bb with
            | true =>
              have hh : k < ms.length ∧ k < 12 := by
                have := Hbb.out
                simp at this
                exact this
              obtain ⟨hlt, h8⟩ := hh
              obtain ⟨b, o, rfl, x0⟩ := IntSl.at (Hms.out.kept (hB0.trans HB.out) (Nat.le_refl _)) (i := k) (x := ms[k]) (by simp [hlt])
              have hxo := Hokm.out _ (List.getElem_mem hlt)
              generalize ms[k] = x at x0 hxo ⊢
              have HI := Lib.hid (outInt x w.heap.size w.heap.size xs u wr hxo Ho.out (by omega) (by have := Hx.out.2; omega))
              have hne : ∀ g, u.ownBlock = some g → w.heap.size ≤ g := fun g hg => (Ho.out.own.lt g hg).1
              go_wp2_with (go_at_call 24; refine HI.out.mono ?_; rintro e w2 ⟨rfl, u2, h1, h2⟩)
              have hB2 := HB.out.trans (h2.below (Nat.le_refl _) hne (by omega))
              go_roundw
              case rel => exact ⟨k + 1, u2, _, by omega, by go_num, Lib.hid h1, Lib.hid hB2, Lib.hid ⟨fun c hc => by
                  rcases List.mem_append.1 hc with hc | hc
                  · exact Hx.out.1 c hc
                  · exact encU_byte _ c hc, by
                  rw [List.length_append]
                  have := encI_length x hxo
                  have := Hx.out.2
                  omega⟩⟩
              case measure => simp [intOf]; omega
            | false =>
              clear Hbb
              have hout := Ho.out
              have hBo := HB.out
              have hxs := Hx.out
              clear Ho HB Hx
              have hxl : xs.length ≤ 300 := by have := hxs.2; omega
              have hxb := hxs.1
              have HF := Lib.hid (fewC raw kr cr wr (Hraw.out.kept (hB0.trans hBo) (Nat.le_refl _)) hcr)
              have Hout := Lib.hid hout
              have hzo := hBo.size
              have HBo := Lib.hid (hB0.trans hBo)
              have hl80 : (raw.take 80).length ≤ 80 := by rw [List.length_take]; omega
              have hb80 : ∀ c ∈ raw.take 80, IsByte c := fun c hc => Hrb.out c (List.mem_of_mem_take hc)
              generalize raw.take 80 = rt at HF hl80 hb80
              clear hout hBo hxs
              go_wp2_with (first | (go_at_call 19; refine HF.out.mono ?_; rintro e w3 ⟨uf, rfl, hf, B3⟩; obtain ⟨kf, cf, rfl, _⟩ := (Flat.of_owns hf).open; have HDn := Lib.hid (outDone _ _ _ _ w3 (Hout.out.below B3) (by omega))) | (go_at_call 25; refine HDn.out.mono ?_; rintro e w4 ⟨ud, rfl, hd, B4⟩; obtain ⟨kd, cd, rfl, _⟩ := (Flat.of_owns hd).open))
              obtain ⟨hab, B5, z5⟩ := boxed w4 #[.slice kf rt.length cf, .slice kd xs.length cd] 30
              generalize w4.alloc (.cells #[.slice kf rt.length cf, .slice kd xs.length cd] 30) = w5 at hab B5 z5 ⊢
              have hF5 : BySl w5 (.slice kf rt.length cf) rt := Flat.kept (Flat.kept (Flat.of_owns hf) B4 (Nat.le_refl _)) B5 (Nat.le_refl _)
              have hD5 : BySl w5 (.slice kd xs.length cd) xs := Flat.kept (Flat.of_owns hd) B5 (Nat.le_refl _)
              have hw5 : Below w.heap.size w w5 := Below.then (Below.then (Below.then HBo.out B3) B4) B5
              have s5 := hw5.size
              have hel : ∀ i : Nat, i < 2 → ∃ kx cx b, (#[.slice kf rt.length cf, .slice kd xs.length cd] : Array Value)[i]? = some (.slice kx b.length cx) ∧ BySl w5 (.slice kx b.length cx) b ∧ (∀ c ∈ b, IsByte c) ∧ b.length ≤ 1000 := fun i hi => by
                have : i = 0 ∨ i = 1 := by omega
                rcases this with rfl | rfl
                · exact ⟨kf, cf, rt, rfl, hF5, hb80, by omega⟩
                · exact ⟨kd, cd, xs, rfl, hD5, hxb, by omega⟩
              obtain ⟨ga, ega⟩ : ∃ g, g = w4.heap.size := ⟨_, rfl⟩
              rw [← ega] at hab ⊢
              have Hel := Lib.hid hel
              have Hw5 := Lib.hid hw5
              clear hel hw5 hF5 hD5 hf hd B3 B4 B5 HF HDn Hout HBo hxb hb80 ega z5
              go_loopw [15] (fun i wr => ∃ k : Nat, k ≤ 2 ∧ i = .int .i64 k ∧ Below w5.heap.size w5 wr) (fun i _ => 2 - (intOf i).toNat)
              case atStart => exact ⟨0, by omega, rfl, Below.refl _ _⟩
              case round =>
                obtain ⟨k, hk, rfl, hB⟩ := hrel
                have hzr3 := hB.size
                have hac := (hab.kept hB hab.lt).cell
                by_cases hlt : k < 2
                · obtain ⟨kx, cx, b, hx, hbx, hbb, hbl⟩ := Hel.out k hlt
                  have x0 : wr.cell? ⟨ga, k, none⟩ = some (.slice kx b.length cx) := ((hab.kept hB hab.lt).cell k).trans hx
                  have HD := Lib.hid (decodeF b (.slice kx b.length cx) wr (hbx.kept hB (Nat.le_refl _)) hbb (by omega))
                  have Hbb := Lib.hid hbb
                  have hok := decP_ok hbb
                  have hbad := @decP_bad b
                  have hinv := decP_inv hbb
                  generalize decP b = dd at HD hok hbad hinv
                  obtain ⟨⟨evs, rs⟩, er⟩ := dd
                  (try dsimp only at HD hok hbad hinv)
                  have Hbx := Lib.hid hbx
                  have Hx := Lib.hid hx
                  clear hbb hbx hac hx
                  have hac := (hab.kept hB hab.lt).cell
                  go_upto_region 17 with (go_at_call 20; refine HD.out.mono ?_; rintro e w6 ⟨ue, ua, rfl, hve, hva, B6⟩; obtain ⟨k1, c1, rfl, _⟩ := hve.open; obtain ⟨k2, c2, rfl, _⟩ := hva.open)
                  obtain ⟨ht, B7, z7⟩ := boxed w6 #[.slice k1 evs.length c1, .slice k2 rs.length c2] 26
                  generalize w6.alloc (.cells #[.slice k1 evs.length c1, .slice k2 rs.length c2] 26) = w7 at ht B7 z7 ⊢
                  have C7 := Below.then (Below.then hB B6) B7
                  have hTI : TapeIn w7 k1 c1 k2 c2 evs rs := ⟨hve.kept B7 (Nat.le_refl _), hva.kept B7 (Nat.le_refl _)⟩
                  obtain ⟨gt, egt⟩ : ∃ g, g = w6.heap.size := ⟨_, rfl⟩
                  rw [← egt] at ht ⊢
                  have hab7 := hab.kept C7 hab.lt
                  have HT := Lib.hid hTI
                  have hbx7 := Hbx.out.kept C7 (Nat.le_refl _)
                  have HB7 := Lib.hid hbx7
                  have HC7 := Lib.hid C7
                  have y0 : w7.cell? ⟨ga, k, none⟩ = some (.slice kx b.length cx) := (hab7.cell k).trans Hx.out
                  clear egt hve hva B6 B7 z7 HD hTI hbx7 x0 C7
                  by_cases her : er = 0
                  · obtain ⟨hbe, hnr, hle, hlr⟩ := hinv her
                    subst her
                    have HS := Lib.hid (show ∀ X, Below w7.heap.size w7 X → ((∀ j, X.cell? ⟨gt, j, none⟩ = (#[.slice k1 evs.length c1, .slice k2 rs.length c2] : Array Value)[j]?)) ∧ X.cell? ⟨ga, k, none⟩ = some (.slice kx b.length cx) from fun X hX => ⟨(ht.kept hX ht.lt).cell, ((hab7.kept hX hab7.lt).cell k).trans Hx.out⟩)
                    have Hbe := Lib.hid hbe
                    have Hnr := Lib.hid hnr
                    have Hok := Lib.hid hok
                    clear hbe hnr hok hbad hinv hac ht hab7 y0
                    go_upto_region 20 with fail
                    have D0 : Below w7.heap.size w7 w7.drew := (Below.refl _ _).drew
                    refine wp_region_ordN 15 [(0, true), (2, true), (3, true), (4, true), (5, true), (1, false), (6, false), (7, true), (8, true), (9, true), (11, true), (10, false), (12, false), (13, true), (14, true)] (fun w' => ((∀ j, w'.cell? ⟨gt, j, none⟩ = (#[.slice k1 evs.length c1, .slice k2 rs.length c2] : Array Value)[j]?)) ∧ w'.cell? ⟨ga, k, none⟩ = some (.slice kx b.length cx)) (by kernel_rfl) rfl rfl (by kernel_rfl) (HS.out _ D0) ?_
                    iterate 5 (refine wpOrd_take ?_ (by rfl) ?_ ?_; rotate_left; (intro w hSw; (try dsimp only at hSw); go_simp; try with_reducible rfl); (try simp only [Act.put, List.setIfInBounds_toArray, List.set_cons_zero, List.set_cons_succ]))
                    refine wpOrd_move (fun K hK => ?_)
                    go_simp
                    go_at_call 15
                    refine (encodeF evs rs _ _ _ (HT.out.kept D0).1 (HT.out.kept D0).2 Hok.out.2 Hok.out.1 (by omega) (by omega)).mono ?_
                    rintro e X1 ⟨ub, rfl, hub, F1⟩
                    have D1 := Below.then D0 F1
                    rw [Hnr.out, ← Hbe.out] at hub
                    obtain ⟨kb, cb, rfl, _⟩ := (Flat.of_owns hub).open
                    have hs1 : BySl X1 (.slice kb b.length cb) b := Flat.of_owns hub
                    refine hK.out _ _ (HS.out _ D1) ?_
                    clear hK K
                    (try simp only [Act.put, List.setIfInBounds_toArray, List.set_cons_zero, List.set_cons_succ])
                    refine wpOrd_move (fun K hK => ?_)
                    go_simp
                    go_at_call 14
                    refine (sameBy b b (.slice kb b.length cb) (.slice kx b.length cx) X1 hs1 (HB7.out.kept D1 (Nat.le_refl _))).mono ?_
                    rintro e X2 ⟨rfl, F2⟩
                    have D2 := Below.then D1 F2
                    rw [decide_eq_true rfl]
                    refine hK.out _ _ (HS.out _ D2) ?_
                    clear hK K
                    (try simp only [Act.put, List.setIfInBounds_toArray, List.set_cons_zero, List.set_cons_succ])
                    iterate 4 (refine wpOrd_take ?_ (by rfl) ?_ ?_; rotate_left; (intro w hSw; (try dsimp only at hSw); go_simp; try with_reducible rfl); (try simp only [Act.put, List.setIfInBounds_toArray, List.set_cons_zero, List.set_cons_succ]))
                    refine wpOrd_move (fun K hK => ?_)
                    go_simp
                    go_at_call 26
                    refine (normT_ evs rs k1 c1 k2 c2 _ (HT.out.kept D2) Hok.out.2 (by omega) (by omega)).mono ?_
                    rintro e X3 ⟨k5, c5, k6, c6, rfl, hx3, F3⟩
                    have D3 := Below.then D2 F3
                    rw [Hnr.out] at hx3 ⊢
                    refine hK.out _ _ (HS.out _ D3) ?_
                    clear hK K
                    (try simp only [Act.put, List.setIfInBounds_toArray, List.set_cons_zero, List.set_cons_succ])
                    refine wpOrd_move (fun K hK => ?_)
                    go_simp
                    go_at_call 22
                    refine (sameT evs evs rs rs k5 c5 k6 c6 k1 c1 k2 c2 _ hx3 (HT.out.kept D3)).mono ?_
                    rintro e X4 ⟨rfl, F4⟩
                    have D4 := Below.then D3 F4
                    rw [show (decide (evs = evs) && decide (rs = rs)) = true by simp]
                    refine hK.out _ _ (HS.out _ D4) ?_
                    clear hK K
                    (try simp only [Act.put, List.setIfInBounds_toArray, List.set_cons_zero, List.set_cons_succ])
                    iterate 2 (refine wpOrd_take ?_ (by rfl) ?_ ?_; rotate_left; (intro w hSw; (try dsimp only at hSw); go_simp; try with_reducible rfl); (try simp only [Act.put, List.setIfInBounds_toArray, List.set_cons_zero, List.set_cons_succ]))
                    refine wpOrd_nil ?_
                    go_wp2_with fail
                    refine NoPanic.normal ?_
                    go_wp2_with fail
                    go_roundw
                    case rel => exact ⟨k + 1, by omega, by go_num, HC7.out.trans (D4.mono HC7.out.size)⟩
                    case measure => simp [intOf]; omega
                  · have hh := hbad her
                    cases hh
                    have tc := ht.cell
                    go_wp2_with fail
                    go_roundw
                    case rel => exact ⟨k + 1, by omega, by go_num, HC7.out⟩
                    case measure => simp [intOf]; omega
                · obtain rfl : k = 2 := by omega
                  go_wp2_with fail
                  refine (livesF _).mono ?_
                  rintro e Z ⟨rfl, F⟩
                  go_wp2_with fail
                  go_ret
                  exact ⟨rfl, Hw5.out.trans ((Below.then hB F).mono s5)⟩

end Go.Proofs.Ytjdhcdbjfbhogaa
