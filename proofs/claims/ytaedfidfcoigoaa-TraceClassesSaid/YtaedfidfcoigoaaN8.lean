/- trace.Normal: the walk. -/
import Derived.Test.YtaedfidfcoigoaaN6
import Derived.Test.YtaedfidfcoigoaaN7
import Derived.Test.YtaedfidfcoigoaaP3
import Derived.Test.YtaedfidfcoigoaaP8
namespace Go.Proofs.Ytaedfidfcoigoaa
open Go.RowKit

/-- Which steps have been done. -/
def DnAt (W : World) (g n : Nat) (d : List Nat) : Prop := ∃ arr : Array Value, Blk W g arr ∧ arr.size = n ∧ ∀ b < n, arr[b]? = some (.bool (decide (b ∈ d)))
theorem DnAt.cell {W : World} {g n : Nat} {d : List Nat} (h : DnAt W g n d) {b : Nat} (hb : b < n) : W.cell? ⟨g, b, none⟩ = some (.bool (decide (b ∈ d))) ∧ W.frozen? ⟨g, b, none⟩ = false := by
  obtain ⟨wa, h1, h2, h3⟩ := h
  exact ⟨(h1.cell b).trans (h3 b hb), h1.frozen b⟩
theorem DnAt.set {W : World} {g n : Nat} {d : List Nat} (h : DnAt W g n d) (b : Nat) : DnAt (W.setCell ⟨g, b, none⟩ (.bool true)) g n (d ++ [b]) := by
  obtain ⟨wa, h1, h2, h3⟩ := h
  refine ⟨_, h1.set b _, by rw [Array.size_setIfInBounds]; exact h2, fun c hc => ?_⟩
  by_cases e : b = c
  · subst e
    rw [Array.getElem?_setIfInBounds_self_of_lt (by rw [h2]; exact hc)]
    simp
  · rw [Array.getElem?_setIfInBounds_ne e, h3 c hc]
    simp [Ne.symm e]
theorem DnAt.kept {W W' : World} {g n B : Nat} {d : List Nat} (h : DnAt W g n d) (hb : Below B W W') (hg : g < B) : DnAt W' g n d := by
  obtain ⟨wa, h1, h2, h3⟩ := h
  exact ⟨wa, h1.kept hb hg, h2, h3⟩
theorem DnAt.setOther {W : World} {g n : Nat} {d : List Nat} (h : DnAt W g n d) (a : Addr) (v : Value) (hne : a.block ≠ g) : DnAt (W.setCell a v) g n d := by
  obtain ⟨wa, h1, h2, h3⟩ := h
  exact ⟨wa, h1.setOther a v hne, h2, h3⟩
theorem WtAt.setOther {W : World} {g n : Nat} {t : Nat → Nat} (h : WtAt W g n t) (a : Addr) (v : Value) (hne : a.block ≠ g) : WtAt (W.setCell a v) g n t := by
  obtain ⟨wa, h1, h2, h3⟩ := h
  exact ⟨wa, h1.setOther a v hne, h2, h3⟩
theorem WtAt.alloc {W : World} {g n : Nat} {t : Nat → Nat} (h : WtAt W g n t) (o : Obj) : WtAt (W.alloc o) g n t := by
  obtain ⟨wa, h1, h2, h3⟩ := h
  exact ⟨wa, h1.alloc o, h2, h3⟩

set_option maxHeartbeats 8000000 in
set_option maxRecDepth 100000 in
theorem trNormalF (run : List Stp) (v : Value) (w : World) (hrun : StpSl w v run) (hn : run.length ≤ 64) (hask : ∀ s ∈ run, s.asks.length ≤ 1000000) (hsent : ∀ s ∈ run, s.sent.length ≤ 1000000) :
    Calls Try.prog 24 #[v] w fun e w' => ∃ u, e = .returned u ∧ StpSlF w.heap.size w' u (normS run) ∧ Below w.heap.size w w' := by
  have Hown := Lib.hid (trOwnF run v w hrun (by omega) hask hsent)
  have hmk := fun W => run_mk1 (P := Try.prog) 22 3 (.int .i64 0) 8 run.length Try.underlying22 info3 rfl (by omega) (by omega) W
  have hmk2 := fun W => run_mk1 (P := Try.prog) 69 4 (.bool false) 1 run.length Try.underlying69 info4 rfl (by omega) (by omega) W
  clear hask hsent
  go_enter Try.func24, Try.ntmps24
  go_wp2_with fail
  refine Hown.out.mono ?_
  rintro e w1 ⟨u, rfl, hr1F, hB1⟩
  have hr1 := hr1F.sl
  obtain ⟨ka, ca, rfl, hml⟩ := hr1.open
  go_wp2_with fail
  refine (depOrder run _ _ hr1 hn).mono ?_
  rintro e w2 ⟨p, rfl, hO, hB2⟩
  have hr2 := hr1.kept hB2 (Nat.le_refl _)
  have hr2F := hr1F.kept hB2
  have hBw2 : Below w.heap.size w w2 := hB1.trans (hB2.mono hB1.size)
  clear hr1 hr1F hB1 hB2
  go_wp2_with fail
  have hwt0 : WtAt (w2.alloc (.cells (mk1 run.length (.int .i64 0)) 3)) w2.heap.size run.length (fun _ => 0) := ⟨_, Blk.new _ _ _, mk1_size _ _, fun b hb => mk1_get _ _ _ hb⟩
  go_loopw [21] (fun i wr => ∃ k : Nat, k ≤ run.length ∧ i = .int .i64 k ∧ WtAt wr w2.heap.size run.length (fun x => if x < k then wts run [] x else 0) ∧ Below w2.heap.size w2 wr) (fun i _ => run.length - (intOf i).toNat)
  case atStart => exact ⟨0, by omega, rfl, hwt0.congr (fun b _ => by simp), (Below.refl _ _).alloc (Nat.le_refl _) _⟩
  case round =>
    clear hwt0
    obtain ⟨k, hk, rfl, hwt, hB⟩ := hrel
    by_cases hlt : k < run.length
    · go_wp2_with fail
      obtain ⟨wo, rfl⟩ : ∃ wo : World, wo = wr := ⟨_, rfl⟩
      go_loopw [25] (fun j wr => ∃ m : Nat, m ≤ k ∧ j = .int .i64 m ∧ WtAt wr w2.heap.size run.length (fun x => if x < k then wts run [] x else if x = k then cntL run k m else 0) ∧ Below w2.heap.size w2 wr) (fun j _ => k - (intOf j).toNat)
      case atStart => exact ⟨0, by omega, rfl, hwt.congr (fun b _ => by simp [cntL]), hB⟩
      case round =>
        clear hwt hB
        obtain ⟨m, hm, rfl, hwt, hB⟩ := hrel
        by_cases hlt2 : m < k
        · have hc := hwt.cell hlt
          simp only [Nat.lt_irrefl, if_false, if_true] at hc
          obtain ⟨hc1, hc2⟩ := hc
          have hcl := cntL_le run k m
          have hcs := cntL_succ run k m
          by_cases hl : lessB run m k = true
          · have hless := ordLess p run.length (lessB run) m k wr (hO.kept hB (Nat.le_refl _)) (by omega) hlt
            rw [hl] at hless
            rw [if_pos hl] at hcs
            have hst := hwt.set (t' := fun x => if x < k then wts run [] x else if x = k then cntL run k (m + 1) else 0) k (fun c hc => by simp [hc])
            simp only [Nat.lt_irrefl, if_false, if_true, hcs] at hst
            rw [show ((cntL run k m + 1 : Nat) : Int) = (cntL run k m : Int) + 1 from by omega] at hst
            have Hst := Lib.hid hst
            have Hcs := Lib.hid hcs
            have Hless := Lib.hid hless
            clear hst hcs hless hl hwt
            go_wp2_with fail
            refine Hless.out.mono ?_
            rintro e w3 ⟨rfl, rfl⟩
            go_wp2_with fail
            go_roundw
            case rel => exact ⟨m + 1, by omega, by go_num, by rw [Hcs.out]; exact Hst.out, hB.setCell (Nat.le_refl _) _⟩
            case measure => simp [intOf]; omega
          · have hl' : lessB run m k = false := by simpa using hl
            have hless := ordLess p run.length (lessB run) m k wr (hO.kept hB (Nat.le_refl _)) (by omega) hlt
            rw [hl'] at hless
            rw [if_neg hl, Nat.add_zero] at hcs
            have Hwt := Lib.hid hwt
            have Hcs := Lib.hid hcs
            have Hless := Lib.hid hless
            clear hcs hless hl hl' hwt
            go_wp2_with fail
            refine Hless.out.mono ?_
            rintro e w3 ⟨rfl, rfl⟩
            go_wp2_with fail
            go_roundw
            case rel => exact ⟨m + 1, by omega, by go_num, by rw [Hcs.out]; exact Hwt.out, hB⟩
            case measure => simp [intOf]; omega
        · have hmk' : m = k := by omega
          have hwt2 : WtAt wr w2.heap.size run.length (fun x => if x < k + 1 then wts run [] x else 0) := hwt.congr fun b _ => by
            by_cases h1 : b < k
            · simp [h1, Nat.lt_succ_of_lt h1]
            · by_cases h2 : b = k
              · subst h2
                rw [hmk']
                simp [cntL_end run b hlt]
              · have h3 : ¬ b < k + 1 := by omega
                simp [h1, h2, h3]
          have Hwt2 := Lib.hid hwt2
          clear hwt2 hwt hmk'
          go_wp2_with fail
          go_roundw
          case rel => exact ⟨k + 1, by omega, by go_num, Hwt2.out, hB⟩
          case measure => simp [intOf]; omega
    · have hwt2 : WtAt wr w2.heap.size run.length (wts run []) := hwt.congr fun b hb => by
        have : b < k := by omega
        simp [this]
      clear hwt
      have hBz := hB.size
      go_wp2_with fail
      obtain ⟨wa, rfl⟩ : ∃ wa : World, wa = wr := ⟨_, rfl⟩
      obtain ⟨w3, hw3⟩ : ∃ w3 : World, w3 = wa.alloc (.cells (mk1 run.length (.bool false)) 4) := ⟨_, rfl⟩
      have hz3 : w3.heap.size = wa.heap.size + 1 := by rw [hw3]; simp
      have hB3 : Below w2.heap.size w2 w3 := by rw [hw3]; exact hB.alloc hBz _
      have hwt3 : WtAt w3 w2.heap.size run.length (wts run []) := by rw [hw3]; exact hwt2.alloc _
      have hdn3 : DnAt w3 wa.heap.size run.length [] := by
        rw [hw3]
        exact ⟨_, Blk.new _ _ _, mk1_size _ _, fun b hb => by rw [mk1_get _ _ _ hb]; rfl⟩
      have hgl : w2.heap.size < wa.heap.size := by
        obtain ⟨_, h, _⟩ := hwt2
        exact h.lt
      rw [← hw3]
      have Hw3 := Lib.hid hw3
      clear hw3 hwt2 hB hmk hmk2
      go_loopw [45, 7] (fun r vo wr => ∃ (d : List Nat) (xs : List Value), d.length ≤ run.length ∧ r = .int .i64 d.length ∧ (∀ i ∈ d, i < run.length) ∧ WtAt wr w2.heap.size run.length (wts run d) ∧ DnAt wr wa.heap.size run.length d ∧
        wr.ownsRow w3.heap.size 55 11 vo d.length xs ∧ StpCellsP (fun b => w.heap.size ≤ b) w2 (atI run d) xs ∧ Hid (normI run = normD run (run.length - d.length) d) ∧ Below w2.heap.size w2 wr ∧ w3.heap.size ≤ wr.heap.size) (fun r _ _ => run.length - (intOf r).toNat)
      case atStart => exact ⟨[], [], by simp, rfl, by simp, hwt3, hdn3, World.ownsRow_nil _ _ _ _, rfl, Lib.hid rfl, hB3, Nat.le_refl _⟩
      case round =>
        clear hwt3 hdn3 hB3
        obtain ⟨d, xs, hdl, rfl, hdr, hwt, hdn, hown, hcs, Hn, hB, hz⟩ := hrel
        have Hdr := Lib.hid hdr
        have Hwt := Lib.hid hwt
        have Hdn := Lib.hid hdn
        have Hcs := Lib.hid hcs
        clear hdr hwt hdn hcs
        by_cases hlt : d.length < run.length
        · obtain ⟨best, hbest, hbl, hbd⟩ := pickB_some run d (left_over _ _ hlt)
          have Hbest := Lib.hid hbest
          have Hbd := Lib.hid hbd
          clear hbest hbd
          go_wp2_with fail
          obtain ⟨wo, rfl⟩ : ∃ wo : World, wo = wr := ⟨_, rfl⟩
          go_loopw [49, 9] (fun q p wr => ∃ m : Nat, m ≤ run.length ∧ q = .int .i64 m ∧ p = .int .i64 (pickI (pickB run d m)) ∧ Below wo.heap.size wo wr) (fun q _ _ => run.length - (intOf q).toNat)
          case atStart => exact ⟨0, by omega, rfl, rfl, Below.refl _ _⟩
          case round =>
            obtain ⟨m, hm, rfl, rfl, hBo⟩ := hrel
            by_cases hlt2 : m < run.length
            · have hBw : Below w2.heap.size w2 wr := hB.trans (hBo.mono hB.size)
              obtain ⟨b, o, va, vs, rfl, hva, hvs, x0, x1, x2, x3, x4, x5, x6, x7, x8, x9, x10⟩ := (hr2.kept hBw (Nat.le_refl _)).at (i := m) (s := run[m]) (by simp [hlt2])
              have hdc := ((Hdn.out.kept hBo (by omega)).cell hlt2).1
              have hwc := ((Hwt.out.kept hBo (by omega)).cell hlt2).1
              have hwl := wts_le run d m
              by_cases hc1 : m ∈ d
              · rw [decide_eq_true hc1] at hdc
                have hpk := pickB_no run d m (.inl (by simp [freeB, hc1]))
                have Hpk := Lib.hid hpk
                clear hc1 hpk
                go_wp2_with fail
                refine wp_region_ordN 28 [(0, true), (1, true), (2, true), (3, true), (4, true), (5, true), (6, true), (7, true), (8, true), (9, true), (10, true), (11, true), (12, true), (13, true), (14, true), (15, true), (16, true), (17, true), (18, true), (19, true), (20, true), (21, true), (22, true), (23, true), (24, true), (25, true), (26, true), (27, true)] (fun w' => w'.cell? ⟨wa.heap.size, m, none⟩ = some (.bool true)) (by kernel_rfl) rfl rfl (by kernel_rfl) hdc ?_
                iterate 28 (first | (refine wpOrd_take ?_ (by rfl) ?_ ?_; rotate_left; (intro w hSw; (try dsimp only at hSw); go_simp; try with_reducible rfl); (try simp only [Act.put, List.setIfInBounds_toArray, List.set_cons_zero, List.set_cons_succ])) | (refine wpOrd_leave (by rfl) ?_; (try simp only [Act.put, List.setIfInBounds_toArray, List.set_cons_zero, List.set_cons_succ])))
                refine wpOrd_nil ?_
                go_wp2_with fail
                refine NoPanic.normal ?_
                go_wp2_with fail
                go_roundw
                case rel => exact ⟨m + 1, by omega, by go_num, by rw [Hpk.out], hBo.drew⟩
                case measure => simp [intOf]; omega
              · rw [decide_eq_false hc1] at hdc
                by_cases hc2 : wts run d m = 0
                · have hz' : (((wts run d m : Nat) : Int) == 0) = true := by rw [hc2]; rfl
                  have hfr : freeB run d m = true := by rw [freeB_wts]; simp [hc1, hc2]
                  clear hc1 hc2
                  cases hpm : pickB run d m with
                  | none =>
                    have hpk := pickB_yes run d m hfr (by rw [hpm]; rfl)
                    have Hpk := Lib.hid hpk
                    have hpi : pickI (none : Option Nat) = -1 := rfl
                    rw [hpi]
                    clear hfr hpk hpm hpi
                    go_wp2_with fail
                    refine wp_region_ordN 28 [(0, true), (1, true), (2, true), (3, true), (4, true), (5, true), (6, true), (7, true), (8, true), (9, true), (10, true), (11, true), (12, true), (13, true), (14, true), (15, true), (16, true), (17, true), (18, true), (19, true), (20, true), (21, true), (22, true), (23, true), (24, true), (25, true), (26, true), (27, true)] (fun w' => w'.cell? ⟨wa.heap.size, m, none⟩ = some (.bool false) ∧ w'.cell? ⟨w2.heap.size, m, none⟩ = some (I (wts run d m))) (by kernel_rfl) rfl rfl (by kernel_rfl) ⟨hdc, hwc⟩ ?_
                    iterate 28 (first | (refine wpOrd_take ?_ (by rfl) ?_ ?_; rotate_left; (intro w hSw; (try dsimp only at hSw); go_simp; try with_reducible rfl); (try simp only [Act.put, List.setIfInBounds_toArray, List.set_cons_zero, List.set_cons_succ])) | (refine wpOrd_leave (by rfl) ?_; (try simp only [Act.put, List.setIfInBounds_toArray, List.set_cons_zero, List.set_cons_succ])))
                    refine wpOrd_nil ?_
                    go_wp2_with fail
                    refine NoPanic.normal ?_
                    go_wp2_with fail
                    go_roundw
                    case rel => exact ⟨m + 1, by omega, by go_num, by rw [Hpk.out]; rfl, hBo.drew⟩
                    case measure => simp [intOf]; omega
                  | some j =>
                    have hjm := (pickB_lt run d m j hpm).1
                    have hj0 : decide ((j : Int) < 0) = false := by simp
                    obtain ⟨b', o', ua, us, hab, hua, hus, y0, y1, y2, y3, y4, y5, y6, y7, y8, y9, y10⟩ := (hr2.kept hBw (Nat.le_refl _)).at (i := j) (s := run[j]'(by omega)) (by simp)
                    simp at hab
                    obtain ⟨rfl, rfl⟩ := hab
                    have hlj : j < run.length := by omega
                    have hpi : pickI (some j) = (j : Int) := rfl
                    rw [hpi]
                    by_cases hlx : lexL run[m].key run[j].key < 0
                    · have hpk := pickB_yes run d m hfr (by rw [hpm]; simp [betterB, keyAt_eq hlt2, keyAt_eq hlj, hlx])
                      have Hpk := Lib.hid hpk
                      clear hfr hpk hpm hpi
                      go_wp2_with fail
                      refine wp_region_ordN 24 [(0, true), (1, true), (2, true), (3, true), (4, true), (5, true), (6, true), (7, true), (8, true), (9, true), (10, true), (11, true), (12, true), (13, true), (14, true), (15, true), (16, true), (17, true), (18, true), (19, true), (20, true), (21, true), (22, true), (23, true)] (fun w' => w'.cell? ⟨wa.heap.size, m, none⟩ = some (.bool false) ∧ w'.cell? ⟨w2.heap.size, m, none⟩ = some (I (wts run d m)) ∧ w'.cell? ⟨b, o + m * 11, none⟩ = some (I run[m].ev.kind) ∧ w'.cell? ⟨b, o + m * 11 + 1, none⟩ = some (I run[m].ev.node) ∧ w'.cell? ⟨b, o + m * 11 + 2, none⟩ = some (I run[m].ev.arg) ∧ w'.cell? ⟨b, o + m * 11 + 3, none⟩ = some (I run[m].ev.msg.node) ∧ w'.cell? ⟨b, o + m * 11 + 4, none⟩ = some (I run[m].ev.msg.handler) ∧ w'.cell? ⟨b, o + m * 11 + 5, none⟩ = some (I run[m].ev.msg.count) ∧ w'.cell? ⟨b, o + m * 11 + 6, none⟩ = some (I run[m].ev.msg.index) ∧ w'.cell? ⟨b, o + m * 11 + 7, none⟩ = some (I run[m].ev.msg.copy) ∧ w'.cell? ⟨b, o + m * 11 + 8, none⟩ = some (va) ∧ w'.cell? ⟨b, o + m * 11 + 9, none⟩ = some (.bool run[m].obs) ∧ w'.cell? ⟨b, o + m * 11 + 10, none⟩ = some (vs) ∧ w'.cell? ⟨b, o + j * 11, none⟩ = some (I run[j].ev.kind) ∧ w'.cell? ⟨b, o + j * 11 + 1, none⟩ = some (I run[j].ev.node) ∧ w'.cell? ⟨b, o + j * 11 + 2, none⟩ = some (I run[j].ev.arg) ∧ w'.cell? ⟨b, o + j * 11 + 3, none⟩ = some (I run[j].ev.msg.node) ∧ w'.cell? ⟨b, o + j * 11 + 4, none⟩ = some (I run[j].ev.msg.handler) ∧ w'.cell? ⟨b, o + j * 11 + 5, none⟩ = some (I run[j].ev.msg.count) ∧ w'.cell? ⟨b, o + j * 11 + 6, none⟩ = some (I run[j].ev.msg.index) ∧ w'.cell? ⟨b, o + j * 11 + 7, none⟩ = some (I run[j].ev.msg.copy) ∧ w'.cell? ⟨b, o + j * 11 + 8, none⟩ = some (ua) ∧ w'.cell? ⟨b, o + j * 11 + 9, none⟩ = some (.bool run[j].obs) ∧ w'.cell? ⟨b, o + j * 11 + 10, none⟩ = some (us)) (by kernel_rfl) rfl rfl (by kernel_rfl) ⟨hdc, hwc, x0, x1, x2, x3, x4, x5, x6, x7, x8, x9, x10, y0, y1, y2, y3, y4, y5, y6, y7, y8, y9, y10⟩ ?_
                      iterate 24 (first | (refine wpOrd_take ?_ (by rfl) ?_ ?_; rotate_left; (intro w hSw; (try dsimp only at hSw); go_simp; try with_reducible rfl); (try simp only [Act.put, List.setIfInBounds_toArray, List.set_cons_zero, List.set_cons_succ])) | (refine wpOrd_leave (by rfl) ?_; (try simp only [Act.put, List.setIfInBounds_toArray, List.set_cons_zero, List.set_cons_succ])))
                      refine wpOrd_nil ?_
                      go_wp2_with fail
                      refine (cmpStep run[m] run[j] _ _ _ ⟨va, vs, rfl, hva.kept (Below.refl _ _).drew (Nat.le_refl _), hvs.kept (Below.refl _ _).drew (Nat.le_refl _)⟩ ⟨ua, us, rfl, hua.kept (Below.refl _ _).drew (Nat.le_refl _), hus.kept (Below.refl _ _).drew (Nat.le_refl _)⟩).mono ?_
                      rintro e w5 ⟨rfl, hB1⟩
                      go_wp2_with fail
                      refine NoPanic.normal ?_
                      go_wp2_with fail
                      go_roundw
                      case rel => exact ⟨m + 1, by omega, by go_num, by rw [Hpk.out]; rfl, hBo.drew.trans (hB1.mono hBo.size)⟩
                      case measure => simp [intOf]; omega
                    · have hpk := pickB_no run d m (.inr (by rw [hpm]; simp [betterB, keyAt_eq hlt2, keyAt_eq hlj, hlx]))
                      rw [hpm] at hpk
                      have Hpk := Lib.hid hpk
                      clear hfr hpk hpm hpi
                      go_wp2_with fail
                      refine wp_region_ordN 24 [(0, true), (1, true), (2, true), (3, true), (4, true), (5, true), (6, true), (7, true), (8, true), (9, true), (10, true), (11, true), (12, true), (13, true), (14, true), (15, true), (16, true), (17, true), (18, true), (19, true), (20, true), (21, true), (22, true), (23, true)] (fun w' => w'.cell? ⟨wa.heap.size, m, none⟩ = some (.bool false) ∧ w'.cell? ⟨w2.heap.size, m, none⟩ = some (I (wts run d m)) ∧ w'.cell? ⟨b, o + m * 11, none⟩ = some (I run[m].ev.kind) ∧ w'.cell? ⟨b, o + m * 11 + 1, none⟩ = some (I run[m].ev.node) ∧ w'.cell? ⟨b, o + m * 11 + 2, none⟩ = some (I run[m].ev.arg) ∧ w'.cell? ⟨b, o + m * 11 + 3, none⟩ = some (I run[m].ev.msg.node) ∧ w'.cell? ⟨b, o + m * 11 + 4, none⟩ = some (I run[m].ev.msg.handler) ∧ w'.cell? ⟨b, o + m * 11 + 5, none⟩ = some (I run[m].ev.msg.count) ∧ w'.cell? ⟨b, o + m * 11 + 6, none⟩ = some (I run[m].ev.msg.index) ∧ w'.cell? ⟨b, o + m * 11 + 7, none⟩ = some (I run[m].ev.msg.copy) ∧ w'.cell? ⟨b, o + m * 11 + 8, none⟩ = some (va) ∧ w'.cell? ⟨b, o + m * 11 + 9, none⟩ = some (.bool run[m].obs) ∧ w'.cell? ⟨b, o + m * 11 + 10, none⟩ = some (vs) ∧ w'.cell? ⟨b, o + j * 11, none⟩ = some (I run[j].ev.kind) ∧ w'.cell? ⟨b, o + j * 11 + 1, none⟩ = some (I run[j].ev.node) ∧ w'.cell? ⟨b, o + j * 11 + 2, none⟩ = some (I run[j].ev.arg) ∧ w'.cell? ⟨b, o + j * 11 + 3, none⟩ = some (I run[j].ev.msg.node) ∧ w'.cell? ⟨b, o + j * 11 + 4, none⟩ = some (I run[j].ev.msg.handler) ∧ w'.cell? ⟨b, o + j * 11 + 5, none⟩ = some (I run[j].ev.msg.count) ∧ w'.cell? ⟨b, o + j * 11 + 6, none⟩ = some (I run[j].ev.msg.index) ∧ w'.cell? ⟨b, o + j * 11 + 7, none⟩ = some (I run[j].ev.msg.copy) ∧ w'.cell? ⟨b, o + j * 11 + 8, none⟩ = some (ua) ∧ w'.cell? ⟨b, o + j * 11 + 9, none⟩ = some (.bool run[j].obs) ∧ w'.cell? ⟨b, o + j * 11 + 10, none⟩ = some (us)) (by kernel_rfl) rfl rfl (by kernel_rfl) ⟨hdc, hwc, x0, x1, x2, x3, x4, x5, x6, x7, x8, x9, x10, y0, y1, y2, y3, y4, y5, y6, y7, y8, y9, y10⟩ ?_
                      iterate 24 (first | (refine wpOrd_take ?_ (by rfl) ?_ ?_; rotate_left; (intro w hSw; (try dsimp only at hSw); go_simp; try with_reducible rfl); (try simp only [Act.put, List.setIfInBounds_toArray, List.set_cons_zero, List.set_cons_succ])) | (refine wpOrd_leave (by rfl) ?_; (try simp only [Act.put, List.setIfInBounds_toArray, List.set_cons_zero, List.set_cons_succ])))
                      refine wpOrd_nil ?_
                      go_wp2_with fail
                      refine (cmpStep run[m] run[j] _ _ _ ⟨va, vs, rfl, hva.kept (Below.refl _ _).drew (Nat.le_refl _), hvs.kept (Below.refl _ _).drew (Nat.le_refl _)⟩ ⟨ua, us, rfl, hua.kept (Below.refl _ _).drew (Nat.le_refl _), hus.kept (Below.refl _ _).drew (Nat.le_refl _)⟩).mono ?_
                      rintro e w5 ⟨rfl, hB1⟩
                      go_wp2_with fail
                      refine NoPanic.normal ?_
                      go_wp2_with fail
                      go_roundw
                      case rel => exact ⟨m + 1, by omega, by go_num, by rw [Hpk.out]; rfl, hBo.drew.trans (hB1.mono hBo.size)⟩
                      case measure => simp [intOf]; omega
                · have hz' : (((wts run d m : Nat) : Int) == 0) = false := by rw [beq_eq_false_iff_ne]; omega
                  have hpk := pickB_no run d m (.inl (by rw [freeB_wts]; simp [hc2]))
                  have Hpk := Lib.hid hpk
                  clear hc1 hc2 hpk
                  go_wp2_with fail
                  refine wp_region_ordN 28 [(0, true), (1, true), (2, true), (3, true), (4, true), (5, true), (6, true), (7, true), (8, true), (9, true), (10, true), (11, true), (12, true), (13, true), (14, true), (15, true), (16, true), (17, true), (18, true), (19, true), (20, true), (21, true), (22, true), (23, true), (24, true), (25, true), (26, true), (27, true)] (fun w' => w'.cell? ⟨wa.heap.size, m, none⟩ = some (.bool false) ∧ w'.cell? ⟨w2.heap.size, m, none⟩ = some (I (wts run d m))) (by kernel_rfl) rfl rfl (by kernel_rfl) ⟨hdc, hwc⟩ ?_
                  iterate 28 (first | (refine wpOrd_take ?_ (by rfl) ?_ ?_; rotate_left; (intro w hSw; (try dsimp only at hSw); go_simp; try with_reducible rfl); (try simp only [Act.put, List.setIfInBounds_toArray, List.set_cons_zero, List.set_cons_succ])) | (refine wpOrd_leave (by rfl) ?_; (try simp only [Act.put, List.setIfInBounds_toArray, List.set_cons_zero, List.set_cons_succ])))
                  refine wpOrd_nil ?_
                  go_wp2_with fail
                  refine NoPanic.normal ?_
                  go_wp2_with fail
                  go_roundw
                  case rel => exact ⟨m + 1, by omega, by go_num, by rw [Hpk.out], hBo.drew⟩
                  case measure => simp [intOf]; omega
            · have hmn : m = run.length := by omega
              have hpb : pickI (pickB run d m) = (best : Int) := by rw [hmn, Hbest.out]; rfl
              rw [hpb]
              have hBw : Below w2.heap.size w2 wr := hB.trans (hBo.mono hB.size)
              have hoz := hBo.size
              obtain ⟨b, o, va, vs, rfl, ⟨hva, hpa⟩, ⟨hvs, hps⟩, z0, z1, z2, z3, z4, z5, z6, z7, z8, z9, z10⟩ := hr2F.at (i := best) (s := run[best]) (by simp [hbl])
              obtain ⟨qa, da, rfl, _⟩ := hva.open
              obtain ⟨qs, ds, rfl, _⟩ := hvs.open
              have hBs : Below w2.heap.size w2 (wr.setCell ⟨wa.heap.size, best, none⟩ (.bool true)) := hBw.setCell (by simp; omega) _
              have x0 := cell_below hBs (Nat.le_refl _) z0
              have x1 := cell_below hBs (Nat.le_refl _) z1
              have x2 := cell_below hBs (Nat.le_refl _) z2
              have x3 := cell_below hBs (Nat.le_refl _) z3
              have x4 := cell_below hBs (Nat.le_refl _) z4
              have x5 := cell_below hBs (Nat.le_refl _) z5
              have x6 := cell_below hBs (Nat.le_refl _) z6
              have x7 := cell_below hBs (Nat.le_refl _) z7
              have x8 := cell_below hBs (Nat.le_refl _) z8
              have x9 := cell_below hBs (Nat.le_refl _) z9
              have x10 := cell_below hBs (Nat.le_refl _) z10
              have hdno := Hdn.out.kept hBo (by omega)
              have hwto := Hwt.out.kept hBo (by omega)
              obtain ⟨hdc, hdf⟩ := hdno.cell hbl
              have hos := own_set (owns_below hown hBo) ⟨wa.heap.size, best, none⟩ (.bool true) (by simp; omega)
              have hsrc : ((wr.setCell ⟨wa.heap.size, best, none⟩ (.bool true)).alloc (.cells #[I run[best].ev.kind, I run[best].ev.node, I run[best].ev.arg, I run[best].ev.msg.node, I run[best].ev.msg.handler, I run[best].ev.msg.count, I run[best].ev.msg.index, I run[best].ev.msg.copy, .slice qa run[best].asks.length da, .bool run[best].obs, .slice qs run[best].sent.length ds] 55)).heap[wr.heap.size]? = some (.cells #[I run[best].ev.kind, I run[best].ev.node, I run[best].ev.arg, I run[best].ev.msg.node, I run[best].ev.msg.handler, I run[best].ev.msg.count, I run[best].ev.msg.index, I run[best].ev.msg.copy, .slice qa run[best].asks.length da, .bool run[best].obs, .slice qs run[best].sent.length ds] 55 (0, 0)) := by
                have := heap_alloc_new (wr.setCell ⟨wa.heap.size, best, none⟩ (.bool true)) (.cells #[I run[best].ev.kind, I run[best].ev.node, I run[best].ev.arg, I run[best].ev.msg.node, I run[best].ev.msg.handler, I run[best].ev.msg.count, I run[best].ev.msg.index, I run[best].ev.msg.copy, .slice qa run[best].asks.length da, .bool run[best].obs, .slice qs run[best].sent.length ds] 55)
                simpa using this
              have hcs' : StpCellsP (fun b => w.heap.size ≤ b) w2 (atI run (d ++ [best])) (xs ++ (#[I run[best].ev.kind, I run[best].ev.node, I run[best].ev.arg, I run[best].ev.msg.node, I run[best].ev.msg.handler, I run[best].ev.msg.count, I run[best].ev.msg.index, I run[best].ev.msg.copy, .slice qa run[best].asks.length da, .bool run[best].obs, .slice qs run[best].sent.length ds]).toList) := by
                rw [atI_snoc run d best hbl]
                exact Hcs.out.snoc (s := run[best]) ⟨hva, hpa⟩ ⟨hvs, hps⟩
              have hdn1 := (hdno.set best)
              have hwt1 := hwto.setOther ⟨wa.heap.size, best, none⟩ (.bool true) (by simp; omega)
              have Hdn1 := Lib.hid hdn1
              have Hwt1 := Lib.hid hwt1
              have Hos := Lib.hid hos
              have Hsrc := Lib.hid hsrc
              have Hcs' := Lib.hid hcs'
              have HBs := Lib.hid hBs
              clear hmn hpb z0 z1 z2 z3 z4 z5 z6 z7 z8 z9 z10 hdno hwto hos hsrc hcs' hdn1 hwt1 hBs hva hvs
              go_wp2_with (at_builtin; go_must (refine wpList_appB rfl _ _ 23 rfl 55 _ 11 120 Try.underlying23 info55 rfl (by omega) (by omega) w3.heap.size _ _ xs rfl (Hos.out.alloc _) wr.heap.size 1 1 _ 55 rfl Hsrc.out rfl rfl (by omega) (by omega) (by simp; omega) ?_); intro g cap w5 hg1 hg2 hg3 ho5 hgr5 hB5)
              have hwt5 := (Hwt1.out.alloc (.cells #[I run[best].ev.kind, I run[best].ev.node, I run[best].ev.arg, I run[best].ev.msg.node, I run[best].ev.msg.handler, I run[best].ev.msg.count, I run[best].ev.msg.index, I run[best].ev.msg.copy, .slice qa run[best].asks.length da, .bool run[best].obs, .slice qs run[best].sent.length ds] 55)).kept hB5 (by omega)
              have hdn5 := (Hdn1.out.kept ((Below.refl _ _).alloc (Nat.le_refl _) (.cells #[I run[best].ev.kind, I run[best].ev.node, I run[best].ev.arg, I run[best].ev.msg.node, I run[best].ev.msg.handler, I run[best].ev.msg.count, I run[best].ev.msg.index, I run[best].ev.msg.copy, .slice qa run[best].asks.length da, .bool run[best].obs, .slice qs run[best].sent.length ds] 55)) (by simp; omega)).kept hB5 (by omega)
              have hb5 : Below w2.heap.size w2 w5 := (HBs.out.alloc (by simp; omega) (.cells #[I run[best].ev.kind, I run[best].ev.node, I run[best].ev.arg, I run[best].ev.msg.node, I run[best].ev.msg.handler, I run[best].ev.msg.count, I run[best].ev.msg.index, I run[best].ev.msg.copy, .slice qa run[best].asks.length da, .bool run[best].obs, .slice qs run[best].sent.length ds] 55)).trans (hB5.mono (by omega))
              have hz5 : w3.heap.size ≤ w5.heap.size := by have := hB5.size; simp at this; omega
              have Hwt5 := Lib.hid hwt5
              have Hdn5 := Lib.hid hdn5
              have Hb5 := Lib.hid hb5
              have Ho5 := Lib.hid ho5
              clear hwt5 hdn5 hb5 ho5 hgr5 hB5 hg1 hg2 hg3 x0 x1 x2 x3 x4 x5 x6 x7 x8 x9 x10 hdc hdf
              go_loopw [11] (fun i wr => ∃ m : Nat, best + 1 ≤ m ∧ m ≤ run.length ∧ i = .int .i64 m ∧ WtAt wr w2.heap.size run.length (fun x => if x < m then wts run (d ++ [best]) x else wts run d x) ∧ DnAt wr wa.heap.size run.length (d ++ [best]) ∧
                wr.ownsRow w3.heap.size 55 11 (.slice (some ⟨g, 0, none⟩) (d.length + 1) cap) (d.length + 1) (xs ++ (#[I run[best].ev.kind, I run[best].ev.node, I run[best].ev.arg, I run[best].ev.msg.node, I run[best].ev.msg.handler, I run[best].ev.msg.count, I run[best].ev.msg.index, I run[best].ev.msg.copy, .slice qa run[best].asks.length da, .bool run[best].obs, .slice qs run[best].sent.length ds]).toList) ∧ Below w2.heap.size w2 wr ∧ w3.heap.size ≤ wr.heap.size) (fun i _ => run.length - (intOf i).toNat)
              case atStart =>
                refine ⟨best + 1, by omega, by omega, by go_num, Hwt5.out.congr (fun x hx => ?_), Hdn5.out, Ho5.out, Hb5.out, hz5⟩
                by_cases hxb : x < best + 1
                · have h1 := wts_done run d best x hbl Hbd.out
                  rw [lessB_false run best x (by omega)] at h1
                  simp [hxb, h1]
                · simp [hxb]
              case round =>
                clear hz5
                obtain ⟨m, hbm, hm, rfl, hwt, hdn, hown, hB, hz⟩ := hrel
                by_cases hlt2 : m < run.length
                · have hwd := wts_done run d best m hbl Hbd.out
                  have hwl := wts_le run (d ++ [best]) m
                  have hc := hwt.cell hlt2
                  simp only [Nat.lt_irrefl, if_false] at hc
                  have Hdn := Lib.hid hdn
                  have Hown := Lib.hid hown
                  clear hdn hown
                  have hless := ordLess p run.length (lessB run) best m wr (hO.kept hB (Nat.le_refl _)) hbl hlt2
                  by_cases hl : lessB run best m = true
                  · rw [hl] at hless
                    rw [if_pos hl] at hwd
                    rw [hwd, show ((wts run (d ++ [best]) m + 1 : Nat) : Int) = (wts run (d ++ [best]) m : Int) + 1 from by omega] at hc
                    obtain ⟨hc1, hc2⟩ := hc
                    have hst := hwt.set (t' := fun x => if x < m + 1 then wts run (d ++ [best]) x else wts run d x) m (fun c hc => by
                      by_cases h1 : c < m
                      · simp [h1, Nat.lt_succ_of_lt h1]
                      · have : ¬ c < m + 1 := by omega
                        simp [h1, this])
                    simp only [Nat.lt_succ_self, if_true] at hst
                    have Hst := Lib.hid hst
                    have Hless := Lib.hid hless
                    clear hst hless hl hwt hwd
                    go_wp2_with fail
                    refine Hless.out.mono ?_
                    rintro e w6 ⟨rfl, rfl⟩
                    go_wp2_with fail
                    go_roundw
                    case rel => exact ⟨m + 1, by omega, by omega, by go_num, Hst.out, Hdn.out.setOther _ _ (by simp; omega), own_set Hown.out _ _ (by simp; omega), hB.setCell (by simp) _, by simp; omega⟩
                    case measure => simp [intOf]; omega
                  · have hl' : lessB run best m = false := by simpa using hl
                    rw [hl'] at hless
                    rw [if_neg hl, Nat.add_zero] at hwd
                    have hwt2 := hwt.congr (t' := fun x => if x < m + 1 then wts run (d ++ [best]) x else wts run d x) (fun c _ => by
                      by_cases h1 : c < m
                      · simp [h1, Nat.lt_succ_of_lt h1]
                      · by_cases h2 : c = m
                        · subst h2
                          simp [hwd]
                        · have : ¬ c < m + 1 := by omega
                          simp [h1, this])
                    have Hwt2 := Lib.hid hwt2
                    have Hless := Lib.hid hless
                    clear hwt2 hless hl hl' hwt hwd hc
                    go_wp2_with fail
                    refine Hless.out.mono ?_
                    rintro e w6 ⟨rfl, rfl⟩
                    go_wp2_with fail
                    go_roundw
                    case rel => exact ⟨m + 1, by omega, by omega, by go_num, Hwt2.out, Hdn.out, Hown.out, hB, hz⟩
                    case measure => simp [intOf]; omega
                · have hwt2 : WtAt wr w2.heap.size run.length (wts run (d ++ [best])) := hwt.congr fun x hx => by
                    have : x < m := by omega
                    simp [this]
                  have hHn : normI run = normD run (run.length - (d ++ [best]).length) (d ++ [best]) := by
                    rw [Hn.out, show run.length - d.length = (run.length - (d.length + 1)) + 1 by omega, normD_step run d _ best Hbest.out, List.length_append]
                    rfl
                  have Hwt2 := Lib.hid hwt2
                  have HHn := Lib.hid hHn
                  have Hdn := Lib.hid hdn
                  have Hown := Lib.hid hown
                  clear hwt2 hHn hwt hdn hown
                  go_wp2_with fail
                  go_roundw
                  case rel => exact ⟨d ++ [best], _, by simp; omega, by rw [List.length_append]; go_num, fun i hi => by
                    rcases List.mem_append.1 hi with h | h
                    · exact Hdr.out i h
                    · simp at h; omega, Hwt2.out, Hdn.out, by rw [List.length_append]; exact Hown.out, Hcs'.out, HHn, hB, hz⟩
                  case measure => simp [intOf]; omega
        · have hdn' : d.length = run.length := by omega
          have hnd : normI run = d := by
            rw [Hn.out, hdn', Nat.sub_self]
            rfl
          have hres : StpSlF w.heap.size wr u7 (normS run) := by
            unfold normS
            rw [hnd]
            exact StpSlF.of_owns hown (atI_length run d Hdr.out).symm Hcs.out hB (Nat.le_refl _) (by have := hBw2.size; omega)
          have Hres := Lib.hid hres
          have Hbb := Lib.hid (hBw2.trans (hB.mono hBw2.size))
          clear hnd hres hown
          go_wp2_with fail
          go_ret
          exact ⟨_, rfl, Hres.out, Hbb.out⟩

theorem trNormal (run : List Stp) (v : Value) (w : World) (hrun : StpSl w v run) (hn : run.length ≤ 64) (hask : ∀ s ∈ run, s.asks.length ≤ 1000000) (hsent : ∀ s ∈ run, s.sent.length ≤ 1000000) :
    Calls Try.prog 24 #[v] w fun e w' => ∃ u, e = .returned u ∧ StpSl w' u (normS run) ∧ Below w.heap.size w w' :=
  (trNormalF run v w hrun hn hask hsent).mono fun _ _ ⟨u, h1, h2, h3⟩ => ⟨u, h1, h2.sl, h3⟩

end Go.Proofs.Ytaedfidfcoigoaa
