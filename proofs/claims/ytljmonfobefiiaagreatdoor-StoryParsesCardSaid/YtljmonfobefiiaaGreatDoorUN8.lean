import Derived.Test.YtljmonfobefiiaaGreatDoorUP5
import Derived.Test.YtljmonfobefiiaaGreatDoorUN7
import Derived.Test.YtljmonfobefiiaaGreatDoorUP3
import Derived.Test.YtljmonfobefiiaaGreatDoorUP5A
import Derived.Test.YtljmonfobefiiaaGreatDoorUS36
/- trace.Normal: the walk. -/
namespace Go.Proofs.YtljmonfobefiiaaGreatDoor
open Go.RowKit

/-- Which steps have been done. -/
def DnAt (W : World) (g n : Nat) (d : List Nat) : Prop := ∃ arr : Array Value, Blk W g arr ∧ arr.size = n ∧ ∀ b < n, arr[b]? = some (.bool (decide (b ∈ d)))
theorem DnAt.cell {W : World} {g n : Nat} {d : List Nat} (h : DnAt W g n d) {b : Nat} (hb : b < n) : W.cell? ⟨g, b, none⟩ = some (.bool (decide (b ∈ d))) ∧ W.frozen? ⟨g, b, none⟩ = false := by
  obtain ⟨wa, h1, h2, h3⟩ := h
  exact ⟨(h1.cell b).trans (h3 b hb), h1.frozen b⟩
theorem DnAt.set {W : World} {g n : Nat} {d : List Nat} (h : DnAt W g n d) (b : Nat) : DnAt (W.setCell ⟨g, b, none⟩ (.bool true)) g n (d ++ [b]) := by
  obtain ⟨wa, h1, h2, h3⟩ := h
  refine ⟨_, h1.set b _, by rw [Array.size_setIfInBounds]; exact h2, fun c hc => ?_⟩
  by_cases e : b = c
  · subst e
    rw [Array.getElem?_setIfInBounds_self_of_lt (by rw [h2]; exact hc)]
    simp
  · rw [Array.getElem?_setIfInBounds_ne e, h3 c hc]
    simp [Ne.symm e]
theorem DnAt.kept {W W' : World} {g n B : Nat} {d : List Nat} (h : DnAt W g n d) (hb : Below B W W') (hg : g < B) : DnAt W' g n d := by
  obtain ⟨wa, h1, h2, h3⟩ := h
  exact ⟨wa, h1.kept hb hg, h2, h3⟩
theorem DnAt.setOther {W : World} {g n : Nat} {d : List Nat} (h : DnAt W g n d) (a : Addr) (v : Value) (hne : a.block ≠ g) : DnAt (W.setCell a v) g n d := by
  obtain ⟨wa, h1, h2, h3⟩ := h
  exact ⟨wa, h1.setOther a v hne, h2, h3⟩
theorem WtAt.setOther {W : World} {g n : Nat} {t : Nat → Nat} (h : WtAt W g n t) (a : Addr) (v : Value) (hne : a.block ≠ g) : WtAt (W.setCell a v) g n t := by
  obtain ⟨wa, h1, h2, h3⟩ := h
  exact ⟨wa, h1.setOther a v hne, h2, h3⟩
theorem WtAt.alloc {W : World} {g n : Nat} {t : Nat → Nat} (h : WtAt W g n t) (o : Obj) : WtAt (W.alloc o) g n t := by
  obtain ⟨wa, h1, h2, h3⟩ := h
  exact ⟨wa, h1.alloc o, h2, h3⟩

set_option maxHeartbeats 8000000 in
set_option maxRecDepth 100000 in
theorem trNormalF (run : List Stp) (v : Value) (w : World) (hrun : StpSl w v run) (hn : run.length ≤ 64) (hask : ∀ s ∈ run, s.asks.length ≤ 1000000) (hsent : ∀ s ∈ run, s.sent.length ≤ 1000000) :
    Calls Tryz.prog 63 #[v] w fun e w' => ∃ u, e = .returned u ∧ StpSlF w.heap.size w' u (normS run) ∧ Below w.heap.size w w' := by
  have Hown := Lib.hid (trOwnF run v w hrun (by omega) hask hsent)
  have hmk := fun W => run_mk1 (P := Tryz.prog) 22 3 (.int .i64 0) 8 run.length Tryz.underlying22 info_int rfl (by omega) (by omega) W
  have hmk2 := fun W => run_mk1 (P := Tryz.prog) 83 4 (.bool false) 1 run.length Tryz.underlying83 info_bool rfl (by omega) (by omega) W
  clear hask hsent
  go_enter Tryz.func63, Tryz.ntmps63
  go_wp2_with fail
  refine Hown.out.mono ?_
  rintro e w1 ⟨u, rfl, hr1F, hB1⟩
  have hr1 := hr1F.sl
  obtain ⟨ka, ca, rfl, hml⟩ := hr1.open
  go_wp2_with fail
  refine (depOrder run _ _ hr1 hn).mono ?_
  rintro e w2 ⟨p, rfl, hO, hB2⟩
  have hr2 := hr1.kept hB2 (Nat.le_refl _)
  have hr2F := hr1F.kept hB2
  have hBw2 : Below w.heap.size w w2 := hB1.trans (hB2.mono hB1.size)
  clear hr1 hr1F hB1 hB2
  go_wp2_with fail
  have hwt0 : WtAt (w2.alloc (.cells (mk1 run.length (.int .i64 0)) 3)) w2.heap.size run.length (fun _ => 0) := ⟨_, Blk.new _ _ _, mk1_size _ _, fun b hb => mk1_get _ _ _ hb⟩
  go_loopw [21] (fun i wr => ∃ k : Nat, k ≤ run.length ∧ i = .int .i64 k ∧ WtAt wr w2.heap.size run.length (fun x => if x < k then wts run [] x else 0) ∧ Below w2.heap.size w2 wr) (fun i _ => run.length - (intOf i).toNat)
  case atStart => exact ⟨0, by omega, rfl, hwt0.congr (fun b _ => by simp), (Below.refl _ _).alloc (Nat.le_refl _) _⟩
  case round =>
    clear hwt0
    obtain ⟨k, hk, rfl, hwt, hB⟩ := hrel
    by_cases hlt : k < run.length
    · go_wp2_with fail
      obtain ⟨wo, rfl⟩ : ∃ wo : World, wo = wr := ⟨_, rfl⟩
      go_loopw [25] (fun j wr => ∃ m : Nat, m ≤ k ∧ j = .int .i64 m ∧ WtAt wr w2.heap.size run.length (fun x => if x < k then wts run [] x else if x = k then cntL run k m else 0) ∧ Below w2.heap.size w2 wr) (fun j _ => k - (intOf j).toNat)
      case atStart => exact ⟨0, by omega, rfl, hwt.congr (fun b _ => by simp [cntL]), hB⟩
      case round =>
        clear hwt hB
        obtain ⟨m, hm, rfl, hwt, hB⟩ := hrel
        by_cases hlt2 : m < k
        · have hc := hwt.cell hlt
          simp only [Nat.lt_irrefl, if_false, if_true] at hc
          obtain ⟨hc1, hc2⟩ := hc
          have hcl := cntL_le run k m
          have hcs := cntL_succ run k m
          by_cases hl : lessB run m k = true
          · have hless := ordLess p run.length (lessB run) m k wr (hO.kept hB (Nat.le_refl _)) (by omega) hlt
            rw [hl] at hless
            rw [if_pos hl] at hcs
            have hst := hwt.set (t' := fun x => if x < k then wts run [] x else if x = k then cntL run k (m + 1) else 0) k (fun c hc => by simp [hc])
            simp only [Nat.lt_irrefl, if_false, if_true, hcs] at hst
            rw [show ((cntL run k m + 1 : Nat) : Int) = (cntL run k m : Int) + 1 from by omega] at hst
            have Hst := Lib.hid hst
            have Hcs := Lib.hid hcs
            have Hless := Lib.hid hless
            clear hst hcs hless hl hwt
            go_wp2_with fail
            refine Hless.out.mono ?_
            rintro e w3 ⟨rfl, rfl⟩
            go_wp2_with fail
            go_roundw
            case rel => exact ⟨m + 1, by omega, by go_num, by rw [Hcs.out]; exact Hst.out, hB.setCell (Nat.le_refl _) _⟩
            case measure => simp [intOf]; omega
          · have hl' : lessB run m k = false := by simpa using hl
            have hless := ordLess p run.length (lessB run) m k wr (hO.kept hB (Nat.le_refl _)) (by omega) hlt
            rw [hl'] at hless
            rw [if_neg hl, Nat.add_zero] at hcs
            have Hwt := Lib.hid hwt
            have Hcs := Lib.hid hcs
            have Hless := Lib.hid hless
            clear hcs hless hl hl' hwt
            go_wp2_with fail
            refine Hless.out.mono ?_
            rintro e w3 ⟨rfl, rfl⟩
            go_wp2_with fail
            go_roundw
            case rel => exact ⟨m + 1, by omega, by go_num, by rw [Hcs.out]; exact Hwt.out, hB⟩
            case measure => simp [intOf]; omega
        · have hmk' : m = k := by omega
          have hwt2 : WtAt wr w2.heap.size run.length (fun x => if x < k + 1 then wts run [] x else 0) := hwt.congr fun b _ => by
            by_cases h1 : b < k
            · simp [h1, Nat.lt_succ_of_lt h1]
            · by_cases h2 : b = k
              · subst h2
                rw [hmk']
                simp [cntL_end run b hlt]
              · have h3 : ¬ b < k + 1 := by omega
                simp [h1, h2, h3]
          have Hwt2 := Lib.hid hwt2
          clear hwt2 hwt hmk'
          go_wp2_with fail
          go_roundw
          case rel => exact ⟨k + 1, by omega, by go_num, Hwt2.out, hB⟩
          case measure => simp [intOf]; omega
    · have hwt2 : WtAt wr w2.heap.size run.length (wts run []) := hwt.congr fun b hb => by
        have : b < k := by omega
        simp [this]
      clear hwt
      have hBz := hB.size
      go_wp2_with fail
      obtain ⟨wa, rfl⟩ : ∃ wa : World, wa = wr := ⟨_, rfl⟩
      obtain ⟨w3, hw3⟩ : ∃ w3 : World, w3 = wa.alloc (.cells (mk1 run.length (.bool false)) 4) := ⟨_, rfl⟩
      have hz3 : w3.heap.size = wa.heap.size + 1 := by rw [hw3]; simp
      have hB3 : Below w2.heap.size w2 w3 := by rw [hw3]; exact hB.alloc hBz _
      have hwt3 : WtAt w3 w2.heap.size run.length (wts run []) := by rw [hw3]; exact hwt2.alloc _
      have hdn3 : DnAt w3 wa.heap.size run.length [] := by
        rw [hw3]
        exact ⟨_, Blk.new _ _ _, mk1_size _ _, fun b hb => by rw [mk1_get _ _ _ hb]; rfl⟩
      have hgl : w2.heap.size < wa.heap.size := by
        obtain ⟨_, h, _⟩ := hwt2
        exact h.lt
      rw [← hw3]
      have Hw3 := Lib.hid hw3
      clear hw3 hwt2 hB hmk hmk2
      go_loopw [45, 7] (fun r vo wr => ∃ (d : List Nat) (xs : List Value), d.length ≤ run.length ∧ r = .int .i64 d.length ∧ (∀ i ∈ d, i < run.length) ∧ WtAt wr w2.heap.size run.length (wts run d) ∧ DnAt wr wa.heap.size run.length d ∧
        wr.ownsRow w3.heap.size 53 11 vo d.length xs ∧ StpCellsP (fun b => w.heap.size ≤ b) w2 (atI run d) xs ∧ Hid (normI run = normD run (run.length - d.length) d) ∧ Below w2.heap.size w2 wr ∧ w3.heap.size ≤ wr.heap.size) (fun r _ _ => run.length - (intOf r).toNat)
      case atStart => exact ⟨[], [], by simp, rfl, by simp, hwt3, hdn3, World.ownsRow_nil _ _ _ _, rfl, Lib.hid rfl, hB3, Nat.le_refl _⟩
      case round =>
        clear hwt3 hdn3 hB3
        obtain ⟨d, xs, hdl, rfl, hdr, hwt, hdn, hown, hcs, Hn, hB, hz⟩ := hrel
        have Hdr := Lib.hid hdr
        have Hwt := Lib.hid hwt
        have Hdn := Lib.hid hdn
        have Hcs := Lib.hid hcs
        clear hdr hwt hdn hcs
        by_cases hlt : d.length < run.length
        · obtain ⟨best, hbest, hbl, hbd⟩ := pickB_some run d (left_over _ _ hlt)
          have Hbest := Lib.hid hbest
          have Hbd := Lib.hid hbd
          clear hbest hbd
          go_wp2_with fail
          obtain ⟨wo, rfl⟩ : ∃ wo : World, wo = wr := ⟨_, rfl⟩
          go_loopw [49, 9] (fun q p wr => ∃ m : Nat, m ≤ run.length ∧ q = .int .i64 m ∧ p = .int .i64 (pickI (pickB run d m)) ∧ Below wo.heap.size wo wr) (fun q _ _ => run.length - (intOf q).toNat)
          case atStart => exact ⟨0, by omega, rfl, rfl, Below.refl _ _⟩
          case round =>
            obtain ⟨m, hm, rfl, rfl, hBo⟩ := hrel
            by_cases hlt2 : m < run.length
            · have hBw : Below w2.heap.size w2 wr := hB.trans (hBo.mono hB.size)
              obtain ⟨b, o, va, vs, rfl, hva, hvs, x0, x1, x2, x3, x4, x5, x6, x7, x8, x9, x10⟩ := (hr2.kept hBw (Nat.le_refl _)).at (i := m) (s := run[m]) (by simp [hlt2])
              have hdc := ((Hdn.out.kept hBo (by omega)).cell hlt2).1
              have hwc := ((Hwt.out.kept hBo (by omega)).cell hlt2).1
              have hwl := wts_le run d m
              by_cases hc1 : m ∈ d
              · rw [decide_eq_true hc1] at hdc
                have hpk := pickB_no run d m (.inl (by simp [freeB, hc1]))
                have Hpk := Lib.hid hpk
                clear hc1 hpk
                go_wp2_with fail
                refine wp_region_ordN 28 [(0, true), (1, true), (2, true), (3, true), (4, true), (5, true), (6, true), (7, true), (8, true), (9, true), (10, true), (11, true), (12, true), (13, true), (14, true), (15, true), (16, true), (17, true), (18, true), (19, true), (20, true), (21, true), (22, true), (23, true), (24, true), (25, true), (26, true), (27, true)] (fun w' => w'.cell? ⟨wa.heap.size, m, none⟩ = some (.bool true)) (by kernel_rfl) rfl rfl (by kernel_rfl) hdc ?_
                iterate 28 (first | (refine wpOrd_take ?_ (by rfl) ?_ ?_; rotate_left; (intro w hSw; (try dsimp only at hSw); go_simp; try with_reducible rfl); (try simp only [Act.put, List.setIfInBounds_toArray, List.set_cons_zero, List.set_cons_succ])) | (refine wpOrd_leave (by rfl) ?_; (try simp only [Act.put, List.setIfInBounds_toArray, List.set_cons_zero, List.set_cons_succ])))
                refine wpOrd_nil ?_
                go_wp2_with fail
                refine NoPanic.normal ?_
                go_wp2_with fail
                go_roundw
                case rel => exact ⟨m + 1, by omega, by go_num, by rw [Hpk.out], hBo.drew⟩
                case measure => simp [intOf]; omega
              · rw [decide_eq_false hc1] at hdc
                by_cases hc2 : wts run d m = 0
                · have hz' : (((wts run d m : Nat) : Int) == 0) = true := by rw [hc2]; rfl
                  have hfr : freeB run d m = true := by rw [freeB_wts]; simp [hc1, hc2]
                  clear hc1 hc2
                  cases hpm : pickB run d m with
                  | none =>
                    have hpk := pickB_yes run d m hfr (by rw [hpm]; rfl)
                    have Hpk := Lib.hid hpk
                    have hpi : pickI (none : Option Nat) = -1 := rfl
                    rw [hpi]
                    clear hfr hpk hpm hpi
                    go_wp2_with fail
                    refine wp_region_ordN 28 [(0, true), (1, true), (2, true), (3, true), (4, true), (5, true), (6, true), (7, true), (8, true), (9, true), (10, true), (11, true), (12, true), (13, true), (14, true), (15, true), (16, true), (17, true), (18, true), (19, true), (20, true), (21, true), (22, true), (23, true), (24, true), (25, true), (26, true), (27, true)] (fun w' => w'.cell? ⟨wa.heap.size, m, none⟩ = some (.bool false) ∧ w'.cell? ⟨w2.heap.size, m, none⟩ = some (I (wts run d m))) (by kernel_rfl) rfl rfl (by kernel_rfl) ⟨hdc, hwc⟩ ?_
                    iterate 28 (first | (refine wpOrd_take ?_ (by rfl) ?_ ?_; rotate_left; (intro w hSw; (try dsimp only at hSw); go_simp; try with_reducible rfl); (try simp only [Act.put, List.setIfInBounds_toArray, List.set_cons_zero, List.set_cons_succ])) | (refine wpOrd_leave (by rfl) ?_; (try simp only [Act.put, List.setIfInBounds_toArray, List.set_cons_zero, List.set_cons_succ])))
                    refine wpOrd_nil ?_
                    go_wp2_with fail
                    refine NoPanic.normal ?_
                    go_wp2_with fail
                    go_roundw
                    case rel => exact ⟨m + 1, by omega, by go_num, by rw [Hpk.out]; rfl, hBo.drew⟩
                    case measure => simp [intOf]; omega
                  | some j =>
                    have hjm := (pickB_lt run d m j hpm).1
                    have hj0 : decide ((j : Int) < 0) = false := by simp
                    obtain ⟨b', o', ua, us, hab, hua, hus, y0, y1, y2, y3, y4, y5, y6, y7, y8, y9, y10⟩ := (hr2.kept hBw (Nat.le_refl _)).at (i := j) (s := run[j]'(by omega)) (by simp)
                    simp at hab
                    obtain ⟨rfl, rfl⟩ := hab
                    have hlj : j < run.length := by omega
                    have hpi : pickI (some j) = (j : Int) := rfl
                    rw [hpi]
                    by_cases hlx : lexL run[m].key run[j].key < 0
                    · have hpk := pickB_yes run d m hfr (by rw [hpm]; simp [betterB, keyAt_eq hlt2, keyAt_eq hlj, hlx])
                      have Hpk := Lib.hid hpk
                      clear hfr hpk hpm hpi
                      go_wp2_with fail
                      refine wp_region_ordN 24 [(0, true), (1, true), (2, true), (3, true), (4, true), (5, true), (6, true), (7, true), (8, true), (9, true), (10, true), (11, true), (12, true), (13, true), (14, true), (15, true), (16, true), (17, true), (18, true), (19, true), (20, true), (21, true), (22, true), (23, true)] (fun w' => w'.cell? ⟨wa.heap.size, m, none⟩ = some (.bool false) ∧ w'.cell? ⟨w2.heap.size, m, none⟩ = some (I (wts run d m)) ∧ w'.cell? ⟨b, o + m * 11, none⟩ = some (I run[m].ev.kind) ∧ w'.cell? ⟨b, o + m * 11 + 1, none⟩ = some (I run[m].ev.node) ∧ w'.cell? ⟨b, o + m * 11 + 2, none⟩ = some (I run[m].ev.arg) ∧ w'.cell? ⟨b, o + m * 11 + 3, none⟩ = some (I run[m].ev.msg.node) ∧ w'.cell? ⟨b, o + m * 11 + 4, none⟩ = some (I run[m].ev.msg.handler) ∧ w'.cell? ⟨b, o + m * 11 + 5, none⟩ = some (I run[m].ev.msg.count) ∧ w'.cell? ⟨b, o + m * 11 + 6, none⟩ = some (I run[m].ev.msg.index) ∧ w'.cell? ⟨b, o + m * 11 + 7, none⟩ = some (I run[m].ev.msg.copy) ∧ w'.cell? ⟨b, o + m * 11 + 8, none⟩ = some (va) ∧ w'.cell? ⟨b, o + m * 11 + 9, none⟩ = some (.bool run[m].obs) ∧ w'.cell? ⟨b, o + m * 11 + 10, none⟩ = some (vs) ∧ w'.cell? ⟨b, o + j * 11, none⟩ = some (I run[j].ev.kind) ∧ w'.cell? ⟨b, o + j * 11 + 1, none⟩ = some (I run[j].ev.node) ∧ w'.cell? ⟨b, o + j * 11 + 2, none⟩ = some (I run[j].ev.arg) ∧ w'.cell? ⟨b, o + j * 11 + 3, none⟩ = some (I run[j].ev.msg.node) ∧ w'.cell? ⟨b, o + j * 11 + 4, none⟩ = some (I run[j].ev.msg.handler) ∧ w'.cell? ⟨b, o + j * 11 + 5, none⟩ = some (I run[j].ev.msg.count) ∧ w'.cell? ⟨b, o + j * 11 + 6, none⟩ = some (I run[j].ev.msg.index) ∧ w'.cell? ⟨b, o + j * 11 + 7, none⟩ = some (I run[j].ev.msg.copy) ∧ w'.cell? ⟨b, o + j * 11 + 8, none⟩ = some (ua) ∧ w'.cell? ⟨b, o + j * 11 + 9, none⟩ = some (.bool run[j].obs) ∧ w'.cell? ⟨b, o + j * 11 + 10, none⟩ = some (us)) (by kernel_rfl) rfl rfl (by kernel_rfl) ⟨hdc, hwc, x0, x1, x2, x3, x4, x5, x6, x7, x8, x9, x10, y0, y1, y2, y3, y4, y5, y6, y7, y8, y9, y10⟩ ?_
                      iterate 24 (first | (refine wpOrd_take ?_ (by rfl) ?_ ?_; rotate_left; (intro w hSw; (try dsimp only at hSw); go_simp; try with_reducible rfl); (try simp only [Act.put, List.setIfInBounds_toArray, List.set_cons_zero, List.set_cons_succ])) | (refine wpOrd_leave (by rfl) ?_; (try simp only [Act.put, List.setIfInBounds_toArray, List.set_cons_zero, List.set_cons_succ])))
                      refine wpOrd_nil ?_
                      go_wp2_with fail
                      refine (cmpStep run[m] run[j] _ _ _ ⟨va, vs, rfl, hva.kept (Below.refl _ _).drew (Nat.le_refl _), hvs.kept (Below.refl _ _).drew (Nat.le_refl _)⟩ ⟨ua, us, rfl, hua.kept (Below.refl _ _).drew (Nat.le_refl _), hus.kept (Below.refl _ _).drew (Nat.le_refl _)⟩).mono ?_
                      rintro e w5 ⟨rfl, hB1⟩
                      go_wp2_with fail
                      refine NoPanic.normal ?_
                      go_wp2_with fail
                      go_roundw
                      case rel => exact ⟨m + 1, by omega, by go_num, by rw [Hpk.out]; rfl, hBo.drew.trans (hB1.mono hBo.size)⟩
                      case measure => simp [intOf]; omega
                    · have hpk := pickB_no run d m (.inr (by rw [hpm]; simp [betterB, keyAt_eq hlt2, keyAt_eq hlj, hlx]))
                      rw [hpm] at hpk
                      have Hpk := Lib.hid hpk
                      clear hfr hpk hpm hpi
                      go_wp2_with fail
                      refine wp_region_ordN 24 [(0, true), (1, true), (2, true), (3, true), (4, true), (5, true), (6, true), (7, true), (8, true), (9, true), (10, true), (11, true), (12, true), (13, true), (14, true), (15, true), (16, true), (17, true), (18, true), (19, true), (20, true), (21, true), (22, true), (23, true)] (fun w' => w'.cell? ⟨wa.heap.size, m, none⟩ = some (.bool false) ∧ w'.cell? ⟨w2.heap.size, m, none⟩ = some (I (wts run d m)) ∧ w'.cell? ⟨b, o + m * 11, none⟩ = some (I run[m].ev.kind) ∧ w'.cell? ⟨b, o + m * 11 + 1, none⟩ = some (I run[m].ev.node) ∧ w'.cell? ⟨b, o + m * 11 + 2, none⟩ = some (I run[m].ev.arg) ∧ w'.cell? ⟨b, o + m * 11 + 3, none⟩ = some (I run[m].ev.msg.node) ∧ w'.cell? ⟨b, o + m * 11 + 4, none⟩ = some (I run[m].ev.msg.handler) ∧ w'.cell? ⟨b, o + m * 11 + 5, none⟩ = some (I run[m].ev.msg.count) ∧ w'.cell? ⟨b, o + m * 11 + 6, none⟩ = some (I run[m].ev.msg.index) ∧ w'.cell? ⟨b, o + m * 11 + 7, none⟩ = some (I run[m].ev.msg.copy) ∧ w'.cell? ⟨b, o + m * 11 + 8, none⟩ = some (va) ∧ w'.cell? ⟨b, o + m * 11 + 9, none⟩ = some (.bool run[m].obs) ∧ w'.cell? ⟨b, o + m * 11 + 10, none⟩ = some (vs) ∧ w'.cell? ⟨b, o + j * 11, none⟩ = some (I run[j].ev.kind) ∧ w'.cell? ⟨b, o + j * 11 + 1, none⟩ = some (I run[j].ev.node) ∧ w'.cell? ⟨b, o + j * 11 + 2, none⟩ = some (I run[j].ev.arg) ∧ w'.cell? ⟨b, o + j * 11 + 3, none⟩ = some (I run[j].ev.msg.node) ∧ w'.cell? ⟨b, o + j * 11 + 4, none⟩ = some (I run[j].ev.msg.handler) ∧ w'.cell? ⟨b, o + j * 11 + 5, none⟩ = some (I run[j].ev.msg.count) ∧ w'.cell? ⟨b, o + j * 11 + 6, none⟩ = some (I run[j].ev.msg.index) ∧ w'.cell? ⟨b, o + j * 11 + 7, none⟩ = some (I run[j].ev.msg.copy) ∧ w'.cell? ⟨b, o + j * 11 + 8, none⟩ = some (ua) ∧ w'.cell? ⟨b, o + j * 11 + 9, none⟩ = some (.bool run[j].obs) ∧ w'.cell? ⟨b, o + j * 11 + 10, none⟩ = some (us)) (by kernel_rfl) rfl rfl (by kernel_rfl) ⟨hdc, hwc, x0, x1, x2, x3, x4, x5, x6, x7, x8, x9, x10, y0, y1, y2, y3, y4, y5, y6, y7, y8, y9, y10⟩ ?_
                      iterate 24 (first | (refine wpOrd_take ?_ (by rfl) ?_ ?_; rotate_left; (intro w hSw; (try dsimp only at hSw); go_simp; try with_reducible rfl); (try simp only [Act.put, List.setIfInBounds_toArray, List.set_cons_zero, List.set_cons_succ])) | (refine wpOrd_leave (by rfl) ?_; (try simp only [Act.put, List.setIfInBounds_toArray, List.set_cons_zero, List.set_cons_succ])))
                      refine wpOrd_nil ?_
                      go_wp2_with fail
                      refine (cmpStep run[m] run[j] _ _ _ ⟨va, vs, rfl, hva.kept (Below.refl _ _).drew (Nat.le_refl _), hvs.kept (Below.refl _ _).drew (Nat.le_refl _)⟩ ⟨ua, us, rfl, hua.kept (Below.refl _ _).drew (Nat.le_refl _), hus.kept (Below.refl _ _).drew (Nat.le_refl _)⟩).mono ?_
                      rintro e w5 ⟨rfl, hB1⟩
                      go_wp2_with fail
                      refine NoPanic.normal ?_
                      go_wp2_with fail
                      go_roundw
                      case rel => exact ⟨m + 1, by omega, by go_num, by rw [Hpk.out]; rfl, hBo.drew.trans (hB1.mono hBo.size)⟩
                      case measure => simp [intOf]; omega
                · have hz' : (((wts run d m : Nat) : Int) == 0) = false := by rw [beq_eq_false_iff_ne]; omega
                  have hpk := pickB_no run d m (.inl (by rw [freeB_wts]; simp [hc2]))
                  have Hpk := Lib.hid hpk
                  clear hc1 hc2 hpk
                  go_wp2_with fail
                  refine wp_region_ordN 28 [(0, true), (1, true), (2, true), (3, true), (4, true), (5, true), (6, true), (7, true), (8, true), (9, true), (10, true), (11, true), (12, true), (13, true), (14, true), (15, true), (16, true), (17, true), (18, true), (19, true), (20, true), (21, true), (22, true), (23, true), (24, true), (25, true), (26, true), (27, true)] (fun w' => w'.cell? ⟨wa.heap.size, m, none⟩ = some (.bool false) ∧ w'.cell? ⟨w2.heap.size, m, none⟩ = some (I (wts run d m))) (by kernel_rfl) rfl rfl (by kernel_rfl) ⟨hdc, hwc⟩ ?_
                  iterate 28 (first | (refine wpOrd_take ?_ (by rfl) ?_ ?_; rotate_left; (intro w hSw; (try dsimp only at hSw); go_simp; try with_reducible rfl); (try simp only [Act.put, List.setIfInBounds_toArray, List.set_cons_zero, List.set_cons_succ])) | (refine wpOrd_leave (by rfl) ?_; (try simp only [Act.put, List.setIfInBounds_toArray, List.set_cons_zero, List.set_cons_succ])))
                  refine wpOrd_nil ?_
                  go_wp2_with fail
                  refine NoPanic.normal ?_
                  go_wp2_with fail
                  go_roundw
                  case rel => exact ⟨m + 1, by omega, by go_num, by rw [Hpk.out], hBo.drew⟩
                  case measure => simp [intOf]; omega
            · have hmn : m = run.length := by omega
              have hpb : pickI (pickB run d m) = (best : Int) := by rw [hmn, Hbest.out]; rfl
              rw [hpb]
              have hBw : Below w2.heap.size w2 wr := hB.trans (hBo.mono hB.size)
              have hoz := hBo.size
              obtain ⟨b, o, va, vs, rfl, ⟨hva, hpa⟩, ⟨hvs, hps⟩, z0, z1, z2, z3, z4, z5, z6, z7, z8, z9, z10⟩ := hr2F.at (i := best) (s := run[best]) (by simp [hbl])
              obtain ⟨qa, da, rfl, _⟩ := hva.open
              obtain ⟨qs, ds, rfl, _⟩ := hvs.open
              have hBs : Below w2.heap.size w2 (wr.setCell ⟨wa.heap.size, best, none⟩ (.bool true)) := hBw.setCell (by simp; omega) _
              have x0 := cell_below hBs (Nat.le_refl _) z0
              have x1 := cell_below hBs (Nat.le_refl _) z1
              have x2 := cell_below hBs (Nat.le_refl _) z2
              have x3 := cell_below hBs (Nat.le_refl _) z3
              have x4 := cell_below hBs (Nat.le_refl _) z4
              have x5 := cell_below hBs (Nat.le_refl _) z5
              have x6 := cell_below hBs (Nat.le_refl _) z6
              have x7 := cell_below hBs (Nat.le_refl _) z7
              have x8 := cell_below hBs (Nat.le_refl _) z8
              have x9 := cell_below hBs (Nat.le_refl _) z9
              have x10 := cell_below hBs (Nat.le_refl _) z10
              have hdno := Hdn.out.kept hBo (by omega)
              have hwto := Hwt.out.kept hBo (by omega)
              obtain ⟨hdc, hdf⟩ := hdno.cell hbl
              have hos := own_set (owns_below hown hBo) ⟨wa.heap.size, best, none⟩ (.bool true) (by simp; omega)
              have hsrc : ((wr.setCell ⟨wa.heap.size, best, none⟩ (.bool true)).alloc (.cells #[I run[best].ev.kind, I run[best].ev.node, I run[best].ev.arg, I run[best].ev.msg.node, I run[best].ev.msg.handler, I run[best].ev.msg.count, I run[best].ev.msg.index, I run[best].ev.msg.copy, .slice qa run[best].asks.length da, .bool run[best].obs, .slice qs run[best].sent.length ds] 53)).heap[wr.heap.size]? = some (.cells #[I run[best].ev.kind, I run[best].ev.node, I run[best].ev.arg, I run[best].ev.msg.node, I run[best].ev.msg.handler, I run[best].ev.msg.count, I run[best].ev.msg.index, I run[best].ev.msg.copy, .slice qa run[best].asks.length da, .bool run[best].obs, .slice qs run[best].sent.length ds] 53 (0, 0)) := by
                have := heap_alloc_new (wr.setCell ⟨wa.heap.size, best, none⟩ (.bool true)) (.cells #[I run[best].ev.kind, I run[best].ev.node, I run[best].ev.arg, I run[best].ev.msg.node, I run[best].ev.msg.handler, I run[best].ev.msg.count, I run[best].ev.msg.index, I run[best].ev.msg.copy, .slice qa run[best].asks.length da, .bool run[best].obs, .slice qs run[best].sent.length ds] 53)
                simpa using this
              have hcs' : StpCellsP (fun b => w.heap.size ≤ b) w2 (atI run (d ++ [best])) (xs ++ (#[I run[best].ev.kind, I run[best].ev.node, I run[best].ev.arg, I run[best].ev.msg.node, I run[best].ev.msg.handler, I run[best].ev.msg.count, I run[best].ev.msg.index, I run[best].ev.msg.copy, .slice qa run[best].asks.length da, .bool run[best].obs, .slice qs run[best].sent.length ds]).toList) := by
                rw [atI_snoc run d best hbl]
                exact Hcs.out.snoc (s := run[best]) ⟨hva, hpa⟩ ⟨hvs, hps⟩
              have hdn1 := (hdno.set best)
              have hwt1 := hwto.setOther ⟨wa.heap.size, best, none⟩ (.bool true) (by simp; omega)
              have Hdn1 := Lib.hid hdn1
              have Hwt1 := Lib.hid hwt1
              have Hos := Lib.hid hos
              have Hsrc := Lib.hid hsrc
              have Hcs' := Lib.hid hcs'
              have HBs := Lib.hid hBs
              clear hmn hpb z0 z1 z2 z3 z4 z5 z6 z7 z8 z9 z10 hdno hwto hos hsrc hcs' hdn1 hwt1 hBs hva hvs
              go_wp2_with (at_builtin; go_must (refine wpList_appB rfl _ _ 24 rfl 53 _ 11 120 Tryz.underlying24 info_Step rfl (by omega) (by omega) w3.heap.size _ _ xs rfl (Hos.out.alloc _) wr.heap.size 1 1 _ 53 rfl Hsrc.out rfl rfl (by omega) (by omega) (by simp; omega) ?_); intro g cap w5 hg1 hg2 hg3 ho5 hgr5 hB5)
              have hwt5 := (Hwt1.out.alloc (.cells #[I run[best].ev.kind, I run[best].ev.node, I run[best].ev.arg, I run[best].ev.msg.node, I run[best].ev.msg.handler, I run[best].ev.msg.count, I run[best].ev.msg.index, I run[best].ev.msg.copy, .slice qa run[best].asks.length da, .bool run[best].obs, .slice qs run[best].sent.length ds] 53)).kept hB5 (by omega)
              have hdn5 := (Hdn1.out.kept ((Below.refl _ _).alloc (Nat.le_refl _) (.cells #[I run[best].ev.kind, I run[best].ev.node, I run[best].ev.arg, I run[best].ev.msg.node, I run[best].ev.msg.handler, I run[best].ev.msg.count, I run[best].ev.msg.index, I run[best].ev.msg.copy, .slice qa run[best].asks.length da, .bool run[best].obs, .slice qs run[best].sent.length ds] 53)) (by simp; omega)).kept hB5 (by omega)
              have hb5 : Below w2.heap.size w2 w5 := (HBs.out.alloc (by simp; omega) (.cells #[I run[best].ev.kind, I run[best].ev.node, I run[best].ev.arg, I run[best].ev.msg.node, I run[best].ev.msg.handler, I run[best].ev.msg.count, I run[best].ev.msg.index, I run[best].ev.msg.copy, .slice qa run[best].asks.length da, .bool run[best].obs, .slice qs run[best].sent.length ds] 53)).trans (hB5.mono (by omega))
              have hz5 : w3.heap.size ≤ w5.heap.size := by have := hB5.size; simp at this; omega
              have Hwt5 := Lib.hid hwt5
              have Hdn5 := Lib.hid hdn5
              have Hb5 := Lib.hid hb5
              have Ho5 := Lib.hid ho5
              clear hwt5 hdn5 hb5 ho5 hgr5 hB5 hg1 hg2 hg3 x0 x1 x2 x3 x4 x5 x6 x7 x8 x9 x10 hdc hdf
              go_loopw [11] (fun i wr => ∃ m : Nat, best + 1 ≤ m ∧ m ≤ run.length ∧ i = .int .i64 m ∧ WtAt wr w2.heap.size run.length (fun x => if x < m then wts run (d ++ [best]) x else wts run d x) ∧ DnAt wr wa.heap.size run.length (d ++ [best]) ∧
                wr.ownsRow w3.heap.size 53 11 (.slice (some ⟨g, 0, none⟩) (d.length + 1) cap) (d.length + 1) (xs ++ (#[I run[best].ev.kind, I run[best].ev.node, I run[best].ev.arg, I run[best].ev.msg.node, I run[best].ev.msg.handler, I run[best].ev.msg.count, I run[best].ev.msg.index, I run[best].ev.msg.copy, .slice qa run[best].asks.length da, .bool run[best].obs, .slice qs run[best].sent.length ds]).toList) ∧ Below w2.heap.size w2 wr ∧ w3.heap.size ≤ wr.heap.size) (fun i _ => run.length - (intOf i).toNat)
              case atStart =>
                refine ⟨best + 1, by omega, by omega, by go_num, Hwt5.out.congr (fun x hx => ?_), Hdn5.out, Ho5.out, Hb5.out, hz5⟩
                by_cases hxb : x < best + 1
                · have h1 := wts_done run d best x hbl Hbd.out
                  rw [lessB_false run best x (by omega)] at h1
                  simp [hxb, h1]
                · simp [hxb]
              case round =>
                clear hz5
                obtain ⟨m, hbm, hm, rfl, hwt, hdn, hown, hB, hz⟩ := hrel
                by_cases hlt2 : m < run.length
                · have hwd := wts_done run d best m hbl Hbd.out
                  have hwl := wts_le run (d ++ [best]) m
                  have hc := hwt.cell hlt2
                  simp only [Nat.lt_irrefl, if_false] at hc
                  have Hdn := Lib.hid hdn
                  have Hown := Lib.hid hown
                  clear hdn hown
                  have hless := ordLess p run.length (lessB run) best m wr (hO.kept hB (Nat.le_refl _)) hbl hlt2
                  by_cases hl : lessB run best m = true
                  · rw [hl] at hless
                    rw [if_pos hl] at hwd
                    rw [hwd, show ((wts run (d ++ [best]) m + 1 : Nat) : Int) = (wts run (d ++ [best]) m : Int) + 1 from by omega] at hc
                    obtain ⟨hc1, hc2⟩ := hc
                    have hst := hwt.set (t' := fun x => if x < m + 1 then wts run (d ++ [best]) x else wts run d x) m (fun c hc => by
                      by_cases h1 : c < m
                      · simp [h1, Nat.lt_succ_of_lt h1]
                      · have : ¬ c < m + 1 := by omega
                        simp [h1, this])
                    simp only [Nat.lt_succ_self, if_true] at hst
                    have Hst := Lib.hid hst
                    have Hless := Lib.hid hless
                    clear hst hless hl hwt hwd
                    go_wp2_with fail
                    refine Hless.out.mono ?_
                    rintro e w6 ⟨rfl, rfl⟩
                    go_wp2_with fail
                    go_roundw
                    case rel => exact ⟨m + 1, by omega, by omega, by go_num, Hst.out, Hdn.out.setOther _ _ (by simp; omega), own_set Hown.out _ _ (by simp; omega), hB.setCell (by simp) _, by simp; omega⟩
                    case measure => simp [intOf]; omega
                  · have hl' : lessB run best m = false := by simpa using hl
                    rw [hl'] at hless
                    rw [if_neg hl, Nat.add_zero] at hwd
                    have hwt2 := hwt.congr (t' := fun x => if x < m + 1 then wts run (d ++ [best]) x else wts run d x) (fun c _ => by
                      by_cases h1 : c < m
                      · simp [h1, Nat.lt_succ_of_lt h1]
                      · by_cases h2 : c = m
                        · subst h2
                          simp [hwd]
                        · have : ¬ c < m + 1 := by omega
                          simp [h1, this])
                    have Hwt2 := Lib.hid hwt2
                    have Hless := Lib.hid hless
                    clear hwt2 hless hl hl' hwt hwd hc
                    go_wp2_with fail
                    refine Hless.out.mono ?_
                    rintro e w6 ⟨rfl, rfl⟩
                    go_wp2_with fail
                    go_roundw
                    case rel => exact ⟨m + 1, by omega, by omega, by go_num, Hwt2.out, Hdn.out, Hown.out, hB, hz⟩
                    case measure => simp [intOf]; omega
                · have hwt2 : WtAt wr w2.heap.size run.length (wts run (d ++ [best])) := hwt.congr fun x hx => by
                    have : x < m := by omega
                    simp [this]
                  have hHn : normI run = normD run (run.length - (d ++ [best]).length) (d ++ [best]) := by
                    rw [Hn.out, show run.length - d.length = (run.length - (d.length + 1)) + 1 by omega, normD_step run d _ best Hbest.out, List.length_append]
                    rfl
                  have Hwt2 := Lib.hid hwt2
                  have HHn := Lib.hid hHn
                  have Hdn := Lib.hid hdn
                  have Hown := Lib.hid hown
                  clear hwt2 hHn hwt hdn hown
                  go_wp2_with fail
                  go_roundw
                  case rel => exact ⟨d ++ [best], _, by simp; omega, by rw [List.length_append]; go_num, fun i hi => by
                    rcases List.mem_append.1 hi with h | h
                    · exact Hdr.out i h
                    · simp at h; omega, Hwt2.out, Hdn.out, by rw [List.length_append]; exact Hown.out, Hcs'.out, HHn, hB, hz⟩
                  case measure => simp [intOf]; omega
        · have hdn' : d.length = run.length := by omega
          have hnd : normI run = d := by
            rw [Hn.out, hdn', Nat.sub_self]
            rfl
          have hres : StpSlF w.heap.size wr u7 (normS run) := by
            unfold normS
            rw [hnd]
            exact StpSlF.of_owns hown (atI_length run d Hdr.out).symm Hcs.out hB (Nat.le_refl _) (by have := hBw2.size; omega)
          have Hres := Lib.hid hres
          have Hbb := Lib.hid (hBw2.trans (hB.mono hBw2.size))
          clear hnd hres hown
          go_wp2_with fail
          go_ret
          exact ⟨_, rfl, Hres.out, Hbb.out⟩

end Go.Proofs.YtljmonfobefiiaaGreatDoor

/- story.Print: the walk. -/
namespace Go.Proofs.YtljmonfobefiiaaGreatDoor
open Go.RowKit

def sw (p : Nat × Nat) : Nat × Nat := (p.2, p.1)
theorem nv_iv (l : List Nat) : nv l = iv (l.map fun n : Nat => (n : Int)) := by simp [nv, iv]

set_option maxHeartbeats 8000000 in
set_option maxRecDepth 100000 in
theorem printC (run : List Stp) (v : Value) (w : World) (hrun : StpSl w v run) (hn : run.length ≤ 64) (hint : ∀ s ∈ run, StpI s) (hsent : ∀ s ∈ run, s.sent.length ≤ 1000000) (hg : Gl w) :
    Calls Tryz.prog 28 #[v] w fun e w' => e = .returned (sv (storyT (normS run))) ∧ Below w.heap.size w w' := by
  have HN := Lib.hid (trNormalF run v w hrun hn (fun s hs => (hint s hs).2.2) hsent)
  have Hg := Lib.hid hg
  obtain ⟨N, hN⟩ : ∃ N, N = normS run := ⟨_, rfl⟩
  have hNl : N.length ≤ 64 := by rw [hN, nf_len (normS_nf run)]; exact hn
  have HI := Lib.hid (show ∀ s ∈ N, StpI s from fun s hs => hint s (nf_mem (normS_nf run) s (hN ▸ hs)))
  rw [← hN] at HN ⊢
  clear hN hrun hn hsent hint hg
  have hmk := fun W => run_mk1 (P := Tryz.prog) 115 22 (.slice none 0 0) 24 N.length Tryz.underlying115 info_Sint rfl (by omega) (by omega) W
  go_enter Tryz.func28, Tryz.ntmps28
  go_wp2_with fail
  refine HN.out.mono ?_
  rintro e w1 ⟨u, rfl, hr1F, hB1⟩
  have hr1 := hr1F.sl
  clear hr1F HN
  obtain ⟨ka, ca, rfl, hml⟩ := hr1.open
  have HB1 := Lib.hid hB1
  have hz1 := hB1.size
  clear hB1
  go_wp2_with fail
  obtain ⟨w2, hw2⟩ : ∃ w2, w2 = w1.alloc (.cells (mk1 N.length (.slice none 0 0)) 22) := ⟨_, rfl⟩
  have hz2 : w2.heap.size = w1.heap.size + 1 := by rw [hw2]; simp
  have hbn : Blk w2 w1.heap.size (mk1 N.length (.slice none 0 0)) := by rw [hw2]; exact Blk.new _ _ _
  have hB12 : Below w1.heap.size w1 w2 := by rw [hw2]; exact (Below.refl _ _).alloc (Nat.le_refl _) _
  rw [← hw2]
  clear hw2 hmk
  refine (depOrder N _ w2 (hr1.kept hB12 (Nat.le_refl _)) hNl).mono ?_
  rintro e w3 ⟨p, rfl, hO, hB3⟩
  go_wp2_with fail
  refine (coversC p N.length (lessB N) w3 hO).mono ?_
  rintro e w4 ⟨vl, rfl, hown, hB4⟩
  have hfl := Flat.of_owns hown
  have hLv := fun g (hg : vl.ownBlock = some g) => hown.lt g hg
  obtain ⟨la, lc, rfl, hlm⟩ := hfl.open
  have hz3 := hB3.size
  have hz4 := hB4.size
  obtain ⟨L, hL⟩ : ∃ L, L = covs (lessB N) N.length N.length := ⟨_, rfl⟩
  rw [← hL] at hfl hLv hlm ⊢
  have hbf : bfOf N = L.map sw := by rw [hL]; rfl
  have hLb : ∀ q ∈ L, q.1 < N.length ∧ q.2 < N.length := fun q hq => by rw [hL] at hq; exact mem_covs hq
  have hLl : L.length ≤ 4096 := by
    have := bfOf_len N hNl
    rwa [hbf, List.length_map] at this
  have HLb := Lib.hid hLb
  have Hbf := Lib.hid hbf
  have hB14 : Below w1.heap.size w1 w4 := hB12.trans ((hB3.mono (by omega)).trans (hB4.mono (by omega)))
  have HB14 := Lib.hid hB14
  have hsame : InP (fun b => b < w4.heap.size ∧ b ≠ w1.heap.size) (.slice la L.length lc) := fun b o m c e => by
    have := hLv b (by rw [e]; rfl)
    constructor
    · exact this.2
    · omega
  have Hfl := Lib.hid hfl
  have Hsame := Lib.hid hsame
  have hbn4 := Lib.hid ((hbn.kept hB3 hbn.lt).kept hB4 (by omega))
  have Hr1 := Lib.hid hr1
  clear hL hbf hLb hB14 hB12 hB3 hB4 hO hown hLv hfl hsame hbn hr1
  go_wp2_with fail
  go_loopw [20] (fun vi wr => ∃ (k : Nat) (arr : Array Value), k ≤ L.length ∧ vi = I k ∧ Hid (BfAt w4.heap.size w1.heap.size N.length wr ((L.take k).map sw) arr) ∧ Hid (Same (fun b => b < w4.heap.size ∧ b ≠ w1.heap.size) w4 wr) ∧ Hid (Below w1.heap.size w1 wr)) (fun vi _ => L.length - (intOf vi).toNat)
  case atStart => exact ⟨0, _, by omega, rfl, Lib.hid (by rw [List.take_zero]; exact BfAt.start hbn4.out (by omega) (Nat.le_refl _)), Lib.hid (Same.refl _ _), HB14⟩
  case round =>
    clear hbn4
    obtain ⟨k, arr, hk, rfl, Hbf1, Hs, HB⟩ := hrel
    by_cases hlt : k < L.length
    · obtain ⟨x, hx⟩ : ∃ x, L[k]? = some x := ⟨L[k], by simp [hlt]⟩
      obtain ⟨hp1, hp2⟩ := HLb.out x (List.mem_of_getElem? hx)
      obtain ⟨b, o, rfl, x0, x1⟩ := pair_at (Hfl.out.sameP Hsame.out Hs.out) (i := k) (x := x) hx
      have hbl : b < wr.heap.size := by simpa using World.block_lt_of_cell? _ _ x0
      obtain ⟨Lk, hLk⟩ : ∃ Lk, Lk = (L.take k).map sw := ⟨_, rfl⟩
      rw [← hLk] at Hbf1
      have htk : (L.take (k + 1)).map sw = Lk ++ [(x.2, x.1)] := by rw [hLk, List.take_add_one, hx]; simp [sw]
      have hbx := Hbf1.out
      obtain ⟨va, hva, hrow⟩ := hbx.row x.2 hp2
      have hlen : (nxL Lk x.2).length ≤ 10000 := by
        rw [hLk]
        unfold nxL
        rw [List.length_map]
        exact Nat.le_trans (List.length_filter_le _ _) (by rw [List.length_map, List.length_take]; omega)
      clear hLk
      have hvne : ∀ x, (x < w4.heap.size ∨ wr.heap.size ≤ x) → va.ownBlock ≠ some x := fun x hx e => by
        rcases owns_block hrow with h0 | ⟨g, h0, h1, h2⟩
        · rw [h0] at e; cases e
        · rw [h0] at e; cases e; omega
      have hwz := Hs.out.1
      have HrowA := Lib.hid ((hrow.alloc (.cells #[I x.1, I x.2] 120)).alloc (.cells #[I x.1] 3))
      have Hsrc : Hid (((wr.alloc (.cells #[I x.1, I x.2] 120)).alloc (.cells #[I x.1] 3)).heap[wr.heap.size + 1]? = some (.cells #[I x.1] 3 (0, 0))) := Lib.hid (by
        have := heap_alloc_new (wr.alloc (.cells #[I x.1, I x.2] 120)) (.cells #[I x.1] 3)
        simpa using this)
      have hbA : Below wr.heap.size wr ((wr.alloc (.cells #[I x.1, I x.2] 120)).alloc (.cells #[I x.1] 3)) := ((Below.refl _ _).alloc (Nat.le_refl _) _).alloc (by simp) _
      have HbfA := Lib.hid (hbx.kept hbA)
      have HX : Hid (Blk ((wr.alloc (.cells #[I x.1, I x.2] 120)).alloc (.cells #[I x.1] 3)) wr.heap.size #[I x.1, I x.2]) := Lib.hid ((Blk.new _ _ _).alloc _)
      have HbA := Lib.hid hbA
      have Hv1 := Lib.hid (hvne w1.heap.size (by omega))
      have Hv3 := Lib.hid (hvne wr.heap.size (by omega))
      have Hva := Lib.hid hva
      have Htk := Lib.hid htk
      have Hvne := Lib.hid hvne
      have hgl : w1.heap.size < wr.heap.size := by omega
      clear hx hrow htk hbA hvne hva hbx
      have hgn := (Hbf1.out.bn.cell x.2).trans Hva.out
      go_wp2_with fail
      obtain ⟨wx, hwx⟩ : ∃ wx, wx = wr.alloc (.cells #[I x.1, I x.2] 120) := ⟨_, rfl⟩
      have dG : wx.cell? ⟨w1.heap.size, x.2, none⟩ = some va := by rw [hwx]; exact ((Hbf1.out.bn.alloc _).cell x.2).trans Hva.out
      have dX0 : wx.cell? ⟨wr.heap.size, 0, none⟩ = some (I x.1) := by rw [hwx]; exact (Blk.new _ _ _).cell 0
      have dX1 : wx.cell? ⟨wr.heap.size, 1, none⟩ = some (I x.2) := by rw [hwx]; exact (Blk.new _ _ _).cell 1
      have hzx : wx.heap.size = wr.heap.size + 1 := by rw [hwx]; simp
      rw [← hwx] at HrowA Hsrc HbfA HX HbA ⊢
      clear hwx
      have eG : (wx.alloc (.cells #[I x.1] 3)).cell? ⟨w1.heap.size, x.2, none⟩ = some va := (HbfA.out.bn.cell x.2).trans Hva.out
      have eX0 : (wx.alloc (.cells #[I x.1] 3)).cell? ⟨wr.heap.size, 0, none⟩ = some (I x.1) := HX.out.cell 0
      have eX1 : (wx.alloc (.cells #[I x.1] 3)).cell? ⟨wr.heap.size, 1, none⟩ = some (I x.2) := HX.out.cell 1
      refine wp_region_ordN 12 [(0, true), (1, true), (2, true), (3, true), (4, true), (5, true), (6, true), (7, true), (8, true), (9, true), (10, false), (11, false)] (fun w' => w'.cell? ⟨wr.heap.size, 0, none⟩ = some (I x.1) ∧ w'.cell? ⟨wr.heap.size, 1, none⟩ = some (I x.2) ∧ w'.cell? ⟨w1.heap.size, x.2, none⟩ = some va) (by kernel_rfl) rfl rfl (by kernel_rfl) ⟨dX0, dX1, dG⟩ ?_
      repeat (refine wpOrd_take ?_ (by rfl) ?_ ?_; rotate_left; (intro w hSw; (try dsimp only at hSw); go_simp; try with_reducible rfl); (try simp only [Act.put, List.setIfInBounds_toArray, List.set_cons_zero, List.set_cons_succ]))
      (refine wpOrd_move (fun K hK => ?_); go_simp; refine hK.out _ _ ?_ ?_)
      · exact ⟨eX0, eX1, eG⟩
      clear hK K
      (try simp only [Act.put, List.setIfInBounds_toArray, List.set_cons_zero, List.set_cons_succ])
      refine wpOrd_move (fun K hK => ?_)
      refine step_appB (by rfl) _ _ 22 (by rfl) 3 _ 1 8 Tryz.underlying22 info_int rfl (by omega) (by omega) w4.heap.size va (nxL Lk x.2).length (nv (nxL Lk x.2)) (by rfl) HrowA.out (wr.heap.size + 1) 1 1 #[I x.1] 3 (by rfl) Hsrc.out rfl rfl (by omega) (by omega) HbfA.out.hB ?_
      intro g cap w5 hg1 hg2 hg3 ho5 hgr5 hB5
      have hG5 := HbfA.out.bn.drew.grown hgr5 Hv1.out
      have hX5 := HX.out.drew.grown hgr5 Hv3.out
      have cG5 := (hG5.cell x.2).trans Hva.out
      have fG5 := hG5.frozen x.2
      have cX0 : w5.cell? ⟨wr.heap.size, 0, none⟩ = some (I x.1) := hX5.cell 0
      have cX1 : w5.cell? ⟨wr.heap.size, 1, none⟩ = some (I x.2) := hX5.cell 1
      refine hK.out _ _ ⟨cX0, cX1, cG5⟩ ?_
      clear hK K
      (try simp only [Act.put, List.setIfInBounds_toArray, List.set_cons_zero, List.set_cons_succ])
      refine wpOrd_nil ?_
      go_wp2_with fail
      refine NoPanic.normal ?_
      go_wp2_with fail
      go_roundw
      case rel =>
        have hst := HbfA.out.drew.step (x.2, x.1) hp2 va Hva.out g cap ho5 hgr5 (hg3.imp id (fun e => by rw [e]; exact Nat.le_refl _)) hB5.size
        refine ⟨k + 1, _, by omega, by go_num, by rw [Htk.out]; exact Lib.hid hst, Lib.hid ?_, Lib.hid ?_⟩
        · refine Same.set (Hs.out.trans (Same.trans (B := (wx.alloc (.cells #[I x.1] 3)).drew) ⟨HbA.out.size, fun b hb => HbA.out.block b (by omega)⟩ (Same.grown hgr5 (fun b hb => ⟨?_, fun e => Hvne.out b (.inl hb.1) e.symm⟩)))) _ _ (fun h => h.2 rfl)
          have := HbA.out.size
          simp only [heap_drew]
          omega
        · exact (((HB.out.trans (HbA.out.drew.mono (by omega))).trans (hB5.mono (by omega))).setCell (Nat.le_refl _) _)
      case measure => simp [intOf]; omega
    · obtain rfl : k = L.length := by omega
      have hbx : BfAt w4.heap.size w1.heap.size N.length wr (bfOf N) arr := by
        have := Hbf1.out
        rw [List.take_length] at this
        rw [Hbf.out]
        exact this
      have Hbx := Lib.hid hbx
      have hwz := Hs.out.1
      have HN5 := Lib.hid (Hr1.out.kept HB.out (Nat.le_refl _))
      have HB5 := Lib.hid (HB1.out.trans (HB.out.mono hz1))
      have HG5 := Lib.hid (Hg.out.below HB5.out)
      have hz5 := HB5.out.size
      obtain ⟨F, hF⟩ : ∃ F : Nat → List Nat, F = fun i => nxL (bfOf N) i := ⟨_, rfl⟩
      have Hst := Lib.hid (show storyT N = linesT N F N.length by rw [hF]; rfl)
      have hFb : ∀ i, (F i).length ≤ 10000 ∧ ∀ n ∈ F i, n ≤ 64 := by rw [hF]; exact nxL_bf N hNl
      have HL := Lib.hid (linesT_len N F hNl HI.out hFb)
      have HFb := Lib.hid hFb
      have Hrow := Lib.hid (show ∀ i, i < N.length → ∃ va, arr[i]? = some va ∧ wr.ownsRow w4.heap.size 3 1 va (F i).length (nv (F i)) by rw [hF]; exact hbx.row)
      clear hbx Hbf1 Hs HB HB14 Hr1 Hbf HLb Hfl Hsame hF hFb HB1
      obtain ⟨W5, rfl⟩ : ∃ W5 : World, W5 = wr := ⟨_, rfl⟩
      go_wp2_with fail
      go_loopw [40] (fun vi wr => ∃ i : Nat, i ≤ N.length ∧ vi = I i ∧ Hid (Bd wr W5.heap.size (linesT N F i)) ∧ Hid (Below W5.heap.size W5 wr)) (fun vi _ => N.length - (intOf vi).toNat)
      case atStart => exact ⟨0, by omega, rfl, Lib.hid (Bd.new _), Lib.hid ((Below.refl _ _).alloc (Nat.le_refl _) _)⟩
      case round =>
        obtain ⟨i, hi, rfl, HBd, HB⟩ := hrel
        obtain ⟨w6, rfl⟩ : ∃ w6 : World, w6 = wr := ⟨_, rfl⟩
        have hwz5 := HB.out.size
        by_cases hlt : i < N.length
        · have hbl := HBd.out.lt
          obtain ⟨bb, o, va, vs, rfl, hva, hvs, y0, y1, y2, y3, y4, y5, y6, y7, y8, y9, y10⟩ := HN5.out.at (i := i) (s := N[i]) (by simp [hlt])
          have hsI := HI.out N[i] (List.getElem_mem hlt)
          have hTl := HL.out i hi
          have hTl2 : 301000000 * i ≤ 301000000 * 64 := Nat.mul_le_mul (Nat.le_refl _) (by omega)
          have Hsucc := Lib.hid (linesT_succ N F i hlt)
          obtain ⟨vb, hvb, hrowb⟩ := Hrow.out i hlt
          obtain ⟨hFl, hFn⟩ := HFb.out i
          obtain ⟨ba, bc, rfl, hbm⟩ := (Flat.of_owns hrowb).open
          have Hbc := Lib.hid ((Hbx.out.bn.cell i).trans hvb)
          have HFi : Hid (IntSl W5 (.slice ba (F i).length bc) ((F i).map fun n : Nat => (n : Int))) := Lib.hid (by
            have := Flat.of_owns hrowb
            rw [nv_iv] at this
            unfold IntSl
            rw [List.length_map]
            exact this)
          generalize F i = bf at Hsucc hrowb hFl hFn hbm Hbc HFi hvb
          generalize linesT N F i = T at HBd hTl Hsucc
          generalize N[i] = s at hva hvs y0 y1 y2 y3 y4 y5 y6 y7 y8 y9 y10 hsI Hsucc
          obtain ⟨⟨kind, node, arg, ⟨m0, m1, m2, m3, m4⟩⟩, asks, obs, sent⟩ := s
          dsimp only at hva hvs y0 y1 y2 y3 y4 y5 y6 y7 y8 y9 y10
          obtain ⟨hI1, hI2, hI3⟩ := hsI
          dsimp only at hI1 hI2 hI3
          obtain ⟨aa, ac, rfl, hal⟩ := hva.open
          obtain ⟨sa, sc, rfl, _⟩ := hvs.open
          generalize sent.length = sl at hvs y10
          have hhl := itoa_len (i : Int) (natI64 i (by omega))
          have hel := textEv_len _ hI1
          have Hit := Lib.hid (fun X (hX : Gl X) => itoaC (i : Int) (natI64 i (by omega)) X hX)
          have Hev := Lib.hid (fun X (hX : Gl X) => namesEventC ⟨kind, node, arg, ⟨m0, m1, m2, m3, m4⟩⟩ hI1 X hX)
          have Hline : Hid (linesT N F (i + 1) = T ++ (Lib.itoa i ++ [58, 32] ++ textEv ⟨kind, node, arg, ⟨m0, m1, m2, m3, m4⟩⟩) ++ asksT asks asks.length ++ obsT obs ++ bfT bf ++ [10]) := Lib.hid (by
            rw [Hsucc.out]
            unfold lineT headT
            simp only [List.append_assoc])
          generalize Lib.itoa (i : Int) = di at hhl Hit Hline
          generalize textEv ⟨kind, node, arg, ⟨m0, m1, m2, m3, m4⟩⟩ = te at hel Hev Hline
          have Hva := Lib.hid hva
          have HI2 := Lib.hid hI2
          have x0 := cell_below HB.out (Nat.le_refl _) y0
          have x1 := cell_below HB.out (Nat.le_refl _) y1
          have x2 := cell_below HB.out (Nat.le_refl _) y2
          have x3 := cell_below HB.out (Nat.le_refl _) y3
          have x4 := cell_below HB.out (Nat.le_refl _) y4
          have x5 := cell_below HB.out (Nat.le_refl _) y5
          have x6 := cell_below HB.out (Nat.le_refl _) y6
          have x7 := cell_below HB.out (Nat.le_refl _) y7
          have x8 := cell_below HB.out (Nat.le_refl _) y8
          have x9 := cell_below HB.out (Nat.le_refl _) y9
          have x10 := cell_below HB.out (Nat.le_refl _) y10
          clear hva hvs y0 y1 y2 y3 y4 y5 y6 y7 y8 y9 y10 hI1 hI2 Hsucc hrowb hvb
          have HP0 : Hid (PS W5 (w6.alloc (.cells #[I kind, I node, I arg, I m0, I m1, I m2, I m3, I m4, .slice aa asks.length ac, .bool obs, .slice sa sl sc] 53)) w6.heap.size #[I kind, I node, I arg, I m0, I m1, I m2, I m3, I m4, .slice aa asks.length ac, .bool obs, .slice sa sl sc] T) := Lib.hid {
            row := heap_alloc_new _ _
            below := HB.out.alloc hwz5 _
            bd := HBd.out.kept ((Below.refl _ _).alloc (Nat.le_refl _) _)
            lt := hbl }
          unfold sv at Hit Hev
          unfold eva at Hev
          dsimp only at Hev
          go_wp2_with fail
          clear x0 x1 x2 x3 x4 x5 x6 x7 x8 x9 x10
          have hl1 : ¬ 9223372036854775807 < di.length + 2 := by omega
          have hl2 : ¬ 9223372036854775807 < di.length + 2 + te.length := by omega
          have hP := HP0.out.drew
          clear HP0
          refine wp_region_ordN 6 [(0, true), (3, true), (4, true), (1, false), (2, true), (5, false)] (fun X => ∀ j, X.cell? ⟨w6.heap.size, j, none⟩ = (#[I kind, I node, I arg, I m0, I m1, I m2, I m3, I m4, .slice aa asks.length ac, .bool obs, .slice sa sl sc] : Array Value)[j]?) (by kernel_rfl) rfl rfl (by kernel_rfl) hP.cell ?_
          iterate 3 (refine wpOrd_take ?_ (by rfl) ?_ ?_; rotate_left; (intro w hSw; (try dsimp only at hSw); go_simp; try with_reducible rfl); (try simp only [Act.put, List.setIfInBounds_toArray, List.set_cons_zero, List.set_cons_succ]))
          obtain ⟨V, hV⟩ : ∃ V, V = (w6.alloc (.cells #[I kind, I node, I arg, I m0, I m1, I m2, I m3, I m4, .slice aa asks.length ac, .bool obs, .slice sa sl sc] 53)).drew := ⟨_, rfl⟩
          rw [← hV] at hP ⊢
          clear hV
          have HP := Lib.hid hP
          clear hP
          refine wpOrd_move (fun K hK => ?_)
          go_simp
          go_at_call 46
          refine (Hit.out _ (HG5.out.below HP.out.below)).mono ?_
          rintro e V1 ⟨rfl, D⟩
          replace HP := Lib.hid (HP.out.then D)
          refine hK.out _ _ HP.out.cell ?_
          clear hK K D
          (try simp only [Act.put, List.setIfInBounds_toArray, List.set_cons_zero, List.set_cons_succ])
          (refine wpOrd_take ?_ (by rfl) ?_ ?_; rotate_left; (intro w hSw; (try dsimp only at hSw); go_simp; try with_reducible rfl); (try simp only [Act.put, List.setIfInBounds_toArray, List.set_cons_zero, List.set_cons_succ]))
          refine wpOrd_move (fun K hK => ?_)
          go_simp
          go_at_call 67
          refine (Hev.out _ (HG5.out.below HP.out.below)).mono ?_
          rintro e V2 ⟨rfl, D⟩
          replace HP := Lib.hid (HP.out.then D)
          refine hK.out _ _ HP.out.cell ?_
          clear hK K D
          (try simp only [Act.put, List.setIfInBounds_toArray, List.set_cons_zero, List.set_cons_succ])
          refine wpOrd_nil ?_
          have e1 : (⟨di.toArray⟩ ++ ⟨[58, 32].toArray⟩ ++ ⟨te.toArray⟩ : ByteArray) = ⟨(di ++ [58, 32] ++ te).toArray⟩ := by rw [ba_app, ba_app]
          have Hw := Lib.hid (writeC V2 W5.heap.size T (di ++ [58, 32] ++ te) HP.out.bd (by simp only [List.length_append, List.length_cons, List.length_nil]; omega))
          unfold sv at Hw
          rw [← e1] at Hw
          clear e1
          go_wp2_with (go_at_call 66; refine Hw.out.mono ?_; rintro e V3 ⟨rfl, D⟩; have HP3 := Lib.hid (HP.out.wrote D); clear D)
          refine NoPanic.normal ?_
          obtain ⟨hd, hhd⟩ : ∃ hd, hd = di ++ [58, 32] ++ te := ⟨_, rfl⟩
          have hhdl : hd.length ≤ 300 := by
            rw [hhd]
            simp only [List.length_append, List.length_cons, List.length_nil]
            omega
          rw [← hhd] at HP3 Hline
          clear hl1 hl2 Hit Hev Hw HP hhd hhl hel
          have c8 := HP3.out.cell 8
          have hgq : w6.heap.size < V3.heap.size := HP3.out.qlt
          go_wp2_with fail
          clear c8
          go_loopw [56] (fun vk wk => ∃ k : Nat, k ≤ asks.length ∧ vk = I k ∧ Hid (PS W5 wk w6.heap.size #[I kind, I node, I arg, I m0, I m1, I m2, I m3, I m4, .slice aa asks.length ac, .bool obs, .slice sa sl sc] (T ++ hd ++ asksT asks k))) (fun vk _ => asks.length - (intOf vk).toNat)
          case atStart => exact ⟨0, by omega, rfl, Lib.hid (by simpa [asksT] using HP3.out)⟩
          case round =>
            clear HP3
            obtain ⟨k, hk, rfl, HPk⟩ := hrel
            have htl := asksT_len asks k HI2.out hI3
            by_cases hkl : k < asks.length
            · obtain ⟨qb, qo, rfl, z0, z1, z2, z3, z4, z5, z6⟩ := (Hva.out.kept HPk.out.below (Nat.le_refl _)).at (i := k) (x := asks[k]) (by simp [hkl])
              have hqi := HI2.out asks[k] (List.getElem_mem hkl)
              have Hs := Lib.hid (asksT_succ asks k hkl)
              generalize asksT asks k = Tk at HPk Hs htl
              generalize asks[k] = a at z0 z1 z2 z3 z4 z5 z6 hqi Hs
              obtain ⟨n0, n1, n2, n3, n4, n5, n6⟩ := a
              dsimp only at z0 z1 z2 z3 z4 z5 z6
              have hqn : ∀ x ∈ (⟨n0, n1, n2, n3, n4⟩ : Qn).ints, InI64 x := askI_q hqi
              have hql := textQn_len _ hqn
              have hi5 := hqi n5 (by simp [Ask.ints])
              have hi6 := hqi n6 (by simp [Ask.ints])
              have hl5 := itoa_len n5 hi5
              have hl6 := itoa_len n6 hi6
              have Hqn := Lib.hid (fun X (hX : Gl X) => namesQuestionC ⟨n0, n1, n2, n3, n4⟩ hqn X hX)
              have H5 := Lib.hid (fun X (hX : Gl X) => itoaC n5 hi5 X hX)
              have H6 := Lib.hid (fun X (hX : Gl X) => itoaC n6 hi6 X hX)
              unfold askT Ask.qn at Hs
              dsimp only at Hs
              generalize textQn ⟨n0, n1, n2, n3, n4⟩ = tq at hql Hqn Hs
              generalize Lib.itoa n5 = d5 at hl5 H5 Hs
              generalize Lib.itoa n6 = d6 at hl6 H6 Hs
              clear hqi hqn hi5 hi6
              unfold sv at Hqn H5 H6
              unfold qva at Hqn
              dsimp only at Hqn
              have hP0 := (HPk.out.alloc (.cells #[I n0, I n1, I n2, I n3, I n4, I n5, I n6] 60)).drew
              have hA0 : Blk (wr.alloc (.cells #[I n0, I n1, I n2, I n3, I n4, I n5, I n6] 60)).drew wr.heap.size #[I n0, I n1, I n2, I n3, I n4, I n5, I n6] := (Blk.new _ _ _).drew
              have HP0 := Lib.hid hP0
              have HA0 := Lib.hid hA0
              clear hP0 hA0
              have hl1 : ¬ 9223372036854775807 < 2 + tq.length := by omega
              have hl2 : ¬ 9223372036854775807 < 2 + tq.length + 3 := by omega
              have hl3 : ¬ 9223372036854775807 < 2 + tq.length + 3 + d6.length := by omega
              have hl4 : ¬ 9223372036854775807 < 2 + tq.length + 3 + d6.length + 1 := by omega
              have hl7 : ¬ 9223372036854775807 < 2 + tq.length + 3 + d6.length + 1 + d5.length := by omega
              have hl8 : ¬ 9223372036854775807 < 2 + tq.length + 3 + d6.length + 1 + d5.length + 1 := by omega
              go_wp2_with fail
              clear z0 z1 z2 z3 z4 z5 z6
              refine wp_region_ordN 13 [(0, true), (1, true), (5, true), (6, true), (10, true), (11, true), (2, false), (3, true), (4, true), (7, false), (8, true), (9, true), (12, false)] (fun X => ∀ j, X.cell? ⟨wr.heap.size, j, none⟩ = (#[I n0, I n1, I n2, I n3, I n4, I n5, I n6] : Array Value)[j]?) (by kernel_rfl) rfl rfl (by kernel_rfl) HA0.out.cell ?_
              iterate 6 (refine wpOrd_take ?_ (by rfl) ?_ ?_; rotate_left; (intro w hSw; (try dsimp only at hSw); go_simp; try with_reducible rfl); (try simp only [Act.put, List.setIfInBounds_toArray, List.set_cons_zero, List.set_cons_succ]))
              obtain ⟨V, hV⟩ : ∃ V, V = (wr.alloc (.cells #[I n0, I n1, I n2, I n3, I n4, I n5, I n6] 60)).drew := ⟨_, rfl⟩
              rw [← hV] at HP0 HA0 ⊢
              clear hV
              refine wpOrd_move (fun K hK => ?_)
              go_simp
              go_at_call 68
              refine (Hqn.out _ (HG5.out.below HP0.out.below)).mono ?_
              rintro e V4 ⟨rfl, D⟩
              replace HA0 := Lib.hid (HA0.out.kept D HA0.out.lt)
              replace HP0 := Lib.hid (HP0.out.then D)
              refine hK.out _ _ HA0.out.cell ?_
              clear hK K D
              (try simp only [Act.put, List.setIfInBounds_toArray, List.set_cons_zero, List.set_cons_succ])
              iterate 2 (refine wpOrd_take ?_ (by rfl) ?_ ?_; rotate_left; (intro w hSw; (try dsimp only at hSw); go_simp; try with_reducible rfl); (try simp only [Act.put, List.setIfInBounds_toArray, List.set_cons_zero, List.set_cons_succ]))
              refine wpOrd_move (fun K hK => ?_)
              go_simp
              go_at_call 46
              refine (H6.out _ (HG5.out.below HP0.out.below)).mono ?_
              rintro e V5 ⟨rfl, D⟩
              replace HA0 := Lib.hid (HA0.out.kept D HA0.out.lt)
              replace HP0 := Lib.hid (HP0.out.then D)
              refine hK.out _ _ HA0.out.cell ?_
              clear hK K D
              (try simp only [Act.put, List.setIfInBounds_toArray, List.set_cons_zero, List.set_cons_succ])
              iterate 2 (refine wpOrd_take ?_ (by rfl) ?_ ?_; rotate_left; (intro w hSw; (try dsimp only at hSw); go_simp; try with_reducible rfl); (try simp only [Act.put, List.setIfInBounds_toArray, List.set_cons_zero, List.set_cons_succ]))
              refine wpOrd_move (fun K hK => ?_)
              go_simp
              go_at_call 46
              refine (H5.out _ (HG5.out.below HP0.out.below)).mono ?_
              rintro e V6 ⟨rfl, D⟩
              replace HA0 := Lib.hid (HA0.out.kept D HA0.out.lt)
              replace HP0 := Lib.hid (HP0.out.then D)
              refine hK.out _ _ HA0.out.cell ?_
              clear hK K D
              (try simp only [Act.put, List.setIfInBounds_toArray, List.set_cons_zero, List.set_cons_succ])
              refine wpOrd_nil ?_
              have e1 : (⟨[32, 91].toArray⟩ ++ ⟨tq.toArray⟩ ++ ⟨[32, 61, 32].toArray⟩ ++ ⟨d6.toArray⟩ ++ ⟨[47].toArray⟩ ++ ⟨d5.toArray⟩ ++ ⟨[93].toArray⟩ : ByteArray) = ⟨([32, 91] ++ tq ++ [32, 61, 32] ++ d6 ++ [47] ++ d5 ++ [93]).toArray⟩ := by rw [ba_app, ba_app, ba_app, ba_app, ba_app, ba_app]
              have Hw := Lib.hid (writeC V6 W5.heap.size (T ++ hd ++ Tk) ([32, 91] ++ tq ++ [32, 61, 32] ++ d6 ++ [47] ++ d5 ++ [93]) HP0.out.bd (by simp only [List.length_append, List.length_cons, List.length_nil]; omega))
              unfold sv at Hw
              rw [← e1] at Hw
              clear e1 H5 H6 Hqn
              go_wp2_with (go_at_call 66; refine Hw.out.mono ?_; rintro e V7 ⟨rfl, D⟩; have HP7 := Lib.hid (HP0.out.wrote D); clear D)
              refine NoPanic.normal ?_
              go_wp2_with fail
              go_roundw
              case rel =>
                have := HP7.out
                rw [List.append_assoc, ← Hs.out] at this
                exact ⟨k + 1, by omega, by go_num, Lib.hid this⟩
              case measure => simp [intOf]; omega
            · obtain rfl : k = asks.length := by omega
              obtain ⟨T1, hT1⟩ : ∃ T1, T1 = T ++ hd ++ asksT asks asks.length := ⟨_, rfl⟩
              have hT1l : T1.length ≤ 20000000000 := by
                rw [hT1]
                simp only [List.length_append]
                omega
              rw [← hT1] at HPk Hline
              clear hT1 htl Hva HI2
              obtain ⟨m, hm⟩ : ∃ m, m = bf.length := ⟨_, rfl⟩
              rw [← hm] at HFi Hbc
              have c9 := HPk.out.cell 9
              obtain ⟨T2, hT2⟩ : ∃ T2, T2 = T1 ++ obsT obs := ⟨_, rfl⟩
              have hT2l : T2.length ≤ 20000000002 := by
                rw [hT2, List.length_append]
                have := obsT_len obs
                omega
              have cb := cell_below HPk.out.below (Nat.le_refl _) Hbc.out
              have hgk : w6.heap.size < wr.heap.size := HPk.out.qlt
              cases obs with
              | true =>
                have Hw := Lib.hid (writeC wr W5.heap.size T1 [32, 42] HPk.out.bd (by simp only [List.length_cons, List.length_nil]; omega))
                rw [show T1 ++ [32, 42] = T2 by rw [hT2]; rfl] at Hw
                unfold sv at Hw
                go_upto_region 20 with (go_at_call 66; refine Hw.out.mono ?_; rintro e V8 ⟨rfl, D⟩; have HP8 := Lib.hid (HPk.out.wrote D); clear D)
                have cb8 := cell_below HP8.out.below (Nat.le_refl _) Hbc.out
                clear c9 cb
                by_cases hbf : bf = []
                · have Hnl := Lib.hid (writeNlC V8 W5.heap.size T2 HP8.out.bd (by omega))
                  have hm0 : m = 0 := by rw [hm, hbf]; rfl
                  have Hline2 : Hid (linesT N F (i + 1) = T2 ++ [10]) := Lib.hid (by rw [Hline.out, hbf, hT2]; simp [bfT])
                  clear hm hbf hT2
                  subst hm0
                  go_wp2_with (go_at_call 70; refine Hnl.out.mono ?_; rintro e V9 ⟨rfl, D⟩; have HP9 := Lib.hid (HP8.out.wrote D); clear D)
                  go_roundw
                  case rel => exact ⟨i + 1, by omega, by go_num, by rw [Hline2.out]; exact Lib.hid HP9.out.bd, Lib.hid HP9.out.below⟩
                  case measure => simp [intOf]; omega
                · have hm1 : 0 < m := by rw [hm]; exact List.length_pos_iff.2 hbf
                  have hm1I : (0 : Int) < m := by omega
                  have hjl : (joinC 44 ((bf.map fun n : Nat => (n : Int)).map Lib.itoa)).length ≤ 21 * 10000 := by
                    have := joinC_len 44 20 ((bf.map fun n : Nat => (n : Int)).map Lib.itoa) (fun y hy => by
                      obtain ⟨n, hn, rfl⟩ := List.mem_map.1 hy
                      obtain ⟨u, hu, rfl⟩ := List.mem_map.1 hn
                      exact itoa_len _ (natI64 u (by have := hFn u hu; omega)))
                    simp only [List.length_map] at this
                    omega
                  have Hj := Lib.hid (joinIC (bf.map fun n : Nat => (n : Int)) (fun n hn => by
                      obtain ⟨u, hu, rfl⟩ := List.mem_map.1 hn
                      exact natI64 u (by have := hFn u hu; omega)) (by rw [List.length_map]; omega) 44 _ V8 (HG5.out.below HP8.out.below) (HFi.out.kept HP8.out.below (Nat.le_refl _)))
                  have Hline2 : Hid (linesT N F (i + 1) = T2 ++ ([32, 97, 102, 116, 101, 114, 32] ++ joinC 44 ((bf.map fun n : Nat => (n : Int)).map Lib.itoa)) ++ [10]) := Lib.hid (by rw [Hline.out, hT2]; unfold bfT; rw [if_neg hbf])
                  clear hm hbf hT2
                  generalize joinC 44 ((bf.map fun n : Nat => (n : Int)).map Lib.itoa) = tj at hjl Hj Hline2
                  have hl1 : ¬ 9223372036854775807 < 7 + tj.length := by omega
                  have e1 : Hid ((⟨[32, 97, 102, 116, 101, 114, 32].toArray⟩ ++ ⟨tj.toArray⟩ : ByteArray) = ⟨([32, 97, 102, 116, 101, 114, 32] ++ tj).toArray⟩) := Lib.hid (by rw [ba_app])
                  unfold sv at Hj
                  go_wp2_with (first
                    | (go_at_call 69; refine Hj.out.mono ?_; rintro e V9 ⟨rfl, D⟩; have HP9 := Lib.hid (HP8.out.then D); have Hw9 := Lib.hid (writeC V9 W5.heap.size T2 ([32, 97, 102, 116, 101, 114, 32] ++ tj) HP9.out.bd (by simp only [List.length_append, List.length_cons, List.length_nil]; omega)); unfold sv at Hw9; rw [← e1.out] at Hw9; clear D)
                    | (go_at_call 66; refine Hw9.out.mono ?_; rintro e V10 ⟨rfl, D⟩; have HP10 := Lib.hid (HP9.out.wrote D); have Hnl := Lib.hid (writeNlC V10 W5.heap.size _ HP10.out.bd (by simp only [List.length_append, List.length_cons, List.length_nil]; omega)); clear D)
                    | (go_at_call 70; refine Hnl.out.mono ?_; rintro e V11 ⟨rfl, D⟩; have HP11 := Lib.hid (HP10.out.wrote D); clear D))
                  go_roundw
                  case rel => exact ⟨i + 1, by omega, by go_num, by rw [Hline2.out]; exact Lib.hid HP11.out.bd, Lib.hid HP11.out.below⟩
                  case measure => simp [intOf]; omega
              | false =>
                have HP8 : Hid (PS W5 wr w6.heap.size #[I kind, I node, I arg, I m0, I m1, I m2, I m3, I m4, .slice aa asks.length ac, .bool false, .slice sa sl sc] T2) := Lib.hid (by rw [hT2]; simpa [obsT] using HPk.out)
                go_upto_region 20 with fail
                clear c9
                by_cases hbf : bf = []
                · have Hnl := Lib.hid (writeNlC wr W5.heap.size T2 HP8.out.bd (by omega))
                  have hm0 : m = 0 := by rw [hm, hbf]; rfl
                  have Hline2 : Hid (linesT N F (i + 1) = T2 ++ [10]) := Lib.hid (by rw [Hline.out, hbf, hT2]; simp [bfT])
                  clear hm hbf hT2
                  subst hm0
                  go_wp2_with (go_at_call 70; refine Hnl.out.mono ?_; rintro e V9 ⟨rfl, D⟩; have HP9 := Lib.hid (HP8.out.wrote D); clear D)
                  go_roundw
                  case rel => exact ⟨i + 1, by omega, by go_num, by rw [Hline2.out]; exact Lib.hid HP9.out.bd, Lib.hid HP9.out.below⟩
                  case measure => simp [intOf]; omega
                · have hm1 : 0 < m := by rw [hm]; exact List.length_pos_iff.2 hbf
                  have hm1I : (0 : Int) < m := by omega
                  have hjl : (joinC 44 ((bf.map fun n : Nat => (n : Int)).map Lib.itoa)).length ≤ 21 * 10000 := by
                    have := joinC_len 44 20 ((bf.map fun n : Nat => (n : Int)).map Lib.itoa) (fun y hy => by
                      obtain ⟨n, hn, rfl⟩ := List.mem_map.1 hy
                      obtain ⟨u, hu, rfl⟩ := List.mem_map.1 hn
                      exact itoa_len _ (natI64 u (by have := hFn u hu; omega)))
                    simp only [List.length_map] at this
                    omega
                  have Hj := Lib.hid (joinIC (bf.map fun n : Nat => (n : Int)) (fun n hn => by
                      obtain ⟨u, hu, rfl⟩ := List.mem_map.1 hn
                      exact natI64 u (by have := hFn u hu; omega)) (by rw [List.length_map]; omega) 44 _ wr (HG5.out.below HP8.out.below) (HFi.out.kept HP8.out.below (Nat.le_refl _)))
                  have Hline2 : Hid (linesT N F (i + 1) = T2 ++ ([32, 97, 102, 116, 101, 114, 32] ++ joinC 44 ((bf.map fun n : Nat => (n : Int)).map Lib.itoa)) ++ [10]) := Lib.hid (by rw [Hline.out, hT2]; unfold bfT; rw [if_neg hbf])
                  clear hm hbf hT2
                  generalize joinC 44 ((bf.map fun n : Nat => (n : Int)).map Lib.itoa) = tj at hjl Hj Hline2
                  have hl1 : ¬ 9223372036854775807 < 7 + tj.length := by omega
                  have e1 : Hid ((⟨[32, 97, 102, 116, 101, 114, 32].toArray⟩ ++ ⟨tj.toArray⟩ : ByteArray) = ⟨([32, 97, 102, 116, 101, 114, 32] ++ tj).toArray⟩) := Lib.hid (by rw [ba_app])
                  unfold sv at Hj
                  go_wp2_with (first
                    | (go_at_call 69; refine Hj.out.mono ?_; rintro e V9 ⟨rfl, D⟩; have HP9 := Lib.hid (HP8.out.then D); have Hw9 := Lib.hid (writeC V9 W5.heap.size T2 ([32, 97, 102, 116, 101, 114, 32] ++ tj) HP9.out.bd (by simp only [List.length_append, List.length_cons, List.length_nil]; omega)); unfold sv at Hw9; rw [← e1.out] at Hw9; clear D)
                    | (go_at_call 66; refine Hw9.out.mono ?_; rintro e V10 ⟨rfl, D⟩; have HP10 := Lib.hid (HP9.out.wrote D); have Hnl := Lib.hid (writeNlC V10 W5.heap.size _ HP10.out.bd (by simp only [List.length_append, List.length_cons, List.length_nil]; omega)); clear D)
                    | (go_at_call 70; refine Hnl.out.mono ?_; rintro e V11 ⟨rfl, D⟩; have HP11 := Lib.hid (HP10.out.wrote D); clear D))
                  go_roundw
                  case rel => exact ⟨i + 1, by omega, by go_num, by rw [Hline2.out]; exact Lib.hid HP11.out.bd, Lib.hid HP11.out.below⟩
                  case measure => simp [intOf]; omega
        · obtain rfl : i = N.length := by omega
          have Hs := Lib.hid (bstringC w6 W5.heap.size _ HBd.out)
          unfold sv at Hs
          go_wp2_with (go_at_call 71; refine Hs.out.mono ?_; rintro e V9 ⟨rfl, D⟩)
          go_ret
          exact ⟨by rw [Hst.out]; rfl, HB5.out.trans ((HB.out.trans D).mono hz5)⟩

end Go.Proofs.YtljmonfobefiiaaGreatDoor
