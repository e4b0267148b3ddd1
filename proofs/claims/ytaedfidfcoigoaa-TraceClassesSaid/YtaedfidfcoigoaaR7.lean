/- The reference's normal form of a run. (Printed by mkR7.py, then gen.py.) -/
import Derived.Test.YtaedfidfcoigoaaN8
namespace Go.Proofs.Ytaedfidfcoigoaa
open Go.RowKit

set_option maxHeartbeats 8000000 in
set_option maxRecDepth 100000 in
theorem refNormal (run : List Stp) (v : Value) (w : World) (hrun : StpSl w v run) (hn : run.length ≤ 100000) (hask : ∀ s ∈ run, s.asks.length ≤ 1000000) :
    Calls Try.prog 27 #[v] w fun e w' => ∃ u, e = .returned u ∧ StpSl w' u (normS run) ∧ Below w.heap.size w w' := by
  obtain ⟨ka, ca, rfl, hml⟩ := hrun.open
  have Hask := Lib.hid hask
  clear hask
  go_enter Try.func27, Try.ntmps27
  go_wp2_with fail
  refine (refLess run _ _ hrun hn).mono ?_
  rintro e w1 ⟨u, rfl, hmx, hB1⟩
  obtain ⟨gm, cm, rfl, hrow⟩ := hmx
  have Hrow := Lib.hid hrow
  have hr1 := hrun.kept hB1 (Nat.le_refl _)
  clear hrow hrun
  go_wp2_with fail
  go_loopw [4, 5] (fun vd vo wr => ∃ (done : List Nat) (xs : List Value), done.length ≤ run.length ∧ (∀ i ∈ done, i < run.length) ∧ wr.ownsRow w1.heap.size 3 1 vd done.length (iv (natI done)) ∧ wr.ownsRow w1.heap.size 55 11 vo done.length xs ∧ StpCells w1 (atI run done) xs ∧
      Disj vo vd ∧ Hid (normI run = normD run (run.length - done.length) done) ∧ Below w1.heap.size w1 wr) (fun vd _ _ => run.length - slLen vd)
  case atStart => exact ⟨[], [], by simp, by simp, World.ownsRow_nil _ _ _ _, World.ownsRow_nil _ _ _ _, rfl, .inl rfl, Lib.hid rfl, Below.refl _ _⟩
  case round =>
    obtain ⟨done, xs, hdl, hdr, hod, hoo, hcs, hdj, Hn, hB⟩ := hrel
    obtain ⟨vo, rfl⟩ : ∃ vo : Value, vo = u5 := ⟨_, rfl⟩
    obtain ⟨da0, dc0, rfl, hdm⟩ := (Flat.of_owns hod).open
    have Hdr := Lib.hid hdr
    have Hod := Lib.hid hod
    have Hoo := Lib.hid hoo
    have Hcs := Lib.hid hcs
    have Hdj := Lib.hid hdj
    clear hdr hod hoo hcs hdj
    by_cases hlt : done.length < run.length
    · obtain ⟨best, hbest, hbl, hbd⟩ := pickB_some run done (left_over _ _ hlt)
      have Hbest := Lib.hid hbest
      have Hbd := Lib.hid hbd
      clear hbest hbd
      go_wp2_with fail
      obtain ⟨wo, rfl⟩ : ∃ wo : World, wo = wr := ⟨_, rfl⟩
      go_loopw [6, 7] (fun p q w2 => ∃ m : Nat, m ≤ run.length ∧ q = .int .i64 m ∧ p = .int .i64 (pickI (pickB run done m)) ∧ Below wo.heap.size wo w2) (fun _ q _ => run.length - (intOf q).toNat)
      case atStart => exact ⟨0, by omega, rfl, rfl, Below.refl _ _⟩
      case round =>
        obtain ⟨m, hm, rfl, rfl, hB2⟩ := hrel
        obtain ⟨w2, rfl⟩ : ∃ w2 : World, w2 = wr := ⟨_, rfl⟩
        have hBw : Below w1.heap.size w1 w2 := hB.trans (hB2.mono hB.size)
        by_cases hlt2 : m < run.length
        · have hint : IntSl w2 (.slice da0 done.length dc0) (natI done) := by
            have := (Flat.of_owns Hod.out).kept hB2 (Nat.le_refl _)
            unfold IntSl
            simpa [natI] using this
          have chas : ∀ k : Nat, Calls Try.prog 49 #[.slice da0 done.length dc0, I k] w2 fun e w' => e = .returned (.bool (decide (k ∈ done))) ∧ w2 = w' := fun k => by
            have := has_any (natI done) k _ w2 hint
            have e : decide ((k : Int) ∈ natI done) = decide (k ∈ done) := by rw [decide_eq_decide]; exact mem_natI done k
            rwa [e] at this
          have Chas := Lib.hid chas
          clear chas hint
          go_wp2_with fail
          refine (Chas.out m).mono ?_
          rintro e w3 ⟨rfl, rfl⟩
          go_wp2_with fail
          go_loop [8, 9] (fun p q => ∃ k : Nat, k ≤ run.length ∧ q = .int .i64 k ∧ p = .bool (!decide (m ∈ done) && predsD run done m k)) (fun _ q => run.length - (intOf q).toNat)
          case atStart => exact ⟨0, by omega, rfl, by simp [predsD]⟩
          case round =>
            obtain ⟨k, hk, rfl, rfl⟩ := hrel
            by_cases hlt3 : k < run.length
            · obtain ⟨gi, ci, hc1, hc2⟩ := Hrow.out k hlt3
              have d1 := cell_below hBw (Nat.le_refl _) hc1
              have d2 := cell_below hBw (Nat.le_refl _) (hc2 m hlt2)
              have hsucc := predsD_succ run done m k
              clear hc1 hc2
              cases hl : lessB run k m with
              | false =>
                rw [hl] at d2 hsucc
                have Hsucc := Lib.hid hsucc
                clear hl hsucc
                go_wp2_with fail
                go_round
                case rel => exact ⟨k + 1, by omega, by go_num, by rw [Hsucc.out]; simp⟩
                case measure => simp [intOf]; omega
              | true =>
                rw [hl] at d2 hsucc
                have Hck := Lib.hid (Chas.out k)
                by_cases hkd : k ∈ done
                · have Hsucc := Lib.hid hsucc
                  have Hkd := Lib.hid hkd
                  clear hl hsucc hkd
                  go_wp2_with fail
                  refine Hck.out.mono ?_
                  rintro e w3 ⟨rfl, rfl⟩
                  rw [decide_eq_true Hkd.out]
                  go_wp2_with fail
                  go_round
                  case rel => exact ⟨k + 1, by omega, by go_num, by rw [Hsucc.out]; simp [Hkd.out]⟩
                  case measure => simp [intOf]; omega
                · have Hsucc := Lib.hid hsucc
                  have Hkd := Lib.hid hkd
                  clear hl hsucc hkd
                  go_wp2_with fail
                  refine Hck.out.mono ?_
                  rintro e w3 ⟨rfl, rfl⟩
                  rw [decide_eq_false Hkd.out]
                  go_wp2_with fail
                  go_round
                  case rel => exact ⟨k + 1, by omega, by go_num, by rw [Hsucc.out]; simp [Hkd.out]⟩
                  case measure => simp [intOf]; omega
            · have hfe : (!decide (m ∈ done) && predsD run done m k) = freeB run done m := by rw [show k = run.length by omega]; rfl
              rw [hfe]
              clear hfe Chas
              cases hfr : freeB run done m with
              | false =>
                have hpk := pickB_no run done m (.inl hfr)
                have Hpk := Lib.hid hpk
                clear hfr hpk
                go_wp2_with fail
                refine wp_region_ordN 17 [(0, true), (1, true), (2, true), (3, true), (4, true), (5, true), (6, true), (7, true), (8, true), (9, true), (10, true), (11, true), (12, true), (13, true), (14, true), (15, true), (16, true)] (fun _ => True) (by kernel_rfl) rfl rfl (by kernel_rfl) trivial ?_
                iterate 17 (first | (refine wpOrd_take ?_ (by rfl) ?_ ?_; rotate_left; (intro w hSw; (try dsimp only at hSw); go_simp; try with_reducible rfl); (try simp only [Act.put, List.setIfInBounds_toArray, List.set_cons_zero, List.set_cons_succ])) | (refine wpOrd_leave (by rfl) ?_; (try simp only [Act.put, List.setIfInBounds_toArray, List.set_cons_zero, List.set_cons_succ])))
                refine wpOrd_nil ?_
                go_wp2_with fail
                refine NoPanic.normal ?_
                go_wp2_with fail
                go_roundw
                case rel => exact ⟨m + 1, by omega, by go_num, by rw [Hpk.out], hB2.drew⟩
                case measure => simp [intOf]; omega
              | true =>
                cases hpm : pickB run done m with
                | none =>
                  have hpk := pickB_yes run done m hfr (by rw [hpm]; rfl)
                  have Hpk := Lib.hid hpk
                  have hpi : pickI (none : Option Nat) = -1 := rfl
                  rw [hpi]
                  clear hfr hpk hpm hpi
                  go_wp2_with fail
                  refine wp_region_ordN 17 [(0, true), (1, true), (2, true), (3, true), (4, true), (5, true), (6, true), (7, true), (8, true), (9, true), (10, true), (11, true), (12, true), (13, true), (14, true), (15, true), (16, true)] (fun _ => True) (by kernel_rfl) rfl rfl (by kernel_rfl) trivial ?_
                  iterate 17 (first | (refine wpOrd_take ?_ (by rfl) ?_ ?_; rotate_left; (intro w hSw; (try dsimp only at hSw); go_simp; try with_reducible rfl); (try simp only [Act.put, List.setIfInBounds_toArray, List.set_cons_zero, List.set_cons_succ])) | (refine wpOrd_leave (by rfl) ?_; (try simp only [Act.put, List.setIfInBounds_toArray, List.set_cons_zero, List.set_cons_succ])))
                  refine wpOrd_nil ?_
                  go_wp2_with fail
                  refine NoPanic.normal ?_
                  go_wp2_with fail
                  go_roundw
                  case rel => exact ⟨m + 1, by omega, by go_num, by rw [Hpk.out]; rfl, hB2.drew⟩
                  case measure => simp [intOf]; omega
                | some j =>
                  have hjm := (pickB_lt run done m j hpm).1
                  have hj0 : decide ((j : Int) < 0) = false := by simp
                  have hlj : j < run.length := by omega
                  obtain ⟨b, o, va, vs, rfl, hva, hvs, x0, x1, x2, x3, x4, x5, x6, x7, x8, x9, x10⟩ := (hr1.kept hBw (Nat.le_refl _)).at (i := m) (s := run[m]) (by simp [hlt2])
                  obtain ⟨b', o', ua, us, hab, hua, hus, y0, y1, y2, y3, y4, y5, y6, y7, y8, y9, y10⟩ := (hr1.kept hBw (Nat.le_refl _)).at (i := j) (s := run[j]) (by simp [hlj])
                  simp at hab
                  obtain ⟨rfl, rfl⟩ := hab
                  obtain ⟨qa, da, rfl, _⟩ := hva.open
                  obtain ⟨qs, ds, rfl, _⟩ := hvs.open
                  obtain ⟨ra, ea, rfl, _⟩ := hua.open
                  obtain ⟨rs, es, rfl, _⟩ := hus.open
                  have hcmp := compareStep run[m] run[j] (run[m].val (.slice qa run[m].asks.length da) (.slice qs run[m].sent.length ds)) (run[j].val (.slice ra run[j].asks.length ea) (.slice rs run[j].sent.length es)) w2.drew
                    ⟨_, _, rfl, hva.kept (Below.refl _ _).drew (Nat.le_refl _), hvs.kept (Below.refl _ _).drew (Nat.le_refl _)⟩ ⟨_, _, rfl, hua.kept (Below.refl _ _).drew (Nat.le_refl _), hus.kept (Below.refl _ _).drew (Nat.le_refl _)⟩ (Hask.out _ (List.getElem_mem hlt2)) (Hask.out _ (List.getElem_mem hlj))
                  simp only [Stp.val, Stp.row] at hcmp
                  have Hcmp := Lib.hid hcmp
                  clear hcmp hva hvs hua hus
                  have hpi : pickI (some j) = (j : Int) := rfl
                  rw [hpi]
                  by_cases hlx : lexL run[m].key run[j].key < 0
                  · have hpk := pickB_yes run done m hfr (by rw [hpm]; simp [betterB, keyAt_eq hlt2, keyAt_eq hlj, hlx])
                    have Hpk := Lib.hid hpk
                    clear hfr hpk hpm hpi
                    go_wp2_with fail
                    refine wp_region_ordN 13 [(0, true), (1, true), (2, true), (3, true), (4, true), (5, true), (6, true), (7, true), (8, true), (9, true), (10, true), (11, true), (12, true)] (fun w' => w'.cell? ⟨b, o + m * 11, none⟩ = some (I run[m].ev.kind) ∧ w'.cell? ⟨b, o + m * 11 + 1, none⟩ = some (I run[m].ev.node) ∧ w'.cell? ⟨b, o + m * 11 + 2, none⟩ = some (I run[m].ev.arg) ∧ w'.cell? ⟨b, o + m * 11 + 3, none⟩ = some (I run[m].ev.msg.node) ∧ w'.cell? ⟨b, o + m * 11 + 4, none⟩ = some (I run[m].ev.msg.handler) ∧ w'.cell? ⟨b, o + m * 11 + 5, none⟩ = some (I run[m].ev.msg.count) ∧ w'.cell? ⟨b, o + m * 11 + 6, none⟩ = some (I run[m].ev.msg.index) ∧ w'.cell? ⟨b, o + m * 11 + 7, none⟩ = some (I run[m].ev.msg.copy) ∧ w'.cell? ⟨b, o + m * 11 + 8, none⟩ = some (.slice qa run[m].asks.length da) ∧ w'.cell? ⟨b, o + m * 11 + 9, none⟩ = some (.bool run[m].obs) ∧ w'.cell? ⟨b, o + m * 11 + 10, none⟩ = some (.slice qs run[m].sent.length ds) ∧ w'.cell? ⟨b, o + j * 11, none⟩ = some (I run[j].ev.kind) ∧ w'.cell? ⟨b, o + j * 11 + 1, none⟩ = some (I run[j].ev.node) ∧ w'.cell? ⟨b, o + j * 11 + 2, none⟩ = some (I run[j].ev.arg) ∧ w'.cell? ⟨b, o + j * 11 + 3, none⟩ = some (I run[j].ev.msg.node) ∧ w'.cell? ⟨b, o + j * 11 + 4, none⟩ = some (I run[j].ev.msg.handler) ∧ w'.cell? ⟨b, o + j * 11 + 5, none⟩ = some (I run[j].ev.msg.count) ∧ w'.cell? ⟨b, o + j * 11 + 6, none⟩ = some (I run[j].ev.msg.index) ∧ w'.cell? ⟨b, o + j * 11 + 7, none⟩ = some (I run[j].ev.msg.copy) ∧ w'.cell? ⟨b, o + j * 11 + 8, none⟩ = some (.slice ra run[j].asks.length ea) ∧ w'.cell? ⟨b, o + j * 11 + 9, none⟩ = some (.bool run[j].obs) ∧ w'.cell? ⟨b, o + j * 11 + 10, none⟩ = some (.slice rs run[j].sent.length es)) (by kernel_rfl) rfl rfl (by kernel_rfl) ⟨x0, x1, x2, x3, x4, x5, x6, x7, x8, x9, x10, y0, y1, y2, y3, y4, y5, y6, y7, y8, y9, y10⟩ ?_
                    iterate 13 (first | (refine wpOrd_take ?_ (by rfl) ?_ ?_; rotate_left; (intro w hSw; (try dsimp only at hSw); go_simp; try with_reducible rfl); (try simp only [Act.put, List.setIfInBounds_toArray, List.set_cons_zero, List.set_cons_succ])) | (refine wpOrd_leave (by rfl) ?_; (try simp only [Act.put, List.setIfInBounds_toArray, List.set_cons_zero, List.set_cons_succ])))
                    refine wpOrd_nil ?_
                    go_wp2_with fail
                    refine Hcmp.out.mono ?_
                    rintro e w5 ⟨rfl, hB5⟩
                    go_wp2_with fail
                    refine NoPanic.normal ?_
                    go_wp2_with fail
                    go_roundw
                    case rel => exact ⟨m + 1, by omega, by go_num, by rw [Hpk.out]; rfl, hB2.drew.trans (hB5.mono hB2.size)⟩
                    case measure => simp [intOf]; omega
                  · have hpk := pickB_no run done m (.inr (by rw [hpm]; simp [betterB, keyAt_eq hlt2, keyAt_eq hlj, hlx]))
                    rw [hpm] at hpk
                    have Hpk := Lib.hid hpk
                    clear hfr hpk hpm hpi
                    go_wp2_with fail
                    refine wp_region_ordN 13 [(0, true), (1, true), (2, true), (3, true), (4, true), (5, true), (6, true), (7, true), (8, true), (9, true), (10, true), (11, true), (12, true)] (fun w' => w'.cell? ⟨b, o + m * 11, none⟩ = some (I run[m].ev.kind) ∧ w'.cell? ⟨b, o + m * 11 + 1, none⟩ = some (I run[m].ev.node) ∧ w'.cell? ⟨b, o + m * 11 + 2, none⟩ = some (I run[m].ev.arg) ∧ w'.cell? ⟨b, o + m * 11 + 3, none⟩ = some (I run[m].ev.msg.node) ∧ w'.cell? ⟨b, o + m * 11 + 4, none⟩ = some (I run[m].ev.msg.handler) ∧ w'.cell? ⟨b, o + m * 11 + 5, none⟩ = some (I run[m].ev.msg.count) ∧ w'.cell? ⟨b, o + m * 11 + 6, none⟩ = some (I run[m].ev.msg.index) ∧ w'.cell? ⟨b, o + m * 11 + 7, none⟩ = some (I run[m].ev.msg.copy) ∧ w'.cell? ⟨b, o + m * 11 + 8, none⟩ = some (.slice qa run[m].asks.length da) ∧ w'.cell? ⟨b, o + m * 11 + 9, none⟩ = some (.bool run[m].obs) ∧ w'.cell? ⟨b, o + m * 11 + 10, none⟩ = some (.slice qs run[m].sent.length ds) ∧ w'.cell? ⟨b, o + j * 11, none⟩ = some (I run[j].ev.kind) ∧ w'.cell? ⟨b, o + j * 11 + 1, none⟩ = some (I run[j].ev.node) ∧ w'.cell? ⟨b, o + j * 11 + 2, none⟩ = some (I run[j].ev.arg) ∧ w'.cell? ⟨b, o + j * 11 + 3, none⟩ = some (I run[j].ev.msg.node) ∧ w'.cell? ⟨b, o + j * 11 + 4, none⟩ = some (I run[j].ev.msg.handler) ∧ w'.cell? ⟨b, o + j * 11 + 5, none⟩ = some (I run[j].ev.msg.count) ∧ w'.cell? ⟨b, o + j * 11 + 6, none⟩ = some (I run[j].ev.msg.index) ∧ w'.cell? ⟨b, o + j * 11 + 7, none⟩ = some (I run[j].ev.msg.copy) ∧ w'.cell? ⟨b, o + j * 11 + 8, none⟩ = some (.slice ra run[j].asks.length ea) ∧ w'.cell? ⟨b, o + j * 11 + 9, none⟩ = some (.bool run[j].obs) ∧ w'.cell? ⟨b, o + j * 11 + 10, none⟩ = some (.slice rs run[j].sent.length es)) (by kernel_rfl) rfl rfl (by kernel_rfl) ⟨x0, x1, x2, x3, x4, x5, x6, x7, x8, x9, x10, y0, y1, y2, y3, y4, y5, y6, y7, y8, y9, y10⟩ ?_
                    iterate 13 (first | (refine wpOrd_take ?_ (by rfl) ?_ ?_; rotate_left; (intro w hSw; (try dsimp only at hSw); go_simp; try with_reducible rfl); (try simp only [Act.put, List.setIfInBounds_toArray, List.set_cons_zero, List.set_cons_succ])) | (refine wpOrd_leave (by rfl) ?_; (try simp only [Act.put, List.setIfInBounds_toArray, List.set_cons_zero, List.set_cons_succ])))
                    refine wpOrd_nil ?_
                    go_wp2_with fail
                    refine Hcmp.out.mono ?_
                    rintro e w5 ⟨rfl, hB5⟩
                    go_wp2_with fail
                    refine NoPanic.normal ?_
                    go_wp2_with fail
                    go_roundw
                    case rel => exact ⟨m + 1, by omega, by go_num, by rw [Hpk.out]; rfl, hB2.drew.trans (hB5.mono hB2.size)⟩
                    case measure => simp [intOf]; omega
        · have hmn : m = run.length := by omega
          have hpb : pickI (pickB run done m) = (best : Int) := by rw [hmn, Hbest.out]; rfl
          rw [hpb]
          clear hpb
          obtain ⟨b, o, va, vs, rfl, hva, hvs, x0, x1, x2, x3, x4, x5, x6, x7, x8, x9, x10⟩ := hr1.at (i := best) (s := run[best]) (by simp [hbl])
          obtain ⟨qa, da, rfl, _⟩ := hva.open
          obtain ⟨qs, ds, rfl, _⟩ := hvs.open
          have hod2 := owns_below Hod.out hB2
          have hoo2 := owns_below Hoo.out hB2
          have hwz := hBw.size
          have Hva := Lib.hid hva
          have Hvs := Lib.hid hvs
          have HX := Lib.hid (show w1.cell? ⟨b, o + best * 11, none⟩ = some (I run[best].ev.kind) ∧ w1.cell? ⟨b, o + best * 11 + 1, none⟩ = some (I run[best].ev.node) ∧ w1.cell? ⟨b, o + best * 11 + 2, none⟩ = some (I run[best].ev.arg) ∧ w1.cell? ⟨b, o + best * 11 + 3, none⟩ = some (I run[best].ev.msg.node) ∧ w1.cell? ⟨b, o + best * 11 + 4, none⟩ = some (I run[best].ev.msg.handler) ∧ w1.cell? ⟨b, o + best * 11 + 5, none⟩ = some (I run[best].ev.msg.count) ∧ w1.cell? ⟨b, o + best * 11 + 6, none⟩ = some (I run[best].ev.msg.index) ∧ w1.cell? ⟨b, o + best * 11 + 7, none⟩ = some (I run[best].ev.msg.copy) ∧ w1.cell? ⟨b, o + best * 11 + 8, none⟩ = some (.slice qa run[best].asks.length da) ∧ w1.cell? ⟨b, o + best * 11 + 9, none⟩ = some (.bool run[best].obs) ∧ w1.cell? ⟨b, o + best * 11 + 10, none⟩ = some (.slice qs run[best].sent.length ds) from ⟨x0, x1, x2, x3, x4, x5, x6, x7, x8, x9, x10⟩)
          clear hva hvs
          clear x0 x1 x2 x3 x4 x5 x6 x7 x8 x9 x10
          go_upto_region 18 with (at_builtin; go_must (refine wpList_appB rfl _ _ 22 rfl 3 _ 1 8 Try.underlying22 info3 rfl (by omega) (by omega) w1.heap.size _ _ _ rfl (hod2.alloc _) w2.heap.size 1 1 #[I best] 3 rfl (heap_alloc_new _ _) rfl rfl (by omega) (by omega) (by rw [World.size_alloc]; omega) ?_); intro g cap w5 hg1 hg2 hg3 ho5 hgr5 hB5)
          have hoo5 := (hoo2.alloc (.cells #[I best] 3)).kept hgr5 Hdj.out
          have hdj5 : Disj vo (.slice (some ⟨g, 0, none⟩) (done.length + 1) cap) := by
            rcases Hdj.out with h | h
            · exact .inl h
            · refine .inr fun e => ?_
              have e' : vo.ownBlock = some g := e
              rcases hg3 with h3 | h3
              · exact h (e'.trans h3.symm)
              · have := (hoo2.lt g e').2
                rw [World.size_alloc] at h3
                omega
          have hB15 : Below w1.heap.size w1 w5 := (hBw.alloc hwz _).trans hB5
          have hw5 := hB15.size
          have Ho5 := Lib.hid ho5
          have Hoo5 := Lib.hid hoo5
          have Hdj5 := Lib.hid hdj5
          have HB15 := Lib.hid hB15
          obtain ⟨x0, x1, x2, x3, x4, x5, x6, x7, x8, x9, x10⟩ := HX.out
          replace x0 := cell_below hB15 (Nat.le_refl _) x0
          replace x1 := cell_below hB15 (Nat.le_refl _) x1
          replace x2 := cell_below hB15 (Nat.le_refl _) x2
          replace x3 := cell_below hB15 (Nat.le_refl _) x3
          replace x4 := cell_below hB15 (Nat.le_refl _) x4
          replace x5 := cell_below hB15 (Nat.le_refl _) x5
          replace x6 := cell_below hB15 (Nat.le_refl _) x6
          replace x7 := cell_below hB15 (Nat.le_refl _) x7
          replace x8 := cell_below hB15 (Nat.le_refl _) x8
          replace x9 := cell_below hB15 (Nat.le_refl _) x9
          replace x10 := cell_below hB15 (Nat.le_refl _) x10
          clear ho5 hoo5 hdj5 hgr5 hB5 hg3 hod2 hoo2
          go_wp2_with (at_builtin; go_must (refine wpList_appB rfl _ _ 23 rfl 55 _ 11 120 Try.underlying23 info55 rfl (by omega) (by omega) w1.heap.size _ _ xs rfl (Hoo5.out.alloc _) w5.heap.size 1 1 #[I run[best].ev.kind, I run[best].ev.node, I run[best].ev.arg, I run[best].ev.msg.node, I run[best].ev.msg.handler, I run[best].ev.msg.count, I run[best].ev.msg.index, I run[best].ev.msg.copy, .slice qa run[best].asks.length da, .bool run[best].obs, .slice qs run[best].sent.length ds] 55 rfl (heap_alloc_new _ _) rfl rfl (by omega) (by omega) (by rw [World.size_alloc]; omega) ?_); intro g6 cap6 w6 hg61 hg62 hg63 ho6 hgr6 hB6)
          have hod6 := (Ho5.out.alloc (.cells #[I run[best].ev.kind, I run[best].ev.node, I run[best].ev.arg, I run[best].ev.msg.node, I run[best].ev.msg.handler, I run[best].ev.msg.count, I run[best].ev.msg.index, I run[best].ev.msg.copy, .slice qa run[best].asks.length da, .bool run[best].obs, .slice qs run[best].sent.length ds] 55)).kept hgr6 (.inr fun e => by
            rcases Hdj5.out with h | h
            · have := e.trans h
              cases this
            · exact h e.symm)
          have hdj6 : Disj (.slice (some ⟨g6, 0, none⟩) (done.length + 1) cap6) (.slice (some ⟨g, 0, none⟩) (done.length + 1) cap) := by
            refine .inr fun e => ?_
            have e' : g6 = g := by simpa [Value.ownBlock] using e
            rcases hg63 with h3 | h3
            · rcases Hdj5.out with h | h
              · have := h.symm.trans h3
                cases this
              · exact h (h3.trans (by rw [e']; rfl))
            · rw [World.size_alloc] at h3
              omega
          have hB16 : Below w1.heap.size w1 w6 := (HB15.out.alloc hw5 _).trans hB6
          have hln : (done ++ [best]).length = done.length + 1 := by simp
          have Hln := Lib.hid hln
          have Hod6 := Lib.hid hod6
          have Ho6 := Lib.hid ho6
          have Hdj6 := Lib.hid hdj6
          have HB16 := Lib.hid hB16
          clear hln hod6 ho6 hdj6 hB16 hgr6 hB6 hg63
          go_roundw
          case rel =>
            refine ⟨done ++ [best], _, by rw [Hln.out]; omega, ?_, ?_, by rw [Hln.out]; exact Ho6.out, ?_, Hdj6.out, ?_, HB16.out⟩
            · intro i hi
              rcases List.mem_append.1 hi with h | h
              · exact Hdr.out i h
              · rw [List.mem_singleton.1 h]
                exact hbl
            · rw [Hln.out]
              have e : iv (natI (done ++ [best])) = iv (natI done) ++ (#[I best] : Array Value).toList := by simp [iv, natI]
              rw [e]
              exact Hod6.out
            · rw [atI_snoc run done best hbl]
              exact Hcs.out.append (StpCells.one Hva.out Hvs.out)
            · refine Lib.hid ?_
              rw [Hn.out, Hln.out, show run.length - done.length = (run.length - (done.length + 1)) + 1 by omega]
              exact normD_step run done _ best Hbest.out
          case measure => simp [slLen]; omega
    · have hdn : done.length = run.length := by omega
      have hnorm : normI run = done := by rw [Hn.out, hdn, Nat.sub_self]; rfl
      have Hnorm := Lib.hid hnorm
      clear hnorm
      go_wp2_with fail
      go_ret
      refine ⟨_, rfl, ⟨xs, ?_, ?_⟩, hB1.trans (hB.mono hB1.size)⟩
      · rw [normS, Hnorm.out]
        exact Hcs.out.kept hB (Nat.le_refl _)
      · rw [normS, Hnorm.out, atI_length _ _ Hdr.out]
        exact Flat.of_owns Hoo.out

end Go.Proofs.Ytaedfidfcoigoaa
