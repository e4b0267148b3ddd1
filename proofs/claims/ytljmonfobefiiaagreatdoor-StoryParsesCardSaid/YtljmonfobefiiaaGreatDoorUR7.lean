import Derived.Test.YtljmonfobefiiaaGreatDoorUN8
import Derived.Test.YtljmonfobefiiaaGreatDoorUS45
/- The reference's normal form of a run. (Printed by mkR7.py, then gen.py.) -/
namespace Go.Proofs.YtljmonfobefiiaaGreatDoor
open Go.RowKit

set_option maxHeartbeats 8000000 in
set_option maxRecDepth 100000 in
theorem refNormal (run : List Stp) (v : Value) (w : World) (hrun : StpSl w v run) (hn : run.length ≤ 100000) (hask : ∀ s ∈ run, s.asks.length ≤ 1000000) :
    Calls Tryz.prog 14 #[v] w fun e w' => ∃ u, e = .returned u ∧ StpSl w' u (normS run) ∧ Below w.heap.size w w' := by
  obtain ⟨ka, ca, rfl, hml⟩ := hrun.open
  have Hask := Lib.hid hask
  clear hask
  go_enter Tryz.func14, Tryz.ntmps14
  go_wp2_with fail
  refine (refLess run _ _ hrun hn).mono ?_
  rintro e w1 ⟨u, rfl, hmx, hB1⟩
  obtain ⟨gm, cm, rfl, hrow⟩ := hmx
  have Hrow := Lib.hid hrow
  have hr1 := hrun.kept hB1 (Nat.le_refl _)
  clear hrow hrun
  go_wp2_with fail
  go_loopw [4, 5] (fun vd vo wr => ∃ (done : List Nat) (xs : List Value), done.length ≤ run.length ∧ (∀ i ∈ done, i < run.length) ∧ wr.ownsRow w1.heap.size 3 1 vd done.length (iv (natI done)) ∧ wr.ownsRow w1.heap.size 53 11 vo done.length xs ∧ StpCells w1 (atI run done) xs ∧
      Disj vo vd ∧ Hid (normI run = normD run (run.length - done.length) done) ∧ Below w1.heap.size w1 wr) (fun vd _ _ => run.length - slLen vd)
  case atStart => exact ⟨[], [], by simp, by simp, World.ownsRow_nil _ _ _ _, World.ownsRow_nil _ _ _ _, rfl, .inl rfl, Lib.hid rfl, Below.refl _ _⟩
  case round =>
    obtain ⟨done, xs, hdl, hdr, hod, hoo, hcs, hdj, Hn, hB⟩ := hrel
    obtain ⟨vo, rfl⟩ : ∃ vo : Value, vo = u5 := ⟨_, rfl⟩
    obtain ⟨da0, dc0, rfl, hdm⟩ := (Flat.of_owns hod).open
    have Hdr := Lib.hid hdr
    have Hod := Lib.hid hod
    have Hoo := Lib.hid hoo
    have Hcs := Lib.hid hcs
    have Hdj := Lib.hid hdj
    clear hdr hod hoo hcs hdj
    by_cases hlt : done.length < run.length
    · obtain ⟨best, hbest, hbl, hbd⟩ := pickB_some run done (left_over _ _ hlt)
      have Hbest := Lib.hid hbest
      have Hbd := Lib.hid hbd
      clear hbest hbd
      go_wp2_with fail
      obtain ⟨wo, rfl⟩ : ∃ wo : World, wo = wr := ⟨_, rfl⟩
      go_loopw [6, 7] (fun p q w2 => ∃ m : Nat, m ≤ run.length ∧ q = .int .i64 m ∧ p = .int .i64 (pickI (pickB run done m)) ∧ Below wo.heap.size wo w2) (fun _ q _ => run.length - (intOf q).toNat)
      case atStart => exact ⟨0, by omega, rfl, rfl, Below.refl _ _⟩
      case round =>
        obtain ⟨m, hm, rfl, rfl, hB2⟩ := hrel
        obtain ⟨w2, rfl⟩ : ∃ w2 : World, w2 = wr := ⟨_, rfl⟩
        have hBw : Below w1.heap.size w1 w2 := hB.trans (hB2.mono hB.size)
        by_cases hlt2 : m < run.length
        · have hint : IntSl w2 (.slice da0 done.length dc0) (natI done) := by
            have := (Flat.of_owns Hod.out).kept hB2 (Nat.le_refl _)
            unfold IntSl
            simpa [natI] using this
          have chas : ∀ k : Nat, Calls Tryz.prog 32 #[.slice da0 done.length dc0, I k] w2 fun e w' => e = .returned (.bool (decide (k ∈ done))) ∧ w2 = w' := fun k => by
            have := has_any (natI done) k _ w2 hint
            have e : decide ((k : Int) ∈ natI done) = decide (k ∈ done) := by rw [decide_eq_decide]; exact mem_natI done k
            rwa [e] at this
          have Chas := Lib.hid chas
          clear chas hint
          go_wp2_with fail
          refine (Chas.out m).mono ?_
          rintro e w3 ⟨rfl, rfl⟩
          go_wp2_with fail
          go_loop [8, 9] (fun p q => ∃ k : Nat, k ≤ run.length ∧ q = .int .i64 k ∧ p = .bool (!decide (m ∈ done) && predsD run done m k)) (fun _ q => run.length - (intOf q).toNat)
          case atStart => exact ⟨0, by omega, rfl, by simp [predsD]⟩
          case round =>
            obtain ⟨k, hk, rfl, rfl⟩ := hrel
            by_cases hlt3 : k < run.length
            · obtain ⟨gi, ci, hc1, hc2⟩ := Hrow.out k hlt3
              have d1 := cell_below hBw (Nat.le_refl _) hc1
              have d2 := cell_below hBw (Nat.le_refl _) (hc2 m hlt2)
              have hsucc := predsD_succ run done m k
              clear hc1 hc2
              cases hl : lessB run k m with
              | false =>
                rw [hl] at d2 hsucc
                have Hsucc := Lib.hid hsucc
                clear hl hsucc
                go_wp2_with fail
                go_round
                case rel => exact ⟨k + 1, by omega, by go_num, by rw [Hsucc.out]; simp⟩
                case measure => simp [intOf]; omega
              | true =>
                rw [hl] at d2 hsucc
                have Hck := Lib.hid (Chas.out k)
                by_cases hkd : k ∈ done
                · have Hsucc := Lib.hid hsucc
                  have Hkd := Lib.hid hkd
                  clear hl hsucc hkd
                  go_wp2_with fail
                  refine Hck.out.mono ?_
                  rintro e w3 ⟨rfl, rfl⟩
                  rw [decide_eq_true Hkd.out]
                  go_wp2_with fail
                  go_round
                  case rel => exact ⟨k + 1, by omega, by go_num, by rw [Hsucc.out]; simp [Hkd.out]⟩
                  case measure => simp [intOf]; omega
                · have Hsucc := Lib.hid hsucc
                  have Hkd := Lib.hid hkd
                  clear hl hsucc hkd
                  go_wp2_with fail
                  refine Hck.out.mono ?_
                  rintro e w3 ⟨rfl, rfl⟩
                  rw [decide_eq_false Hkd.out]
                  go_wp2_with fail
                  go_round
                  case rel => exact ⟨k + 1, by omega, by go_num, by rw [Hsucc.out]; simp [Hkd.out]⟩
                  case measure => simp [intOf]; omega
            · have hfe : (!decide (m ∈ done) && predsD run done m k) = freeB run done m := by rw [show k = run.length by omega]; rfl
              rw [hfe]
              clear hfe Chas
              cases hfr : freeB run done m with
              | false =>
                have hpk := pickB_no run done m (.inl hfr)
                have Hpk := Lib.hid hpk
                clear hfr hpk
                go_wp2_with fail
                refine wp_region_ordN 17 [(0, true), (1, true), (2, true), (3, true), (4, true), (5, true), (6, true), (7, true), (8, true), (9, true), (10, true), (11, true), (12, true), (13, true), (14, true), (15, true), (16, true)] (fun _ => True) (by kernel_rfl) rfl rfl (by kernel_rfl) trivial ?_
                iterate 17 (first | (refine wpOrd_take ?_ (by rfl) ?_ ?_; rotate_left; (intro w hSw; (try dsimp only at hSw); go_simp; try with_reducible rfl); (try simp only [Act.put, List.setIfInBounds_toArray, List.set_cons_zero, List.set_cons_succ])) | (refine wpOrd_leave (by rfl) ?_; (try simp only [Act.put, List.setIfInBounds_toArray, List.set_cons_zero, List.set_cons_succ])))
                refine wpOrd_nil ?_
                go_wp2_with fail
                refine NoPanic.normal ?_
                go_wp2_with fail
                go_roundw
                case rel => exact ⟨m + 1, by omega, by go_num, by rw [Hpk.out], hB2.drew⟩
                case measure => simp [intOf]; omega
              | true =>
                cases hpm : pickB run done m with
                | none =>
                  have hpk := pickB_yes run done m hfr (by rw [hpm]; rfl)
                  have Hpk := Lib.hid hpk
                  have hpi : pickI (none : Option Nat) = -1 := rfl
                  rw [hpi]
                  clear hfr hpk hpm hpi
                  go_wp2_with fail
                  refine wp_region_ordN 17 [(0, true), (1, true), (2, true), (3, true), (4, true), (5, true), (6, true), (7, true), (8, true), (9, true), (10, true), (11, true), (12, true), (13, true), (14, true), (15, true), (16, true)] (fun _ => True) (by kernel_rfl) rfl rfl (by kernel_rfl) trivial ?_
                  iterate 17 (first | (refine wpOrd_take ?_ (by rfl) ?_ ?_; rotate_left; (intro w hSw; (try dsimp only at hSw); go_simp; try with_reducible rfl); (try simp only [Act.put, List.setIfInBounds_toArray, List.set_cons_zero, List.set_cons_succ])) | (refine wpOrd_leave (by rfl) ?_; (try simp only [Act.put, List.setIfInBounds_toArray, List.set_cons_zero, List.set_cons_succ])))
                  refine wpOrd_nil ?_
                  go_wp2_with fail
                  refine NoPanic.normal ?_
                  go_wp2_with fail
                  go_roundw
                  case rel => exact ⟨m + 1, by omega, by go_num, by rw [Hpk.out]; rfl, hB2.drew⟩
                  case measure => simp [intOf]; omega
                | some j =>
                  have hjm := (pickB_lt run done m j hpm).1
                  have hj0 : decide ((j : Int) < 0) = false := by simp
                  have hlj : j < run.length := by omega
                  obtain ⟨b, o, va, vs, rfl, hva, hvs, x0, x1, x2, x3, x4, x5, x6, x7, x8, x9, x10⟩ := (hr1.kept hBw (Nat.le_refl _)).at (i := m) (s := run[m]) (by simp [hlt2])
                  obtain ⟨b', o', ua, us, hab, hua, hus, y0, y1, y2, y3, y4, y5, y6, y7, y8, y9, y10⟩ := (hr1.kept hBw (Nat.le_refl _)).at (i := j) (s := run[j]) (by simp [hlj])
                  simp at hab
                  obtain ⟨rfl, rfl⟩ := hab
                  obtain ⟨qa, da, rfl, _⟩ := hva.open
                  obtain ⟨qs, ds, rfl, _⟩ := hvs.open
                  obtain ⟨ra, ea, rfl, _⟩ := hua.open
                  obtain ⟨rs, es, rfl, _⟩ := hus.open
                  have hcmp := compareStep run[m] run[j] (run[m].val (.slice qa run[m].asks.length da) (.slice qs run[m].sent.length ds)) (run[j].val (.slice ra run[j].asks.length ea) (.slice rs run[j].sent.length es)) w2.drew
                    ⟨_, _, rfl, hva.kept (Below.refl _ _).drew (Nat.le_refl _), hvs.kept (Below.refl _ _).drew (Nat.le_refl _)⟩ ⟨_, _, rfl, hua.kept (Below.refl _ _).drew (Nat.le_refl _), hus.kept (Below.refl _ _).drew (Nat.le_refl _)⟩ (Hask.out _ (List.getElem_mem hlt2)) (Hask.out _ (List.getElem_mem hlj))
                  simp only [Stp.val, Stp.row] at hcmp
                  have Hcmp := Lib.hid hcmp
                  clear hcmp hva hvs hua hus
                  have hpi : pickI (some j) = (j : Int) := rfl
                  rw [hpi]
                  by_cases hlx : lexL run[m].key run[j].key < 0
                  · have hpk := pickB_yes run done m hfr (by rw [hpm]; simp [betterB, keyAt_eq hlt2, keyAt_eq hlj, hlx])
                    have Hpk := Lib.hid hpk
                    clear hfr hpk hpm hpi
                    go_wp2_with fail
                    refine wp_region_ordN 13 [(0, true), (1, true), (2, true), (3, true), (4, true), (5, true), (6, true), (7, true), (8, true), (9, true), (10, true), (11, true), (12, true)] (fun w' => w'.cell? ⟨b, o + m * 11, none⟩ = some (I run[m].ev.kind) ∧ w'.cell? ⟨b, o + m * 11 + 1, none⟩ = some (I run[m].ev.node) ∧ w'.cell? ⟨b, o + m * 11 + 2, none⟩ = some (I run[m].ev.arg) ∧ w'.cell? ⟨b, o + m * 11 + 3, none⟩ = some (I run[m].ev.msg.node) ∧ w'.cell? ⟨b, o + m * 11 + 4, none⟩ = some (I run[m].ev.msg.handler) ∧ w'.cell? ⟨b, o + m * 11 + 5, none⟩ = some (I run[m].ev.msg.count) ∧ w'.cell? ⟨b, o + m * 11 + 6, none⟩ = some (I run[m].ev.msg.index) ∧ w'.cell? ⟨b, o + m * 11 + 7, none⟩ = some (I run[m].ev.msg.copy) ∧ w'.cell? ⟨b, o + m * 11 + 8, none⟩ = some (.slice qa run[m].asks.length da) ∧ w'.cell? ⟨b, o + m * 11 + 9, none⟩ = some (.bool run[m].obs) ∧ w'.cell? ⟨b, o + m * 11 + 10, none⟩ = some (.slice qs run[m].sent.length ds) ∧ w'.cell? ⟨b, o + j * 11, none⟩ = some (I run[j].ev.kind) ∧ w'.cell? ⟨b, o + j * 11 + 1, none⟩ = some (I run[j].ev.node) ∧ w'.cell? ⟨b, o + j * 11 + 2, none⟩ = some (I run[j].ev.arg) ∧ w'.cell? ⟨b, o + j * 11 + 3, none⟩ = some (I run[j].ev.msg.node) ∧ w'.cell? ⟨b, o + j * 11 + 4, none⟩ = some (I run[j].ev.msg.handler) ∧ w'.cell? ⟨b, o + j * 11 + 5, none⟩ = some (I run[j].ev.msg.count) ∧ w'.cell? ⟨b, o + j * 11 + 6, none⟩ = some (I run[j].ev.msg.index) ∧ w'.cell? ⟨b, o + j * 11 + 7, none⟩ = some (I run[j].ev.msg.copy) ∧ w'.cell? ⟨b, o + j * 11 + 8, none⟩ = some (.slice ra run[j].asks.length ea) ∧ w'.cell? ⟨b, o + j * 11 + 9, none⟩ = some (.bool run[j].obs) ∧ w'.cell? ⟨b, o + j * 11 + 10, none⟩ = some (.slice rs run[j].sent.length es)) (by kernel_rfl) rfl rfl (by kernel_rfl) ⟨x0, x1, x2, x3, x4, x5, x6, x7, x8, x9, x10, y0, y1, y2, y3, y4, y5, y6, y7, y8, y9, y10⟩ ?_
                    iterate 13 (first | (refine wpOrd_take ?_ (by rfl) ?_ ?_; rotate_left; (intro w hSw; (try dsimp only at hSw); go_simp; try with_reducible rfl); (try simp only [Act.put, List.setIfInBounds_toArray, List.set_cons_zero, List.set_cons_succ])) | (refine wpOrd_leave (by rfl) ?_; (try simp only [Act.put, List.setIfInBounds_toArray, List.set_cons_zero, List.set_cons_succ])))
                    refine wpOrd_nil ?_
                    go_wp2_with fail
                    refine Hcmp.out.mono ?_
                    rintro e w5 ⟨rfl, hB5⟩
                    go_wp2_with fail
                    refine NoPanic.normal ?_
                    go_wp2_with fail
                    go_roundw
                    case rel => exact ⟨m + 1, by omega, by go_num, by rw [Hpk.out]; rfl, hB2.drew.trans (hB5.mono hB2.size)⟩
                    case measure => simp [intOf]; omega
                  · have hpk := pickB_no run done m (.inr (by rw [hpm]; simp [betterB, keyAt_eq hlt2, keyAt_eq hlj, hlx]))
                    rw [hpm] at hpk
                    have Hpk := Lib.hid hpk
                    clear hfr hpk hpm hpi
                    go_wp2_with fail
                    refine wp_region_ordN 13 [(0, true), (1, true), (2, true), (3, true), (4, true), (5, true), (6, true), (7, true), (8, true), (9, true), (10, true), (11, true), (12, true)] (fun w' => w'.cell? ⟨b, o + m * 11, none⟩ = some (I run[m].ev.kind) ∧ w'.cell? ⟨b, o + m * 11 + 1, none⟩ = some (I run[m].ev.node) ∧ w'.cell? ⟨b, o + m * 11 + 2, none⟩ = some (I run[m].ev.arg) ∧ w'.cell? ⟨b, o + m * 11 + 3, none⟩ = some (I run[m].ev.msg.node) ∧ w'.cell? ⟨b, o + m * 11 + 4, none⟩ = some (I run[m].ev.msg.handler) ∧ w'.cell? ⟨b, o + m * 11 + 5, none⟩ = some (I run[m].ev.msg.count) ∧ w'.cell? ⟨b, o + m * 11 + 6, none⟩ = some (I run[m].ev.msg.index) ∧ w'.cell? ⟨b, o + m * 11 + 7, none⟩ = some (I run[m].ev.msg.copy) ∧ w'.cell? ⟨b, o + m * 11 + 8, none⟩ = some (.slice qa run[m].asks.length da) ∧ w'.cell? ⟨b, o + m * 11 + 9, none⟩ = some (.bool run[m].obs) ∧ w'.cell? ⟨b, o + m * 11 + 10, none⟩ = some (.slice qs run[m].sent.length ds) ∧ w'.cell? ⟨b, o + j * 11, none⟩ = some (I run[j].ev.kind) ∧ w'.cell? ⟨b, o + j * 11 + 1, none⟩ = some (I run[j].ev.node) ∧ w'.cell? ⟨b, o + j * 11 + 2, none⟩ = some (I run[j].ev.arg) ∧ w'.cell? ⟨b, o + j * 11 + 3, none⟩ = some (I run[j].ev.msg.node) ∧ w'.cell? ⟨b, o + j * 11 + 4, none⟩ = some (I run[j].ev.msg.handler) ∧ w'.cell? ⟨b, o + j * 11 + 5, none⟩ = some (I run[j].ev.msg.count) ∧ w'.cell? ⟨b, o + j * 11 + 6, none⟩ = some (I run[j].ev.msg.index) ∧ w'.cell? ⟨b, o + j * 11 + 7, none⟩ = some (I run[j].ev.msg.copy) ∧ w'.cell? ⟨b, o + j * 11 + 8, none⟩ = some (.slice ra run[j].asks.length ea) ∧ w'.cell? ⟨b, o + j * 11 + 9, none⟩ = some (.bool run[j].obs) ∧ w'.cell? ⟨b, o + j * 11 + 10, none⟩ = some (.slice rs run[j].sent.length es)) (by kernel_rfl) rfl rfl (by kernel_rfl) ⟨x0, x1, x2, x3, x4, x5, x6, x7, x8, x9, x10, y0, y1, y2, y3, y4, y5, y6, y7, y8, y9, y10⟩ ?_
                    iterate 13 (first | (refine wpOrd_take ?_ (by rfl) ?_ ?_; rotate_left; (intro w hSw; (try dsimp only at hSw); go_simp; try with_reducible rfl); (try simp only [Act.put, List.setIfInBounds_toArray, List.set_cons_zero, List.set_cons_succ])) | (refine wpOrd_leave (by rfl) ?_; (try simp only [Act.put, List.setIfInBounds_toArray, List.set_cons_zero, List.set_cons_succ])))
                    refine wpOrd_nil ?_
                    go_wp2_with fail
                    refine Hcmp.out.mono ?_
                    rintro e w5 ⟨rfl, hB5⟩
                    go_wp2_with fail
                    refine NoPanic.normal ?_
                    go_wp2_with fail
                    go_roundw
                    case rel => exact ⟨m + 1, by omega, by go_num, by rw [Hpk.out]; rfl, hB2.drew.trans (hB5.mono hB2.size)⟩
                    case measure => simp [intOf]; omega
        · have hmn : m = run.length := by omega
          have hpb : pickI (pickB run done m) = (best : Int) := by rw [hmn, Hbest.out]; rfl
          rw [hpb]
          clear hpb
          obtain ⟨b, o, va, vs, rfl, hva, hvs, x0, x1, x2, x3, x4, x5, x6, x7, x8, x9, x10⟩ := hr1.at (i := best) (s := run[best]) (by simp [hbl])
          obtain ⟨qa, da, rfl, _⟩ := hva.open
          obtain ⟨qs, ds, rfl, _⟩ := hvs.open
          have hod2 := owns_below Hod.out hB2
          have hoo2 := owns_below Hoo.out hB2
          have hwz := hBw.size
          have Hva := Lib.hid hva
          have Hvs := Lib.hid hvs
          have HX := Lib.hid (show w1.cell? ⟨b, o + best * 11, none⟩ = some (I run[best].ev.kind) ∧ w1.cell? ⟨b, o + best * 11 + 1, none⟩ = some (I run[best].ev.node) ∧ w1.cell? ⟨b, o + best * 11 + 2, none⟩ = some (I run[best].ev.arg) ∧ w1.cell? ⟨b, o + best * 11 + 3, none⟩ = some (I run[best].ev.msg.node) ∧ w1.cell? ⟨b, o + best * 11 + 4, none⟩ = some (I run[best].ev.msg.handler) ∧ w1.cell? ⟨b, o + best * 11 + 5, none⟩ = some (I run[best].ev.msg.count) ∧ w1.cell? ⟨b, o + best * 11 + 6, none⟩ = some (I run[best].ev.msg.index) ∧ w1.cell? ⟨b, o + best * 11 + 7, none⟩ = some (I run[best].ev.msg.copy) ∧ w1.cell? ⟨b, o + best * 11 + 8, none⟩ = some (.slice qa run[best].asks.length da) ∧ w1.cell? ⟨b, o + best * 11 + 9, none⟩ = some (.bool run[best].obs) ∧ w1.cell? ⟨b, o + best * 11 + 10, none⟩ = some (.slice qs run[best].sent.length ds) from ⟨x0, x1, x2, x3, x4, x5, x6, x7, x8, x9, x10⟩)
          clear hva hvs
          clear x0 x1 x2 x3 x4 x5 x6 x7 x8 x9 x10
          go_upto_region 18 with (at_builtin; go_must (refine wpList_appB rfl _ _ 22 rfl 3 _ 1 8 Tryz.underlying22 info_int rfl (by omega) (by omega) w1.heap.size _ _ _ rfl (hod2.alloc _) w2.heap.size 1 1 #[I best] 3 rfl (heap_alloc_new _ _) rfl rfl (by omega) (by omega) (by rw [World.size_alloc]; omega) ?_); intro g cap w5 hg1 hg2 hg3 ho5 hgr5 hB5)
          have hoo5 := (hoo2.alloc (.cells #[I best] 3)).kept hgr5 Hdj.out
          have hdj5 : Disj vo (.slice (some ⟨g, 0, none⟩) (done.length + 1) cap) := by
            rcases Hdj.out with h | h
            · exact .inl h
            · refine .inr fun e => ?_
              have e' : vo.ownBlock = some g := e
              rcases hg3 with h3 | h3
              · exact h (e'.trans h3.symm)
              · have := (hoo2.lt g e').2
                rw [World.size_alloc] at h3
                omega
          have hB15 : Below w1.heap.size w1 w5 := (hBw.alloc hwz _).trans hB5
          have hw5 := hB15.size
          have Ho5 := Lib.hid ho5
          have Hoo5 := Lib.hid hoo5
          have Hdj5 := Lib.hid hdj5
          have HB15 := Lib.hid hB15
          obtain ⟨x0, x1, x2, x3, x4, x5, x6, x7, x8, x9, x10⟩ := HX.out
          replace x0 := cell_below hB15 (Nat.le_refl _) x0
          replace x1 := cell_below hB15 (Nat.le_refl _) x1
          replace x2 := cell_below hB15 (Nat.le_refl _) x2
          replace x3 := cell_below hB15 (Nat.le_refl _) x3
          replace x4 := cell_below hB15 (Nat.le_refl _) x4
          replace x5 := cell_below hB15 (Nat.le_refl _) x5
          replace x6 := cell_below hB15 (Nat.le_refl _) x6
          replace x7 := cell_below hB15 (Nat.le_refl _) x7
          replace x8 := cell_below hB15 (Nat.le_refl _) x8
          replace x9 := cell_below hB15 (Nat.le_refl _) x9
          replace x10 := cell_below hB15 (Nat.le_refl _) x10
          clear ho5 hoo5 hdj5 hgr5 hB5 hg3 hod2 hoo2
          go_wp2_with (at_builtin; go_must (refine wpList_appB rfl _ _ 24 rfl 53 _ 11 120 Tryz.underlying24 info_Step rfl (by omega) (by omega) w1.heap.size _ _ xs rfl (Hoo5.out.alloc _) w5.heap.size 1 1 #[I run[best].ev.kind, I run[best].ev.node, I run[best].ev.arg, I run[best].ev.msg.node, I run[best].ev.msg.handler, I run[best].ev.msg.count, I run[best].ev.msg.index, I run[best].ev.msg.copy, .slice qa run[best].asks.length da, .bool run[best].obs, .slice qs run[best].sent.length ds] 53 rfl (heap_alloc_new _ _) rfl rfl (by omega) (by omega) (by rw [World.size_alloc]; omega) ?_); intro g6 cap6 w6 hg61 hg62 hg63 ho6 hgr6 hB6)
          have hod6 := (Ho5.out.alloc (.cells #[I run[best].ev.kind, I run[best].ev.node, I run[best].ev.arg, I run[best].ev.msg.node, I run[best].ev.msg.handler, I run[best].ev.msg.count, I run[best].ev.msg.index, I run[best].ev.msg.copy, .slice qa run[best].asks.length da, .bool run[best].obs, .slice qs run[best].sent.length ds] 53)).kept hgr6 (.inr fun e => by
            rcases Hdj5.out with h | h
            · have := e.trans h
              cases this
            · exact h e.symm)
          have hdj6 : Disj (.slice (some ⟨g6, 0, none⟩) (done.length + 1) cap6) (.slice (some ⟨g, 0, none⟩) (done.length + 1) cap) := by
            refine .inr fun e => ?_
            have e' : g6 = g := by simpa [Value.ownBlock] using e
            rcases hg63 with h3 | h3
            · rcases Hdj5.out with h | h
              · have := h.symm.trans h3
                cases this
              · exact h (h3.trans (by rw [e']; rfl))
            · rw [World.size_alloc] at h3
              omega
          have hB16 : Below w1.heap.size w1 w6 := (HB15.out.alloc hw5 _).trans hB6
          have hln : (done ++ [best]).length = done.length + 1 := by simp
          have Hln := Lib.hid hln
          have Hod6 := Lib.hid hod6
          have Ho6 := Lib.hid ho6
          have Hdj6 := Lib.hid hdj6
          have HB16 := Lib.hid hB16
          clear hln hod6 ho6 hdj6 hB16 hgr6 hB6 hg63
          go_roundw
          case rel =>
            refine ⟨done ++ [best], _, by rw [Hln.out]; omega, ?_, ?_, by rw [Hln.out]; exact Ho6.out, ?_, Hdj6.out, ?_, HB16.out⟩
            · intro i hi
              rcases List.mem_append.1 hi with h | h
              · exact Hdr.out i h
              · rw [List.mem_singleton.1 h]
                exact hbl
            · rw [Hln.out]
              have e : iv (natI (done ++ [best])) = iv (natI done) ++ (#[I best] : Array Value).toList := by simp [iv, natI]
              rw [e]
              exact Hod6.out
            · rw [atI_snoc run done best hbl]
              exact Hcs.out.append (StpCells.one Hva.out Hvs.out)
            · refine Lib.hid ?_
              rw [Hn.out, Hln.out, show run.length - done.length = (run.length - (done.length + 1)) + 1 by omega]
              exact normD_step run done _ best Hbest.out
          case measure => simp [slLen]; omega
    · have hdn : done.length = run.length := by omega
      have hnorm : normI run = done := by rw [Hn.out, hdn, Nat.sub_self]; rfl
      have Hnorm := Lib.hid hnorm
      clear hnorm
      go_wp2_with fail
      go_ret
      refine ⟨_, rfl, ⟨xs, ?_, ?_⟩, hB1.trans (hB.mono hB1.size)⟩
      · rw [normS, Hnorm.out]
        exact Hcs.out.kept hB (Nat.le_refl _)
      · rw [normS, Hnorm.out, atI_length _ _ Hdr.out]
        exact Flat.of_owns Hoo.out

end Go.Proofs.YtljmonfobefiiaaGreatDoor

/- The reference's Print: the same text. (Printed by mkS47.py.) -/
namespace Go.Proofs.YtljmonfobefiiaaGreatDoor
open Go.RowKit

theorem BoolMx.below {w w' : World} {v : Value} {n : Nat} {f : Nat → Nat → Bool} (h : BoolMx w v n f) (hb : Below w.heap.size w w') : BoolMx w' v n f := by
  obtain ⟨g, c, rfl, hr⟩ := h
  refine ⟨g, c, rfl, fun i hi => ?_⟩
  obtain ⟨gi, ci, h1, h2⟩ := hr i hi
  exact ⟨gi, ci, cell_below hb (Nat.le_refl _) h1, fun k hk => cell_below hb (Nat.le_refl _) (h2 k hk)⟩
set_option maxHeartbeats 8000000 in
set_option maxRecDepth 100000 in
theorem refPrintC (run : List Stp) (v : Value) (w : World) (hrun : StpSl w v run) (hn : run.length ≤ 64) (hask : ∀ s ∈ run, s.asks.length ≤ 1000000 ∧ ∀ a ∈ s.asks, AskN a) :
    Calls Tryz.prog 5 #[v] w fun e w' => e = .returned (sv (storyT (normS run))) ∧ Below w.heap.size w w' := by
  have HN := Lib.hid (refNormal run v w hrun (by omega) (fun s hs => (hask s hs).1))
  obtain ⟨N, hN⟩ : ∃ N, N = normS run := ⟨_, rfl⟩
  have hNl : N.length ≤ 64 := by rw [hN, nf_len (normS_nf run)]; exact hn
  have HI := Lib.hid (show ∀ s ∈ N, s.asks.length ≤ 1000000 ∧ ∀ a ∈ s.asks, AskN a from fun s hs => hask s (nf_mem (normS_nf run) s (hN ▸ hs)))
  rw [← hN] at HN ⊢
  clear hN hrun hn hask
  unfold sv
  go_enter Tryz.func5, Tryz.ntmps5
  go_wp2_with fail
  refine HN.out.mono ?_
  rintro e w1 ⟨u, rfl, hr1, hB1⟩
  obtain ⟨ka, ca, rfl, hml⟩ := hr1.open
  clear HN
  go_wp2_with fail
  refine (refLess N _ w1 hr1 (by omega)).mono ?_
  rintro e w2 ⟨mx, rfl, hmx, hB2⟩
  have hz1 := hB1.size
  have HN2 := Lib.hid (hr1.kept hB2 (Nat.le_refl _))
  have HM2 := Lib.hid hmx
  have HB2 := Lib.hid (hB1.trans (hB2.mono hz1))
  have hz2 := HB2.out.size
  have hmxo := hmx
  obtain ⟨mg, mc, rfl, _⟩ := hmxo
  clear hr1 hmx hB1 hB2 hz1
  obtain ⟨F, hF⟩ : ∃ F : Nat → List Nat, F = fun i => covL (lessB N) N.length i N.length := ⟨_, rfl⟩
  have Hst := Lib.hid (show storyT N = linesT N F N.length by
    rw [hF]
    exact linesT_congr N _ _ N.length (Nat.le_refl _) (fun i hi => bf_cov N i hi))
  have HFl := Lib.hid (show ∀ i, (F i).length ≤ 64 ∧ ∀ x ∈ F i, x ≤ 64 by
    rw [hF]
    exact fun i => ⟨Nat.le_trans (covL_len _ _ _ _) hNl, fun x hx => by have := covL_lt _ _ _ _ x hx; omega⟩)
  have HL := Lib.hid (linesT_len0 N F 301000000 (fun i hi => by
    have h1 := HI.out N[i] (List.getElem_mem hi)
    have h2 := lineT_len0 i N[i] (F i) (by omega) h1.2 (HFl.out i).2
    have h3 := (HFl.out i).1
    have h4 := h1.1
    omega))
  have HC := Lib.hid (show ∀ X i, i < N.length → Below w2.heap.size w2 X → Calls Tryz.prog 19 #[.slice (some ⟨mg, 0, none⟩) N.length mc, I i] X fun e w' => ∃ u, e = .returned u ∧ IntSl w' u ((F i).map fun k : Nat => (k : Int)) ∧ Below X.heap.size X w' by
    rw [hF]
    exact fun X i hi hX => refCoversC (lessB N) N.length i _ X (HM2.out.below hX) (by omega) hi)
  clear hF HM2
  go_wp2_with fail
  go_loopw [5, 6] (fun vt vi wr => ∃ i : Nat, i ≤ N.length ∧ vt = .string ⟨(linesT N F i).toArray⟩ ∧ vi = I i ∧ Hid (Below w2.heap.size w2 wr)) (fun _ vi _ => N.length - (intOf vi).toNat)
  case atStart => exact ⟨0, by omega, rfl, rfl, Lib.hid (Below.refl _ _)⟩
  case round =>
    obtain ⟨i, hi, rfl, rfl, HB⟩ := hrel
    obtain ⟨w6, rfl⟩ : ∃ w6 : World, w6 = wr := ⟨_, rfl⟩
    have hz6 := HB.out.size
    by_cases hlt : i < N.length
    · obtain ⟨bb, o, va, vs, rfl, hva, hvs, y0, y1, y2, y3, y4, y5, y6, y7, y8, y9, y10⟩ := HN2.out.at (i := i) (s := N[i]) (by simp [hlt])
      have hsI := HI.out N[i] (List.getElem_mem hlt)
      have hTl := HL.out i hi
      have hTl2 : 301000000 * i ≤ 301000000 * 64 := Nat.mul_le_mul (Nat.le_refl _) (by omega)
      have Hsucc := Lib.hid (linesT_succ N F i hlt)
      have HCi := Lib.hid (fun X hX => HC.out X i hlt hX)
      obtain ⟨hFl, hFn⟩ := HFl.out i
      generalize F i = bf at Hsucc hFl hFn HCi
      generalize linesT N F i = T at hTl Hsucc ⊢
      generalize N[i] = s at hva hvs y0 y1 y2 y3 y4 y5 y6 y7 y8 y9 y10 hsI Hsucc
      obtain ⟨⟨kind, node, arg, ⟨m0, m1, m2, m3, m4⟩⟩, asks, obs, sent⟩ := s
      dsimp only at hva hvs y0 y1 y2 y3 y4 y5 y6 y7 y8 y9 y10
      obtain ⟨hI3, hI2⟩ := hsI
      dsimp only at hI2 hI3
      obtain ⟨aa, ac, rfl, hal⟩ := hva.open
      obtain ⟨sa, sc, rfl, _⟩ := hvs.open
      generalize sent.length = sl at hvs y10
      have hdl : (Lib.decDigits i).length ≤ 20 := by have := itoa_len (i : Int) (natI64 i (by omega)); rwa [Lib.itoa_nonneg] at this
      have hel := textEv_len0 ⟨kind, node, arg, ⟨m0, m1, m2, m3, m4⟩⟩
      have Hit := Lib.hid (fun X => decimalC i (by omega) X)
      have Hev := Lib.hid (fun X => eventC ⟨kind, node, arg, ⟨m0, m1, m2, m3, m4⟩⟩ X)
      have Hline : Hid (linesT N F (i + 1) = T ++ (Lib.decDigits i ++ [58, 32] ++ textEv ⟨kind, node, arg, ⟨m0, m1, m2, m3, m4⟩⟩) ++ asksT asks asks.length ++ obsT obs ++ bfT bf ++ [10]) := Lib.hid (by
        rw [Hsucc.out]
        unfold lineT headT
        rw [Lib.itoa_nonneg]
        simp only [List.append_assoc])
      generalize Lib.decDigits i = di at hdl Hit Hline
      generalize textEv ⟨kind, node, arg, ⟨m0, m1, m2, m3, m4⟩⟩ = te at hel Hev Hline
      have Hva := Lib.hid hva
      have HI2 := Lib.hid hI2
      have x0 := cell_below HB.out (Nat.le_refl _) y0
      have x1 := cell_below HB.out (Nat.le_refl _) y1
      have x2 := cell_below HB.out (Nat.le_refl _) y2
      have x3 := cell_below HB.out (Nat.le_refl _) y3
      have x4 := cell_below HB.out (Nat.le_refl _) y4
      have x5 := cell_below HB.out (Nat.le_refl _) y5
      have x6 := cell_below HB.out (Nat.le_refl _) y6
      have x7 := cell_below HB.out (Nat.le_refl _) y7
      have x8 := cell_below HB.out (Nat.le_refl _) y8
      have x9 := cell_below HB.out (Nat.le_refl _) y9
      have x10 := cell_below HB.out (Nat.le_refl _) y10
      clear hva hvs y0 y1 y2 y3 y4 y5 y6 y7 y8 y9 y10 hI2 Hsucc
      have hR0 : Blk (w6.alloc (.cells #[I kind, I node, I arg, I m0, I m1, I m2, I m3, I m4, .slice aa asks.length ac, .bool obs, .slice sa sl sc] 53)).drew w6.heap.size #[I kind, I node, I arg, I m0, I m1, I m2, I m3, I m4, .slice aa asks.length ac, .bool obs, .slice sa sl sc] := (Blk.new _ _ _).drew
      have hX0 : Below w2.heap.size w2 (w6.alloc (.cells #[I kind, I node, I arg, I m0, I m1, I m2, I m3, I m4, .slice aa asks.length ac, .bool obs, .slice sa sl sc] 53)).drew := (HB.out.alloc hz6 _).drew
      have HR := Lib.hid hR0
      have HX := Lib.hid hX0
      clear hR0 hX0
      have hl1 : ¬ 9223372036854775807 < T.length + di.length := by omega
      have hl2 : ¬ 9223372036854775807 < T.length + di.length + 2 := by omega
      have hl3 : ¬ 9223372036854775807 < T.length + di.length + 2 + te.length := by omega
      unfold sv at Hit Hev
      unfold eva at Hev
      dsimp only at Hev
      go_wp2_with fail
      clear x0 x1 x2 x3 x4 x5 x6 x7 x8 x9 x10
      refine wp_region_ordN 8 [(0, true), (1, true), (5, true), (6, true), (2, false), (3, true), (4, true), (7, false)] (fun X => ∀ j, X.cell? ⟨w6.heap.size, j, none⟩ = (#[I kind, I node, I arg, I m0, I m1, I m2, I m3, I m4, .slice aa asks.length ac, .bool obs, .slice sa sl sc] : Array Value)[j]?) (by kernel_rfl) rfl rfl (by kernel_rfl) HR.out.cell ?_
      iterate 4 (refine wpOrd_take ?_ (by rfl) ?_ ?_; rotate_left; (intro w hSw; (try dsimp only at hSw); go_simp; try with_reducible rfl); (try simp only [Act.put, List.setIfInBounds_toArray, List.set_cons_zero, List.set_cons_succ]))
      obtain ⟨V, hV⟩ : ∃ V, V = (w6.alloc (.cells #[I kind, I node, I arg, I m0, I m1, I m2, I m3, I m4, .slice aa asks.length ac, .bool obs, .slice sa sl sc] 53)).drew := ⟨_, rfl⟩
      rw [← hV] at HR HX ⊢
      clear hV
      refine wpOrd_move (fun K hK => ?_)
      go_simp
      go_at_call 16
      refine (Hit.out _).mono ?_
      rintro e V1 ⟨rfl, rfl⟩
      refine hK.out _ _ HR.out.cell ?_
      clear hK K
      (try simp only [Act.put, List.setIfInBounds_toArray, List.set_cons_zero, List.set_cons_succ])
      iterate 2 (refine wpOrd_take ?_ (by rfl) ?_ ?_; rotate_left; (intro w hSw; (try dsimp only at hSw); go_simp; try with_reducible rfl); (try simp only [Act.put, List.setIfInBounds_toArray, List.set_cons_zero, List.set_cons_succ]))
      refine wpOrd_move (fun K hK => ?_)
      go_simp
      go_at_call 17
      refine (Hev.out _).mono ?_
      rintro e V2 ⟨rfl, D⟩
      replace HR := Lib.hid (HR.out.kept D HR.out.lt)
      replace HX := Lib.hid (HX.out.trans (D.mono HX.out.size))
      refine hK.out _ _ HR.out.cell ?_
      clear hK K D
      (try simp only [Act.put, List.setIfInBounds_toArray, List.set_cons_zero, List.set_cons_succ])
      refine wpOrd_nil ?_
      go_wp2_with fail
      refine NoPanic.normal ?_
      obtain ⟨T1, hT1⟩ : ∃ T1, T1 = T ++ (di ++ [58, 32] ++ te) := ⟨_, rfl⟩
      have hT1l : T1.length ≤ 20000000000 := by
        rw [hT1]
        simp only [List.length_append, List.length_cons, List.length_nil]
        omega
      have e1 : (⟨T.toArray⟩ ++ ⟨di.toArray⟩ ++ ⟨[58, 32].toArray⟩ ++ ⟨te.toArray⟩ : ByteArray) = ⟨T1.toArray⟩ := by
        rw [ba_app, ba_app, ba_app, hT1]
        simp only [List.append_assoc]
      rw [← hT1] at Hline
      rw [e1]
      clear hT1 e1 hl1 hl2 hl3 Hit Hev hdl hel hTl hTl2
      have hq : w6.heap.size < V2.heap.size := HR.out.lt
      go_wp2_with fail
      go_loopw [5, 8] (fun vt vk wr => ∃ k : Nat, k ≤ asks.length ∧ vt = .string ⟨(T1 ++ asksT asks k).toArray⟩ ∧ vk = I k ∧ Hid (Blk wr w6.heap.size #[I kind, I node, I arg, I m0, I m1, I m2, I m3, I m4, .slice aa asks.length ac, .bool obs, .slice sa sl sc]) ∧ Hid (Below w2.heap.size w2 wr)) (fun _ vk _ => asks.length - (intOf vk).toNat)
      case atStart => exact ⟨0, by omega, by simp [asksT], rfl, HR, HX⟩
      case round =>
        clear HR HX hq
        obtain ⟨k, hk, rfl, rfl, HR, HX⟩ := hrel
        have htl := asksT_len0 asks k HI2.out
        have htl2 : 300 * asks.length ≤ 300 * 1000000 := Nat.mul_le_mul (Nat.le_refl _) hI3
        have c8 := HR.out.cell 8
        by_cases hkl : k < asks.length
        · obtain ⟨qb, qo, rfl, z0, z1, z2, z3, z4, z5, z6⟩ := (Hva.out.kept HX.out (Nat.le_refl _)).at (i := k) (x := asks[k]) (by simp [hkl])
          obtain ⟨q0, q1, q2, q3⟩ := HI2.out asks[k] (List.getElem_mem hkl)
          have Hs := Lib.hid (asksT_succ asks k hkl)
          generalize asksT asks k = Tk at Hs htl ⊢
          generalize asks[k] = a at z0 z1 z2 z3 z4 z5 z6 q0 q1 q2 q3 Hs
          obtain ⟨n0, n1, n2, n3, n4, n5, n6⟩ := a
          dsimp only at z0 z1 z2 z3 z4 z5 z6 q0 q1 q2 q3
          obtain ⟨a5, rfl⟩ : ∃ a5 : Nat, n5 = a5 := ⟨n5.toNat, by omega⟩
          obtain ⟨a6, rfl⟩ : ∃ a6 : Nat, n6 = a6 := ⟨n6.toNat, by omega⟩
          have hql := textQn_len0 ⟨n0, n1, n2, n3, n4⟩
          have hl5 : (Lib.decDigits a5).length ≤ 20 := by have := itoa_len (a5 : Int) ⟨by omega, by omega⟩; rwa [Lib.itoa_nonneg] at this
          have hl6 : (Lib.decDigits a6).length ≤ 20 := by have := itoa_len (a6 : Int) ⟨by omega, by omega⟩; rwa [Lib.itoa_nonneg] at this
          have Hqn := Lib.hid (fun X => questionC ⟨n0, n1, n2, n3, n4⟩ X)
          have H5 := Lib.hid (fun X => decimalC a5 (by omega) X)
          have H6 := Lib.hid (fun X => decimalC a6 (by omega) X)
          unfold askT Ask.qn at Hs
          dsimp only at Hs
          rw [Lib.itoa_nonneg, Lib.itoa_nonneg] at Hs
          generalize textQn ⟨n0, n1, n2, n3, n4⟩ = tq at hql Hqn Hs
          generalize Lib.decDigits a5 = d5 at hl5 H5 Hs
          generalize Lib.decDigits a6 = d6 at hl6 H6 Hs
          unfold sv at Hqn H5 H6
          unfold qva at Hqn
          dsimp only at Hqn
          have hSc : Hid (∀ X, Below wr.heap.size wr X → X.cell? ⟨w6.heap.size, 8, none⟩ = some (.slice (some ⟨qb, qo, none⟩) asks.length ac) ∧ X.cell? ⟨qb, qo + k * 7, none⟩ = some (I n0) ∧ X.cell? ⟨qb, qo + k * 7 + 1, none⟩ = some (I n1) ∧ X.cell? ⟨qb, qo + k * 7 + 2, none⟩ = some (I n2) ∧ X.cell? ⟨qb, qo + k * 7 + 3, none⟩ = some (I n3) ∧ X.cell? ⟨qb, qo + k * 7 + 4, none⟩ = some (I n4) ∧ X.cell? ⟨qb, qo + k * 7 + 5, none⟩ = some (I a5) ∧ X.cell? ⟨qb, qo + k * 7 + 6, none⟩ = some (I a6)) := Lib.hid (fun X hX =>
            ⟨cell_below hX (Nat.le_refl _) (HR.out.cell 8), cell_below hX (Nat.le_refl _) z0, cell_below hX (Nat.le_refl _) z1, cell_below hX (Nat.le_refl _) z2, cell_below hX (Nat.le_refl _) z3, cell_below hX (Nat.le_refl _) z4, cell_below hX (Nat.le_refl _) z5, cell_below hX (Nat.le_refl _) z6⟩)
          have hU : T1.length + Tk.length ≤ 30000000000 := by omega
          obtain ⟨U, hUe⟩ : ∃ U, U = T1 ++ Tk := ⟨_, rfl⟩
          have hUl : U.length ≤ 30000000000 := by rw [hUe, List.length_append]; exact hU
          rw [← hUe]
          have HUe := Lib.hid hUe
          clear hUe
          have hl1 : ¬ 9223372036854775807 < U.length + 2 := by omega
          have hl2 : ¬ 9223372036854775807 < U.length + 2 + tq.length := by omega
          have hl3 : ¬ 9223372036854775807 < U.length + 2 + tq.length + 3 := by omega
          have hl4 : ¬ 9223372036854775807 < U.length + 2 + tq.length + 3 + d6.length := by omega
          have hl7 : ¬ 9223372036854775807 < U.length + 2 + tq.length + 3 + d6.length + 1 := by omega
          have hl8 : ¬ 9223372036854775807 < U.length + 2 + tq.length + 3 + d6.length + 1 + d5.length := by omega
          have hl9 : ¬ 9223372036854775807 < U.length + 2 + tq.length + 3 + d6.length + 1 + d5.length + 1 := by omega
          clear z0 z1 z2 z3 z4 z5 z6 hU
          go_wp2_with fail
          clear c8
          have HD := Lib.hid (show Below wr.heap.size wr wr.drew from (Below.refl _ _).drew)
          refine wp_region_ordN 27 [(0, true), (1, true), (2, true), (3, true), (4, true), (5, true), (6, true), (7, true), (11, true), (12, true), (13, true), (14, true), (15, true), (16, true), (20, true), (21, true), (22, true), (23, true), (24, true), (25, true), (8, false), (9, true), (10, true), (17, false), (18, true), (19, true), (26, false)] (fun X => X.cell? ⟨w6.heap.size, 8, none⟩ = some (.slice (some ⟨qb, qo, none⟩) asks.length ac) ∧ X.cell? ⟨qb, qo + k * 7, none⟩ = some (I n0) ∧ X.cell? ⟨qb, qo + k * 7 + 1, none⟩ = some (I n1) ∧ X.cell? ⟨qb, qo + k * 7 + 2, none⟩ = some (I n2) ∧ X.cell? ⟨qb, qo + k * 7 + 3, none⟩ = some (I n3) ∧ X.cell? ⟨qb, qo + k * 7 + 4, none⟩ = some (I n4) ∧ X.cell? ⟨qb, qo + k * 7 + 5, none⟩ = some (I a5) ∧ X.cell? ⟨qb, qo + k * 7 + 6, none⟩ = some (I a6)) (by kernel_rfl) rfl rfl (by kernel_rfl) (hSc.out _ HD.out) ?_
          iterate 20 (refine wpOrd_take ?_ (by rfl) ?_ ?_; rotate_left; (intro w hSw; (try dsimp only at hSw); go_simp; try with_reducible rfl); (try simp only [Act.put, List.setIfInBounds_toArray, List.set_cons_zero, List.set_cons_succ]))
          obtain ⟨V3, hV3⟩ : ∃ V3, V3 = wr.drew := ⟨_, rfl⟩
          rw [← hV3] at HD ⊢
          clear hV3
          refine wpOrd_move (fun K hK => ?_)
          go_simp
          go_at_call 18
          refine (Hqn.out _).mono ?_
          rintro e V4 ⟨rfl, D⟩
          replace HD := Lib.hid (HD.out.trans (D.mono HD.out.size))
          refine hK.out _ _ (hSc.out _ HD.out) ?_
          clear hK K D
          (try simp only [Act.put, List.setIfInBounds_toArray, List.set_cons_zero, List.set_cons_succ])
          iterate 2 (refine wpOrd_take ?_ (by rfl) ?_ ?_; rotate_left; (intro w hSw; (try dsimp only at hSw); go_simp; try with_reducible rfl); (try simp only [Act.put, List.setIfInBounds_toArray, List.set_cons_zero, List.set_cons_succ]))
          refine wpOrd_move (fun K hK => ?_)
          go_simp
          go_at_call 16
          refine (H6.out _).mono ?_
          rintro e V5 ⟨rfl, rfl⟩
          refine hK.out _ _ (hSc.out _ HD.out) ?_
          clear hK K
          (try simp only [Act.put, List.setIfInBounds_toArray, List.set_cons_zero, List.set_cons_succ])
          iterate 2 (refine wpOrd_take ?_ (by rfl) ?_ ?_; rotate_left; (intro w hSw; (try dsimp only at hSw); go_simp; try with_reducible rfl); (try simp only [Act.put, List.setIfInBounds_toArray, List.set_cons_zero, List.set_cons_succ]))
          refine wpOrd_move (fun K hK => ?_)
          go_simp
          go_at_call 16
          refine (H5.out _).mono ?_
          rintro e V6 ⟨rfl, rfl⟩
          refine hK.out _ _ (hSc.out _ HD.out) ?_
          clear hK K
          (try simp only [Act.put, List.setIfInBounds_toArray, List.set_cons_zero, List.set_cons_succ])
          refine wpOrd_nil ?_
          go_wp2_with fail
          refine NoPanic.normal ?_
          go_wp2_with fail
          go_roundw
          case rel =>
            refine ⟨k + 1, by omega, ?_, by go_num, Lib.hid (HR.out.kept HD.out HR.out.lt), Lib.hid (HX.out.trans (HD.out.mono HX.out.size))⟩
            rw [Hs.out]
            have e1 : (⟨U.toArray⟩ ++ ⟨[32, 91].toArray⟩ ++ ⟨tq.toArray⟩ ++ ⟨[32, 61, 32].toArray⟩ ++ ⟨d6.toArray⟩ ++ ⟨[47].toArray⟩ ++ ⟨d5.toArray⟩ ++ ⟨[93].toArray⟩ : ByteArray) = ⟨(T1 ++ (Tk ++ ([32, 91] ++ tq ++ [32, 61, 32] ++ d6 ++ [47] ++ d5 ++ [93]))).toArray⟩ := by
              rw [ba_app, ba_app, ba_app, ba_app, ba_app, ba_app, ba_app, HUe.out]
              simp only [List.append_assoc]
            exact congrArg Value.string e1
          case measure => simp [intOf]; omega
        · obtain rfl : k = asks.length := by omega
          obtain ⟨T2, hT2⟩ : ∃ T2, T2 = T1 ++ asksT asks asks.length := ⟨_, rfl⟩
          have hT2l : T2.length ≤ 30000000000 := by
            rw [hT2, List.length_append]
            omega
          rw [← hT2] at Hline ⊢
          obtain ⟨T3, hT3⟩ : ∃ T3, T3 = T2 ++ obsT obs := ⟨_, rfl⟩
          have hT3l : T3.length ≤ 30000000002 := by
            rw [hT3, List.length_append]
            have := obsT_len obs
            omega
          rw [← hT3] at Hline
          clear hT2 htl htl2 hT1l Hva HI2
          have c9 := HR.out.cell 9
          have hl1 : ¬ 9223372036854775807 < T2.length + 2 := by omega
          have HCw := Lib.hid (HCi.out wr HX.out)
          cases obs with
          | true =>
            have e1 : (⟨T2.toArray⟩ ++ ⟨[32, 42].toArray⟩ : ByteArray) = ⟨T3.toArray⟩ := by rw [ba_app, hT3]; rfl
            have E1 := Lib.hid e1
            clear e1 hT3
            go_upto_region 15 with fail
            rw [E1.out]
            clear c8 c9
            go_wp2_with (go_at_call 19; refine HCw.out.mono ?_; rintro e w8 ⟨u, rfl, hI, D⟩; have hI2 := hI.open; rw [List.length_map] at hI2; obtain ⟨ua, uc, rfl, _⟩ := hI2; have HI8 := Lib.hid hI; have HD8 := Lib.hid D; clear hI D)
            go_loop [5, 10] (fun vt vk => ∃ k : Nat, k ≤ bf.length ∧ vt = .string ⟨(T3 ++ aftT bf k).toArray⟩ ∧ vk = I k) (fun _ vk => bf.length - (intOf vk).toNat)
            case atStart => exact ⟨0, by omega, by rw [aftT_zero, List.append_nil], rfl⟩
            case round =>
              obtain ⟨k, hk, rfl, rfl⟩ := hrel
              have hal2 : (aftT bf k).length ≤ 10 + 21 * 64 := by
                have h1 := bfT_len0 (bf.take k) (fun n hn => hFn n (List.mem_of_mem_take hn))
                have h2 : (bf.take k).length ≤ 64 := by rw [List.length_take]; omega
                unfold aftT
                omega
              by_cases hkl : k < bf.length
              · obtain ⟨b9, o9, rfl, x0⟩ := IntSl.at HI8.out (i := k) (x := ((bf[k] : Nat) : Int)) (by simp [hkl])
                have hbk := hFn bf[k] (List.getElem_mem hkl)
                have hdl9 : (Lib.decDigits bf[k]).length ≤ 20 := by have := itoa_len ((bf[k] : Nat) : Int) (natI64 _ (by omega)); rwa [Lib.itoa_nonneg] at this
                have Hd9 := Lib.hid (decimalC bf[k] (by omega) w8)
                by_cases hk0 : k = 0
                · subst hk0
                  have Ha := Lib.hid (aftT_one bf hkl)
                  rw [Lib.itoa_nonneg] at Ha
                  generalize bf[0] = y at x0 hbk hdl9 Hd9 Ha
                  generalize Lib.decDigits y = dy at hdl9 Hd9 Ha
                  rw [aftT_zero, List.append_nil]
                  rw [Nat.add_zero] at x0
                  have hl2 : ¬ 9223372036854775807 < T3.length + 7 := by omega
                  have hl3 : ¬ 9223372036854775807 < T3.length + 7 + dy.length := by omega
                  unfold sv at Hd9
                  go_wp2_with (go_at_call 16; refine Hd9.out.mono ?_; rintro e w9 ⟨rfl, rfl⟩)
                  go_round
                  case rel =>
                    refine ⟨1, by omega, ?_, by go_num⟩
                    rw [Ha.out]
                    have e1 : (⟨T3.toArray⟩ ++ ⟨[32, 97, 102, 116, 101, 114, 32].toArray⟩ ++ ⟨dy.toArray⟩ : ByteArray) = ⟨(T3 ++ ([32, 97, 102, 116, 101, 114, 32] ++ dy)).toArray⟩ := by
                      rw [ba_app, ba_app]
                      simp only [List.append_assoc]
                    exact congrArg Value.string e1
                  case measure => simp [intOf]; omega
                · have Ha := Lib.hid (aftT_succ bf k hkl (by omega))
                  rw [Lib.itoa_nonneg] at Ha
                  have hk0I : ¬ (k : Int) = 0 := by omega
                  generalize bf[k] = y at x0 hbk hdl9 Hd9 Ha
                  generalize Lib.decDigits y = dy at hdl9 Hd9 Ha
                  generalize aftT bf k = ta at hal2 Ha ⊢
                  obtain ⟨U, hU⟩ : ∃ U, U = T3 ++ ta := ⟨_, rfl⟩
                  have hUl : U.length ≤ 40000000000 := by rw [hU, List.length_append]; omega
                  rw [← hU]
                  have HU := Lib.hid hU
                  clear hU
                  have hl2 : ¬ 9223372036854775807 < U.length + 1 := by omega
                  have hl3 : ¬ 9223372036854775807 < U.length + 1 + dy.length := by omega
                  unfold sv at Hd9
                  go_wp2_with (go_at_call 16; refine Hd9.out.mono ?_; rintro e w9 ⟨rfl, rfl⟩)
                  go_round
                  case rel =>
                    refine ⟨k + 1, by omega, ?_, by go_num⟩
                    rw [Ha.out]
                    have e1 : (⟨U.toArray⟩ ++ ⟨[44].toArray⟩ ++ ⟨dy.toArray⟩ : ByteArray) = ⟨(T3 ++ (ta ++ [44] ++ dy)).toArray⟩ := by
                      rw [ba_app, ba_app, HU.out]
                      simp only [List.append_assoc]
                    exact congrArg Value.string e1
                  case measure => simp [intOf]; omega
              · obtain rfl : k = bf.length := by omega
                have hU0 : T3 ++ aftT bf bf.length = T3 ++ bfT bf := by unfold aftT; rw [List.take_length]
                obtain ⟨U, hU⟩ : ∃ U, U = T3 ++ aftT bf bf.length := ⟨_, rfl⟩
                have hUl : U.length ≤ 40000000000 := by rw [hU, List.length_append]; omega
                rw [← hU]
                have Hl3 : Hid (linesT N F (i + 1) = U ++ [10]) := Lib.hid (by rw [Hline.out, hU, hU0])
                clear hU hU0
                have hl2 : ¬ 9223372036854775807 < U.length + 1 := by omega
                go_wp2_with fail
                go_roundw
                case rel =>
                  refine ⟨i + 1, by omega, ?_, by go_num, Lib.hid (HX.out.trans (HD8.out.mono HX.out.size))⟩
                  rw [Hl3.out]
                  exact congrArg Value.string (ba_app U [10])
                case measure => simp [intOf]; omega
          | false =>
            have e1 : T2 = T3 := by rw [hT3]; simp [obsT]
            have E1 := Lib.hid e1
            clear e1 hT3
            go_upto_region 15 with fail
            rw [E1.out]
            clear c8 c9
            go_wp2_with (go_at_call 19; refine HCw.out.mono ?_; rintro e w8 ⟨u, rfl, hI, D⟩; have hI2 := hI.open; rw [List.length_map] at hI2; obtain ⟨ua, uc, rfl, _⟩ := hI2; have HI8 := Lib.hid hI; have HD8 := Lib.hid D; clear hI D)
            go_loop [5, 10] (fun vt vk => ∃ k : Nat, k ≤ bf.length ∧ vt = .string ⟨(T3 ++ aftT bf k).toArray⟩ ∧ vk = I k) (fun _ vk => bf.length - (intOf vk).toNat)
            case atStart => exact ⟨0, by omega, by rw [aftT_zero, List.append_nil], rfl⟩
            case round =>
              obtain ⟨k, hk, rfl, rfl⟩ := hrel
              have hal2 : (aftT bf k).length ≤ 10 + 21 * 64 := by
                have h1 := bfT_len0 (bf.take k) (fun n hn => hFn n (List.mem_of_mem_take hn))
                have h2 : (bf.take k).length ≤ 64 := by rw [List.length_take]; omega
                unfold aftT
                omega
              by_cases hkl : k < bf.length
              · obtain ⟨b9, o9, rfl, x0⟩ := IntSl.at HI8.out (i := k) (x := ((bf[k] : Nat) : Int)) (by simp [hkl])
                have hbk := hFn bf[k] (List.getElem_mem hkl)
                have hdl9 : (Lib.decDigits bf[k]).length ≤ 20 := by have := itoa_len ((bf[k] : Nat) : Int) (natI64 _ (by omega)); rwa [Lib.itoa_nonneg] at this
                have Hd9 := Lib.hid (decimalC bf[k] (by omega) w8)
                by_cases hk0 : k = 0
                · subst hk0
                  have Ha := Lib.hid (aftT_one bf hkl)
                  rw [Lib.itoa_nonneg] at Ha
                  generalize bf[0] = y at x0 hbk hdl9 Hd9 Ha
                  generalize Lib.decDigits y = dy at hdl9 Hd9 Ha
                  rw [aftT_zero, List.append_nil]
                  rw [Nat.add_zero] at x0
                  have hl2 : ¬ 9223372036854775807 < T3.length + 7 := by omega
                  have hl3 : ¬ 9223372036854775807 < T3.length + 7 + dy.length := by omega
                  unfold sv at Hd9
                  go_wp2_with (go_at_call 16; refine Hd9.out.mono ?_; rintro e w9 ⟨rfl, rfl⟩)
                  go_round
                  case rel =>
                    refine ⟨1, by omega, ?_, by go_num⟩
                    rw [Ha.out]
                    have e1 : (⟨T3.toArray⟩ ++ ⟨[32, 97, 102, 116, 101, 114, 32].toArray⟩ ++ ⟨dy.toArray⟩ : ByteArray) = ⟨(T3 ++ ([32, 97, 102, 116, 101, 114, 32] ++ dy)).toArray⟩ := by
                      rw [ba_app, ba_app]
                      simp only [List.append_assoc]
                    exact congrArg Value.string e1
                  case measure => simp [intOf]; omega
                · have Ha := Lib.hid (aftT_succ bf k hkl (by omega))
                  rw [Lib.itoa_nonneg] at Ha
                  have hk0I : ¬ (k : Int) = 0 := by omega
                  generalize bf[k] = y at x0 hbk hdl9 Hd9 Ha
                  generalize Lib.decDigits y = dy at hdl9 Hd9 Ha
                  generalize aftT bf k = ta at hal2 Ha ⊢
                  obtain ⟨U, hU⟩ : ∃ U, U = T3 ++ ta := ⟨_, rfl⟩
                  have hUl : U.length ≤ 40000000000 := by rw [hU, List.length_append]; omega
                  rw [← hU]
                  have HU := Lib.hid hU
                  clear hU
                  have hl2 : ¬ 9223372036854775807 < U.length + 1 := by omega
                  have hl3 : ¬ 9223372036854775807 < U.length + 1 + dy.length := by omega
                  unfold sv at Hd9
                  go_wp2_with (go_at_call 16; refine Hd9.out.mono ?_; rintro e w9 ⟨rfl, rfl⟩)
                  go_round
                  case rel =>
                    refine ⟨k + 1, by omega, ?_, by go_num⟩
                    rw [Ha.out]
                    have e1 : (⟨U.toArray⟩ ++ ⟨[44].toArray⟩ ++ ⟨dy.toArray⟩ : ByteArray) = ⟨(T3 ++ (ta ++ [44] ++ dy)).toArray⟩ := by
                      rw [ba_app, ba_app, HU.out]
                      simp only [List.append_assoc]
                    exact congrArg Value.string e1
                  case measure => simp [intOf]; omega
              · obtain rfl : k = bf.length := by omega
                have hU0 : T3 ++ aftT bf bf.length = T3 ++ bfT bf := by unfold aftT; rw [List.take_length]
                obtain ⟨U, hU⟩ : ∃ U, U = T3 ++ aftT bf bf.length := ⟨_, rfl⟩
                have hUl : U.length ≤ 40000000000 := by rw [hU, List.length_append]; omega
                rw [← hU]
                have Hl3 : Hid (linesT N F (i + 1) = U ++ [10]) := Lib.hid (by rw [Hline.out, hU, hU0])
                clear hU hU0
                have hl2 : ¬ 9223372036854775807 < U.length + 1 := by omega
                go_wp2_with fail
                go_roundw
                case rel =>
                  refine ⟨i + 1, by omega, ?_, by go_num, Lib.hid (HX.out.trans (HD8.out.mono HX.out.size))⟩
                  rw [Hl3.out]
                  exact congrArg Value.string (ba_app U [10])
                case measure => simp [intOf]; omega
    · obtain rfl : i = N.length := by omega
      go_wp2_with fail
      go_ret
      exact ⟨by rw [Hst.out]; rfl, HB2.out.trans (HB.out.mono hz2)⟩

end Go.Proofs.YtljmonfobefiiaaGreatDoor
