/- The generator of runs: the walk. -/
import Derived.Test.YtaedfidfcoigoaaN10
namespace Go.Proofs.Ytaedfidfcoigoaa
open Go.RowKit

def InI64 (n : Int) : Prop := -9223372036854775808 ≤ n ∧ n ≤ 9223372036854775807

set_option maxHeartbeats 8000000 in
set_option maxRecDepth 100000 in
theorem refRun (l : List Int) (most : Nat) (v : Value) (w : World) (hl : IntSl w v l) (hr : ∀ x ∈ l, InI64 x) (hm : most ≤ 60) :
    Calls Try.prog 9 #[v, I most] w fun e w' => ∃ u run, e = .returned u ∧ StpSl w' u run ∧ run.length ≤ most ∧ (∀ s ∈ run, s.asks.length ≤ 1 ∧ s.sent.length ≤ 2) ∧ Below w.heap.size w w' := by
  obtain ⟨ka, ca, rfl, hml⟩ := hl.open
  have hmk : ∀ W, (Instr.makeSlice 22 (.int .i64 4) (.int .i64 4)).run Try.prog W = .ok (.slice (some ⟨W.heap.size, 0, none⟩) 4 4) (W.alloc (.cells (mk1 4 (.int .i64 0)) 3)) := fun W => run_mk1 (P := Try.prog) 22 3 (.int .i64 0) 8 4 Try.underlying22 info3 rfl (by omega) (by omega) W
  have hcnt : CntAt (w.alloc (.cells (mk1 4 (.int .i64 0)) 3)) w.heap.size 0 := ⟨_, fun _ => 0, Blk.new _ _ _, mk1_size _ _, fun b hb => ⟨mk1_get _ _ _ hb, Nat.le_refl _⟩⟩
  have hst := RS.start w _ hcnt ((Below.refl _ _).alloc (Nat.le_refl _) _) (by simp)
  have Hr := Lib.hid hr
  have Hst := Lib.hid hst
  clear hr hst hcnt
  go_enter Try.func9, Try.ntmps9
  go_wp2_with fail
  clear hmk
  go_loopw [5, 6, 8] (fun vo vf i wr => ∃ (k : Nat) (steps : List Stp) (xs : List Value) (fl : List Msg) (P : Nat → Prop), k ≤ l.length ∧ k ≤ most ∧ i = .int .i64 k ∧ steps.length = k ∧ RS w.heap.size k w wr vo vf steps xs fl P) (fun _ _ i _ => l.length - (intOf i).toNat)
  case atStart => exact ⟨0, [], [], [], fun _ => False, by omega, by omega, rfl, rfl, Hst.out⟩
  case round =>
    clear Hst
    obtain ⟨k, steps, xs, fl, P, hk, hkm, rfl, hsl, hR⟩ := hrel
    have hsk : steps.length ≤ k := by omega
    have Hsl := Lib.hid hsl
    clear hsl
    obtain ⟨fa, fc, rfl, _⟩ := (Flat.of_owns hR.of).open
    obtain ⟨oa, oc, rfl, _⟩ := (Flat.of_owns hR.oo).open
    have hgl := hR.gl
    have hnf := hR.nf
    by_cases hlt : k < l.length ∧ k < most
    · obtain ⟨hlt1, hlt2⟩ := hlt
      obtain ⟨x, hx⟩ : ∃ x, l[k]? = some x := ⟨l[k], by simp [hlt1]⟩
      obtain ⟨hx1, hx2⟩ := Hr.out x (List.mem_of_getElem? hx)
      obtain ⟨b, o, rfl, hcx⟩ := (hl.kept hR.be (Nat.le_refl _)).at hx
      have har := around_range x 10000000 (by omega)
      obtain ⟨nn, hnn⟩ : ∃ nn : Nat, around x 10000000 = nn := ⟨_, (Int.toNat_of_nonneg har.1).symm⟩
      have hnb : nn < 10000000 := by omega
      obtain ⟨nd, hnd⟩ : ∃ nd : Nat, (nn : Int) % 4 = nd := ⟨nn % 4, by omega⟩
      have hnd4 : nd < 4 := by omega
      obtain ⟨kd, hkd⟩ : ∃ kd : Nat, (nn : Int) / 12 % 8 = kd := ⟨nn / 12 % 8, by omega⟩
      have hkd8 : kd < 8 := by omega
      obtain ⟨arr, c, hcb, hca, hcc⟩ := hR.cnt
      obtain ⟨hcd, hck⟩ := hcc nd hnd4
      have cC := (hcb.cell nd).trans hcd
      have fC := hcb.frozen nd
      have Haround := Lib.hid (around_any x 10000000)
      have Hnn := Lib.hid hnn
      have HR := Lib.hid hR
      have Hx := Lib.hid hx
      have Hcc := Lib.hid hcc
      have Hca := Lib.hid hca
      have Hcb := Lib.hid hcb
      have Hcd := Lib.hid hcd
      have Hnd := Lib.hid hnd
      have Hkd := Lib.hid hkd
      clear har hnn hR hx hcc hca hcb hcd hnd hkd
      go_wp2_with fail
      refine (Haround.out _ (by omega) hx1 hx2).mono ?_
      rintro e w1 ⟨rfl, rfl⟩
      rw [Hnn.out]
      go_upto_region 9 with fail
      rw [Hnd.out]
      go_upto_region 13 with fail
      rw [Hkd.out]
      have hrm := RM.start HR.out nd (c nd + 1) (by omega) #[I nd, I ((nn : Int) / 4 % 3), I (c nd)]
      rw [show ((c nd + 1 : Nat) : Int) = (c nd : Int) + 1 from by omega] at hrm
      obtain ⟨wq, hwq⟩ : ∃ wq : World, wq = ((wr.setCell ⟨w.heap.size, nd, none⟩ (I ((c nd : Int) + 1))).alloc (.cells #[I 0, I nd, I 0, I 0, I 0, I 0, I 0, I 0, .slice none 0 0, .bool false, .slice none 0 0] 55)).alloc (.cells #[I nd, I ((nn : Int) / 4 % 3), I (c nd)] 48) := ⟨_, rfl⟩
      have hrm2 : RM w.heap.size k w wr (Value.slice fa fl.length fc).ownBlock #[I nd, I ((nn : Int) / 4 % 3), I (c nd)] wq ⟨0, nd, 0, ⟨0, 0, 0, 0, 0⟩⟩ false (.slice none 0 0) [] (.slice none 0 0) [] (.slice fa fl.length fc) fl := by rw [hwq]; exact hrm
      rw [← hwq]
      have hfb : ∀ b, (Value.slice fa fl.length fc).ownBlock = some b → b < wr.heap.size ∧ b ≠ w.heap.size := fun b hb => by
        have := own_lt HR.out.of hb
        exact ⟨this.2, by omega⟩
      have Hfb := Lib.hid hfb
      have Hrm := Lib.hid hrm2
      clear hwq hrm hrm2 cC fC hcx hfb
      obtain ⟨bb, hbb⟩ : ∃ bb : Bool, bb = (decide (kd < 4) && decide (0 < fl.length)) := ⟨_, rfl⟩
      have Hbb := Lib.hid hbb
      clear hbb
      go_cut [62] from 17 to 148 (fun t wc => t = .bool bb ∧ wc = wq)
      case first =>
        by_cases hk4 : kd < 4
        · by_cases hf0 : 0 < fl.length
          · go_wp2_with fail
            go_meet
            exact ⟨by rw [Hbb.out]; simp [hk4, hf0], rfl⟩
          · go_wp2_with fail
            go_meet
            exact ⟨by rw [Hbb.out]; simp [hk4, hf0], rfl⟩
        · go_wp2_with fail
          go_meet
          exact ⟨by rw [Hbb.out]; simp [hk4], rfl⟩
      case rest =>
        obtain ⟨rfl, rfl⟩ := hcut
        go_upto_if 62 with fail
        go_cut [] from 17 to 148 (fun wd => RMA w.heap.size k w wr (Value.slice fa fl.length fc).ownBlock #[I nd, I ((nn : Int) / 4 % 3), I (c nd)] (.slice fa fl.length fc) fl wd)
        case first =>
          cases bb with
          | true =>
            have hkf : kd < 4 ∧ 0 < fl.length := by
              have := Hbb.out
              simp at this
              omega
            obtain ⟨hk4, hf0⟩ := hkf
            obtain ⟨ek, hek⟩ : ∃ ek : Int, (#[I 3, I 3, I 5, I 6] : Array Value)[kd]? = some (I ek) := by
              have : kd = 0 ∨ kd = 1 ∨ kd = 2 ∨ kd = 3 := by omega
              rcases this with rfl | rfl | rfl | rfl <;> exact ⟨_, rfl⟩
            have hrm1 := Hrm.out.kept ((Below.refl _ _).alloc (Nat.le_refl _) (.cells #[I 3, I 3, I 5, I 6] 3))
            have hek2 : (wc.alloc (.cells #[I 3, I 3, I 5, I 6] 3)).cell? ⟨wc.heap.size, kd, none⟩ = some (I ek) := ((Blk.new wc #[I 3, I 3, I 5, I 6] 3).cell kd).trans hek
            have cS0 : (wc.alloc (.cells #[I 3, I 3, I 5, I 6] 3)).cell? ⟨wr.heap.size, 0, none⟩ = some (I 0) := hrm1.s.cell 0
            have fS0 := hrm1.s.frozen 0
            have hnf2 : (Value.slice fa fl.length fc).ownBlock ≠ some wr.heap.size := fun e => by have := (Hfb.out _ e).1; omega
            have hrm2 := hrm1.store 0 (I ek) (ev' := ⟨ek, nd, 0, ⟨0, 0, 0, 0, 0⟩⟩) (obs' := false) rfl hnf2
            have Hrm2 := Lib.hid hrm2
            have hgsz := hrm1.sz
            clear hrm1 hrm2 hek
            go_upto_region 15 with fail
            obtain ⟨w2, hw2⟩ : ∃ w2 : World, w2 = (wc.alloc (.cells #[I 3, I 3, I 5, I 6] 3)).setCell ⟨wr.heap.size, 0, none⟩ (I ek) := ⟨_, rfl⟩
            rw [← hw2]
            have hrm2 := Hrm2.out
            rw [← hw2] at hrm2
            clear hw2 Hrm2 cS0 fS0 hek2
            have hmod : 0 ≤ (nn : Int) / 96 % (fl.length : Int) ∧ (nn : Int) / 96 % (fl.length : Int) < fl.length := ⟨Int.emod_nonneg _ (by omega), Int.emod_lt_of_pos _ (by omega)⟩
            obtain ⟨ix, hix⟩ : ∃ ix : Nat, (nn : Int) / 96 % (fl.length : Int) = ix := ⟨_, (Int.toNat_of_nonneg hmod.1).symm⟩
            have hixl : ix < fl.length := by omega
            obtain ⟨qb, qo, rfl, y0, y1, y2, y3, y4⟩ := (show MsgSl w2 (.slice fa fl.length fc) fl from Flat.of_owns hrm2.fo).at (i := ix) (x := fl[ix]) (by simp [hixl])
            have cS3 : w2.cell? ⟨wr.heap.size, 3, none⟩ = some (I 0) := hrm2.s.cell 3
            have cS4 : w2.cell? ⟨wr.heap.size, 4, none⟩ = some (I 0) := hrm2.s.cell 4
            have cS5 : w2.cell? ⟨wr.heap.size, 5, none⟩ = some (I 0) := hrm2.s.cell 5
            have cS6 : w2.cell? ⟨wr.heap.size, 6, none⟩ = some (I 0) := hrm2.s.cell 6
            have cS7 : w2.cell? ⟨wr.heap.size, 7, none⟩ = some (I 0) := hrm2.s.cell 7
            have fS3 := hrm2.s.frozen 3
            have fS4 := hrm2.s.frozen 4
            have fS5 := hrm2.s.frozen 5
            have fS6 := hrm2.s.frozen 6
            have fS7 := hrm2.s.frozen 7
            have hrm3 := ((((hrm2.store 3 (I fl[ix].node) (ev' := ⟨ek, nd, 0, ⟨fl[ix].node, 0, 0, 0, 0⟩⟩) (obs' := false) rfl hnf2).store 4 (I fl[ix].handler) (ev' := ⟨ek, nd, 0, ⟨fl[ix].node, fl[ix].handler, 0, 0, 0⟩⟩) (obs' := false) rfl hnf2).store 5 (I fl[ix].count) (ev' := ⟨ek, nd, 0, ⟨fl[ix].node, fl[ix].handler, fl[ix].count, 0, 0⟩⟩) (obs' := false) rfl hnf2).store 6 (I fl[ix].index) (ev' := ⟨ek, nd, 0, ⟨fl[ix].node, fl[ix].handler, fl[ix].count, fl[ix].index, 0⟩⟩) (obs' := false) rfl hnf2).store 7 (I fl[ix].copy) (ev' := ⟨ek, nd, 0, ⟨fl[ix].node, fl[ix].handler, fl[ix].count, fl[ix].index, fl[ix].copy⟩⟩) (obs' := false) rfl hnf2
            have Hrm3 := Lib.hid hrm3
            clear hrm2 hrm3
            go_upto_region 16 with fail
            obtain ⟨w3, hw3⟩ : ∃ w3 : World, w3 = ((((w2.setCell ⟨wr.heap.size, 3, none⟩ (I fl[ix].node)).setCell ⟨wr.heap.size, 4, none⟩ (I fl[ix].handler)).setCell ⟨wr.heap.size, 5, none⟩ (I fl[ix].count)).setCell ⟨wr.heap.size, 6, none⟩ (I fl[ix].index)).setCell ⟨wr.heap.size, 7, none⟩ (I fl[ix].copy) := ⟨_, rfl⟩
            rw [← hw3]
            have hrm3 := Hrm3.out
            rw [← hw3] at hrm3
            have cT7 : w3.cell? ⟨wr.heap.size, 7, none⟩ = some (I fl[ix].copy) := hrm3.s.cell 7
            have fT7 := hrm3.s.frozen 7
            have hrm4 := hrm3.store 7 (I 1) (ev' := ⟨ek, nd, 0, ⟨fl[ix].node, fl[ix].handler, fl[ix].count, fl[ix].index, 1⟩⟩) (obs' := false) rfl hnf2
            have Hrm4 := Lib.hid hrm4
            have Hrm5 := Lib.hid hrm3
            clear hw3 Hrm3 cS3 cS4 cS5 cS6 cS7 fS3 fS4 fS5 fS6 fS7 y0 y1 y2 y3 y4 hix hrm3 hrm4
            by_cases hk0 : 0 < kd
            · by_cases hc7 : (nn : Int) / 7 % 5 = 4
              · have hc8 : ((nn : Int) / 7 % 5 == 4) = true := by rw [hc7]; rfl
                clear hc7
                go_wp2_with fail
                go_meet
                exact Hrm4.out.toA
              · have hc8 : ((nn : Int) / 7 % 5 == 4) = false := by rw [beq_eq_false_iff_ne]; exact hc7
                clear hc7
                go_wp2_with fail
                go_meet
                exact Hrm5.out.toA
            · go_wp2_with fail
              go_meet
              exact Hrm5.out.toA
          | false =>
            have hnf2 : (Value.slice fa fl.length fc).ownBlock ≠ some wr.heap.size := fun e => by have := (Hfb.out _ e).1; omega
            have cS0 : wc.cell? ⟨wr.heap.size, 0, none⟩ = some (I 0) := Hrm.out.s.cell 0
            have cS2 : wc.cell? ⟨wr.heap.size, 2, none⟩ = some (I 0) := Hrm.out.s.cell 2
            have cS9 : wc.cell? ⟨wr.heap.size, 9, none⟩ = some (.bool false) := Hrm.out.s.cell 9
            have fS0 := Hrm.out.s.frozen 0
            have fS2 := Hrm.out.s.frozen 2
            have fS9 := Hrm.out.s.frozen 9
            have hrm3 := (Hrm.out.store 0 (I 4) (ev' := ⟨4, nd, 0, ⟨0, 0, 0, 0, 0⟩⟩) (obs' := false) rfl hnf2).store 2 (I ((nn : Int) / 96 % 3)) (ev' := ⟨4, nd, (nn : Int) / 96 % 3, ⟨0, 0, 0, 0, 0⟩⟩) (obs' := false) rfl hnf2
            have hrm4 := ((Hrm.out.store 0 (I 2) (ev' := ⟨2, nd, 0, ⟨0, 0, 0, 0, 0⟩⟩) (obs' := false) rfl hnf2).store 2 (I k) (ev' := ⟨2, nd, k, ⟨0, 0, 0, 0, 0⟩⟩) (obs' := false) rfl hnf2).store 9 (.bool true) (ev' := ⟨2, nd, k, ⟨0, 0, 0, 0, 0⟩⟩) (obs' := true) rfl hnf2
            have Hrm3 := Lib.hid hrm3
            have Hrm4 := Lib.hid hrm4
            clear hrm3 hrm4
            by_cases hk6 : kd < 6
            · go_wp2_with fail
              go_meet
              exact Hrm3.out.toA
            · go_wp2_with fail
              go_meet
              exact Hrm4.out.toA
        case rest =>
          clear Hrm Hbb
          obtain ⟨ev, obs, hrmA⟩ := hcut
          have HrmA := Lib.hid hrmA
          have hnf2 : (Value.slice fa fl.length fc).ownBlock ≠ some wr.heap.size := fun e => by have := (Hfb.out _ e).1; omega
          have cS9 : wc.cell? ⟨wr.heap.size, 9, none⟩ = some (.bool obs) := hrmA.s.cell 9
          have fS9 := hrmA.s.frozen 9
          clear hrmA
          go_upto_if 108 with fail
          go_cut [] from 17 to 148 (fun wd => RMA w.heap.size k w wr (Value.slice fa fl.length fc).ownBlock #[I nd, I ((nn : Int) / 4 % 3), I (c nd)] (.slice fa fl.length fc) fl wd)
          case first =>
            by_cases hc7 : (nn : Int) / 11 % 6 = 5
            · have hc8 : ((nn : Int) / 11 % 6 == 5) = true := by rw [hc7]; rfl
              clear hc7
              go_wp2_with fail
              go_meet
              exact (HrmA.out.store 9 (.bool true) (ev' := ev) (obs' := true) rfl hnf2).toA
            · have hc8 : ((nn : Int) / 11 % 6 == 5) = false := by rw [beq_eq_false_iff_ne]; exact hc7
              clear hc7
              go_wp2_with fail
              go_meet
              exact HrmA.out.toA
          case rest =>
            clear HrmA cS9 fS9
            obtain ⟨ev, obs, hrmB⟩ := hcut
            have HrmB := Lib.hid hrmB
            clear hrmB
            obtain ⟨t3, ht3⟩ : ∃ t3 : Nat, (nn : Int) / 13 % 3 = t3 := ⟨nn / 13 % 3, by omega⟩
            have ht33 : t3 < 3 := by omega
            go_wp2_with fail
            obtain ⟨wb, rfl⟩ : ∃ wb : World, wb = wr := ⟨_, rfl⟩
            go_loopw [14, 6] (fun q vf wr => ∃ (q' : Nat) (sent fl' : List Msg) (vs : Value), q' ≤ t3 ∧ q = .int .i64 q' ∧ RM w.heap.size k w wb (Value.slice fa fl.length fc).ownBlock #[I nd, I ((nn : Int) / 4 % 3), I (c nd)] wr ev obs (.slice none 0 0) [] vs sent vf fl' ∧ sent.length = q' ∧ fl'.length ≤ fl.length + q') (fun q _ _ => t3 - (intOf q).toNat)
            case atStart => exact ⟨0, [], fl, _, by omega, rfl, HrmB.out, rfl, by omega⟩
            case round =>
              clear HrmB
              obtain ⟨q, sent, fl', vs, hq, rfl, hrm, hsl, hfl⟩ := hrel
              obtain ⟨fa', fc', rfl, _⟩ := (Flat.of_owns hrm.fo).open
              obtain ⟨sa, sc, rfl, _⟩ := (Flat.of_owns hrm.so).open
              by_cases hlt : q < t3
              · have hsl3 : sent.length ≤ 3 := by omega
                have hfl3 : fl'.length ≤ 1000 := by omega
                have hz := hrm.sz
                have hgl' := hrm.gl
                have cC0 : wr.cell? ⟨wb.heap.size + 1, 0, none⟩ = some (I nd) := hrm.cs.cell 0
                have cC1 : wr.cell? ⟨wb.heap.size + 1, 1, none⟩ = some (I ((nn : Int) / 4 % 3)) := hrm.cs.cell 1
                have cC2 : wr.cell? ⟨wb.heap.size + 1, 2, none⟩ = some (I (c nd)) := hrm.cs.cell 2
                have hlt29 : wb.heap.size < wr.heap.size := by omega
                have hlt29' : wb.heap.size + 1 < wr.heap.size := by omega
                have cS10 : wr.cell? ⟨wb.heap.size, 10, none⟩ = some (.slice sa sent.length sc) := hrm.s.cell 10
                have hrm2 := hrm.kept (((Below.refl _ _).alloc (Nat.le_refl _) (.cells #[I nd, I ((nn : Int) / 4 % 3), I (c nd), I q, I 0] 50)).alloc (by simp) (.cells #[I nd, I ((nn : Int) / 4 % 3), I (c nd), I q, I 0] 50))
                have hsrc : ((wr.alloc (.cells #[I nd, I ((nn : Int) / 4 % 3), I (c nd), I q, I 0] 50)).alloc (.cells #[I nd, I ((nn : Int) / 4 % 3), I (c nd), I q, I 0] 50)).heap[wr.heap.size + 1]? = some (.cells #[I nd, I ((nn : Int) / 4 % 3), I (c nd), I q, I 0] 50 (0, 0)) := by
                  have := heap_alloc_new (wr.alloc (.cells #[I nd, I ((nn : Int) / 4 % 3), I (c nd), I q, I 0] 50)) (.cells #[I nd, I ((nn : Int) / 4 % 3), I (c nd), I q, I 0] 50)
                  simpa using this
                have hvb : ∀ b, (Value.slice sa sent.length sc).ownBlock = some b → wb.heap.size + 2 ≤ b ∧ b < wr.heap.size := fun b hb => own_lt hrm.so hb
                have hmb : Blk ((wr.alloc (.cells #[I nd, I ((nn : Int) / 4 % 3), I (c nd), I q, I 0] 50)).alloc (.cells #[I nd, I ((nn : Int) / 4 % 3), I (c nd), I q, I 0] 50)) wr.heap.size #[I nd, I ((nn : Int) / 4 % 3), I (c nd), I q, I 0] := (Blk.new wr _ 50).alloc _
                have Hmb := Lib.hid hmb
                have Hvb := Lib.hid hvb
                have Hrm2 := Lib.hid hrm2
                have Hsrc := Lib.hid hsrc
                have Hsl2 := Lib.hid hsl
                clear hsl hrm hrm2 hsrc hvb hmb
                go_upto_region 31 with (at_builtin; go_must (refine wpList_appB rfl _ _ 46 rfl 50 _ 5 40 Try.underlying46 info50 rfl (by omega) (by omega) (wb.heap.size + 2) _ _ _ rfl Hrm2.out.so (wr.heap.size + 1) 1 1 #[I nd, I ((nn : Int) / 4 % 3), I (c nd), I q, I 0] 50 rfl Hsrc.out rfl rfl (by omega) (by omega) (by simp; omega) ?_); intro g cap w5 hg1 hg2 hg3 ho5 hgr5 hB5; have cS5 : w5.cell? ⟨wb.heap.size, 10, none⟩ = some (.slice sa sent.length sc) := (Hrm2.out.s.grown hgr5 (fun e => by have := (Hvb.out _ e).1; omega)).cell 10; have fS5 := (Hrm2.out.s.grown hgr5 (fun e => by have := (Hvb.out _ e).1; omega)).frozen 10)
                have hmg : Msg.cells ⟨nd, (nn : Int) / 4 % 3, c nd, q, 0⟩ = #[I nd, I ((nn : Int) / 4 % 3), I (c nd), I q, I 0].toList := rfl
                have hrm6 := Hrm2.out.send (vs' := .slice (some ⟨g, 0, none⟩) (sent.length + 1) cap) (sent' := sent ++ [⟨nd, (nn : Int) / 4 % 3, c nd, q, 0⟩]) (by rw [msgs_snoc, List.length_append, hmg]; exact ho5) hgr5 (own_new hg3) hB5 Hfb.out
                obtain ⟨w6, hw6⟩ : ∃ w6 : World, w6 = w5.setCell ⟨wb.heap.size, 10, none⟩ (.slice (some ⟨g, 0, none⟩) (sent.length + 1) cap) := ⟨_, rfl⟩
                rw [← hw6]
                rw [← hw6] at hrm6
                have hm6 : Blk w6 wr.heap.size #[I nd, I ((nn : Int) / 4 % 3), I (c nd), I q, I 0] := by
                  rw [hw6]
                  exact (Hmb.out.grown hgr5 (fun e => by have := (Hvb.out _ e).2; omega)).setOther _ _ (by simp; omega)
                have cM0 : w6.cell? ⟨wr.heap.size, 0, none⟩ = some (I nd) := hm6.cell 0
                have cM1 : w6.cell? ⟨wr.heap.size, 1, none⟩ = some (I ((nn : Int) / 4 % 3)) := hm6.cell 1
                have cM2 : w6.cell? ⟨wr.heap.size, 2, none⟩ = some (I (c nd)) := hm6.cell 2
                have cM3 : w6.cell? ⟨wr.heap.size, 3, none⟩ = some (I q) := hm6.cell 3
                have cM4 : w6.cell? ⟨wr.heap.size, 4, none⟩ = some (I 0) := hm6.cell 4
                have hz6 : wr.heap.size < w6.heap.size := hm6.lt
                have hrm7 := hrm6.kept ((Below.refl _ _).alloc (Nat.le_refl _) (.cells #[I nd, I ((nn : Int) / 4 % 3), I (c nd), I q, I 0] 50))
                have Hrm7 := Lib.hid hrm7
                clear hw6 hm6 cC0 cC1 cC2 cS10 cS5 fS5 ho5 hgr5 hB5 hrm6 hrm7 hmg
                go_wp2_with (at_builtin; go_must (refine wpList_appB rfl _ _ 46 rfl 50 _ 5 40 Try.underlying46 info50 rfl (by omega) (by omega) (w.heap.size + 1) _ _ _ rfl Hrm7.out.fo w6.heap.size 1 1 #[I nd, I ((nn : Int) / 4 % 3), I (c nd), I q, I 0] 50 rfl (heap_alloc_new _ _) rfl rfl (by omega) (by omega) (by simp; omega) ?_); intro g7 cap7 w7 hg7 hg8 hg9 ho7 hgr7 hB7)
                go_roundw
                case rel =>
                  have hmg : Msg.cells ⟨nd, (nn : Int) / 4 % 3, c nd, q, 0⟩ = #[I nd, I ((nn : Int) / 4 % 3), I (c nd), I q, I 0].toList := rfl
                  refine ⟨q + 1, sent ++ [⟨nd, (nn : Int) / 4 % 3, c nd, q, 0⟩], fl' ++ [⟨nd, (nn : Int) / 4 % 3, c nd, q, 0⟩], _, by omega, by go_num, Hrm7.out.flight (by rw [msgs_snoc, List.length_append, hmg]; exact ho7) hgr7 (own_new hg9) (hB7.mono (by omega)) Hfb.out, by rw [List.length_append, Hsl2.out]; rfl, by rw [List.length_append]; simp; omega⟩
                case measure => simp [intOf]; omega
              · have hsl3 : sent.length ≤ 2 := by omega
                have hfl3 : fl'.length ≤ 2 * (k + 1) := by omega
                have hz := hrm.sz
                have hgl' := hrm.gl
                have Hrm := Lib.hid hrm
                have cC0 : wr.cell? ⟨wb.heap.size + 1, 0, none⟩ = some (I nd) := hrm.cs.cell 0
                have cC1 : wr.cell? ⟨wb.heap.size + 1, 1, none⟩ = some (I ((nn : Int) / 4 % 3)) := hrm.cs.cell 1
                have cC2 : wr.cell? ⟨wb.heap.size + 1, 2, none⟩ = some (I (c nd)) := hrm.cs.cell 2
                have cS8 : wr.cell? ⟨wb.heap.size, 8, none⟩ = some (.slice none 0 0) := hrm.s.cell 8
                have fS8 := hrm.s.frozen 8
                clear hrm hsl hfl
                go_upto_if 133 with fail
                go_cut [] from 17 to 148 (fun wd => RMC w.heap.size k w wb (Value.slice fa fl.length fc).ownBlock #[I nd, I ((nn : Int) / 4 % 3), I (c nd)] ev obs (.slice sa sent.length sc) sent (.slice fa' fl'.length fc') fl' wd)
                case first =>
                  by_cases hc7 : (nn : Int) / 17 % 3 = 2
                  · have hc8 : ((nn : Int) / 17 % 3 == 2) = true := by rw [hc7]; rfl
                    have hrm2 := Hrm.out.kept ((Below.refl _ _).alloc (Nat.le_refl _) (.cells #[I nd, I ((nn : Int) / 4 % 3), I (c nd), I 1, I 0, I 2, I ((nn : Int) / 51 % 2)] 59))
                    have Hrm2 := Lib.hid hrm2
                    have hlt29 : wb.heap.size < wr.heap.size := by omega
                    clear hc7 hrm2
                    go_wp2_with (at_builtin; go_must (refine wpList_appB rfl _ _ 53 rfl 59 _ 7 56 Try.underlying53 info59 rfl (by omega) (by omega) (wb.heap.size + 2) _ 0 [] rfl (World.ownsRow_nil _ _ _ _) wr.heap.size 1 1 #[I nd, I ((nn : Int) / 4 % 3), I (c nd), I 1, I 0, I 2, I ((nn : Int) / 51 % 2)] 59 rfl (heap_alloc_new _ _) rfl rfl (by omega) (by omega) (by simp; omega) ?_); intro g cap w5 hg1 hg2 hg3 ho5 hgr5 hB5; have cS5 : w5.cell? ⟨wb.heap.size, 8, none⟩ = some (.slice none 0 0) := (Hrm2.out.s.grown hgr5 (fun e => by cases e)).cell 8; have fS5 := (Hrm2.out.s.grown hgr5 (fun e => by cases e)).frozen 8)
                    go_meet
                    exact (Hrm2.out.ask (va' := .slice (some ⟨g, 0, none⟩) (0 + 1) cap) (asks' := [⟨nd, (nn : Int) / 4 % 3, c nd, 1, 0, 2, (nn : Int) / 51 % 2⟩]) ho5 hgr5 (own_new hg3) hB5 Hfb.out).toC (by simp)
                  · have hc8 : ((nn : Int) / 17 % 3 == 2) = false := by rw [beq_eq_false_iff_ne]; exact hc7
                    clear hc7
                    go_wp2_with fail
                    go_meet
                    exact Hrm.out.toC (by simp)
                case rest =>
                  clear Hrm cC0 cC1 cC2 cS8 fS8 hz
                  obtain ⟨va, asks, hrm, hal⟩ := hcut
                  obtain ⟨aa, ac, rfl, _⟩ := (Flat.of_owns hrm.ao).open
                  have hz := hrm.sz
                  have cS0 : wc.cell? ⟨wb.heap.size, 0, none⟩ = some (I ev.kind) := hrm.s.cell 0
                  have cS1 : wc.cell? ⟨wb.heap.size, 1, none⟩ = some (I ev.node) := hrm.s.cell 1
                  have cS2 : wc.cell? ⟨wb.heap.size, 2, none⟩ = some (I ev.arg) := hrm.s.cell 2
                  have cS3 : wc.cell? ⟨wb.heap.size, 3, none⟩ = some (I ev.msg.node) := hrm.s.cell 3
                  have cS4 : wc.cell? ⟨wb.heap.size, 4, none⟩ = some (I ev.msg.handler) := hrm.s.cell 4
                  have cS5 : wc.cell? ⟨wb.heap.size, 5, none⟩ = some (I ev.msg.count) := hrm.s.cell 5
                  have cS6 : wc.cell? ⟨wb.heap.size, 6, none⟩ = some (I ev.msg.index) := hrm.s.cell 6
                  have cS7 : wc.cell? ⟨wb.heap.size, 7, none⟩ = some (I ev.msg.copy) := hrm.s.cell 7
                  have cS8 : wc.cell? ⟨wb.heap.size, 8, none⟩ = some (.slice aa asks.length ac) := hrm.s.cell 8
                  have cS9 : wc.cell? ⟨wb.heap.size, 9, none⟩ = some (.bool obs) := hrm.s.cell 9
                  have cS10 : wc.cell? ⟨wb.heap.size, 10, none⟩ = some (.slice sa sent.length sc) := hrm.s.cell 10
                  have hoo := HR.out.out hrm
                  have Hoo := Lib.hid hoo
                  have Hrm := Lib.hid hrm
                  have hlt29 : wb.heap.size < wc.heap.size := by omega
                  clear hrm hoo
                  go_wp2_with (at_builtin; go_must (refine wpList_appB rfl _ _ 23 rfl 55 _ 11 120 Try.underlying23 info55 rfl (by omega) (by omega) (w.heap.size + 1) _ _ xs rfl (Hoo.out.alloc _) wc.heap.size 1 1 #[I ev.kind, I ev.node, I ev.arg, I ev.msg.node, I ev.msg.handler, I ev.msg.count, I ev.msg.index, I ev.msg.copy, .slice aa asks.length ac, .bool obs, .slice sa sent.length sc] 55 rfl (heap_alloc_new _ _) rfl rfl (by omega) (by omega) (by simp; omega) ?_); intro g cap w8 hg1 hg2 hg3 ho8 hgr8 hB8)
                  have hnext := HR.out.next Hrm.out hfl3 hal hsl3 ho8 hgr8 (own_new hg3) hB8
                  go_roundw
                  case rel =>
                    obtain ⟨P', hP'⟩ := hnext
                    exact ⟨k + 1, _, _, _, P', by omega, by omega, by go_num, by rw [List.length_append, Hsl.out]; rfl, hP'⟩
                  case measure => simp [intOf]; omega
    · have hge : l.length ≤ k ∨ most ≤ k := by omega
      have hres : StpSl wr (.slice oa steps.length oc) steps := ⟨xs, hR.sc.cells, Flat.of_owns hR.oo⟩
      have Hres := Lib.hid hres
      have Hok := Lib.hid hR.ok
      have Hbe := Lib.hid hR.be
      clear hres hR
      by_cases hlt1 : k < l.length
      · have hlt2 : ¬ k < most := fun h => hlt ⟨hlt1, h⟩
        clear hlt
        go_wp2_with fail
        go_ret
        exact ⟨_, _, rfl, Hres.out, by omega, Hok.out, Hbe.out⟩
      · clear hlt
        go_wp2_with fail
        go_ret
        exact ⟨_, _, rfl, Hres.out, by omega, Hok.out, Hbe.out⟩

end Go.Proofs.Ytaedfidfcoigoaa
