/- TraceClasses: the walk. -/
import Derived.Test.YtaedfidfcoigoaaK8
import Derived.Test.YtaedfidfcoigoaaN13
namespace Go.Proofs.Ytaedfidfcoigoaa
open Go.RowKit

theorem nextC {B : Nat} {a b c : World} (h : Below B a b) (h2 : Below b.heap.size b c) (hB : B ≤ a.heap.size) : Below B a c := h.trans (h2.mono (Nat.le_trans hB h.size))
/-- The runs that have been picked so far. -/
structure PR (W0 wr : World) (v : Value) (hs : List Value) (rs : List (List Stp)) : Prop where
  oo : wr.ownsRow W0.heap.size 23 1 v hs.length hs
  len : hs.length = rs.length
  sl : ∀ (j : Nat) (h : Value) (r : List Stp), hs[j]? = some h → rs[j]? = some r → StpSl W0 h r ∧ RunOk r
  be : Below W0.heap.size W0 wr
theorem PR.runs {W0 wr : World} {v : Value} {hs : List Value} {rs : List (List Stp)} (h : PR W0 wr v hs rs) : RunsSl wr v rs :=
  ⟨hs, by have := Flat.of_owns h.oo; rwa [h.len] at this, fun k x r h1 h2 => (h.sl k x r h1 h2).1.kept h.be (Nat.le_refl _)⟩
theorem PR.ok {W0 wr : World} {v : Value} {hs : List Value} {rs : List (List Stp)} (h : PR W0 wr v hs rs) : ∀ r ∈ rs, RunOk r := fun r hr => by
  obtain ⟨j, hj⟩ := List.getElem?_of_mem hr
  have hjl : j < hs.length := by rw [h.len]; exact (List.getElem?_eq_some_iff.1 hj).1
  exact (h.sl j _ r (List.getElem?_eq_getElem hjl) hj).2
theorem PR.push {W0 wr w' : World} {v v' x : Value} {r : List Stp} {hs : List Value} {rs : List (List Stp)} (h : PR W0 wr v hs rs) (hx : StpSl W0 x r) (hr : RunOk r) (ho : w'.ownsRow W0.heap.size 23 1 v' (hs.length + 1) (hs ++ [x])) (hb : Below W0.heap.size wr w') : PR W0 w' v' (hs ++ [x]) (rs ++ [r]) := by
  refine ⟨by rw [List.length_append]; exact ho, by simp [h.len], fun j y s h1 h2 => ?_, h.be.trans hb⟩
  by_cases e : j < hs.length
  · rw [List.getElem?_append_left e] at h1
    rw [List.getElem?_append_left (by rw [← h.len]; exact e)] at h2
    exact h.sl j y s h1 h2
  · rw [List.getElem?_append_right (by omega)] at h1
    have h0 : j - hs.length = 0 := by have := (List.getElem?_eq_some_iff.1 h1).1; simp at this; omega
    rw [List.getElem?_append_right (by rw [← h.len]; omega), ← h.len, h0] at h2
    rw [h0] at h1
    simp at h1 h2
    subst h1 h2
    exact ⟨hx, hr⟩
def sumTo (ls : List (List Nat)) (k : Nat) : Nat := ((ls.take k).map List.length).sum
theorem sumTo_succ (ls : List (List Nat)) (k : Nat) (h : k < ls.length) : sumTo ls (k + 1) = sumTo ls k + ls[k].length := by
  unfold sumTo
  rw [List.take_succ_eq_append_getElem h, List.map_append, List.sum_append_nat]
  simp
theorem sumTo_end (ls : List (List Nat)) : sumTo ls ls.length = (ls.map List.length).sum := by unfold sumTo; rw [List.take_length]
theorem sumTo_le (ls : List (List Nat)) (k : Nat) : sumTo ls k ≤ (ls.map List.length).sum := by
  unfold sumTo
  have e : (ls.map List.length).sum = ((ls.take k).map List.length).sum + ((ls.drop k).map List.length).sum := by
    rw [← List.sum_append_nat, ← List.map_append, List.take_append_drop]
  omega
theorem cls_total (F : List (List Stp)) (n : Nat) : (((clsL F n).map Prod.snd).map List.length).sum = n := by
  rw [List.map_map]
  exact clsL_sum F n

set_option maxHeartbeats 8000000 in
set_option maxRecDepth 100000 in
theorem lawClasses (l ml sl wl : List Int) (v0 v1 v2 v3 : Value) (w : World) (hl : IntSl w v0 l) (hm : IntSl w v1 ml) (hs : IntSl w v2 sl) (hw : IntSl w v3 wl) (hr : ∀ x ∈ l, InI64 x) (hr1 : ∀ x ∈ ml, InI64 x) (hr2 : ∀ x ∈ sl, InI64 x) (hr3 : ∀ x ∈ wl, InI64 x) :
    Calls Try.prog 5 #[v0, v1, v2, v3] w fun e w' => e = .returned (.bool true) ∧ Below w.heap.size w w' := by
  have H9 := Lib.hid (refRun l 8 v0 w hl hr (by omega))
  have Hr1 := Lib.hid hr1
  have Hr2 := Lib.hid hr2
  have Hr3 := Lib.hid hr3
  obtain ⟨kw, cw, rfl, hwm⟩ := hw.open
  clear hr hl hr1 hr2 hr3
  go_enter Try.func5, Try.ntmps5
  go_wp2_with fail
  refine H9.out.mono ?_
  rintro e w1 ⟨ua, ra, rfl, hra, hlena, hoka, hB1⟩
  have Hoka := Lib.hid hoka
  clear hoka H9
  go_wp2_with fail
  refine (refRun ml 8 _ _ (hm.kept hB1 (Nat.le_refl _)) Hr1.out (by omega)).mono ?_
  rintro e w2 ⟨ub, rb, rfl, hrb, hlenb, hokb, hB2⟩
  have hC2 := nextC hB1 hB2 (Nat.le_refl _)
  replace hra := hra.kept hB2 (Nat.le_refl _)
  have Hokb := Lib.hid hokb
  clear hokb hm
  go_wp2_with fail
  refine (refShuffle sl ra _ _ _ (hs.kept hC2 (Nat.le_refl _)) Hr2.out hra (by omega)).mono ?_
  rintro e w3 ⟨uc, rc, rfl, hrc, hswc, hB3⟩
  have hC3 := nextC hC2 hB3 (Nat.le_refl _)
  replace hra := hra.kept hB3 (Nat.le_refl _)
  replace hrb := hrb.kept hB3 (Nat.le_refl _)
  have hlenc : rc.length ≤ 8 := by rw [hswc.length]; exact hlena
  have Hokc := Lib.hid (show ∀ s ∈ rc, s.asks.length ≤ 1 ∧ s.sent.length ≤ 2 from fun s hs' => Hoka.out s ((hswc.mem s).1 hs'))
  clear hswc
  go_wp2_with fail
  refine (refShuffle sl rb _ _ _ (hs.kept hC3 (Nat.le_refl _)) Hr2.out hrb (by omega)).mono ?_
  rintro e w4 ⟨ud, rd, rfl, hrd, hswd, hB4⟩
  have hC4 := nextC hC3 hB4 (Nat.le_refl _)
  replace hra := hra.kept hB4 (Nat.le_refl _)
  replace hrb := hrb.kept hB4 (Nat.le_refl _)
  replace hrc := hrc.kept hB4 (Nat.le_refl _)
  have hlend : rd.length ≤ 8 := by rw [hswd.length]; exact hlenb
  have Hokd := Lib.hid (show ∀ s ∈ rd, s.asks.length ≤ 1 ∧ s.sent.length ≤ 2 from fun s hs' => Hokb.out s ((hswd.mem s).1 hs'))
  clear hswd hs
  go_wp2_with fail
  refine (refForced ra 1 _ _ hra (by omega) ⟨by omega, by omega⟩).mono ?_
  rintro e w5 ⟨ue, re, rfl, hre, hlene0, hmeme, hB5⟩
  have hlene : re.length ≤ 8 := by omega
  clear hlene0
  have hC5 := nextC hC4 hB5 (Nat.le_refl _)
  replace hra := hra.kept hB5 (Nat.le_refl _)
  replace hrb := hrb.kept hB5 (Nat.le_refl _)
  replace hrc := hrc.kept hB5 (Nat.le_refl _)
  replace hrd := hrd.kept hB5 (Nat.le_refl _)
  have Hoke := Lib.hid (show ∀ s ∈ re, s.asks.length ≤ 1 ∧ s.sent.length ≤ 2 from fun s hs' => Hoka.out s (hmeme s hs'))
  clear hmeme
  obtain ⟨p0, q0, rfl, _⟩ := hra.open
  obtain ⟨p1, q1, rfl, _⟩ := hrc.open
  obtain ⟨p2, q2, rfl, _⟩ := hrb.open
  obtain ⟨p3, q3, rfl, _⟩ := hrd.open
  obtain ⟨p4, q4, rfl, _⟩ := hre.open
  have hA : Below w5.heap.size w5 (w5.alloc (.cells #[.slice p0 ra.length q0, .slice p1 rc.length q1, .slice p2 rb.length q2, .slice p3 rd.length q3, .slice p4 re.length q4, .slice none 0 0] 23)) := (Below.refl _ _).alloc (Nat.le_refl _) _
  have hpick : ∀ nn : Nat, nn < 6 → ∃ (a : Option Addr) (c : Nat) (r : List Stp), (w5.alloc (.cells #[.slice p0 ra.length q0, .slice p1 rc.length q1, .slice p2 rb.length q2, .slice p3 rd.length q3, .slice p4 re.length q4, .slice none 0 0] 23)).cell? ⟨w5.heap.size, nn, none⟩ = some (.slice a r.length c) ∧ StpSl (w5.alloc (.cells #[.slice p0 ra.length q0, .slice p1 rc.length q1, .slice p2 rb.length q2, .slice p3 rd.length q3, .slice p4 re.length q4, .slice none 0 0] 23)) (.slice a r.length c) r ∧ RunOk r := by
    intro nn hnn
    have hb := (Blk.new w5 #[.slice p0 ra.length q0, .slice p1 rc.length q1, .slice p2 rb.length q2, .slice p3 rd.length q3, .slice p4 re.length q4, .slice none 0 0] 23).cell
    have h6 : nn = 0 ∨ nn = 1 ∨ nn = 2 ∨ nn = 3 ∨ nn = 4 ∨ nn = 5 := by omega
    rcases h6 with rfl | rfl | rfl | rfl | rfl | rfl
    · exact ⟨p0, q0, ra, hb 0, hra.kept hA (Nat.le_refl _), run_ok hlena (by omega) Hoka.out⟩
    · exact ⟨p1, q1, rc, hb 1, hrc.kept hA (Nat.le_refl _), run_ok hlenc (by omega) Hokc.out⟩
    · exact ⟨p2, q2, rb, hb 2, hrb.kept hA (Nat.le_refl _), run_ok hlenb (by omega) Hokb.out⟩
    · exact ⟨p3, q3, rd, hb 3, hrd.kept hA (Nat.le_refl _), run_ok hlend (by omega) Hokd.out⟩
    · exact ⟨p4, q4, re, hb 4, hre.kept hA (Nat.le_refl _), run_ok hlene (by omega) Hoke.out⟩
    · exact ⟨none, 0, [], hb 5, StpSl.nil _ _ _, ⟨by simp, fun s hs => by simp at hs, fun s hs => by simp at hs⟩⟩
  have hC6 := nextC hC5 hA (Nat.le_refl _)
  go_wp2_with fail
  generalize hW0 : w5.alloc (.cells #[.slice p0 ra.length q0, .slice p1 rc.length q1, .slice p2 rb.length q2, .slice p3 rd.length q3, .slice p4 re.length q4, .slice none 0 0] 23) = W0 at hpick hC6 ⊢
  have hgW : w5.heap.size < W0.heap.size := by rw [← hW0, World.size_alloc]; omega
  have hw0 := hw.kept hC6 (Nat.le_refl _)
  have Hpick := Lib.hid hpick
  have HC6 := Lib.hid hC6
  clear hW0 hpick hC6 hA hra hrb hrc hrd hre hw hB1 hB2 hB3 hB4 hB5 hC2 hC3 hC4 hC5
  go_loopw [12, 13] (fun v p wr => ∃ (k : Nat) (hs : List Value) (rs : List (List Stp)), k ≤ wl.length ∧ k ≤ 6 ∧ rs.length = k ∧ p = .int .i64 k ∧ PR W0 wr v hs rs) (fun _ p _ => wl.length - (intOf p).toNat)
  case atStart => exact ⟨0, [], [], by omega, by omega, rfl, rfl, ⟨World.ownsRow_nil _ _ _ _, rfl, fun j h r e => by simp at e, Below.refl _ _⟩⟩
  case round =>
    obtain ⟨k, hs, rs, hk, hk6, hrl, rfl, hP⟩ := hrel
    obtain ⟨vr, rfl⟩ : ∃ vr : Value, vr = u12 := ⟨_, rfl⟩
    have HP := Lib.hid hP
    have Hrl := Lib.hid hrl
    clear hP hrl
    by_cases hgo : k < wl.length ∧ k < 6
    · obtain ⟨hlt, hlt6⟩ := hgo
      obtain ⟨x, hx⟩ : ∃ x, wl[k]? = some x := ⟨wl[k], by simp [hlt]⟩
      obtain ⟨hx1, hx2⟩ := Hr3.out x (List.mem_of_getElem? hx)
      obtain ⟨b, o, rfl, hcx⟩ := (hw0.kept HP.out.be (Nat.le_refl _)).at hx
      have har := around_range x 6 (by omega)
      obtain ⟨nn, hnn⟩ : ∃ nn : Nat, around x 6 = nn := ⟨_, (Int.toNat_of_nonneg har.1).symm⟩
      have hn6 : nn < 6 := by omega
      obtain ⟨pa, pc, pr, hcell, hsl, hrok⟩ := Hpick.out nn hn6
      replace hcell := cell_below HP.out.be (Nat.le_refl _) hcell
      have Hsl := Lib.hid hsl
      have Hrok := Lib.hid hrok
      have Hnn := Lib.hid hnn
      have Haround := Lib.hid (around_any x 6 wr (by omega) hx1 hx2)
      have hzz := HP.out.be.size
      have hhl : hs.length ≤ 6 := by rw [HP.out.len, Hrl.out]; exact hk6
      have b0 : (0 : Int) ≤ (nn : Int) := by omega
      have b1 : (nn : Int) < 6 := by omega
      clear har hnn hsl hrok hx
      go_wp2_with fail
      refine Haround.out.mono ?_
      rintro e w6 ⟨rfl, rfl⟩
      rw [Hnn.out]
      go_wp2_with (at_builtin; go_must (refine wpList_appB rfl _ _ 33 rfl 23 _ 1 24 Try.underlying33 info23 rfl (by omega) (by omega) W0.heap.size vr hs.length hs rfl (HP.out.oo.alloc _) wr.heap.size 1 1 #[.slice pa pr.length pc] 23 rfl (heap_alloc_new _ _) rfl rfl (by omega) (by omega) (by rw [World.size_alloc]; omega) ?_); intro g7 cap7 w7 hg1 hg2 hg3 ho7 hgr7 hB7)
      have hP7 := HP.out.push Hsl.out Hrok.out ho7 (((Below.refl wr.heap.size wr).alloc (Nat.le_refl _) _ |>.mono hzz).trans hB7)
      have HP7 := Lib.hid hP7
      clear hP7 ho7 hgr7 hB7 hg1 hg2 hg3 hcell hcx
      go_roundw
      case rel => exact ⟨k + 1, _, _, by omega, by omega, by rw [List.length_append, Hrl.out]; rfl, by go_num, HP7.out⟩
      case measure => simp [intOf]; omega
    · have hruns := HP.out.runs
      have hrok := HP.out.ok
      have hrl6 : rs.length ≤ 6 := by rw [Hrl.out]; exact hk6
      have hC7 := nextC HC6.out HP.out.be (Nat.le_refl _)
      obtain ⟨ka, ca, rfl, _⟩ := hruns.open
      have Hcls := Lib.hid (trClasses rs _ wr hruns hrl6 hrok)
      have Hrok := Lib.hid hrok
      have hstop : ¬ (k < wl.length) ∨ (k < wl.length ∧ ¬ (k < 6)) := by omega
      clear hrok HP Hrl hgo
      rcases hstop with hstop | ⟨hs1, hstop⟩
      all_goals
        go_wp2_with fail
        refine Hcls.out.mono ?_
        rintro e w8 ⟨u, rfl, hu, hB8⟩
        have hC8 := nextC hC7 hB8 (Nat.le_refl _)
        have hruns8 := hruns.kept hB8 (Nat.le_refl _)
        have htot := cls_total (rs.map normS) rs.length
        obtain ⟨cls, hcls⟩ : ∃ c, c = (clsL (rs.map normS) rs.length).map Prod.snd := ⟨_, rfl⟩
        rw [← hcls] at hu htot
        have Hcls2 := Lib.hid hcls
        have Htot := Lib.hid htot
        obtain ⟨kc, cc, rfl, _⟩ := hu.open
        clear hcls htot Hcls
        go_wp2_with fail
        go_loop [15, 16] (fun q p => ∃ m : Nat, m ≤ cls.length ∧ p = .int .i64 m ∧ q = .int .i64 (sumTo cls m)) (fun _ p => cls.length - (intOf p).toNat)
        case atStart => exact ⟨0, by omega, rfl, rfl⟩
        case round =>
          obtain ⟨m, hm, rfl, rfl⟩ := hrel
          have hsb := sumTo_le cls m
          rw [Htot.out] at hsb
          by_cases hlt2 : m < cls.length
          · obtain ⟨b2, o2, x2, rfl, hx2, hi2⟩ := hu.at (k := m) (l := cls[m]) (by simp [hlt2])
            obtain ⟨y2, d2, rfl, _⟩ := hi2.open
            have hsucc := sumTo_succ cls m hlt2
            have hsb2 := sumTo_le cls (m + 1)
            rw [Htot.out, hsucc] at hsb2
            have Hsucc := Lib.hid hsucc
            rw [natI_length] at hx2
            clear hi2 hsucc
            go_wp2_with fail
            go_round
            case rel => exact ⟨m + 1, by omega, by go_num, by rw [Hsucc.out]; go_num⟩
            case measure => simp [intOf]; omega
          · have hend : sumTo cls m = rs.length := by rw [show m = cls.length by omega, sumTo_end]; exact Htot.out
            rw [hend]
            clear hend hsb
            go_wp2_with fail
            refine (refClasses rs _ _ hruns8 hrl6 Hrok.out).mono ?_
            rintro e w9 ⟨u9, rfl, hu9, hB9⟩
            rw [← Hcls2.out] at hu9
            have hC9 := nextC hC8 hB9 (Nat.le_refl _)
            obtain ⟨k9, c9, rfl, _⟩ := hu9.open
            go_wp2_with fail
            refine (sameClasses cls _ _ _ (hu.kept hB9 (Nat.le_refl _)) hu9).mono ?_
            rintro e w10 ⟨rfl, hB10⟩
            have hC10 := nextC hC9 hB10 (Nat.le_refl _)
            have heq : ((rs.length : Int) == (rs.length : Int)) = true := by simp
            go_wp2_with fail
            refine (lives _).mono ?_
            rintro e w11 ⟨rfl, hB11⟩
            have hC11 := nextC hC10 hB11 (Nat.le_refl _)
            go_wp2_with fail
            go_ret
            exact ⟨rfl, hC11⟩

end Go.Proofs.Ytaedfidfcoigoaa
