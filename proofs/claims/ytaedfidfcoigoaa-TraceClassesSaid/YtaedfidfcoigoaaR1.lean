/- Comparing steps and runs: the reference's SameStep, SameRun, SameInts; Around, Has. -/
import Derived.Test.YtaedfidfcoigoaaOps
import Derived.BigQuiet
import Derived.StillTailTactics
namespace Go.Proofs.Ytaedfidfcoigoaa
open Go.RowKit

set_option maxHeartbeats 400000 in
theorem sameStep_yes (s t : Stp) (v u : Value) (w : World) (hs : s.In w v) (ht : t.In w u) (he : s.ev = t.ev) (ho : s.obs = t.obs) (hla : s.asks.length = t.asks.length) (hls : s.sent.length = t.sent.length) :
    Calls Try.prog 34 #[v, u] w fun e w' => e = .returned (.bool (decide (s = t))) ∧ Below w.heap.size w w' := by
  obtain ⟨va, vs, rfl, hsa, hss⟩ := hs
  obtain ⟨ua, us, rfl, hta, hts⟩ := ht
  obtain ⟨ka, ca, rfl, hma⟩ := hsa.open
  obtain ⟨kb, cb, rfl, _⟩ := hta.open
  obtain ⟨qa, da, rfl, hms⟩ := hss.open
  obtain ⟨qb, db, rfl, _⟩ := hts.open
  obtain ⟨se, sa, so, ss⟩ := s
  obtain ⟨te, ta, to, ts⟩ := t
  dsimp only at he ho hla hls hsa hss hta hts hma hms
  subst he ho
  obtain ⟨k0, k1, k2, ⟨k3, k4, k5, k6, k7⟩⟩ := se
  have Hla := Lib.hid hla
  have Hls := Lib.hid hls
  simp only [← hla, ← hls, Stp.val, Stp.row] at hta hts ⊢
  clear hla hls
  have ev := eqL_true (rfl : [k0, k1, k2, k3, k4, k5, k6, k7] = [k0, k1, k2, k3, k4, k5, k6, k7])
  go_enter Try.func34, Try.ntmps34
  go_wp2
  go_loopw [5] (fun i wr => ∃ k : Nat, k ≤ sa.length ∧ i = .int .i64 k ∧ Below w.heap.size w wr ∧ (∀ j < k, sa[j]? = ta[j]?) ∧
      Blk wr w.heap.size #[I k0, I k1, I k2, I k3, I k4, I k5, I k6, I k7, .slice ka sa.length ca, .bool so, .slice qa ss.length da] ∧
      Blk wr (w.heap.size + 1) #[I k0, I k1, I k2, I k3, I k4, I k5, I k6, I k7, .slice kb sa.length cb, .bool so, .slice qb ss.length db]) (fun i _ => sa.length - (intOf i).toNat)
  case atStart =>
    refine ⟨0, by omega, rfl, ((Below.refl _ _).alloc (Nat.le_refl _) _).alloc (by simp) _, fun j hj => absurd hj (by omega), (Blk.new _ _ _).alloc _, ?_⟩
    have := Blk.new (w.alloc (.cells #[I k0, I k1, I k2, I k3, I k4, I k5, I k6, I k7, .slice ka sa.length ca, .bool so, .slice qa ss.length da] 55)) #[I k0, I k1, I k2, I k3, I k4, I k5, I k6, I k7, .slice kb sa.length cb, .bool so, .slice qb ss.length db] 55
    simpa using this
  case round =>
    obtain ⟨k, hk, rfl, hB, hE, hb1, hb2⟩ := hrel
    have HE := Lib.hid hE
    clear hE
    have hc1 := hb1.cell
    have hc2 := hb2.cell
    by_cases hlt : k < sa.length
    · have hlt2 : k < ta.length := by have := Hla.out; omega
      obtain ⟨b, o, rfl, x0, x1, x2, x3, x4, x5, x6⟩ := (hsa.kept hB (Nat.le_refl _)).at (i := k) (x := sa[k]) (by simp [hlt])
      obtain ⟨b', o', rfl, y0, y1, y2, y3, y4, y5, y6⟩ := (hta.kept hB (Nat.le_refl _)).at (i := k) (x := ta[k]) (by simp [hlt2])
      by_cases hx : sa[k].ints = ta[k].ints
      · have Hx := Lib.hid hx
        have hq := eqL_true hx
        clear hx
        unfold Ask.ints at hq
        go_wp2
        go_quiet (fail)
        go_wp2
        go_roundw
        case rel =>
          refine ⟨k + 1, by omega, by go_num, below_drewN hB nq, ?_, hb1.drewN nq, hb2.drewN nq⟩
          intro j hj
          by_cases hjk : j = k
          · subst hjk
            simp [hlt, hlt2, Ask.ints_inj.1 Hx.out]
          · exact HE.out j (by omega)
        case measure => simp [intOf]; omega
      · have Hx := Lib.hid hx
        have hq := eqL_false hx
        clear hx
        unfold Ask.ints at hq
        go_wp2
        go_quiet (fail)
        go_wp2
        go_ret
        refine ⟨ret_bool ?_, below_drewN hB nq⟩
        symm
        rw [decide_eq_false_iff_not]
        intro h
        have h2 : sa = ta := by injection h
        exact Hx.out (by subst h2; rfl)
    · have HA := Lib.hid (ext_of Hla.out (fun j hj => HE.out j (by omega)))
      go_wp2
      go_loopw [6] (fun i w2 => ∃ m : Nat, m ≤ ss.length ∧ i = .int .i64 m ∧ Below w.heap.size w w2 ∧ (∀ j < m, ss[j]? = ts[j]?) ∧
        Blk w2 w.heap.size #[I k0, I k1, I k2, I k3, I k4, I k5, I k6, I k7, .slice ka sa.length ca, .bool so, .slice qa ss.length da] ∧
        Blk w2 (w.heap.size + 1) #[I k0, I k1, I k2, I k3, I k4, I k5, I k6, I k7, .slice kb sa.length cb, .bool so, .slice qb ss.length db]) (fun i _ => ss.length - (intOf i).toNat)
      case atStart => exact ⟨0, by omega, rfl, hB, fun j hj => absurd hj (by omega), hb1, hb2⟩
      case round =>
        clear hc1 hc2 hb1 hb2 hB HE
        obtain ⟨m, hm, rfl, hB, hE, hb1, hb2⟩ := hrel
        have HE := Lib.hid hE
        clear hE
        have hc1 := hb1.cell
        have hc2 := hb2.cell
        by_cases hlt : m < ss.length
        · have hlt2 : m < ts.length := by have := Hls.out; omega
          obtain ⟨b, o, rfl, x0, x1, x2, x3, x4⟩ := (hss.kept hB (Nat.le_refl _)).at (i := m) (x := ss[m]) (by simp [hlt])
          obtain ⟨b', o', rfl, y0, y1, y2, y3, y4⟩ := (hts.kept hB (Nat.le_refl _)).at (i := m) (x := ts[m]) (by simp [hlt2])
          by_cases hx : ss[m].ints = ts[m].ints
          · have Hx := Lib.hid hx
            have hq := eqL_true hx
            clear hx
            unfold Msg.ints at hq
            go_wp2
            go_quiet (fail)
            go_wp2
            go_roundw
            case rel =>
              refine ⟨m + 1, by omega, by go_num, below_drewN hB nq, ?_, hb1.drewN nq, hb2.drewN nq⟩
              intro j hj
              by_cases hjk : j = m
              · subst hjk
                simp [hlt, hlt2, Msg.ints_inj.1 Hx.out]
              · exact HE.out j (by omega)
            case measure => simp [intOf]; omega
          · have Hx := Lib.hid hx
            have hq := eqL_false hx
            clear hx
            unfold Msg.ints at hq
            go_wp2
            go_quiet (fail)
            go_wp2
            go_ret
            refine ⟨ret_bool ?_, below_drewN hB nq⟩
            symm
            rw [decide_eq_false_iff_not]
            intro h
            have h2 : ss = ts := by injection h
            exact Hx.out (by subst h2; rfl)
        · have HS := Lib.hid (ext_of Hls.out (fun j hj => HE.out j (by omega)))
          go_wp2
          go_ret
          refine ⟨ret_bool ?_, hB⟩
          symm
          rw [decide_eq_true_iff, HA.out, HS.out]

theorem bodyPost_any {P : Program} {fn : Func} {R : Ending → World → Prop} {a : Act} {w : World} {v : Value}
    (hr : (results fn a.tmps).run P w = .ok v w) (hd : a.defers = []) (hR : R (.returned v) w) : bodyPost P fn R .ret a w := ⟨hd, v, hr, hR⟩

set_option maxHeartbeats 400000 in
theorem sameStep_no (s t : Stp) (v u : Value) (w : World) (hs : s.In w v) (ht : t.In w u) (hn : ¬ (s.ev = t.ev ∧ s.obs = t.obs ∧ s.asks.length = t.asks.length ∧ s.sent.length = t.sent.length)) :
    Calls Try.prog 34 #[v, u] w fun e w' => e = .returned (.bool false) ∧ Below w.heap.size w w' := by
  obtain ⟨va, vs, rfl, hsa, hss⟩ := hs
  obtain ⟨ua, us, rfl, hta, hts⟩ := ht
  obtain ⟨ka, ca, rfl, hma⟩ := hsa.open
  obtain ⟨kb, cb, rfl, _⟩ := hta.open
  obtain ⟨qa, da, rfl, hms⟩ := hss.open
  obtain ⟨qb, db, rfl, _⟩ := hts.open
  obtain ⟨se, sa, so, ss⟩ := s
  obtain ⟨te, ta, to, ts⟩ := t
  dsimp only at hn hsa hss hta hts hma hms
  simp only [Stp.val, Stp.row]
  have hBB : ∀ X Y : Obj, Below w.heap.size w ((w.alloc X).alloc Y) := fun X Y => ((Below.refl _ _).alloc (Nat.le_refl _) _).alloc (by simp) _
  have HB := Lib.hid hBB
  clear hBB
  by_cases h1 : se.ints = te.ints
  · have e1 := eqL_true h1
    have H1 := Lib.hid h1
    clear h1
    obtain ⟨k0, k1, k2, ⟨k3, k4, k5, k6, k7⟩⟩ := se
    obtain ⟨j0, j1, j2, ⟨j3, j4, j5, j6, j7⟩⟩ := te
    simp only [Ev.ints] at e1
    by_cases h2 : so = to
    · subst h2
      by_cases h3 : sa.length = ta.length
      · have e3 : ((sa.length : Int) != (ta.length : Int)) = false := by rw [h3]; simp
        have e4 : ((ss.length : Int) != (ts.length : Int)) = true := by
          rw [bne_iff_ne]
          intro h4
          exact hn ⟨Ev.ints_inj.1 H1.out, rfl, h3, by omega⟩
        clear h3
        go_enter Try.func34, Try.ntmps34
        go_wp2
        go_ret
        exact ⟨rfl, HB.out _ _⟩
      · have e3 : ((sa.length : Int) != (ta.length : Int)) = true := by rw [bne_iff_ne]; omega
        clear h3
        go_enter Try.func34, Try.ntmps34
        go_wp2
        go_ret
        exact ⟨rfl, HB.out _ _⟩
    · have e2 : (so == to) = false := by simpa using h2
      go_enter Try.func34, Try.ntmps34
      go_wp2
      go_ret
      exact ⟨rfl, HB.out _ _⟩
  · have e1 := eqL_false h1
    clear h1
    obtain ⟨k0, k1, k2, ⟨k3, k4, k5, k6, k7⟩⟩ := se
    obtain ⟨j0, j1, j2, ⟨j3, j4, j5, j6, j7⟩⟩ := te
    simp only [Ev.ints] at e1
    go_enter Try.func34, Try.ntmps34
    go_wp2
    go_ret
    exact ⟨rfl, HB.out _ _⟩

theorem sameStep (s t : Stp) (v u : Value) (w : World) (hs : s.In w v) (ht : t.In w u) :
    Calls Try.prog 34 #[v, u] w fun e w' => e = .returned (.bool (decide (s = t))) ∧ Below w.heap.size w w' := by
  by_cases h : s.ev = t.ev ∧ s.obs = t.obs ∧ s.asks.length = t.asks.length ∧ s.sent.length = t.sent.length
  · exact sameStep_yes s t v u w hs ht h.1 h.2.1 h.2.2.1 h.2.2.2
  · refine (sameStep_no s t v u w hs ht h).mono fun e w' ⟨h1, h2⟩ => ⟨?_, h2⟩
    rw [h1]
    refine ret_bool ?_
    symm
    rw [decide_eq_false_iff_not]
    intro e
    exact h (by rw [e]; exact ⟨rfl, rfl, rfl, rfl⟩)

theorem sameStep_eq {s t : Stp} {v u : Value} {w : World} (hs : s.In w v) (ht : t.In w u) (h : s = t) :
    Calls Try.prog 34 #[v, u] w fun e w' => e = .returned (.bool true) ∧ Below w.heap.size w w' := by
  have := sameStep s t v u w hs ht
  rwa [decide_eq_true h] at this
theorem sameStep_ne {s t : Stp} {v u : Value} {w : World} (hs : s.In w v) (ht : t.In w u) (h : s ≠ t) :
    Calls Try.prog 34 #[v, u] w fun e w' => e = .returned (.bool false) ∧ Below w.heap.size w w' := by
  have := sameStep s t v u w hs ht
  rwa [decide_eq_false h] at this

/-- What Around computes. -/
def around (n most : Int) : Int := (if n < 0 then -(n + 1) else n) % most
theorem around_range (n most : Int) (h : 1 ≤ most) : 0 ≤ around n most ∧ around n most < most := by
  unfold around
  exact ⟨Int.emod_nonneg _ (by omega), Int.emod_lt_of_pos _ (by omega)⟩

set_option maxHeartbeats 400000 in
theorem around_any (n most : Int) (w : World) (h1 : 1 ≤ most) (ha : -9223372036854775808 ≤ n) (hb : n ≤ 9223372036854775807) : Calls Try.prog 14 #[I n, I most] w fun e w' => e = .returned (I (around n most)) ∧ w = w' := by
  have hz : (most == 0) = false := by rw [beq_eq_false_iff_ne]; omega
  by_cases hneg : n < 0
  · go_enter Try.func14, Try.ntmps14
    go_wp2
    go_ret
    refine ⟨ret_int ?_, rfl⟩
    unfold around
    rw [if_pos hneg, ← Int.neg_tmod, Int.tmod_eq_emod_of_nonneg (by omega)]
  · go_enter Try.func14, Try.ntmps14
    go_wp2
    go_ret
    refine ⟨ret_int ?_, rfl⟩
    unfold around
    rw [if_neg (by omega)]

set_option maxHeartbeats 400000 in
theorem sameInts (l m : List Int) (v u : Value) (w : World) (hl : IntSl w v l) (hm : IntSl w u m) :
    Calls Try.prog 41 #[v, u] w fun e w' => e = .returned (.bool (decide (l = m))) ∧ ∃ n, w' = w.drewN n := by
  obtain ⟨ka, ca, rfl, hml⟩ := hl.open
  obtain ⟨kb, cb, rfl, hmm⟩ := hm.open
  by_cases hlen : l.length = m.length
  · have Hlen := Lib.hid hlen
    simp only [← hlen] at hm ⊢
    clear hlen hmm
    have e0 : ((l.length : Int) != (l.length : Int)) = false := by simp
    go_enter Try.func41, Try.ntmps41
    go_wp2
    go_loopw [5] (fun i wr => ∃ k n : Nat, k ≤ l.length ∧ i = .int .i64 k ∧ wr = w.drewN n ∧ (∀ j < k, l[j]? = m[j]?)) (fun i _ => l.length - (intOf i).toNat)
    case atStart => exact ⟨0, 0, by omega, rfl, rfl, fun j hj => absurd hj (by omega)⟩
    case round =>
      obtain ⟨k, n, hk, rfl, rfl, hE⟩ := hrel
      have HE := Lib.hid hE
      clear hE
      by_cases hlt : k < l.length
      · have hlt2 : k < m.length := by have := Hlen.out; omega
        obtain ⟨b, o, rfl, x0⟩ := hl.at (i := k) (x := l[k]) (by simp [hlt])
        obtain ⟨b', o', rfl, y0⟩ := hm.at (i := k) (x := m[k]) (by simp [hlt2])
        by_cases hx : l[k] = m[k]
        · have Hx := Lib.hid hx
          have hq : (l[k] != m[k]) = false := by simp [hx]
          clear hx
          go_wp2
          go_quiet (fail)
          go_wp2
          go_roundw
          case rel =>
            refine ⟨k + 1, n + nq, by omega, by go_num, rfl, ?_⟩
            intro j hj
            by_cases hjk : j = k
            · subst hjk
              simp [hlt, hlt2, Hx.out]
            · exact HE.out j (by omega)
          case measure => simp [intOf]; omega
        · have Hx := Lib.hid hx
          have hq : (l[k] != m[k]) = true := by simp [hx]
          clear hx
          go_wp2
          go_quiet (fail)
          go_wp2
          go_ret
          refine ⟨ret_bool ?_, n + nq, by simp⟩
          symm
          rw [decide_eq_false_iff_not]
          intro h
          exact Hx.out (by subst h; rfl)
      · have HA := Lib.hid (ext_of Hlen.out (fun j hj => HE.out j (by omega)))
        go_wp2
        go_ret
        refine ⟨ret_bool ?_, n, rfl⟩
        symm
        rw [decide_eq_true_iff, HA.out]
  · have e0 : ((l.length : Int) != (m.length : Int)) = true := by rw [bne_iff_ne]; omega
    have Hlen := Lib.hid hlen
    clear hlen
    go_enter Try.func41, Try.ntmps41
    go_wp2
    go_ret
    refine ⟨ret_bool ?_, 0, rfl⟩
    symm
    rw [decide_eq_false_iff_not]
    intro h
    exact Hlen.out (by rw [h])

set_option maxHeartbeats 400000 in
theorem has_any (l : List Int) (n : Int) (v : Value) (w : World) (hl : IntSl w v l) :
    Calls Try.prog 49 #[v, I n] w fun e w' => e = .returned (.bool (decide (n ∈ l))) ∧ w = w' := by
  obtain ⟨ka, ca, rfl, hml⟩ := hl.open
  go_enter Try.func49, Try.ntmps49
  go_wp2
  go_loop [5] (fun i => ∃ k : Nat, k ≤ l.length ∧ i = .int .i64 k ∧ (∀ j < k, l[j]? ≠ some n)) (fun i => l.length - (intOf i).toNat)
  case atStart => exact ⟨0, by omega, rfl, fun j hj => absurd hj (by omega)⟩
  case round =>
    obtain ⟨k, hk, rfl, hE⟩ := hrel
    have HE := Lib.hid hE
    clear hE
    by_cases hlt : k < l.length
    · obtain ⟨b, o, rfl, x0⟩ := hl.at (i := k) (x := l[k]) (by simp [hlt])
      by_cases hx : l[k] = n
      · have Hx := Lib.hid hx
        have hq : (l[k] == n) = true := by simp [hx]
        clear hx
        go_wp2
        go_ret
        refine ⟨ret_bool ?_, rfl⟩
        symm
        rw [decide_eq_true_iff, ← Hx.out]
        simp
      · have Hx := Lib.hid hx
        have hq : (l[k] == n) = false := by simp [hx]
        clear hx
        go_wp2
        go_round
        case rel =>
          refine ⟨k + 1, by omega, by go_num, ?_⟩
          intro j hj
          by_cases hjk : j = k
          · subst hjk
            simp [hlt, Hx.out]
          · exact HE.out j (by omega)
        case measure => simp [intOf]; omega
    · go_wp2
      go_ret
      refine ⟨ret_bool ?_, rfl⟩
      symm
      rw [decide_eq_false_iff_not]
      intro h
      obtain ⟨j, hj⟩ := List.getElem?_of_mem h
      exact HE.out j (by have := (List.getElem?_eq_some_iff.1 hj).1; omega) hj

set_option maxHeartbeats 400000 in
set_option maxRecDepth 100000 in
theorem sameRun (l m : List Stp) (v u : Value) (w : World) (hl : StpSl w v l) (hm : StpSl w u m) :
    Calls Try.prog 15 #[v, u] w fun e w' => e = .returned (.bool (decide (l = m))) ∧ Below w.heap.size w w' := by
  obtain ⟨ka, ca, rfl, hml⟩ := hl.open
  obtain ⟨kb, cb, rfl, hmm⟩ := hm.open
  by_cases hlen : l.length = m.length
  · have Hlen := Lib.hid hlen
    simp only [← hlen] at hm ⊢
    clear hlen hmm
    have e0 : ((l.length : Int) != (l.length : Int)) = false := by simp
    go_enter Try.func15, Try.ntmps15
    go_wp2
    go_loopw [5] (fun i wr => ∃ k : Nat, k ≤ l.length ∧ i = .int .i64 k ∧ Below w.heap.size w wr ∧ (∀ j < k, l[j]? = m[j]?)) (fun i _ => l.length - (intOf i).toNat)
    case atStart => exact ⟨0, by omega, rfl, Below.refl _ _, fun j hj => absurd hj (by omega)⟩
    case round =>
      obtain ⟨k, hk, rfl, hB, hE⟩ := hrel
      have HE := Lib.hid hE
      clear hE
      by_cases hlt : k < l.length
      · have hlt2 : k < m.length := by have := Hlen.out; omega
        obtain ⟨b, o, va, vs, rfl, hva, hvs, x0, x1, x2, x3, x4, x5, x6, x7, x8, x9, x10⟩ := (hl.kept hB (Nat.le_refl _)).at (i := k) (s := l[k]) (by simp [hlt])
        obtain ⟨b', o', ua, us, rfl, hua, hus, y0, y1, y2, y3, y4, y5, y6, y7, y8, y9, y10⟩ := (hm.kept hB (Nat.le_refl _)).at (i := k) (s := m[k]) (by simp [hlt2])
        by_cases hx : l[k] = m[k]
        · have c := sameStep_eq (w := wr.drew) (v := l[k].val va vs) (u := m[k].val ua us) ⟨va, vs, rfl, hva, hvs⟩ ⟨ua, us, rfl, hua, hus⟩ hx
          have Hx := Lib.hid hx
          clear hx
          simp only [Stp.val, Stp.row] at c
          have C := Lib.hid c
          clear c
          go_wp2
          go_still_tail 8, (by kernel_rfl)
          change wpList _ _ _ _ _ wr.drew
          go_wp2_with (go_at_call 34; refine C.out.mono ?_; rintro e w1 ⟨rfl, hB1⟩)
          go_roundw
          case rel =>
            refine ⟨k + 1, by omega, by go_num, hB.drew.trans (hB1.mono hB.size), ?_⟩
            intro j hj
            by_cases hjk : j = k
            · subst hjk
              simp [hlt, hlt2, Hx.out]
            · exact HE.out j (by omega)
          case measure => simp [intOf]; omega
        · have c := sameStep_ne (w := wr.drew) (v := l[k].val va vs) (u := m[k].val ua us) ⟨va, vs, rfl, hva, hvs⟩ ⟨ua, us, rfl, hua, hus⟩ hx
          have Hx := Lib.hid hx
          clear hx
          simp only [Stp.val, Stp.row] at c
          have C := Lib.hid c
          clear c
          go_wp2
          go_still_tail 8, (by kernel_rfl)
          change wpList _ _ _ _ _ wr.drew
          go_wp2_with (go_at_call 34; refine C.out.mono ?_; rintro e w1 ⟨rfl, hB1⟩)
          go_ret
          refine ⟨ret_bool ?_, hB.drew.trans (hB1.mono hB.size)⟩
          symm
          rw [decide_eq_false_iff_not]
          intro h
          exact Hx.out (by subst h; rfl)
      · have HA := Lib.hid (ext_of Hlen.out (fun j hj => HE.out j (by omega)))
        go_wp2
        go_ret
        refine ⟨ret_bool ?_, hB⟩
        symm
        rw [decide_eq_true_iff, HA.out]
  · have e0 : ((l.length : Int) != (m.length : Int)) = true := by rw [bne_iff_ne]; omega
    have Hlen := Lib.hid hlen
    clear hlen
    go_enter Try.func15, Try.ntmps15
    go_wp2
    go_ret
    refine ⟨ret_bool ?_, Below.refl _ _⟩
    symm
    rw [decide_eq_false_iff_not]
    intro h
    exact Hlen.out (by rw [h])

end Go.Proofs.Ytaedfidfcoigoaa
