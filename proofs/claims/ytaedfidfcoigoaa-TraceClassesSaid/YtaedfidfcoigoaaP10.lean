/- slices.Equal of asks and of messages; trace.equal; slices.EqualFunc. -/
import Derived.Test.YtaedfidfcoigoaaP7
namespace Go.Proofs.Ytaedfidfcoigoaa
open Go.RowKit

set_option maxHeartbeats 800000 in
theorem eqAsks (l m : List Ask) (v u : Value) (w : World) (hl : AskSl w v l) (hm : AskSl w u m) :
    Calls Try.prog 57 #[v, u] w fun e w' => e = .returned (.bool (decide (l = m))) ∧ ∃ n, w' = w.drewN n := by
  obtain ⟨ka, ca, rfl, hml⟩ := hl.open
  obtain ⟨kb, cb, rfl, hmm⟩ := hm.open
  by_cases hlen : l.length = m.length
  · have Hlen := Lib.hid hlen
    simp only [← hlen] at hm ⊢
    clear hlen hmm
    have e0 : ((l.length : Int) != (l.length : Int)) = false := by simp
    go_enter Try.func57, Try.ntmps57
    go_wp2
    go_loopw [13] (fun i wr => ∃ k n : Nat, k ≤ l.length ∧ i = .int .i64 k ∧ wr = w.drewN n ∧ (∀ j < k, l[j]? = m[j]?)) (fun i _ => l.length - (intOf i).toNat)
    case atStart => exact ⟨0, 0, by omega, rfl, rfl, fun j hj => absurd hj (by omega)⟩
    case round =>
      obtain ⟨k, n, hk, rfl, rfl, hE⟩ := hrel
      have HE := Lib.hid hE
      clear hE
      by_cases hlt : k < l.length
      · have hlt2 : k < m.length := by have := Hlen.out; omega
        obtain ⟨b, o, rfl, x0, x1, x2, x3, x4, x5, x6⟩ := hl.at (i := k) (x := l[k]) (by simp [hlt])
        obtain ⟨b', o', rfl, y0, y1, y2, y3, y4, y5, y6⟩ := hm.at (i := k) (x := m[k]) (by simp [hlt2])
        by_cases hx : l[k].ints = m[k].ints
        · have Hx := Lib.hid hx
          have hq := eqL_true hx
          clear hx
          unfold Ask.ints at hq
          go_wp2
          go_quiet (fail)
          go_wp2
          go_roundw
          case rel =>
            refine ⟨k + 1, n + nq, by omega, by go_num, rfl, ?_⟩
            intro j hj
            by_cases hjk : j = k
            · subst hjk
              simp [hlt, hlt2, Ask.ints_inj.1 Hx.out]
            · exact HE.out j (by omega)
          case measure => simp [intOf]; omega
        · have Hx := Lib.hid hx
          have hq := eqL_false hx
          clear hx
          unfold Ask.ints at hq
          go_wp2
          go_quiet (fail)
          go_wp2
          go_ret
          refine ⟨ret_bool ?_, n + nq, by simp⟩
          symm
          rw [decide_eq_false_iff_not]
          intro h
          exact Hx.out (by subst h; rfl)
      · have HA := Lib.hid (ext_of Hlen.out (fun j hj => HE.out j (by omega)))
        go_wp2
        go_ret
        refine ⟨ret_bool ?_, n, rfl⟩
        symm
        rw [decide_eq_true_iff, HA.out]
  · have e0 : ((l.length : Int) != (m.length : Int)) = true := by rw [bne_iff_ne]; omega
    have Hlen := Lib.hid hlen
    clear hlen
    go_enter Try.func57, Try.ntmps57
    go_wp2
    go_ret
    refine ⟨ret_bool ?_, 0, rfl⟩
    symm
    rw [decide_eq_false_iff_not]
    intro h
    exact Hlen.out (by rw [h])

set_option maxHeartbeats 800000 in
theorem eqMsgs (l m : List Msg) (v u : Value) (w : World) (hl : MsgSl w v l) (hm : MsgSl w u m) :
    Calls Try.prog 58 #[v, u] w fun e w' => e = .returned (.bool (decide (l = m))) ∧ ∃ n, w' = w.drewN n := by
  obtain ⟨ka, ca, rfl, hml⟩ := hl.open
  obtain ⟨kb, cb, rfl, hmm⟩ := hm.open
  by_cases hlen : l.length = m.length
  · have Hlen := Lib.hid hlen
    simp only [← hlen] at hm ⊢
    clear hlen hmm
    have e0 : ((l.length : Int) != (l.length : Int)) = false := by simp
    go_enter Try.func58, Try.ntmps58
    go_wp2
    go_loopw [13] (fun i wr => ∃ k n : Nat, k ≤ l.length ∧ i = .int .i64 k ∧ wr = w.drewN n ∧ (∀ j < k, l[j]? = m[j]?)) (fun i _ => l.length - (intOf i).toNat)
    case atStart => exact ⟨0, 0, by omega, rfl, rfl, fun j hj => absurd hj (by omega)⟩
    case round =>
      obtain ⟨k, n, hk, rfl, rfl, hE⟩ := hrel
      have HE := Lib.hid hE
      clear hE
      by_cases hlt : k < l.length
      · have hlt2 : k < m.length := by have := Hlen.out; omega
        obtain ⟨b, o, rfl, x0, x1, x2, x3, x4⟩ := hl.at (i := k) (x := l[k]) (by simp [hlt])
        obtain ⟨b', o', rfl, y0, y1, y2, y3, y4⟩ := hm.at (i := k) (x := m[k]) (by simp [hlt2])
        by_cases hx : l[k].ints = m[k].ints
        · have Hx := Lib.hid hx
          have hq := eqL_true hx
          clear hx
          unfold Msg.ints at hq
          go_wp2
          go_quiet (fail)
          go_wp2
          go_roundw
          case rel =>
            refine ⟨k + 1, n + nq, by omega, by go_num, rfl, ?_⟩
            intro j hj
            by_cases hjk : j = k
            · subst hjk
              simp [hlt, hlt2, Msg.ints_inj.1 Hx.out]
            · exact HE.out j (by omega)
          case measure => simp [intOf]; omega
        · have Hx := Lib.hid hx
          have hq := eqL_false hx
          clear hx
          unfold Msg.ints at hq
          go_wp2
          go_quiet (fail)
          go_wp2
          go_ret
          refine ⟨ret_bool ?_, n + nq, by simp⟩
          symm
          rw [decide_eq_false_iff_not]
          intro h
          exact Hx.out (by subst h; rfl)
      · have HA := Lib.hid (ext_of Hlen.out (fun j hj => HE.out j (by omega)))
        go_wp2
        go_ret
        refine ⟨ret_bool ?_, n, rfl⟩
        symm
        rw [decide_eq_true_iff, HA.out]
  · have e0 : ((l.length : Int) != (m.length : Int)) = true := by rw [bne_iff_ne]; omega
    have Hlen := Lib.hid hlen
    clear hlen
    go_enter Try.func58, Try.ntmps58
    go_wp2
    go_ret
    refine ⟨ret_bool ?_, 0, rfl⟩
    symm
    rw [decide_eq_false_iff_not]
    intro h
    exact Hlen.out (by rw [h])

theorem Stp.eq_iff (s t : Stp) : s = t ↔ s.ev = t.ev ∧ s.obs = t.obs ∧ s.asks = t.asks ∧ s.sent = t.sent := by
  constructor
  · rintro rfl; exact ⟨rfl, rfl, rfl, rfl⟩
  · intro ⟨a, b, c, d⟩; cases s; cases t; simp at a b c d; simp [a, b, c, d]

set_option maxHeartbeats 1600000 in
set_option maxRecDepth 100000 in
theorem trEqual (s t : Stp) (v u : Value) (w : World) (hs : s.In w v) (ht : t.In w u) :
    Calls Try.prog 33 #[v, u] w fun e w' => e = .returned (.bool (decide (s = t))) ∧ Below w.heap.size w w' := by
  obtain ⟨va, vs, rfl, hsa, hss⟩ := hs
  obtain ⟨ua, us, rfl, hta, hts⟩ := ht
  obtain ⟨ka, ca, rfl, hma⟩ := hsa.open
  obtain ⟨kb, cb, rfl, _⟩ := hta.open
  obtain ⟨qa, da, rfl, hms⟩ := hss.open
  obtain ⟨qb, db, rfl, _⟩ := hts.open
  have c1 : ∀ W x, decide (s.asks = t.asks) = x → Below w.heap.size w W → Calls Try.prog 57 #[.slice ka s.asks.length ca, .slice kb t.asks.length cb] W fun e w' => e = .returned (.bool x) ∧ ∃ n, w' = W.drewN n := fun W x hx hB => hx ▸ eqAsks _ _ _ _ W (hsa.kept hB (Nat.le_refl _)) (hta.kept hB (Nat.le_refl _))
  have c2 : ∀ W x, decide (s.sent = t.sent) = x → Below w.heap.size w W → Calls Try.prog 58 #[.slice qa s.sent.length da, .slice qb t.sent.length db] W fun e w' => e = .returned (.bool x) ∧ ∃ n, w' = W.drewN n := fun W x hx hB => hx ▸ eqMsgs _ _ _ _ W (hss.kept hB (Nat.le_refl _)) (hts.kept hB (Nat.le_refl _))
  obtain ⟨x, hx⟩ : ∃ x, x = decide (s = t) := ⟨_, rfl⟩
  rw [← hx]
  have hd : ∀ y : Bool, (y = true ↔ s.ev = t.ev ∧ s.obs = t.obs ∧ s.asks = t.asks ∧ s.sent = t.sent) → y = x := fun y hy => by
    rw [hx, Bool.eq_iff_iff, hy, decide_eq_true_iff]
    exact (Stp.eq_iff s t).symm
  clear hx
  obtain ⟨se, sa, so, ss⟩ := s
  obtain ⟨te, ta, to, ts⟩ := t
  dsimp only at c1 c2 hsa hss hta hts hma hms hd
  simp only [Stp.val, Stp.row]
  have hBB : ∀ X Y : Obj, Below w.heap.size w ((w.alloc X).alloc Y) := fun X Y => ((Below.refl _ _).alloc (Nat.le_refl _) _).alloc (by simp) _
  have HB := Lib.hid hBB
  have Hd := Lib.hid hd
  clear hBB hd hsa hss hta hts hma hms
  by_cases h1 : se.ints = te.ints
  · have e1 := eqL_true h1
    have H1 := Lib.hid (Ev.ints_inj.1 h1)
    clear h1
    obtain ⟨k0, k1, k2, ⟨k3, k4, k5, k6, k7⟩⟩ := se
    obtain ⟨j0, j1, j2, ⟨j3, j4, j5, j6, j7⟩⟩ := te
    simp only [Ev.ints] at e1
    by_cases h2 : so = to
    · subst h2
      have e2 : (so == so) = true := by simp
      by_cases h3 : sa = ta
      · have C1 := Lib.hid (fun W => c1 W true (by simpa using h3))
        have H3 := Lib.hid h3
        by_cases h4 : ss = ts
        · have C2 := Lib.hid (fun W => c2 W true (by simpa using h4))
          have H4 := Lib.hid h4
          clear c1 c2 h3 h4
          go_enter Try.func33, Try.ntmps33
          go_wp2_with fail
          refine (C1.out _ (HB.out _ _)).mono ?_
          rintro e w1 ⟨rfl, n1, rfl⟩
          go_wp2_with fail
          refine (C2.out _ (below_drewN (HB.out _ _) _)).mono ?_
          rintro e w1 ⟨rfl, n2, rfl⟩
          go_wp2_with fail
          go_ret
          exact ⟨ret_bool (Hd.out _ (by simp only [true_iff]; exact ⟨H1.out, by first | rfl | trivial, H3.out, H4.out⟩)), below_drewN (HB.out _ _) _⟩
        · have C2 := Lib.hid (fun W => c2 W false (by simpa using h4))
          have H4 := Lib.hid h4
          clear c1 c2 h3 h4
          go_enter Try.func33, Try.ntmps33
          go_wp2_with fail
          refine (C1.out _ (HB.out _ _)).mono ?_
          rintro e w1 ⟨rfl, n1, rfl⟩
          go_wp2_with fail
          refine (C2.out _ (below_drewN (HB.out _ _) _)).mono ?_
          rintro e w1 ⟨rfl, n2, rfl⟩
          go_wp2_with fail
          go_ret
          exact ⟨ret_bool (Hd.out _ (by simp only [Bool.false_eq_true, false_iff]; exact fun h => H4.out h.2.2.2)), below_drewN (HB.out _ _) _⟩
      · have C1 := Lib.hid (fun W => c1 W false (by simpa using h3))
        have H3 := Lib.hid h3
        clear c1 c2 h3
        go_enter Try.func33, Try.ntmps33
        go_wp2_with fail
        refine (C1.out _ (HB.out _ _)).mono ?_
        rintro e w1 ⟨rfl, n1, rfl⟩
        go_wp2_with fail
        go_ret
        exact ⟨ret_bool (Hd.out _ (by simp only [Bool.false_eq_true, false_iff]; exact fun h => H3.out h.2.2.1)), below_drewN (HB.out _ _) _⟩
    · have e2 : (so == to) = false := by simpa using h2
      have H2 := Lib.hid h2
      clear c1 c2 h2
      go_enter Try.func33, Try.ntmps33
      go_wp2_with fail
      go_ret
      exact ⟨ret_bool (Hd.out _ (by simp only [Bool.false_eq_true, false_iff]; exact fun h => H2.out h.2.1)), HB.out _ _⟩
  · have e1 := eqL_false h1
    have H1 := Lib.hid h1
    clear h1 c1 c2
    obtain ⟨k0, k1, k2, ⟨k3, k4, k5, k6, k7⟩⟩ := se
    obtain ⟨j0, j1, j2, ⟨j3, j4, j5, j6, j7⟩⟩ := te
    simp only [Ev.ints] at e1
    go_enter Try.func33, Try.ntmps33
    go_wp2_with fail
    go_ret
    exact ⟨ret_bool (Hd.out _ (by simp only [Bool.false_eq_true, false_iff]; exact fun h => H1.out (Ev.ints_inj.2 h.1))), HB.out _ _⟩

theorem trEqual_at {s t : Stp} {v u : Value} {w W : World} {x : Bool} (hs : s.In w v) (ht : t.In w u) (hB : Below w.heap.size w W) (hx : decide (s = t) = x) :
    Calls Try.prog 33 #[v, u] W fun e w' => e = .returned (.bool x) ∧ Below W.heap.size W w' := by
  rw [← hx]
  exact trEqual s t v u W (hs.kept hB (Nat.le_refl _)) (ht.kept hB (Nat.le_refl _))

set_option maxHeartbeats 1600000 in
set_option maxRecDepth 100000 in
theorem equalFunc (l m : List Stp) (v u : Value) (w : World) (hl : StpSl w v l) (hm : StpSl w u m) :
    Calls Try.prog 32 #[v, u, .func (.func 33) #[] #[]] w fun e w' => e = .returned (.bool (decide (l = m))) ∧ Below w.heap.size w w' := by
  obtain ⟨ka, ca, rfl, hml⟩ := hl.open
  obtain ⟨kb, cb, rfl, hmm⟩ := hm.open
  by_cases hlen : l.length = m.length
  · have Hlen := Lib.hid hlen
    simp only [← hlen] at hm ⊢
    clear hlen hmm
    have e0 : ((l.length : Int) != (l.length : Int)) = false := by simp
    go_enter Try.func32, Try.ntmps32
    go_wp2_with fail
    go_loopw [17] (fun i wr => ∃ k : Nat, k ≤ l.length ∧ i = .int .i64 k ∧ Below w.heap.size w wr ∧ (∀ j < k, l[j]? = m[j]?)) (fun i _ => l.length - (intOf i).toNat)
    case atStart => exact ⟨0, by omega, rfl, Below.refl _ _, fun j hj => absurd hj (by omega)⟩
    case round =>
      obtain ⟨k, hk, rfl, hB, hE⟩ := hrel
      have HE := Lib.hid hE
      clear hE
      by_cases hlt : k < l.length
      · have hlt2 : k < m.length := by have := Hlen.out; omega
        obtain ⟨b, o, va, vs, rfl, hva, hvs, x0, x1, x2, x3, x4, x5, x6, x7, x8, x9, x10⟩ := (hl.kept hB (Nat.le_refl _)).at (i := k) (s := l[k]) (by simp [hlt])
        obtain ⟨b', o', ua, us, rfl, hua, hus, y0, y1, y2, y3, y4, y5, y6, y7, y8, y9, y10⟩ := (hm.kept hB (Nat.le_refl _)).at (i := k) (s := m[k]) (by simp [hlt2])
        have hlB := hB.size
        have hbl : b < wr.heap.size := by simpa using World.block_lt_of_cell? _ _ x0
        have hbl' : b' < wr.heap.size := by simpa using World.block_lt_of_cell? _ _ y0
        have c := fun W x (hx : decide (l[k] = m[k]) = x) (hW : Below wr.heap.size wr W) => trEqual_at (W := W) (x := x) ⟨va, vs, rfl, hva, hvs⟩ ⟨ua, us, rfl, hua, hus⟩ hW hx
        obtain ⟨pa, fa, rfl, _⟩ := hva.open
        obtain ⟨ps, fs, rfl, _⟩ := hvs.open
        obtain ⟨ra, ga, rfl, _⟩ := hua.open
        obtain ⟨rs, gs, rfl, _⟩ := hus.open
        simp only [Stp.val, Stp.row] at c
        by_cases hx : l[k] = m[k]
        · have C := Lib.hid (fun W => c W true (by simpa using hx))
          have Hx := Lib.hid hx
          clear hx c
          go_wp2_with fail
          refine (C.out _ (by repeat (first | exact Below.refl _ _ | assumption | refine Below.drew ?_ | refine below_drewN ?_ _ | refine Below.alloc ?_ (by simp <;> omega) _ | refine Below.setCell ?_ (by simp <;> omega) _))).mono ?_
          rintro e w1 ⟨rfl, hB1⟩
          have hBB := hB.trans ((Below.then (w := wr) (by repeat (first | exact Below.refl _ _ | assumption | refine Below.drew ?_ | refine below_drewN ?_ _ | refine Below.alloc ?_ (by simp <;> omega) _ | refine Below.setCell ?_ (by simp <;> omega) _)) hB1).mono hB.size)
          go_wp2_with fail
          go_roundw
          case rel =>
            refine ⟨k + 1, by omega, by go_num, hBB, ?_⟩
            intro j hj
            by_cases hjk : j = k
            · subst hjk
              simp [hlt, hlt2, Hx.out]
            · exact HE.out j (by omega)
          case measure => simp [intOf]; omega
        · have C := Lib.hid (fun W => c W false (by simpa using hx))
          have Hx := Lib.hid hx
          clear hx c
          go_wp2_with fail
          refine (C.out _ (by repeat (first | exact Below.refl _ _ | assumption | refine Below.drew ?_ | refine below_drewN ?_ _ | refine Below.alloc ?_ (by simp <;> omega) _ | refine Below.setCell ?_ (by simp <;> omega) _))).mono ?_
          rintro e w1 ⟨rfl, hB1⟩
          have hBB := hB.trans ((Below.then (w := wr) (by repeat (first | exact Below.refl _ _ | assumption | refine Below.drew ?_ | refine below_drewN ?_ _ | refine Below.alloc ?_ (by simp <;> omega) _ | refine Below.setCell ?_ (by simp <;> omega) _)) hB1).mono hB.size)
          go_wp2_with fail
          go_ret
          refine ⟨ret_bool ?_, hBB⟩
          symm
          rw [decide_eq_false_iff_not]
          intro h
          exact Hx.out (by subst h; rfl)
      · have HA := Lib.hid (ext_of Hlen.out (fun j hj => HE.out j (by omega)))
        go_wp2_with fail
        go_ret
        refine ⟨ret_bool ?_, hB⟩
        symm
        rw [decide_eq_true_iff, HA.out]
  · have e0 : ((l.length : Int) != (m.length : Int)) = true := by rw [bne_iff_ne]; omega
    have Hlen := Lib.hid hlen
    clear hlen
    go_enter Try.func32, Try.ntmps32
    go_wp2_with fail
    go_ret
    refine ⟨ret_bool ?_, Below.refl _ _⟩
    symm
    rw [decide_eq_false_iff_not]
    intro h
    exact Hlen.out (by rw [h])

end Go.Proofs.Ytaedfidfcoigoaa
