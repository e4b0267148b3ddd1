/- The reference's dependence of steps, and the comparison of lists. -/
import Derived.Test.YtaedfidfcoigoaaR2
namespace Go.Proofs.Ytaedfidfcoigoaa
open Go.RowKit

def consB (t : Stp) : Bool := t.ev.kind == 3 || t.ev.kind == 5 || t.ev.kind == 6
def matchB (m : Msg) (t : Stp) : Bool := m.copy == 0 && m.node == t.ev.msg.node && m.handler == t.ev.msg.handler && m.count == t.ev.msg.count && m.index == t.ev.msg.index
theorem feedsB_eq (a b : Stp) : feedsB a b = (consB b && a.sent.any fun m => matchB m b) := rfl

set_option maxHeartbeats 400000 in
theorem feeds_no (s t : Stp) (v u : Value) (w : World) (hs : s.In w v) (ht : t.In w u) (h : consB t = false) :
    Calls Try.prog 80 #[v, u] w fun e w' => e = .returned (.bool false) ∧ Below w.heap.size w w' := by
  obtain ⟨va, vs, rfl, hsa, hss⟩ := hs
  obtain ⟨ua, us, rfl, hta, hts⟩ := ht
  simp only [consB, Bool.or_eq_false_iff, beq_eq_false_iff_ne] at h
  obtain ⟨⟨h3, h5⟩, h6⟩ := h
  have q3 : (t.ev.kind != 3) = true := by simpa using h3
  have q5 : (t.ev.kind != 5) = true := by simpa using h5
  have q6 : (t.ev.kind != 6) = true := by simpa using h6
  clear h3 h5 h6
  simp only [Stp.val, Stp.row]
  go_enter Try.func80, Try.ntmps80
  go_wp2
  go_ret
  exact ⟨rfl, (by repeat (first | exact Below.refl _ _ | assumption | refine Below.drew ?_ | refine below_drewN ?_ _ | refine Below.alloc ?_ (by simp <;> omega) _ | refine Below.setCell ?_ (by simp <;> omega) _))⟩

set_option maxHeartbeats 400000 in
set_option maxRecDepth 100000 in
theorem feeds_yes (s t : Stp) (v u : Value) (w : World) (hs : s.In w v) (ht : t.In w u) (h : consB t = true) :
    Calls Try.prog 80 #[v, u] w fun e w' => e = .returned (.bool (s.sent.any fun m => matchB m t)) ∧ Below w.heap.size w w' := by
  obtain ⟨va, vs, rfl, hsa, hss⟩ := hs
  obtain ⟨ua, us, rfl, hta, hts⟩ := ht
  obtain ⟨ka, ca, rfl, hma⟩ := hss.open
  simp only [consB, Bool.or_eq_true, beq_iff_eq] at h
  simp only [Stp.val, Stp.row]
  have key : ∀ K : Int, (K = 3 ∨ K = 5 ∨ K = 6) → Calls Try.prog 80 #[.agg #[I s.ev.kind, I s.ev.node, I s.ev.arg, I s.ev.msg.node, I s.ev.msg.handler, I s.ev.msg.count, I s.ev.msg.index, I s.ev.msg.copy, va, .bool s.obs, .slice ka s.sent.length ca],
      .agg #[I K, I t.ev.node, I t.ev.arg, I t.ev.msg.node, I t.ev.msg.handler, I t.ev.msg.count, I t.ev.msg.index, I t.ev.msg.copy, ua, .bool t.obs, us]] w fun e w' => e = .returned (.bool (s.sent.any fun m => matchB m t)) ∧ Below w.heap.size w w' := by
    intro K hK
    have q : ((K != 3) = false) ∨ ((K != 3) = true ∧ (K != 5) = false) ∨ ((K != 3) = true ∧ (K != 5) = true ∧ (K != 6) = false) := by
      rcases hK with rfl | rfl | rfl <;> decide
    clear hK h
    rcases q with q1 | ⟨q1, q2⟩ | ⟨q1, q2, q3⟩
    all_goals
      go_enter Try.func80, Try.ntmps80
      go_wp2
      go_loopw [6] (fun i wr => ∃ k : Nat, k ≤ s.sent.length ∧ i = .int .i64 k ∧ Below w.heap.size w wr ∧ (∀ j < k, ∀ m, s.sent[j]? = some m → matchB m t = false) ∧
        Blk wr w.heap.size #[I s.ev.kind, I s.ev.node, I s.ev.arg, I s.ev.msg.node, I s.ev.msg.handler, I s.ev.msg.count, I s.ev.msg.index, I s.ev.msg.copy, va, .bool s.obs, .slice ka s.sent.length ca] ∧
        Blk wr (w.heap.size + 1) #[I K, I t.ev.node, I t.ev.arg, I t.ev.msg.node, I t.ev.msg.handler, I t.ev.msg.count, I t.ev.msg.index, I t.ev.msg.copy, ua, .bool t.obs, us]) (fun i _ => s.sent.length - (intOf i).toNat)
      case atStart =>
        refine ⟨0, by omega, rfl, (by repeat (first | exact Below.refl _ _ | assumption | refine Below.drew ?_ | refine below_drewN ?_ _ | refine Below.alloc ?_ (by simp <;> omega) _ | refine Below.setCell ?_ (by simp <;> omega) _)), fun j hj => absurd hj (by omega), (Blk.new _ _ _).alloc _, ?_⟩
        have := Blk.new (w.alloc (.cells #[I s.ev.kind, I s.ev.node, I s.ev.arg, I s.ev.msg.node, I s.ev.msg.handler, I s.ev.msg.count, I s.ev.msg.index, I s.ev.msg.copy, va, .bool s.obs, .slice ka s.sent.length ca] 55)) #[I K, I t.ev.node, I t.ev.arg, I t.ev.msg.node, I t.ev.msg.handler, I t.ev.msg.count, I t.ev.msg.index, I t.ev.msg.copy, ua, .bool t.obs, us] 55
        simpa using this
      case round =>
        obtain ⟨k, hk, rfl, hB, hE, hb1, hb2⟩ := hrel
        have HE := Lib.hid hE
        clear hE
        have hc1 := hb1.cell
        have hc2 := hb2.cell
        by_cases hlt : k < s.sent.length
        · obtain ⟨b, o, rfl, x0, x1, x2, x3, x4⟩ := (hss.kept hB (Nat.le_refl _)).at (i := k) (x := s.sent[k]) (by simp [hlt])
          have hno : matchB s.sent[k] t = false → ∀ j < k + 1, ∀ m, s.sent[j]? = some m → matchB m t = false := by
            intro h0 j hj m hm
            by_cases hjk : j = k
            · subst hjk
              rw [List.getElem?_eq_getElem hlt] at hm
              cases hm
              exact h0
            · exact HE.out j (by omega) m hm
          have Hno := Lib.hid hno
          clear hno
          by_cases g0 : s.sent[k].copy = 0
          · have p0 : (s.sent[k].copy == 0) = true := by simp [g0]
            by_cases g1 : [s.sent[k].node, s.sent[k].handler, s.sent[k].count] = [t.ev.msg.node, t.ev.msg.handler, t.ev.msg.count]
            · have p1 := eqL_true g1
              by_cases g2 : s.sent[k].index = t.ev.msg.index
              · have p2 : (s.sent[k].index == t.ev.msg.index) = true := by simp [g2]
                have hyes : matchB s.sent[k] t = true := by
                  simp at g1
                  simp [matchB, g0, g1, g2]
                have Hyes := Lib.hid hyes
                clear g0 g1 g2 hyes
                go_wp2
                go_quiet (fail)
                go_wp2
                go_ret
                refine ⟨ret_bool ?_, below_drewN hB nq⟩
                symm
                rw [List.any_eq_true]
                exact ⟨_, List.getElem_mem hlt, Hyes.out⟩
              · have p2 : (s.sent[k].index == t.ev.msg.index) = false := by simp [g2]
                have hno := Lib.hid (Hno.out (by simp [matchB, p2]))
                clear g0 g1 g2
                go_wp2
                go_quiet (fail)
                go_wp2
                go_roundw
                case rel => exact ⟨k + 1, by omega, by go_num, below_drewN hB nq, hno.out, hb1.drewN nq, hb2.drewN nq⟩
                case measure => simp [intOf]; omega
            · have p1 := eqL_false g1
              have hno := Lib.hid (Hno.out (by
                rw [Bool.eq_false_iff]
                intro h0
                apply g1
                simp [matchB] at h0
                simp [h0]))
              clear g0 g1
              go_wp2
              go_quiet (fail)
              go_wp2
              go_roundw
              case rel => exact ⟨k + 1, by omega, by go_num, below_drewN hB nq, hno.out, hb1.drewN nq, hb2.drewN nq⟩
              case measure => simp [intOf]; omega
          · have p0 : (s.sent[k].copy == 0) = false := by simp [g0]
            have hno := Lib.hid (Hno.out (by simp [matchB, p0]))
            clear g0
            go_wp2
            go_quiet (fail)
            go_wp2
            go_roundw
            case rel => exact ⟨k + 1, by omega, by go_num, below_drewN hB nq, hno.out, hb1.drewN nq, hb2.drewN nq⟩
            case measure => simp [intOf]; omega
        · go_wp2
          go_ret
          refine ⟨ret_bool ?_, hB⟩
          symm
          rw [Bool.eq_false_iff]
          intro h0
          obtain ⟨m, hm, h1⟩ := List.any_eq_true.1 h0
          obtain ⟨j, hj⟩ := List.getElem?_of_mem hm
          rw [HE.out j (by have := (List.getElem?_eq_some_iff.1 hj).1; omega) m hj] at h1
          cases h1
  exact key _ (by rcases h with (h | h) | h <;> simp [h])

theorem feeds (s t : Stp) (v u : Value) (w : World) (hs : s.In w v) (ht : t.In w u) :
    Calls Try.prog 80 #[v, u] w fun e w' => e = .returned (.bool (feedsB s t)) ∧ Below w.heap.size w w' := by
  by_cases h : consB t = true
  · refine (feeds_yes s t v u w hs ht h).mono fun e w' ⟨h1, h2⟩ => ⟨?_, h2⟩
    rw [h1, feedsB_eq, h]; rfl
  · refine (feeds_no s t v u w hs ht (by simpa using h)).mono fun e w' ⟨h1, h2⟩ => ⟨?_, h2⟩
    rw [h1, feedsB_eq, (by simpa using h : consB t = false)]; rfl

theorem feeds_at {s t : Stp} {v u : Value} {w W : World} {x : Bool} (hs : s.In w v) (ht : t.In w u) (hB : Below w.heap.size w W) (hx : feedsB s t = x) :
    Calls Try.prog 80 #[v, u] W fun e w' => e = .returned (.bool x) ∧ Below W.heap.size W w' := by
  rw [← hx]
  exact feeds s t v u W (hs.kept hB (Nat.le_refl _)) (ht.kept hB (Nat.le_refl _))

set_option maxHeartbeats 800000 in
set_option maxRecDepth 100000 in
theorem dependent (s t : Stp) (v u : Value) (w : World) (hs : s.In w v) (ht : t.In w u) :
    Calls Try.prog 56 #[v, u] w fun e w' => e = .returned (.bool (depB s t)) ∧ Below w.heap.size w w' := by
  have f1 : ∀ W x, Below w.heap.size w W → feedsB s t = x → Calls Try.prog 80 #[v, u] W fun e w' => e = .returned (.bool x) ∧ Below W.heap.size W w' := fun W x hB hx => feeds_at hs ht hB hx
  have f2 : ∀ W x, Below w.heap.size w W → feedsB t s = x → Calls Try.prog 80 #[u, v] W fun e w' => e = .returned (.bool x) ∧ Below W.heap.size W w' := fun W x hB hx => feeds_at ht hs hB hx
  obtain ⟨va, vs, rfl, hsa, hss⟩ := hs
  obtain ⟨ua, us, rfl, hta, hts⟩ := ht
  obtain ⟨ka, ca, rfl, _⟩ := hsa.open
  obtain ⟨kb, cb, rfl, _⟩ := hss.open
  obtain ⟨kc, cc, rfl, _⟩ := hta.open
  obtain ⟨kd, cd, rfl, _⟩ := hts.open
  simp only [Stp.val, Stp.row] at f1 f2 ⊢
  have F1 := Lib.hid f1
  have F2 := Lib.hid f2
  clear f1 f2
  by_cases h1 : s.ev.node = t.ev.node
  · have q1 : (s.ev.node == t.ev.node) = true := by simp [h1]
    have hr := Lib.hid (show depB s t = true by simp [depB, h1])
    clear h1
    go_enter Try.func56, Try.ntmps56
    go_wp2_with fail
    go_ret
    exact ⟨ret_bool hr.out.symm, (by repeat (first | exact Below.refl _ _ | assumption | refine Below.drew ?_ | refine below_drewN ?_ _ | refine Below.alloc ?_ (by simp <;> omega) _ | refine Below.setCell ?_ (by simp <;> omega) _))⟩
  · have q1 : (s.ev.node == t.ev.node) = false := by simp [h1]
    clear h1
    have hdep : depB s t = ((s.obs && t.obs) || feedsB s t || feedsB t s) := by
      have : depB s t = ((s.ev.node == t.ev.node) || (s.obs && t.obs) || feedsB s t || feedsB t s) := rfl
      rw [this, q1]
      simp
    have Hdep := Lib.hid hdep
    clear hdep
    have key : ∀ so to : Bool, Hid (s.obs = so) → Hid (t.obs = to) → Calls Try.prog 56 #[.agg #[I s.ev.kind, I s.ev.node, I s.ev.arg, I s.ev.msg.node, I s.ev.msg.handler, I s.ev.msg.count, I s.ev.msg.index, I s.ev.msg.copy, .slice ka s.asks.length ca, .bool so, .slice kb s.sent.length cb],
        .agg #[I t.ev.kind, I t.ev.node, I t.ev.arg, I t.ev.msg.node, I t.ev.msg.handler, I t.ev.msg.count, I t.ev.msg.index, I t.ev.msg.copy, .slice kc t.asks.length cc, .bool to, .slice kd t.sent.length cd]] w fun e w' => e = .returned (.bool (depB s t)) ∧ Below w.heap.size w w' := by
      intro so to Hso Hto
      have F1 := F1.out
      have F2 := F2.out
      rw [Hso.out, Hto.out] at F1 F2
      have F1 := Lib.hid F1
      have F2 := Lib.hid F2
      clear hsa hss hta hts
      cases so
      · cases to
        · have hd : depB s t = (feedsB s t || feedsB t s) := by rw [Hdep.out, Hso.out, Hto.out]; simp
          have Hd := Lib.hid hd
          clear hd
          by_cases g1 : feedsB s t = true
          · have hr := Lib.hid (show depB s t = true by rw [Hd.out, g1]; simp)
            have G1 := Lib.hid g1
            clear g1
            go_enter Try.func56, Try.ntmps56
            go_wp2_with (go_at_call 80; refine (F1.out _ true (by repeat (first | exact Below.refl _ _ | assumption | refine Below.drew ?_ | refine below_drewN ?_ _ | refine Below.alloc ?_ (by simp <;> omega) _ | refine Below.setCell ?_ (by simp <;> omega) _)) G1.out).mono ?_; rintro e w1 ⟨rfl, hB1⟩; have hcc := bcell hB1)
            go_ret
            exact ⟨ret_bool hr.out.symm, Below.then (by repeat (first | exact Below.refl _ _ | assumption | refine Below.drew ?_ | refine below_drewN ?_ _ | refine Below.alloc ?_ (by simp <;> omega) _ | refine Below.setCell ?_ (by simp <;> omega) _)) hB1⟩
          · by_cases g2 : feedsB t s = true
            · have hr := Lib.hid (show depB s t = true by rw [Hd.out, g2]; simp)
              have G1 := Lib.hid (show feedsB s t = false by simpa using g1)
              have G2 := Lib.hid g2
              clear g1 g2
              go_enter Try.func56, Try.ntmps56
              go_wp2_with fail
              refine (F1.out _ false (by repeat (first | exact Below.refl _ _ | assumption | refine Below.drew ?_ | refine below_drewN ?_ _ | refine Below.alloc ?_ (by simp <;> omega) _ | refine Below.setCell ?_ (by simp <;> omega) _)) G1.out).mono ?_
              rintro e w1 ⟨rfl, hB1⟩
              have hcc := bcell hB1
              go_wp2_with fail
              refine (F2.out _ true (Below.then (by repeat (first | exact Below.refl _ _ | assumption | refine Below.drew ?_ | refine below_drewN ?_ _ | refine Below.alloc ?_ (by simp <;> omega) _ | refine Below.setCell ?_ (by simp <;> omega) _)) hB1) G2.out).mono ?_
              rintro e w2 ⟨rfl, hB2⟩
              go_wp2_with fail
              go_ret
              exact ⟨ret_bool hr.out.symm, Below.then (Below.then (by repeat (first | exact Below.refl _ _ | assumption | refine Below.drew ?_ | refine below_drewN ?_ _ | refine Below.alloc ?_ (by simp <;> omega) _ | refine Below.setCell ?_ (by simp <;> omega) _)) hB1) hB2⟩
            · have hr := Lib.hid (show depB s t = false by rw [Hd.out]; simp [g1, g2])
              have G1 := Lib.hid (show feedsB s t = false by simpa using g1)
              have G2 := Lib.hid (show feedsB t s = false by simpa using g2)
              clear g1 g2
              go_enter Try.func56, Try.ntmps56
              go_wp2_with fail
              refine (F1.out _ false (by repeat (first | exact Below.refl _ _ | assumption | refine Below.drew ?_ | refine below_drewN ?_ _ | refine Below.alloc ?_ (by simp <;> omega) _ | refine Below.setCell ?_ (by simp <;> omega) _)) G1.out).mono ?_
              rintro e w1 ⟨rfl, hB1⟩
              have hcc := bcell hB1
              go_wp2_with fail
              refine (F2.out _ false (Below.then (by repeat (first | exact Below.refl _ _ | assumption | refine Below.drew ?_ | refine below_drewN ?_ _ | refine Below.alloc ?_ (by simp <;> omega) _ | refine Below.setCell ?_ (by simp <;> omega) _)) hB1) G2.out).mono ?_
              rintro e w2 ⟨rfl, hB2⟩
              go_wp2_with fail
              go_ret
              exact ⟨ret_bool hr.out.symm, Below.then (Below.then (by repeat (first | exact Below.refl _ _ | assumption | refine Below.drew ?_ | refine below_drewN ?_ _ | refine Below.alloc ?_ (by simp <;> omega) _ | refine Below.setCell ?_ (by simp <;> omega) _)) hB1) hB2⟩
        · have hd : depB s t = (feedsB s t || feedsB t s) := by rw [Hdep.out, Hso.out, Hto.out]; simp
          have Hd := Lib.hid hd
          clear hd
          by_cases g1 : feedsB s t = true
          · have hr := Lib.hid (show depB s t = true by rw [Hd.out, g1]; simp)
            have G1 := Lib.hid g1
            clear g1
            go_enter Try.func56, Try.ntmps56
            go_wp2_with (go_at_call 80; refine (F1.out _ true (by repeat (first | exact Below.refl _ _ | assumption | refine Below.drew ?_ | refine below_drewN ?_ _ | refine Below.alloc ?_ (by simp <;> omega) _ | refine Below.setCell ?_ (by simp <;> omega) _)) G1.out).mono ?_; rintro e w1 ⟨rfl, hB1⟩; have hcc := bcell hB1)
            go_ret
            exact ⟨ret_bool hr.out.symm, Below.then (by repeat (first | exact Below.refl _ _ | assumption | refine Below.drew ?_ | refine below_drewN ?_ _ | refine Below.alloc ?_ (by simp <;> omega) _ | refine Below.setCell ?_ (by simp <;> omega) _)) hB1⟩
          · by_cases g2 : feedsB t s = true
            · have hr := Lib.hid (show depB s t = true by rw [Hd.out, g2]; simp)
              have G1 := Lib.hid (show feedsB s t = false by simpa using g1)
              have G2 := Lib.hid g2
              clear g1 g2
              go_enter Try.func56, Try.ntmps56
              go_wp2_with fail
              refine (F1.out _ false (by repeat (first | exact Below.refl _ _ | assumption | refine Below.drew ?_ | refine below_drewN ?_ _ | refine Below.alloc ?_ (by simp <;> omega) _ | refine Below.setCell ?_ (by simp <;> omega) _)) G1.out).mono ?_
              rintro e w1 ⟨rfl, hB1⟩
              have hcc := bcell hB1
              go_wp2_with fail
              refine (F2.out _ true (Below.then (by repeat (first | exact Below.refl _ _ | assumption | refine Below.drew ?_ | refine below_drewN ?_ _ | refine Below.alloc ?_ (by simp <;> omega) _ | refine Below.setCell ?_ (by simp <;> omega) _)) hB1) G2.out).mono ?_
              rintro e w2 ⟨rfl, hB2⟩
              go_wp2_with fail
              go_ret
              exact ⟨ret_bool hr.out.symm, Below.then (Below.then (by repeat (first | exact Below.refl _ _ | assumption | refine Below.drew ?_ | refine below_drewN ?_ _ | refine Below.alloc ?_ (by simp <;> omega) _ | refine Below.setCell ?_ (by simp <;> omega) _)) hB1) hB2⟩
            · have hr := Lib.hid (show depB s t = false by rw [Hd.out]; simp [g1, g2])
              have G1 := Lib.hid (show feedsB s t = false by simpa using g1)
              have G2 := Lib.hid (show feedsB t s = false by simpa using g2)
              clear g1 g2
              go_enter Try.func56, Try.ntmps56
              go_wp2_with fail
              refine (F1.out _ false (by repeat (first | exact Below.refl _ _ | assumption | refine Below.drew ?_ | refine below_drewN ?_ _ | refine Below.alloc ?_ (by simp <;> omega) _ | refine Below.setCell ?_ (by simp <;> omega) _)) G1.out).mono ?_
              rintro e w1 ⟨rfl, hB1⟩
              have hcc := bcell hB1
              go_wp2_with fail
              refine (F2.out _ false (Below.then (by repeat (first | exact Below.refl _ _ | assumption | refine Below.drew ?_ | refine below_drewN ?_ _ | refine Below.alloc ?_ (by simp <;> omega) _ | refine Below.setCell ?_ (by simp <;> omega) _)) hB1) G2.out).mono ?_
              rintro e w2 ⟨rfl, hB2⟩
              go_wp2_with fail
              go_ret
              exact ⟨ret_bool hr.out.symm, Below.then (Below.then (by repeat (first | exact Below.refl _ _ | assumption | refine Below.drew ?_ | refine below_drewN ?_ _ | refine Below.alloc ?_ (by simp <;> omega) _ | refine Below.setCell ?_ (by simp <;> omega) _)) hB1) hB2⟩
      · cases to
        · have hd : depB s t = (feedsB s t || feedsB t s) := by rw [Hdep.out, Hso.out, Hto.out]; simp
          have Hd := Lib.hid hd
          clear hd
          by_cases g1 : feedsB s t = true
          · have hr := Lib.hid (show depB s t = true by rw [Hd.out, g1]; simp)
            have G1 := Lib.hid g1
            clear g1
            go_enter Try.func56, Try.ntmps56
            go_wp2_with (go_at_call 80; refine (F1.out _ true (by repeat (first | exact Below.refl _ _ | assumption | refine Below.drew ?_ | refine below_drewN ?_ _ | refine Below.alloc ?_ (by simp <;> omega) _ | refine Below.setCell ?_ (by simp <;> omega) _)) G1.out).mono ?_; rintro e w1 ⟨rfl, hB1⟩; have hcc := bcell hB1)
            go_ret
            exact ⟨ret_bool hr.out.symm, Below.then (by repeat (first | exact Below.refl _ _ | assumption | refine Below.drew ?_ | refine below_drewN ?_ _ | refine Below.alloc ?_ (by simp <;> omega) _ | refine Below.setCell ?_ (by simp <;> omega) _)) hB1⟩
          · by_cases g2 : feedsB t s = true
            · have hr := Lib.hid (show depB s t = true by rw [Hd.out, g2]; simp)
              have G1 := Lib.hid (show feedsB s t = false by simpa using g1)
              have G2 := Lib.hid g2
              clear g1 g2
              go_enter Try.func56, Try.ntmps56
              go_wp2_with fail
              refine (F1.out _ false (by repeat (first | exact Below.refl _ _ | assumption | refine Below.drew ?_ | refine below_drewN ?_ _ | refine Below.alloc ?_ (by simp <;> omega) _ | refine Below.setCell ?_ (by simp <;> omega) _)) G1.out).mono ?_
              rintro e w1 ⟨rfl, hB1⟩
              have hcc := bcell hB1
              go_wp2_with fail
              refine (F2.out _ true (Below.then (by repeat (first | exact Below.refl _ _ | assumption | refine Below.drew ?_ | refine below_drewN ?_ _ | refine Below.alloc ?_ (by simp <;> omega) _ | refine Below.setCell ?_ (by simp <;> omega) _)) hB1) G2.out).mono ?_
              rintro e w2 ⟨rfl, hB2⟩
              go_wp2_with fail
              go_ret
              exact ⟨ret_bool hr.out.symm, Below.then (Below.then (by repeat (first | exact Below.refl _ _ | assumption | refine Below.drew ?_ | refine below_drewN ?_ _ | refine Below.alloc ?_ (by simp <;> omega) _ | refine Below.setCell ?_ (by simp <;> omega) _)) hB1) hB2⟩
            · have hr := Lib.hid (show depB s t = false by rw [Hd.out]; simp [g1, g2])
              have G1 := Lib.hid (show feedsB s t = false by simpa using g1)
              have G2 := Lib.hid (show feedsB t s = false by simpa using g2)
              clear g1 g2
              go_enter Try.func56, Try.ntmps56
              go_wp2_with fail
              refine (F1.out _ false (by repeat (first | exact Below.refl _ _ | assumption | refine Below.drew ?_ | refine below_drewN ?_ _ | refine Below.alloc ?_ (by simp <;> omega) _ | refine Below.setCell ?_ (by simp <;> omega) _)) G1.out).mono ?_
              rintro e w1 ⟨rfl, hB1⟩
              have hcc := bcell hB1
              go_wp2_with fail
              refine (F2.out _ false (Below.then (by repeat (first | exact Below.refl _ _ | assumption | refine Below.drew ?_ | refine below_drewN ?_ _ | refine Below.alloc ?_ (by simp <;> omega) _ | refine Below.setCell ?_ (by simp <;> omega) _)) hB1) G2.out).mono ?_
              rintro e w2 ⟨rfl, hB2⟩
              go_wp2_with fail
              go_ret
              exact ⟨ret_bool hr.out.symm, Below.then (Below.then (by repeat (first | exact Below.refl _ _ | assumption | refine Below.drew ?_ | refine below_drewN ?_ _ | refine Below.alloc ?_ (by simp <;> omega) _ | refine Below.setCell ?_ (by simp <;> omega) _)) hB1) hB2⟩
        · have hr := Lib.hid (show depB s t = true by rw [Hdep.out, Hso.out, Hto.out]; simp)
          go_enter Try.func56, Try.ntmps56
          go_wp2_with fail
          go_ret
          exact ⟨ret_bool hr.out.symm, (by repeat (first | exact Below.refl _ _ | assumption | refine Below.drew ?_ | refine below_drewN ?_ _ | refine Below.alloc ?_ (by simp <;> omega) _ | refine Below.setCell ?_ (by simp <;> omega) _))⟩
    exact key _ _ (Lib.hid rfl) (Lib.hid rfl)

end Go.Proofs.Ytaedfidfcoigoaa
