import Derived.Test.YtljmonfobefiiaaGreatDoorUBase
import Derived.Test.YtljmonfobefiiaaGreatDoorUP3
/- The reference's dependence of steps, and the comparison of lists. -/
namespace Go.Proofs.YtljmonfobefiiaaGreatDoor
open Go.RowKit

def consB (t : Stp) : Bool := t.ev.kind == 3 || t.ev.kind == 5 || t.ev.kind == 6
def matchB (m : Msg) (t : Stp) : Bool := m.copy == 0 && m.node == t.ev.msg.node && m.handler == t.ev.msg.handler && m.count == t.ev.msg.count && m.index == t.ev.msg.index
theorem feedsB_eq (a b : Stp) : feedsB a b = (consB b && a.sent.any fun m => matchB m b) := rfl

set_option maxHeartbeats 400000 in
theorem feeds_no (s t : Stp) (v u : Value) (w : World) (hs : s.In w v) (ht : t.In w u) (h : consB t = false) :
    Calls Tryz.prog 77 #[v, u] w fun e w' => e = .returned (.bool false) ∧ Below w.heap.size w w' := by
  obtain ⟨va, vs, rfl, hsa, hss⟩ := hs
  obtain ⟨ua, us, rfl, hta, hts⟩ := ht
  simp only [consB, Bool.or_eq_false_iff, beq_eq_false_iff_ne] at h
  obtain ⟨⟨h3, h5⟩, h6⟩ := h
  have q3 : (t.ev.kind != 3) = true := by simpa using h3
  have q5 : (t.ev.kind != 5) = true := by simpa using h5
  have q6 : (t.ev.kind != 6) = true := by simpa using h6
  clear h3 h5 h6
  simp only [Stp.val, Stp.row]
  go_enter Tryz.func77, Tryz.ntmps77
  go_wp2
  go_ret
  exact ⟨rfl, (by repeat (first | exact Below.refl _ _ | assumption | refine Below.drew ?_ | refine below_drewN ?_ _ | refine Below.alloc ?_ (by simp <;> omega) _ | refine Below.setCell ?_ (by simp <;> omega) _))⟩

set_option maxHeartbeats 400000 in
set_option maxRecDepth 100000 in
theorem feeds_yes (s t : Stp) (v u : Value) (w : World) (hs : s.In w v) (ht : t.In w u) (h : consB t = true) :
    Calls Tryz.prog 77 #[v, u] w fun e w' => e = .returned (.bool (s.sent.any fun m => matchB m t)) ∧ Below w.heap.size w w' := by
  obtain ⟨va, vs, rfl, hsa, hss⟩ := hs
  obtain ⟨ua, us, rfl, hta, hts⟩ := ht
  obtain ⟨ka, ca, rfl, hma⟩ := hss.open
  simp only [consB, Bool.or_eq_true, beq_iff_eq] at h
  simp only [Stp.val, Stp.row]
  have key : ∀ K : Int, (K = 3 ∨ K = 5 ∨ K = 6) → Calls Tryz.prog 77 #[.agg #[I s.ev.kind, I s.ev.node, I s.ev.arg, I s.ev.msg.node, I s.ev.msg.handler, I s.ev.msg.count, I s.ev.msg.index, I s.ev.msg.copy, va, .bool s.obs, .slice ka s.sent.length ca],
      .agg #[I K, I t.ev.node, I t.ev.arg, I t.ev.msg.node, I t.ev.msg.handler, I t.ev.msg.count, I t.ev.msg.index, I t.ev.msg.copy, ua, .bool t.obs, us]] w fun e w' => e = .returned (.bool (s.sent.any fun m => matchB m t)) ∧ Below w.heap.size w w' := by
    intro K hK
    have q : ((K != 3) = false) ∨ ((K != 3) = true ∧ (K != 5) = false) ∨ ((K != 3) = true ∧ (K != 5) = true ∧ (K != 6) = false) := by
      rcases hK with rfl | rfl | rfl <;> decide
    clear hK h
    rcases q with q1 | ⟨q1, q2⟩ | ⟨q1, q2, q3⟩
    all_goals
      go_enter Tryz.func77, Tryz.ntmps77
      go_wp2
      go_loopw [6] (fun i wr => ∃ k : Nat, k ≤ s.sent.length ∧ i = .int .i64 k ∧ Below w.heap.size w wr ∧ (∀ j < k, ∀ m, s.sent[j]? = some m → matchB m t = false) ∧
        Blk wr w.heap.size #[I s.ev.kind, I s.ev.node, I s.ev.arg, I s.ev.msg.node, I s.ev.msg.handler, I s.ev.msg.count, I s.ev.msg.index, I s.ev.msg.copy, va, .bool s.obs, .slice ka s.sent.length ca] ∧
        Blk wr (w.heap.size + 1) #[I K, I t.ev.node, I t.ev.arg, I t.ev.msg.node, I t.ev.msg.handler, I t.ev.msg.count, I t.ev.msg.index, I t.ev.msg.copy, ua, .bool t.obs, us]) (fun i _ => s.sent.length - (intOf i).toNat)
      case atStart =>
        refine ⟨0, by omega, rfl, (by repeat (first | exact Below.refl _ _ | assumption | refine Below.drew ?_ | refine below_drewN ?_ _ | refine Below.alloc ?_ (by simp <;> omega) _ | refine Below.setCell ?_ (by simp <;> omega) _)), fun j hj => absurd hj (by omega), (Blk.new _ _ _).alloc _, ?_⟩
        have := Blk.new (w.alloc (.cells #[I s.ev.kind, I s.ev.node, I s.ev.arg, I s.ev.msg.node, I s.ev.msg.handler, I s.ev.msg.count, I s.ev.msg.index, I s.ev.msg.copy, va, .bool s.obs, .slice ka s.sent.length ca] 53)) #[I K, I t.ev.node, I t.ev.arg, I t.ev.msg.node, I t.ev.msg.handler, I t.ev.msg.count, I t.ev.msg.index, I t.ev.msg.copy, ua, .bool t.obs, us] 53
        simpa using this
      case round =>
        obtain ⟨k, hk, rfl, hB, hE, hb1, hb2⟩ := hrel
        have HE := Lib.hid hE
        clear hE
        have hc1 := hb1.cell
        have hc2 := hb2.cell
        by_cases hlt : k < s.sent.length
        · obtain ⟨b, o, rfl, x0, x1, x2, x3, x4⟩ := (hss.kept hB (Nat.le_refl _)).at (i := k) (x := s.sent[k]) (by simp [hlt])
          have hno : matchB s.sent[k] t = false → ∀ j < k + 1, ∀ m, s.sent[j]? = some m → matchB m t = false := by
            intro h0 j hj m hm
            by_cases hjk : j = k
            · subst hjk
              rw [List.getElem?_eq_getElem hlt] at hm
              cases hm
              exact h0
            · exact HE.out j (by omega) m hm
          have Hno := Lib.hid hno
          clear hno
          by_cases g0 : s.sent[k].copy = 0
          · have p0 : (s.sent[k].copy == 0) = true := by simp [g0]
            by_cases g1 : [s.sent[k].node, s.sent[k].handler, s.sent[k].count] = [t.ev.msg.node, t.ev.msg.handler, t.ev.msg.count]
            · have p1 := eqL_true g1
              by_cases g2 : s.sent[k].index = t.ev.msg.index
              · have p2 : (s.sent[k].index == t.ev.msg.index) = true := by simp [g2]
                have hyes : matchB s.sent[k] t = true := by
                  simp at g1
                  simp [matchB, g0, g1, g2]
                have Hyes := Lib.hid hyes
                clear g0 g1 g2 hyes
                go_wp2
                go_quiet (fail)
                go_wp2
                go_ret
                refine ⟨ret_bool ?_, below_drewN hB nq⟩
                symm
                rw [List.any_eq_true]
                exact ⟨_, List.getElem_mem hlt, Hyes.out⟩
              · have p2 : (s.sent[k].index == t.ev.msg.index) = false := by simp [g2]
                have hno := Lib.hid (Hno.out (by simp [matchB, p2]))
                clear g0 g1 g2
                go_wp2
                go_quiet (fail)
                go_wp2
                go_roundw
                case rel => exact ⟨k + 1, by omega, by go_num, below_drewN hB nq, hno.out, hb1.drewN nq, hb2.drewN nq⟩
                case measure => simp [intOf]; omega
            · have p1 := eqL_false g1
              have hno := Lib.hid (Hno.out (by
                rw [Bool.eq_false_iff]
                intro h0
                apply g1
                simp [matchB] at h0
                simp [h0]))
              clear g0 g1
              go_wp2
              go_quiet (fail)
              go_wp2
              go_roundw
              case rel => exact ⟨k + 1, by omega, by go_num, below_drewN hB nq, hno.out, hb1.drewN nq, hb2.drewN nq⟩
              case measure => simp [intOf]; omega
          · have p0 : (s.sent[k].copy == 0) = false := by simp [g0]
            have hno := Lib.hid (Hno.out (by simp [matchB, p0]))
            clear g0
            go_wp2
            go_quiet (fail)
            go_wp2
            go_roundw
            case rel => exact ⟨k + 1, by omega, by go_num, below_drewN hB nq, hno.out, hb1.drewN nq, hb2.drewN nq⟩
            case measure => simp [intOf]; omega
        · go_wp2
          go_ret
          refine ⟨ret_bool ?_, hB⟩
          symm
          rw [Bool.eq_false_iff]
          intro h0
          obtain ⟨m, hm, h1⟩ := List.any_eq_true.1 h0
          obtain ⟨j, hj⟩ := List.getElem?_of_mem hm
          rw [HE.out j (by have := (List.getElem?_eq_some_iff.1 hj).1; omega) m hj] at h1
          cases h1
  exact key _ (by rcases h with (h | h) | h <;> simp [h])

theorem feeds (s t : Stp) (v u : Value) (w : World) (hs : s.In w v) (ht : t.In w u) :
    Calls Tryz.prog 77 #[v, u] w fun e w' => e = .returned (.bool (feedsB s t)) ∧ Below w.heap.size w w' := by
  by_cases h : consB t = true
  · refine (feeds_yes s t v u w hs ht h).mono fun e w' ⟨h1, h2⟩ => ⟨?_, h2⟩
    rw [h1, feedsB_eq, h]; rfl
  · refine (feeds_no s t v u w hs ht (by simpa using h)).mono fun e w' ⟨h1, h2⟩ => ⟨?_, h2⟩
    rw [h1, feedsB_eq, (by simpa using h : consB t = false)]; rfl

theorem feeds_at {s t : Stp} {v u : Value} {w W : World} {x : Bool} (hs : s.In w v) (ht : t.In w u) (hB : Below w.heap.size w W) (hx : feedsB s t = x) :
    Calls Tryz.prog 77 #[v, u] W fun e w' => e = .returned (.bool x) ∧ Below W.heap.size W w' := by
  rw [← hx]
  exact feeds s t v u W (hs.kept hB (Nat.le_refl _)) (ht.kept hB (Nat.le_refl _))

set_option maxHeartbeats 800000 in
set_option maxRecDepth 100000 in
theorem dependent (s t : Stp) (v u : Value) (w : World) (hs : s.In w v) (ht : t.In w u) :
    Calls Tryz.prog 34 #[v, u] w fun e w' => e = .returned (.bool (depB s t)) ∧ Below w.heap.size w w' := by
  have f1 : ∀ W x, Below w.heap.size w W → feedsB s t = x → Calls Tryz.prog 77 #[v, u] W fun e w' => e = .returned (.bool x) ∧ Below W.heap.size W w' := fun W x hB hx => feeds_at hs ht hB hx
  have f2 : ∀ W x, Below w.heap.size w W → feedsB t s = x → Calls Tryz.prog 77 #[u, v] W fun e w' => e = .returned (.bool x) ∧ Below W.heap.size W w' := fun W x hB hx => feeds_at ht hs hB hx
  obtain ⟨va, vs, rfl, hsa, hss⟩ := hs
  obtain ⟨ua, us, rfl, hta, hts⟩ := ht
  obtain ⟨ka, ca, rfl, _⟩ := hsa.open
  obtain ⟨kb, cb, rfl, _⟩ := hss.open
  obtain ⟨kc, cc, rfl, _⟩ := hta.open
  obtain ⟨kd, cd, rfl, _⟩ := hts.open
  simp only [Stp.val, Stp.row] at f1 f2 ⊢
  have F1 := Lib.hid f1
  have F2 := Lib.hid f2
  clear f1 f2
  by_cases h1 : s.ev.node = t.ev.node
  · have q1 : (s.ev.node == t.ev.node) = true := by simp [h1]
    have hr := Lib.hid (show depB s t = true by simp [depB, h1])
    clear h1
    go_enter Tryz.func34, Tryz.ntmps34
    go_wp2_with fail
    go_ret
    exact ⟨ret_bool hr.out.symm, (by repeat (first | exact Below.refl _ _ | assumption | refine Below.drew ?_ | refine below_drewN ?_ _ | refine Below.alloc ?_ (by simp <;> omega) _ | refine Below.setCell ?_ (by simp <;> omega) _))⟩
  · have q1 : (s.ev.node == t.ev.node) = false := by simp [h1]
    clear h1
    have hdep : depB s t = ((s.obs && t.obs) || feedsB s t || feedsB t s) := by
      have : depB s t = ((s.ev.node == t.ev.node) || (s.obs && t.obs) || feedsB s t || feedsB t s) := rfl
      rw [this, q1]
      simp
    have Hdep := Lib.hid hdep
    clear hdep
    have key : ∀ so to : Bool, Hid (s.obs = so) → Hid (t.obs = to) → Calls Tryz.prog 34 #[.agg #[I s.ev.kind, I s.ev.node, I s.ev.arg, I s.ev.msg.node, I s.ev.msg.handler, I s.ev.msg.count, I s.ev.msg.index, I s.ev.msg.copy, .slice ka s.asks.length ca, .bool so, .slice kb s.sent.length cb],
        .agg #[I t.ev.kind, I t.ev.node, I t.ev.arg, I t.ev.msg.node, I t.ev.msg.handler, I t.ev.msg.count, I t.ev.msg.index, I t.ev.msg.copy, .slice kc t.asks.length cc, .bool to, .slice kd t.sent.length cd]] w fun e w' => e = .returned (.bool (depB s t)) ∧ Below w.heap.size w w' := by
      intro so to Hso Hto
      have F1 := F1.out
      have F2 := F2.out
      rw [Hso.out, Hto.out] at F1 F2
      have F1 := Lib.hid F1
      have F2 := Lib.hid F2
      clear hsa hss hta hts
      cases so
      · cases to
        · have hd : depB s t = (feedsB s t || feedsB t s) := by rw [Hdep.out, Hso.out, Hto.out]; simp
          have Hd := Lib.hid hd
          clear hd
          by_cases g1 : feedsB s t = true
          · have hr := Lib.hid (show depB s t = true by rw [Hd.out, g1]; simp)
            have G1 := Lib.hid g1
            clear g1
            go_enter Tryz.func34, Tryz.ntmps34
            go_wp2_with (go_at_call 77; refine (F1.out _ true (by repeat (first | exact Below.refl _ _ | assumption | refine Below.drew ?_ | refine below_drewN ?_ _ | refine Below.alloc ?_ (by simp <;> omega) _ | refine Below.setCell ?_ (by simp <;> omega) _)) G1.out).mono ?_; rintro e w1 ⟨rfl, hB1⟩; have hcc := bcell hB1)
            go_ret
            exact ⟨ret_bool hr.out.symm, Below.then (by repeat (first | exact Below.refl _ _ | assumption | refine Below.drew ?_ | refine below_drewN ?_ _ | refine Below.alloc ?_ (by simp <;> omega) _ | refine Below.setCell ?_ (by simp <;> omega) _)) hB1⟩
          · by_cases g2 : feedsB t s = true
            · have hr := Lib.hid (show depB s t = true by rw [Hd.out, g2]; simp)
              have G1 := Lib.hid (show feedsB s t = false by simpa using g1)
              have G2 := Lib.hid g2
              clear g1 g2
              go_enter Tryz.func34, Tryz.ntmps34
              go_wp2_with fail
              refine (F1.out _ false (by repeat (first | exact Below.refl _ _ | assumption | refine Below.drew ?_ | refine below_drewN ?_ _ | refine Below.alloc ?_ (by simp <;> omega) _ | refine Below.setCell ?_ (by simp <;> omega) _)) G1.out).mono ?_
              rintro e w1 ⟨rfl, hB1⟩
              have hcc := bcell hB1
              go_wp2_with fail
              refine (F2.out _ true (Below.then (by repeat (first | exact Below.refl _ _ | assumption | refine Below.drew ?_ | refine below_drewN ?_ _ | refine Below.alloc ?_ (by simp <;> omega) _ | refine Below.setCell ?_ (by simp <;> omega) _)) hB1) G2.out).mono ?_
              rintro e w2 ⟨rfl, hB2⟩
              go_wp2_with fail
              go_ret
              exact ⟨ret_bool hr.out.symm, Below.then (Below.then (by repeat (first | exact Below.refl _ _ | assumption | refine Below.drew ?_ | refine below_drewN ?_ _ | refine Below.alloc ?_ (by simp <;> omega) _ | refine Below.setCell ?_ (by simp <;> omega) _)) hB1) hB2⟩
            · have hr := Lib.hid (show depB s t = false by rw [Hd.out]; simp [g1, g2])
              have G1 := Lib.hid (show feedsB s t = false by simpa using g1)
              have G2 := Lib.hid (show feedsB t s = false by simpa using g2)
              clear g1 g2
              go_enter Tryz.func34, Tryz.ntmps34
              go_wp2_with fail
              refine (F1.out _ false (by repeat (first | exact Below.refl _ _ | assumption | refine Below.drew ?_ | refine below_drewN ?_ _ | refine Below.alloc ?_ (by simp <;> omega) _ | refine Below.setCell ?_ (by simp <;> omega) _)) G1.out).mono ?_
              rintro e w1 ⟨rfl, hB1⟩
              have hcc := bcell hB1
              go_wp2_with fail
              refine (F2.out _ false (Below.then (by repeat (first | exact Below.refl _ _ | assumption | refine Below.drew ?_ | refine below_drewN ?_ _ | refine Below.alloc ?_ (by simp <;> omega) _ | refine Below.setCell ?_ (by simp <;> omega) _)) hB1) G2.out).mono ?_
              rintro e w2 ⟨rfl, hB2⟩
              go_wp2_with fail
              go_ret
              exact ⟨ret_bool hr.out.symm, Below.then (Below.then (by repeat (first | exact Below.refl _ _ | assumption | refine Below.drew ?_ | refine below_drewN ?_ _ | refine Below.alloc ?_ (by simp <;> omega) _ | refine Below.setCell ?_ (by simp <;> omega) _)) hB1) hB2⟩
        · have hd : depB s t = (feedsB s t || feedsB t s) := by rw [Hdep.out, Hso.out, Hto.out]; simp
          have Hd := Lib.hid hd
          clear hd
          by_cases g1 : feedsB s t = true
          · have hr := Lib.hid (show depB s t = true by rw [Hd.out, g1]; simp)
            have G1 := Lib.hid g1
            clear g1
            go_enter Tryz.func34, Tryz.ntmps34
            go_wp2_with (go_at_call 77; refine (F1.out _ true (by repeat (first | exact Below.refl _ _ | assumption | refine Below.drew ?_ | refine below_drewN ?_ _ | refine Below.alloc ?_ (by simp <;> omega) _ | refine Below.setCell ?_ (by simp <;> omega) _)) G1.out).mono ?_; rintro e w1 ⟨rfl, hB1⟩; have hcc := bcell hB1)
            go_ret
            exact ⟨ret_bool hr.out.symm, Below.then (by repeat (first | exact Below.refl _ _ | assumption | refine Below.drew ?_ | refine below_drewN ?_ _ | refine Below.alloc ?_ (by simp <;> omega) _ | refine Below.setCell ?_ (by simp <;> omega) _)) hB1⟩
          · by_cases g2 : feedsB t s = true
            · have hr := Lib.hid (show depB s t = true by rw [Hd.out, g2]; simp)
              have G1 := Lib.hid (show feedsB s t = false by simpa using g1)
              have G2 := Lib.hid g2
              clear g1 g2
              go_enter Tryz.func34, Tryz.ntmps34
              go_wp2_with fail
              refine (F1.out _ false (by repeat (first | exact Below.refl _ _ | assumption | refine Below.drew ?_ | refine below_drewN ?_ _ | refine Below.alloc ?_ (by simp <;> omega) _ | refine Below.setCell ?_ (by simp <;> omega) _)) G1.out).mono ?_
              rintro e w1 ⟨rfl, hB1⟩
              have hcc := bcell hB1
              go_wp2_with fail
              refine (F2.out _ true (Below.then (by repeat (first | exact Below.refl _ _ | assumption | refine Below.drew ?_ | refine below_drewN ?_ _ | refine Below.alloc ?_ (by simp <;> omega) _ | refine Below.setCell ?_ (by simp <;> omega) _)) hB1) G2.out).mono ?_
              rintro e w2 ⟨rfl, hB2⟩
              go_wp2_with fail
              go_ret
              exact ⟨ret_bool hr.out.symm, Below.then (Below.then (by repeat (first | exact Below.refl _ _ | assumption | refine Below.drew ?_ | refine below_drewN ?_ _ | refine Below.alloc ?_ (by simp <;> omega) _ | refine Below.setCell ?_ (by simp <;> omega) _)) hB1) hB2⟩
            · have hr := Lib.hid (show depB s t = false by rw [Hd.out]; simp [g1, g2])
              have G1 := Lib.hid (show feedsB s t = false by simpa using g1)
              have G2 := Lib.hid (show feedsB t s = false by simpa using g2)
              clear g1 g2
              go_enter Tryz.func34, Tryz.ntmps34
              go_wp2_with fail
              refine (F1.out _ false (by repeat (first | exact Below.refl _ _ | assumption | refine Below.drew ?_ | refine below_drewN ?_ _ | refine Below.alloc ?_ (by simp <;> omega) _ | refine Below.setCell ?_ (by simp <;> omega) _)) G1.out).mono ?_
              rintro e w1 ⟨rfl, hB1⟩
              have hcc := bcell hB1
              go_wp2_with fail
              refine (F2.out _ false (Below.then (by repeat (first | exact Below.refl _ _ | assumption | refine Below.drew ?_ | refine below_drewN ?_ _ | refine Below.alloc ?_ (by simp <;> omega) _ | refine Below.setCell ?_ (by simp <;> omega) _)) hB1) G2.out).mono ?_
              rintro e w2 ⟨rfl, hB2⟩
              go_wp2_with fail
              go_ret
              exact ⟨ret_bool hr.out.symm, Below.then (Below.then (by repeat (first | exact Below.refl _ _ | assumption | refine Below.drew ?_ | refine below_drewN ?_ _ | refine Below.alloc ?_ (by simp <;> omega) _ | refine Below.setCell ?_ (by simp <;> omega) _)) hB1) hB2⟩
      · cases to
        · have hd : depB s t = (feedsB s t || feedsB t s) := by rw [Hdep.out, Hso.out, Hto.out]; simp
          have Hd := Lib.hid hd
          clear hd
          by_cases g1 : feedsB s t = true
          · have hr := Lib.hid (show depB s t = true by rw [Hd.out, g1]; simp)
            have G1 := Lib.hid g1
            clear g1
            go_enter Tryz.func34, Tryz.ntmps34
            go_wp2_with (go_at_call 77; refine (F1.out _ true (by repeat (first | exact Below.refl _ _ | assumption | refine Below.drew ?_ | refine below_drewN ?_ _ | refine Below.alloc ?_ (by simp <;> omega) _ | refine Below.setCell ?_ (by simp <;> omega) _)) G1.out).mono ?_; rintro e w1 ⟨rfl, hB1⟩; have hcc := bcell hB1)
            go_ret
            exact ⟨ret_bool hr.out.symm, Below.then (by repeat (first | exact Below.refl _ _ | assumption | refine Below.drew ?_ | refine below_drewN ?_ _ | refine Below.alloc ?_ (by simp <;> omega) _ | refine Below.setCell ?_ (by simp <;> omega) _)) hB1⟩
          · by_cases g2 : feedsB t s = true
            · have hr := Lib.hid (show depB s t = true by rw [Hd.out, g2]; simp)
              have G1 := Lib.hid (show feedsB s t = false by simpa using g1)
              have G2 := Lib.hid g2
              clear g1 g2
              go_enter Tryz.func34, Tryz.ntmps34
              go_wp2_with fail
              refine (F1.out _ false (by repeat (first | exact Below.refl _ _ | assumption | refine Below.drew ?_ | refine below_drewN ?_ _ | refine Below.alloc ?_ (by simp <;> omega) _ | refine Below.setCell ?_ (by simp <;> omega) _)) G1.out).mono ?_
              rintro e w1 ⟨rfl, hB1⟩
              have hcc := bcell hB1
              go_wp2_with fail
              refine (F2.out _ true (Below.then (by repeat (first | exact Below.refl _ _ | assumption | refine Below.drew ?_ | refine below_drewN ?_ _ | refine Below.alloc ?_ (by simp <;> omega) _ | refine Below.setCell ?_ (by simp <;> omega) _)) hB1) G2.out).mono ?_
              rintro e w2 ⟨rfl, hB2⟩
              go_wp2_with fail
              go_ret
              exact ⟨ret_bool hr.out.symm, Below.then (Below.then (by repeat (first | exact Below.refl _ _ | assumption | refine Below.drew ?_ | refine below_drewN ?_ _ | refine Below.alloc ?_ (by simp <;> omega) _ | refine Below.setCell ?_ (by simp <;> omega) _)) hB1) hB2⟩
            · have hr := Lib.hid (show depB s t = false by rw [Hd.out]; simp [g1, g2])
              have G1 := Lib.hid (show feedsB s t = false by simpa using g1)
              have G2 := Lib.hid (show feedsB t s = false by simpa using g2)
              clear g1 g2
              go_enter Tryz.func34, Tryz.ntmps34
              go_wp2_with fail
              refine (F1.out _ false (by repeat (first | exact Below.refl _ _ | assumption | refine Below.drew ?_ | refine below_drewN ?_ _ | refine Below.alloc ?_ (by simp <;> omega) _ | refine Below.setCell ?_ (by simp <;> omega) _)) G1.out).mono ?_
              rintro e w1 ⟨rfl, hB1⟩
              have hcc := bcell hB1
              go_wp2_with fail
              refine (F2.out _ false (Below.then (by repeat (first | exact Below.refl _ _ | assumption | refine Below.drew ?_ | refine below_drewN ?_ _ | refine Below.alloc ?_ (by simp <;> omega) _ | refine Below.setCell ?_ (by simp <;> omega) _)) hB1) G2.out).mono ?_
              rintro e w2 ⟨rfl, hB2⟩
              go_wp2_with fail
              go_ret
              exact ⟨ret_bool hr.out.symm, Below.then (Below.then (by repeat (first | exact Below.refl _ _ | assumption | refine Below.drew ?_ | refine below_drewN ?_ _ | refine Below.alloc ?_ (by simp <;> omega) _ | refine Below.setCell ?_ (by simp <;> omega) _)) hB1) hB2⟩
        · have hr := Lib.hid (show depB s t = true by rw [Hdep.out, Hso.out, Hto.out]; simp)
          go_enter Tryz.func34, Tryz.ntmps34
          go_wp2_with fail
          go_ret
          exact ⟨ret_bool hr.out.symm, (by repeat (first | exact Below.refl _ _ | assumption | refine Below.drew ?_ | refine below_drewN ?_ _ | refine Below.alloc ?_ (by simp <;> omega) _ | refine Below.setCell ?_ (by simp <;> omega) _))⟩
    exact key _ _ (Lib.hid rfl) (Lib.hid rfl)

end Go.Proofs.YtljmonfobefiiaaGreatDoor

/- The program's dependence of steps: package depend. -/
namespace Go.Proofs.YtljmonfobefiiaaGreatDoor
open Go.RowKit

set_option maxHeartbeats 800000 in
set_option maxRecDepth 100000 in
theorem consumed_no (t : Stp) (v : Value) (w : World) (ht : t.In w v) (h : consB t = false) :
    Calls Tryz.prog 181 #[v] w fun e w' => e = .returned (.pointer none) ∧ Below w.heap.size w w' := by
  obtain ⟨ua, us, rfl, hta, hts⟩ := ht
  simp only [consB, Bool.or_eq_false_iff] at h
  obtain ⟨⟨h3, h5⟩, h6⟩ := h
  simp only [Stp.val, Stp.row]
  go_enter Tryz.func181, Tryz.ntmps181
  go_wp2
  go_ret
  exact ⟨rfl, (by repeat (first | exact Below.refl _ _ | assumption | refine Below.drew ?_ | refine below_drewN ?_ _ | refine Below.alloc ?_ (by simp <;> omega) _ | refine Below.setCell ?_ (by simp <;> omega) _))⟩

set_option maxHeartbeats 800000 in
set_option maxRecDepth 100000 in
theorem consumed_yes (t : Stp) (v : Value) (w : World) (ht : t.In w v) (h : consB t = true) :
    Calls Tryz.prog 181 #[v] w fun e w' => ∃ g, e = .returned (.pointer (some ⟨g, 0, none⟩)) ∧ w.heap.size ≤ g ∧
      w'.heap[g]? = some (.cells #[I t.ev.msg.node, I t.ev.msg.handler, I t.ev.msg.count, I t.ev.msg.index, I 0] 47 (0, 0)) ∧ Below w.heap.size w w' := by
  obtain ⟨ua, us, rfl, hta, hts⟩ := ht
  have q : ((t.ev.kind == 3) = true) ∨ ((t.ev.kind == 3) = false ∧ (t.ev.kind == 5) = true) ∨ ((t.ev.kind == 3) = false ∧ (t.ev.kind == 5) = false ∧ (t.ev.kind == 6) = true) := by
    unfold consB at h
    revert h
    cases (t.ev.kind == 3) <;> cases (t.ev.kind == 5) <;> cases (t.ev.kind == 6) <;> simp
  clear h
  simp only [Stp.val, Stp.row]
  rcases q with q1 | ⟨q1, q2⟩ | ⟨q1, q2, q3⟩
  all_goals
    go_enter Tryz.func181, Tryz.ntmps181
    go_wp2
    go_ret
    exact ⟨_, rfl, by simp, heap_alloc2_new _ _ _, (by repeat (first | exact Below.refl _ _ | assumption | refine Below.drew ?_ | refine below_drewN ?_ _ | refine Below.alloc ?_ (by simp <;> omega) _ | refine Below.setCell ?_ (by simp <;> omega) _))⟩

set_option maxHeartbeats 800000 in
set_option maxRecDepth 100000 in
theorem feedsFn (m : Msg) (q g : Nat) (b0 b1 b2 b3 b4 : Int) (w : World) (hq : w.cell? ⟨q, 0, none⟩ = some (.pointer (some ⟨g, 0, none⟩))) (hg : Blk w g #[I b0, I b1, I b2, I b3, I b4]) :
    Calls Tryz.prog 183 #[.agg #[I m.node, I m.handler, I m.count, I m.index, I m.copy], .pointer (some ⟨q, 0, none⟩)] w fun e w' => e = .returned (.bool (eqL m.ints [b0, b1, b2, b3, b4])) ∧ Below w.heap.size w w' := by
  have hql : q < w.heap.size := by simpa using World.block_lt_of_cell? _ _ hq
  have hb : Below w.heap.size w (w.alloc (.cells #[I m.node, I m.handler, I m.count, I m.index, I m.copy] 47)) := (by repeat (first | exact Below.refl _ _ | assumption | refine Below.drew ?_ | refine below_drewN ?_ _ | refine Below.alloc ?_ (by simp <;> omega) _ | refine Below.setCell ?_ (by simp <;> omega) _))
  have hq1 := (hb.cell (p := ⟨q, 0, none⟩) hql).trans hq
  have hg1 := (hg.alloc (.cells #[I m.node, I m.handler, I m.count, I m.index, I m.copy] 47)).cell
  have hm1 := (Blk.new w #[I m.node, I m.handler, I m.count, I m.index, I m.copy] 47).cell
  have Hb := Lib.hid hb
  clear hb hg
  go_enter Tryz.func183, Tryz.ntmps183
  go_wp2
  go_quiet (fail)
  go_wp2
  go_ret
  exact ⟨rfl, below_drewN Hb.out nq⟩

theorem eqL_match (m : Msg) (t : Stp) : eqL m.ints [t.ev.msg.node, t.ev.msg.handler, t.ev.msg.count, t.ev.msg.index, 0] = matchB m t := by
  rw [Bool.eq_iff_iff]
  simp [eqL, matchB, Msg.ints]
  constructor
  · rintro ⟨a, b, c, d, e⟩; exact ⟨⟨⟨⟨e, a⟩, b⟩, c⟩, d⟩
  · rintro ⟨⟨⟨⟨e, a⟩, b⟩, c⟩, d⟩; exact ⟨a, b, c, d, e⟩

set_option maxHeartbeats 800000 in
set_option maxRecDepth 100000 in
theorem indexMsg (l : List Msg) (t : Stp) (v : Value) (q g : Nat) (w : World) (hl : MsgSl w v l) (hq : w.cell? ⟨q, 0, none⟩ = some (.pointer (some ⟨g, 0, none⟩)))
    (hg : Blk w g #[I t.ev.msg.node, I t.ev.msg.handler, I t.ev.msg.count, I t.ev.msg.index, I 0]) :
    Calls Tryz.prog 188 #[v, .func (.func 183) #[] #[.pointer (some ⟨q, 0, none⟩)]] w fun e w' => ∃ r : Int, e = .returned (I r) ∧ decide (0 ≤ r) = (l.any fun m => matchB m t) ∧ Below w.heap.size w w' := by
  obtain ⟨ka, ca, rfl, hml⟩ := hl.open
  have hql : q < w.heap.size := by simpa using World.block_lt_of_cell? _ _ hq
  have hgl := hg.lt
  have c : ∀ (m : Msg) (W : World), Below w.heap.size w W → Calls Tryz.prog 183 #[.agg #[I m.node, I m.handler, I m.count, I m.index, I m.copy], .pointer (some ⟨q, 0, none⟩)] W fun e w' => e = .returned (.bool (matchB m t)) ∧ Below W.heap.size W w' := fun m W hB => by
    have := feedsFn m q g _ _ _ _ _ W ((hB.cell (p := ⟨q, 0, none⟩) hql).trans hq) (hg.kept hB hgl)
    rwa [eqL_match] at this
  have C := Lib.hid c
  clear c hq hg
  go_enter Tryz.func188, Tryz.ntmps188
  go_wp2_with fail
  go_loopw [8] (fun i wr => ∃ k : Nat, k ≤ l.length ∧ i = .int .i64 k ∧ Below w.heap.size w wr ∧ (∀ j < k, ∀ m, l[j]? = some m → matchB m t = false)) (fun i _ => l.length - (intOf i).toNat)
  case atStart => exact ⟨0, by omega, rfl, Below.refl _ _, fun j hj => absurd hj (by omega)⟩
  case round =>
    obtain ⟨k, hk, rfl, hB, hE⟩ := hrel
    have HE := Lib.hid hE
    clear hE
    by_cases hlt : k < l.length
    · obtain ⟨b, o, rfl, x0, x1, x2, x3, x4⟩ := (hl.kept hB (Nat.le_refl _)).at (i := k) (x := l[k]) (by simp [hlt])
      have c1 := C.out l[k] wr hB
      by_cases hx : matchB l[k] t = true
      · rw [hx] at c1
        have C1 := Lib.hid c1
        have Hx := Lib.hid hx
        clear c1 hx
        go_wp2_with fail
        refine C1.out.mono ?_
        rintro e w1 ⟨rfl, hB1⟩
        have hBB := hB.trans (hB1.mono hB.size)
        go_wp2_with fail
        go_ret
        refine ⟨k, rfl, ?_, hBB⟩
        have : (l.any fun m => matchB m t) = true := List.any_eq_true.2 ⟨_, List.getElem_mem hlt, Hx.out⟩
        rw [this]
        simp
      · have hx' : matchB l[k] t = false := by simpa using hx
        rw [hx'] at c1
        have C1 := Lib.hid c1
        have Hx := Lib.hid hx'
        clear c1 hx hx'
        go_wp2_with fail
        refine C1.out.mono ?_
        rintro e w1 ⟨rfl, hB1⟩
        have hBB := hB.trans (hB1.mono hB.size)
        go_wp2_with fail
        go_roundw
        case rel =>
          refine ⟨k + 1, by omega, by go_num, hBB, ?_⟩
          intro j hj m hm
          by_cases hjk : j = k
          · subst hjk
            rw [List.getElem?_eq_getElem hlt] at hm
            cases hm
            exact Hx.out
          · exact HE.out j (by omega) m hm
        case measure => simp [intOf]; omega
    · go_wp2_with fail
      go_ret
      refine ⟨-1, rfl, ?_, hB⟩
      have : (l.any fun m => matchB m t) = false := by
        rw [Bool.eq_false_iff]
        intro h0
        obtain ⟨m, hm, h1⟩ := List.any_eq_true.1 h0
        obtain ⟨j, hj⟩ := List.getElem?_of_mem hm
        rw [HE.out j (by have := (List.getElem?_eq_some_iff.1 hj).1; omega) m hj] at h1
        cases h1
      rw [this]
      simp

set_option maxHeartbeats 800000 in
set_option maxRecDepth 100000 in
theorem containsMsg (l : List Msg) (t : Stp) (v : Value) (q g : Nat) (w : World) (hl : MsgSl w v l) (hq : w.cell? ⟨q, 0, none⟩ = some (.pointer (some ⟨g, 0, none⟩)))
    (hg : Blk w g #[I t.ev.msg.node, I t.ev.msg.handler, I t.ev.msg.count, I t.ev.msg.index, I 0]) :
    Calls Tryz.prog 182 #[v, .func (.func 183) #[] #[.pointer (some ⟨q, 0, none⟩)]] w fun e w' => e = .returned (.bool (l.any fun m => matchB m t)) ∧ Below w.heap.size w w' := by
  have C := Lib.hid (indexMsg l t v q g w hl hq hg)
  clear hl hq hg
  go_enter Tryz.func182, Tryz.ntmps182
  go_wp2_with fail
  refine C.out.mono ?_
  rintro e w1 ⟨r, rfl, hr, hB1⟩
  have Hr := Lib.hid hr
  clear hr
  go_wp2_with fail
  go_ret
  exact ⟨ret_bool Hr.out, hB1⟩

set_option maxHeartbeats 800000 in
set_option maxRecDepth 100000 in
theorem pfeeds (s t : Stp) (v u : Value) (w : World) (hs : s.In w v) (ht : t.In w u) :
    Calls Tryz.prog 167 #[v, u] w fun e w' => e = .returned (.bool (feedsB s t)) ∧ Below w.heap.size w w' := by
  have htk := ht
  obtain ⟨va, vs, rfl, hsa, hss⟩ := hs
  obtain ⟨ka, ca, rfl, _⟩ := hsa.open
  obtain ⟨kb, cb, rfl, _⟩ := hss.open
  obtain ⟨ua, us, rfl, hta, hts⟩ := ht
  obtain ⟨kc, cc, rfl, _⟩ := hta.open
  obtain ⟨kd, cd, rfl, _⟩ := hts.open
  by_cases h : consB t = true
  · have hr := Lib.hid (show feedsB s t = (s.sent.any fun m => matchB m t) by rw [feedsB_eq, h]; rfl)
    have c : ∀ W, Below w.heap.size w W → _ := fun W hB => consumed_yes t _ W (htk.kept hB (Nat.le_refl _)) h
    simp only [Stp.val, Stp.row] at c ⊢
    have C := Lib.hid c
    clear c htk h
    go_enter Tryz.func167, Tryz.ntmps167
    go_wp2_with fail
    refine (C.out _ (by repeat (first | exact Below.refl _ _ | assumption | refine Below.drew ?_ | refine below_drewN ?_ _ | refine Below.alloc ?_ (by simp <;> omega) _ | refine Below.setCell ?_ (by simp <;> omega) _))).mono ?_
    rintro e w1 ⟨g, rfl, hg, hgb, hB1⟩
    have hk1 := (Kp2.start w _ _ _).call hB1
    have hd1 := (hk1.alloc (.cells #[.pointer (some ⟨g, 0, none⟩)] 232)).1.cell
    have hc1 : Blk (w1.alloc (.cells #[.pointer (some ⟨g, 0, none⟩)] 232)) w1.heap.size #[.pointer (some ⟨g, 0, none⟩)] := Blk.new _ _ _
    have hb1 : Blk (w1.alloc (.cells #[.pointer (some ⟨g, 0, none⟩)] 232)) g #[I t.ev.msg.node, I t.ev.msg.handler, I t.ev.msg.count, I t.ev.msg.index, I 0] := (blk_of_heap hgb).alloc _
    have hBk := (hk1.alloc (.cells #[.pointer (some ⟨g, 0, none⟩)] 232)).2.2.1
    go_wp2_with fail
    refine (containsMsg s.sent t _ _ g _ (hss.kept hBk (Nat.le_refl _)) (hc1.cell 0) hb1).mono ?_
    rintro e w2 ⟨rfl, hB2⟩
    go_wp2_with fail
    go_ret
    exact ⟨ret_bool hr.out.symm, Below.then hBk hB2⟩
  · have h' : consB t = false := by simpa using h
    have hr := Lib.hid (show feedsB s t = false by rw [feedsB_eq, h']; rfl)
    have c : ∀ W, Below w.heap.size w W → _ := fun W hB => consumed_no t _ W (htk.kept hB (Nat.le_refl _)) h'
    simp only [Stp.val, Stp.row] at c ⊢
    have C := Lib.hid c
    clear c htk h h'
    go_enter Tryz.func167, Tryz.ntmps167
    go_wp2_with fail
    refine (C.out _ (by repeat (first | exact Below.refl _ _ | assumption | refine Below.drew ?_ | refine below_drewN ?_ _ | refine Below.alloc ?_ (by simp <;> omega) _ | refine Below.setCell ?_ (by simp <;> omega) _))).mono ?_
    rintro e w1 ⟨rfl, hB1⟩
    have hk1 := (Kp2.start w _ _ _).call hB1
    go_wp2_with fail
    go_ret
    exact ⟨ret_bool hr.out.symm, (hk1.alloc _).2.2.1⟩

theorem pfeeds_at {s t : Stp} {v u : Value} {w W : World} {x : Bool} (hs : s.In w v) (ht : t.In w u) (hB : Below w.heap.size w W) (hx : feedsB s t = x) :
    Calls Tryz.prog 167 #[v, u] W fun e w' => e = .returned (.bool x) ∧ Below W.heap.size W w' := by
  rw [← hx]
  exact pfeeds s t v u W (hs.kept hB (Nat.le_refl _)) (ht.kept hB (Nat.le_refl _))

set_option maxHeartbeats 800000 in
set_option maxRecDepth 100000 in
theorem pdependent (s t : Stp) (v u : Value) (w : World) (hs : s.In w v) (ht : t.In w u) :
    Calls Tryz.prog 136 #[v, u] w fun e w' => e = .returned (.bool (depB s t)) ∧ Below w.heap.size w w' := by
  have f1 : ∀ W x, Below w.heap.size w W → feedsB s t = x → Calls Tryz.prog 167 #[v, u] W fun e w' => e = .returned (.bool x) ∧ Below W.heap.size W w' := fun W x hB hx => pfeeds_at hs ht hB hx
  have f2 : ∀ W x, Below w.heap.size w W → feedsB t s = x → Calls Tryz.prog 167 #[u, v] W fun e w' => e = .returned (.bool x) ∧ Below W.heap.size W w' := fun W x hB hx => pfeeds_at ht hs hB hx
  obtain ⟨va, vs, rfl, hsa, hss⟩ := hs
  obtain ⟨ua, us, rfl, hta, hts⟩ := ht
  obtain ⟨ka, ca, rfl, _⟩ := hsa.open
  obtain ⟨kb, cb, rfl, _⟩ := hss.open
  obtain ⟨kc, cc, rfl, _⟩ := hta.open
  obtain ⟨kd, cd, rfl, _⟩ := hts.open
  simp only [Stp.val, Stp.row] at f1 f2 ⊢
  have F1 := Lib.hid f1
  have F2 := Lib.hid f2
  clear f1 f2
  by_cases h1 : s.ev.node = t.ev.node
  · have q1 : (s.ev.node == t.ev.node) = true := by simp [h1]
    have hr := Lib.hid (show depB s t = true by simp [depB, h1])
    clear h1
    go_enter Tryz.func136, Tryz.ntmps136
    go_wp2_with fail
    go_ret
    exact ⟨ret_bool hr.out.symm, (by repeat (first | exact Below.refl _ _ | assumption | refine Below.drew ?_ | refine below_drewN ?_ _ | refine Below.alloc ?_ (by simp <;> omega) _ | refine Below.setCell ?_ (by simp <;> omega) _))⟩
  · have q1 : (s.ev.node == t.ev.node) = false := by simp [h1]
    clear h1
    have hdep : depB s t = ((s.obs && t.obs) || feedsB s t || feedsB t s) := by
      have : depB s t = ((s.ev.node == t.ev.node) || (s.obs && t.obs) || feedsB s t || feedsB t s) := rfl
      rw [this, q1]
      simp
    have Hdep := Lib.hid hdep
    clear hdep
    have key : ∀ so to : Bool, Hid (s.obs = so) → Hid (t.obs = to) → Calls Tryz.prog 136 #[.agg #[I s.ev.kind, I s.ev.node, I s.ev.arg, I s.ev.msg.node, I s.ev.msg.handler, I s.ev.msg.count, I s.ev.msg.index, I s.ev.msg.copy, .slice ka s.asks.length ca, .bool so, .slice kb s.sent.length cb],
        .agg #[I t.ev.kind, I t.ev.node, I t.ev.arg, I t.ev.msg.node, I t.ev.msg.handler, I t.ev.msg.count, I t.ev.msg.index, I t.ev.msg.copy, .slice kc t.asks.length cc, .bool to, .slice kd t.sent.length cd]] w fun e w' => e = .returned (.bool (depB s t)) ∧ Below w.heap.size w w' := by
      intro so to Hso Hto
      have F1 := F1.out
      have F2 := F2.out
      rw [Hso.out, Hto.out] at F1 F2
      have F1 := Lib.hid F1
      have F2 := Lib.hid F2
      clear hsa hss hta hts
      cases so
      · cases to
        · have hd : depB s t = (feedsB s t || feedsB t s) := by rw [Hdep.out, Hso.out, Hto.out]; simp
          have Hd := Lib.hid hd
          clear hd
          by_cases g1 : feedsB s t = true
          · have hr := Lib.hid (show depB s t = true by rw [Hd.out, g1]; simp)
            have G1 := Lib.hid g1
            clear g1
            go_enter Tryz.func136, Tryz.ntmps136
            go_wp2_with (go_at_call 167; refine (F1.out _ true (by repeat (first | exact Below.refl _ _ | assumption | refine Below.drew ?_ | refine below_drewN ?_ _ | refine Below.alloc ?_ (by simp <;> omega) _ | refine Below.setCell ?_ (by simp <;> omega) _)) G1.out).mono ?_; rintro e w1 ⟨rfl, hB1⟩; have hcc := bcell hB1)
            go_ret
            exact ⟨ret_bool hr.out.symm, Below.then (by repeat (first | exact Below.refl _ _ | assumption | refine Below.drew ?_ | refine below_drewN ?_ _ | refine Below.alloc ?_ (by simp <;> omega) _ | refine Below.setCell ?_ (by simp <;> omega) _)) hB1⟩
          · by_cases g2 : feedsB t s = true
            · have hr := Lib.hid (show depB s t = true by rw [Hd.out, g2]; simp)
              have G1 := Lib.hid (show feedsB s t = false by simpa using g1)
              have G2 := Lib.hid g2
              clear g1 g2
              go_enter Tryz.func136, Tryz.ntmps136
              go_wp2_with fail
              refine (F1.out _ false (by repeat (first | exact Below.refl _ _ | assumption | refine Below.drew ?_ | refine below_drewN ?_ _ | refine Below.alloc ?_ (by simp <;> omega) _ | refine Below.setCell ?_ (by simp <;> omega) _)) G1.out).mono ?_
              rintro e w1 ⟨rfl, hB1⟩
              have hcc := bcell hB1
              go_wp2_with fail
              refine (F2.out _ true (Below.then (by repeat (first | exact Below.refl _ _ | assumption | refine Below.drew ?_ | refine below_drewN ?_ _ | refine Below.alloc ?_ (by simp <;> omega) _ | refine Below.setCell ?_ (by simp <;> omega) _)) hB1) G2.out).mono ?_
              rintro e w2 ⟨rfl, hB2⟩
              go_wp2_with fail
              go_ret
              exact ⟨ret_bool hr.out.symm, Below.then (Below.then (by repeat (first | exact Below.refl _ _ | assumption | refine Below.drew ?_ | refine below_drewN ?_ _ | refine Below.alloc ?_ (by simp <;> omega) _ | refine Below.setCell ?_ (by simp <;> omega) _)) hB1) hB2⟩
            · have hr := Lib.hid (show depB s t = false by rw [Hd.out]; simp [g1, g2])
              have G1 := Lib.hid (show feedsB s t = false by simpa using g1)
              have G2 := Lib.hid (show feedsB t s = false by simpa using g2)
              clear g1 g2
              go_enter Tryz.func136, Tryz.ntmps136
              go_wp2_with fail
              refine (F1.out _ false (by repeat (first | exact Below.refl _ _ | assumption | refine Below.drew ?_ | refine below_drewN ?_ _ | refine Below.alloc ?_ (by simp <;> omega) _ | refine Below.setCell ?_ (by simp <;> omega) _)) G1.out).mono ?_
              rintro e w1 ⟨rfl, hB1⟩
              have hcc := bcell hB1
              go_wp2_with fail
              refine (F2.out _ false (Below.then (by repeat (first | exact Below.refl _ _ | assumption | refine Below.drew ?_ | refine below_drewN ?_ _ | refine Below.alloc ?_ (by simp <;> omega) _ | refine Below.setCell ?_ (by simp <;> omega) _)) hB1) G2.out).mono ?_
              rintro e w2 ⟨rfl, hB2⟩
              go_wp2_with fail
              go_ret
              exact ⟨ret_bool hr.out.symm, Below.then (Below.then (by repeat (first | exact Below.refl _ _ | assumption | refine Below.drew ?_ | refine below_drewN ?_ _ | refine Below.alloc ?_ (by simp <;> omega) _ | refine Below.setCell ?_ (by simp <;> omega) _)) hB1) hB2⟩
        · have hd : depB s t = (feedsB s t || feedsB t s) := by rw [Hdep.out, Hso.out, Hto.out]; simp
          have Hd := Lib.hid hd
          clear hd
          by_cases g1 : feedsB s t = true
          · have hr := Lib.hid (show depB s t = true by rw [Hd.out, g1]; simp)
            have G1 := Lib.hid g1
            clear g1
            go_enter Tryz.func136, Tryz.ntmps136
            go_wp2_with (go_at_call 167; refine (F1.out _ true (by repeat (first | exact Below.refl _ _ | assumption | refine Below.drew ?_ | refine below_drewN ?_ _ | refine Below.alloc ?_ (by simp <;> omega) _ | refine Below.setCell ?_ (by simp <;> omega) _)) G1.out).mono ?_; rintro e w1 ⟨rfl, hB1⟩; have hcc := bcell hB1)
            go_ret
            exact ⟨ret_bool hr.out.symm, Below.then (by repeat (first | exact Below.refl _ _ | assumption | refine Below.drew ?_ | refine below_drewN ?_ _ | refine Below.alloc ?_ (by simp <;> omega) _ | refine Below.setCell ?_ (by simp <;> omega) _)) hB1⟩
          · by_cases g2 : feedsB t s = true
            · have hr := Lib.hid (show depB s t = true by rw [Hd.out, g2]; simp)
              have G1 := Lib.hid (show feedsB s t = false by simpa using g1)
              have G2 := Lib.hid g2
              clear g1 g2
              go_enter Tryz.func136, Tryz.ntmps136
              go_wp2_with fail
              refine (F1.out _ false (by repeat (first | exact Below.refl _ _ | assumption | refine Below.drew ?_ | refine below_drewN ?_ _ | refine Below.alloc ?_ (by simp <;> omega) _ | refine Below.setCell ?_ (by simp <;> omega) _)) G1.out).mono ?_
              rintro e w1 ⟨rfl, hB1⟩
              have hcc := bcell hB1
              go_wp2_with fail
              refine (F2.out _ true (Below.then (by repeat (first | exact Below.refl _ _ | assumption | refine Below.drew ?_ | refine below_drewN ?_ _ | refine Below.alloc ?_ (by simp <;> omega) _ | refine Below.setCell ?_ (by simp <;> omega) _)) hB1) G2.out).mono ?_
              rintro e w2 ⟨rfl, hB2⟩
              go_wp2_with fail
              go_ret
              exact ⟨ret_bool hr.out.symm, Below.then (Below.then (by repeat (first | exact Below.refl _ _ | assumption | refine Below.drew ?_ | refine below_drewN ?_ _ | refine Below.alloc ?_ (by simp <;> omega) _ | refine Below.setCell ?_ (by simp <;> omega) _)) hB1) hB2⟩
            · have hr := Lib.hid (show depB s t = false by rw [Hd.out]; simp [g1, g2])
              have G1 := Lib.hid (show feedsB s t = false by simpa using g1)
              have G2 := Lib.hid (show feedsB t s = false by simpa using g2)
              clear g1 g2
              go_enter Tryz.func136, Tryz.ntmps136
              go_wp2_with fail
              refine (F1.out _ false (by repeat (first | exact Below.refl _ _ | assumption | refine Below.drew ?_ | refine below_drewN ?_ _ | refine Below.alloc ?_ (by simp <;> omega) _ | refine Below.setCell ?_ (by simp <;> omega) _)) G1.out).mono ?_
              rintro e w1 ⟨rfl, hB1⟩
              have hcc := bcell hB1
              go_wp2_with fail
              refine (F2.out _ false (Below.then (by repeat (first | exact Below.refl _ _ | assumption | refine Below.drew ?_ | refine below_drewN ?_ _ | refine Below.alloc ?_ (by simp <;> omega) _ | refine Below.setCell ?_ (by simp <;> omega) _)) hB1) G2.out).mono ?_
              rintro e w2 ⟨rfl, hB2⟩
              go_wp2_with fail
              go_ret
              exact ⟨ret_bool hr.out.symm, Below.then (Below.then (by repeat (first | exact Below.refl _ _ | assumption | refine Below.drew ?_ | refine below_drewN ?_ _ | refine Below.alloc ?_ (by simp <;> omega) _ | refine Below.setCell ?_ (by simp <;> omega) _)) hB1) hB2⟩
      · cases to
        · have hd : depB s t = (feedsB s t || feedsB t s) := by rw [Hdep.out, Hso.out, Hto.out]; simp
          have Hd := Lib.hid hd
          clear hd
          by_cases g1 : feedsB s t = true
          · have hr := Lib.hid (show depB s t = true by rw [Hd.out, g1]; simp)
            have G1 := Lib.hid g1
            clear g1
            go_enter Tryz.func136, Tryz.ntmps136
            go_wp2_with (go_at_call 167; refine (F1.out _ true (by repeat (first | exact Below.refl _ _ | assumption | refine Below.drew ?_ | refine below_drewN ?_ _ | refine Below.alloc ?_ (by simp <;> omega) _ | refine Below.setCell ?_ (by simp <;> omega) _)) G1.out).mono ?_; rintro e w1 ⟨rfl, hB1⟩; have hcc := bcell hB1)
            go_ret
            exact ⟨ret_bool hr.out.symm, Below.then (by repeat (first | exact Below.refl _ _ | assumption | refine Below.drew ?_ | refine below_drewN ?_ _ | refine Below.alloc ?_ (by simp <;> omega) _ | refine Below.setCell ?_ (by simp <;> omega) _)) hB1⟩
          · by_cases g2 : feedsB t s = true
            · have hr := Lib.hid (show depB s t = true by rw [Hd.out, g2]; simp)
              have G1 := Lib.hid (show feedsB s t = false by simpa using g1)
              have G2 := Lib.hid g2
              clear g1 g2
              go_enter Tryz.func136, Tryz.ntmps136
              go_wp2_with fail
              refine (F1.out _ false (by repeat (first | exact Below.refl _ _ | assumption | refine Below.drew ?_ | refine below_drewN ?_ _ | refine Below.alloc ?_ (by simp <;> omega) _ | refine Below.setCell ?_ (by simp <;> omega) _)) G1.out).mono ?_
              rintro e w1 ⟨rfl, hB1⟩
              have hcc := bcell hB1
              go_wp2_with fail
              refine (F2.out _ true (Below.then (by repeat (first | exact Below.refl _ _ | assumption | refine Below.drew ?_ | refine below_drewN ?_ _ | refine Below.alloc ?_ (by simp <;> omega) _ | refine Below.setCell ?_ (by simp <;> omega) _)) hB1) G2.out).mono ?_
              rintro e w2 ⟨rfl, hB2⟩
              go_wp2_with fail
              go_ret
              exact ⟨ret_bool hr.out.symm, Below.then (Below.then (by repeat (first | exact Below.refl _ _ | assumption | refine Below.drew ?_ | refine below_drewN ?_ _ | refine Below.alloc ?_ (by simp <;> omega) _ | refine Below.setCell ?_ (by simp <;> omega) _)) hB1) hB2⟩
            · have hr := Lib.hid (show depB s t = false by rw [Hd.out]; simp [g1, g2])
              have G1 := Lib.hid (show feedsB s t = false by simpa using g1)
              have G2 := Lib.hid (show feedsB t s = false by simpa using g2)
              clear g1 g2
              go_enter Tryz.func136, Tryz.ntmps136
              go_wp2_with fail
              refine (F1.out _ false (by repeat (first | exact Below.refl _ _ | assumption | refine Below.drew ?_ | refine below_drewN ?_ _ | refine Below.alloc ?_ (by simp <;> omega) _ | refine Below.setCell ?_ (by simp <;> omega) _)) G1.out).mono ?_
              rintro e w1 ⟨rfl, hB1⟩
              have hcc := bcell hB1
              go_wp2_with fail
              refine (F2.out _ false (Below.then (by repeat (first | exact Below.refl _ _ | assumption | refine Below.drew ?_ | refine below_drewN ?_ _ | refine Below.alloc ?_ (by simp <;> omega) _ | refine Below.setCell ?_ (by simp <;> omega) _)) hB1) G2.out).mono ?_
              rintro e w2 ⟨rfl, hB2⟩
              go_wp2_with fail
              go_ret
              exact ⟨ret_bool hr.out.symm, Below.then (Below.then (by repeat (first | exact Below.refl _ _ | assumption | refine Below.drew ?_ | refine below_drewN ?_ _ | refine Below.alloc ?_ (by simp <;> omega) _ | refine Below.setCell ?_ (by simp <;> omega) _)) hB1) hB2⟩
        · have hr := Lib.hid (show depB s t = true by rw [Hdep.out, Hso.out, Hto.out]; simp)
          go_enter Tryz.func136, Tryz.ntmps136
          go_wp2_with fail
          go_ret
          exact ⟨ret_bool hr.out.symm, (by repeat (first | exact Below.refl _ _ | assumption | refine Below.drew ?_ | refine below_drewN ?_ _ | refine Below.alloc ?_ (by simp <;> omega) _ | refine Below.setCell ?_ (by simp <;> omega) _))⟩
    exact key _ _ (Lib.hid rfl) (Lib.hid rfl)

end Go.Proofs.YtljmonfobefiiaaGreatDoor

/- Sets of small numbers as one word; what an order holds, and its question. -/
namespace Go.Proofs.YtljmonfobefiiaaGreatDoor
open Go.RowKit

def lim64 : Nat := 2 ^ 64
theorem ofInt64 (a : Nat) (ha : a < lim64) : (BitVec.ofInt 64 (a : Int)).toNat = a := by
  rw [BitVec.ofInt_natCast, BitVec.toNat_ofNat]; exact Nat.mod_eq_of_lt ha
theorem wrap64_nat (x : Nat) (hx : x < lim64) : IntKind.u64.wrap ((x : Nat) : Int) = (x : Int) := by
  have h2 : ((x : Nat) : Int) ≤ 18446744073709551615 := by
    have : x < 18446744073709551616 := hx
    omega
  exact IntWalk.u64_in _ ⟨by omega, h2⟩
theorem u64_or (a b : Nat) (ha : a < lim64) (hb : b < lim64) : bits .or .u64 (a : Int) (b : Int) = ((a ||| b : Nat) : Int) := by
  have hx : a ||| b < lim64 := Nat.or_lt_two_pow ha hb
  show IntKind.u64.wrap ((BitVec.ofInt 64 (a : Int) ||| BitVec.ofInt 64 (b : Int)).toNat : Int) = _
  rw [BitVec.toNat_or, ofInt64 a ha, ofInt64 b hb]
  exact wrap64_nat _ hx
theorem u64_and (a b : Nat) (ha : a < lim64) (hb : b < lim64) : bits .and .u64 (a : Int) (b : Int) = ((a &&& b : Nat) : Int) := by
  have hx : a &&& b < lim64 := Nat.and_lt_two_pow _ hb
  show IntKind.u64.wrap ((BitVec.ofInt 64 (a : Int) &&& BitVec.ofInt 64 (b : Int)).toNat : Int) = _
  rw [BitVec.toNat_and, ofInt64 a ha, ofInt64 b hb]
  exact wrap64_nat _ hx
theorem pow_lt (i : Nat) (h : i < 64) : 2 ^ i < lim64 := Nat.pow_lt_pow_right (by omega) h
theorem has_word (m i : Nat) (hm : m < lim64) : (bits .and .u64 ((m : Int) / 2 ^ i) 1 == 1) = m.testBit i := by
  have h1 : ((m : Int) / 2 ^ i) = ((m / 2 ^ i : Nat) : Int) := by simp
  have h2 : m / 2 ^ i < lim64 := Nat.lt_of_le_of_lt (Nat.div_le_self _ _) hm
  rw [h1, show (1 : Int) = ((1 : Nat) : Int) from rfl, u64_and _ _ h2 (by decide), Nat.and_one_is_mod, Nat.testBit_eq_decide_div_mod_eq, Bool.eq_iff_iff]
  simp only [beq_iff_eq, decide_eq_true_eq]
  omega

set_option maxHeartbeats 400000 in
theorem setHas (b o c m i : Nat) (w : World) (hc : w.cell? ⟨b, o, none⟩ = some (.int .u64 (m : Int))) (hm : m < lim64) (hi : i < 64) :
    Calls Tryz.prog 103 #[.slice (some ⟨b, o, none⟩) 1 c, I i] w fun e w' => e = .returned (.bool (m.testBit i)) ∧ w = w' := by
  have h0 : i / 64 = 0 := by omega
  have h0' : (i : Int) / 64 = 0 := by omega
  have h1' : (i : Int) % 64 = i := by omega
  go_enter Tryz.func103, Tryz.ntmps103
  go_wp2
  go_ret
  exact ⟨ret_bool (has_word m i hm), rfl⟩

set_option maxHeartbeats 400000 in
theorem setAdd (b o c m i : Nat) (w : World) (hc : w.cell? ⟨b, o, none⟩ = some (.int .u64 (m : Int))) (hf : w.frozen? ⟨b, o, none⟩ = false) (hm : m < lim64) (hi : i < 64) :
    Calls Tryz.prog 133 #[.slice (some ⟨b, o, none⟩) 1 c, I i] w fun e w' => e = .returned (.tuple #[]) ∧ ∃ n, w' = (w.setCell ⟨b, o, none⟩ (.int .u64 ((m ||| 2 ^ i : Nat) : Int))).drewN n := by
  have h0 : i / 64 = 0 := by omega
  have h0' : (i : Int) / 64 = 0 := by omega
  have h1' : (i : Int) % 64 = i := by omega
  have hp : IntKind.u64.wrap ((2 : Int) ^ i) = ((2 ^ i : Nat) : Int) := by
    rw [show ((2 : Int) ^ i) = ((2 ^ i : Nat) : Int) by simp]
    exact wrap64_nat _ (pow_lt i hi)
  have Hr := Lib.hid (show bits .or .u64 (m : Int) (IntKind.u64.wrap ((2 : Int) ^ i)) = ((m ||| 2 ^ i : Nat) : Int) by rw [hp]; exact u64_or m (2 ^ i) hm (pow_lt i hi))
  clear hp
  go_enter Tryz.func133, Tryz.ntmps133
  go_wp2
  go_region
  all_goals
    go_wp2
    go_end0
    refine ⟨rfl, 1, ?_⟩
    rw [Hr.out]
    rfl

set_option maxHeartbeats 400000 in
theorem setJoin (b o c b' o' c' m m' : Nat) (w : World) (hc : w.cell? ⟨b, o, none⟩ = some (.int .u64 (m : Int))) (hf : w.frozen? ⟨b, o, none⟩ = false) (hm : m < lim64)
    (hc' : w.cell? ⟨b', o', none⟩ = some (.int .u64 (m' : Int))) (hm' : m' < lim64) :
    Calls Tryz.prog 102 #[.slice (some ⟨b, o, none⟩) 1 c, .slice (some ⟨b', o', none⟩) 1 c'] w fun e w' => e = .returned (.tuple #[]) ∧ w' = w.setCell ⟨b, o, none⟩ (.int .u64 ((m ||| m' : Nat) : Int)) := by
  have Hr := Lib.hid (u64_or m m' hm hm')
  go_enter Tryz.func102, Tryz.ntmps102
  go_wp2
  refine wp_loop_rounds 2 ?_
  rw [rounds_succ]
  go_wp2
  rw [rounds_succ]
  go_wp2
  go_end0
  exact ⟨rfl, by rw [Hr.out]⟩

/-- In w the value p is an order of n elements, in which f tells what is less. -/
def OrdRep (w : World) (p : Value) (n : Nat) (f : Nat → Nat → Bool) : Prop :=
  n ≤ 64 ∧ ∃ g gb c, p = .pointer (some ⟨g, 0, none⟩) ∧ w.cell? ⟨g, 0, none⟩ = some (I n) ∧ w.cell? ⟨g, 1, none⟩ = some (.slice (some ⟨gb, 0, none⟩) n c) ∧
    ∀ i < n, ∃ gi ci m, w.cell? ⟨gb, i, none⟩ = some (.slice (some ⟨gi, 0, none⟩) 1 ci) ∧ w.cell? ⟨gi, 0, none⟩ = some (.int .u64 ((m : Nat) : Int)) ∧ m < lim64 ∧ ∀ k < n, m.testBit k = f i k

theorem cell_below {w w' : World} {B : Nat} (hb : Below B w w') (hB : w.heap.size ≤ B) {a : Addr} {v : Value} (h : w.cell? a = some v) : w'.cell? a = some v := by
  rw [hb.cell (p := a) (Nat.lt_of_lt_of_le (World.block_lt_of_cell? _ _ h) hB)]
  exact h
theorem OrdRep.kept {w w' : World} {p : Value} {n : Nat} {f : Nat → Nat → Bool} (h : OrdRep w p n f) {B : Nat} (hb : Below B w w') (hB : w.heap.size ≤ B) : OrdRep w' p n f := by
  obtain ⟨hn, g, gb, c, hp, h0, h1, hr⟩ := h
  refine ⟨hn, g, gb, c, hp, cell_below hb hB h0, cell_below hb hB h1, fun i hi => ?_⟩
  obtain ⟨gi, ci, m, a, b, d⟩ := hr i hi
  exact ⟨gi, ci, m, cell_below hb hB a, cell_below hb hB b, d⟩

set_option maxHeartbeats 400000 in
theorem ordHas (g n i : Nat) (w : World) (h0 : w.cell? ⟨g, 0, none⟩ = some (I n)) (hi : i < n) :
    Calls Tryz.prog 109 #[.pointer (some ⟨g, 0, none⟩), I i] w fun e w' => e = .returned (.bool true) ∧ w = w' := by
  go_enter Tryz.func109, Tryz.ntmps109
  go_wp2
  go_ret
  exact ⟨rfl, rfl⟩

set_option maxHeartbeats 800000 in
set_option maxRecDepth 100000 in
theorem ordLess (p : Value) (n : Nat) (f : Nat → Nat → Bool) (i k : Nat) (w : World) (h : OrdRep w p n f) (hi : i < n) (hk : k < n) :
    Calls Tryz.prog 74 #[p, I i, I k] w fun e w' => e = .returned (.bool (f i k)) ∧ w = w' := by
  obtain ⟨hn, g, gb, c, rfl, h0, h1, hr⟩ := h
  obtain ⟨gi, ci, m, hc, hm, hml, hf⟩ := hr i hi
  have Hf := Lib.hid (hf k hk)
  have hi64 : i < 64 := by omega
  have hk64 : k < 64 := by omega
  clear hr hf
  go_enter Tryz.func74, Tryz.ntmps74
  go_wp2_with fail
  refine (ordHas g n i _ h0 hi).mono ?_
  rintro e w1 ⟨rfl, rfl⟩
  go_wp2_with fail
  refine (ordHas g n k _ h0 hk).mono ?_
  rintro e w1 ⟨rfl, rfl⟩
  go_wp2_with fail
  refine (setHas gi 0 ci m k _ hm hml hk64).mono ?_
  rintro e w1 ⟨rfl, rfl⟩
  go_wp2_with fail
  go_ret
  exact ⟨ret_bool Hf.out, rfl⟩

end Go.Proofs.YtljmonfobefiiaaGreatDoor
