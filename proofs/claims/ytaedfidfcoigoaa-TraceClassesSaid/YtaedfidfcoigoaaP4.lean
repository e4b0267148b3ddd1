/- The program's dependence of steps: package depend. -/
import Derived.Test.YtaedfidfcoigoaaP3
import Derived.Test.YtaedfidfcoigoaaR3
namespace Go.Proofs.Ytaedfidfcoigoaa
open Go.RowKit

set_option maxHeartbeats 800000 in
set_option maxRecDepth 100000 in
theorem consumed_no (t : Stp) (v : Value) (w : World) (ht : t.In w v) (h : consB t = false) :
    Calls Try.prog 90 #[v] w fun e w' => e = .returned (.pointer none) ∧ Below w.heap.size w w' := by
  obtain ⟨ua, us, rfl, hta, hts⟩ := ht
  simp only [consB, Bool.or_eq_false_iff] at h
  obtain ⟨⟨h3, h5⟩, h6⟩ := h
  simp only [Stp.val, Stp.row]
  go_enter Try.func90, Try.ntmps90
  go_wp2
  go_ret
  exact ⟨rfl, (by repeat (first | exact Below.refl _ _ | assumption | refine Below.drew ?_ | refine below_drewN ?_ _ | refine Below.alloc ?_ (by simp <;> omega) _ | refine Below.setCell ?_ (by simp <;> omega) _))⟩

set_option maxHeartbeats 800000 in
set_option maxRecDepth 100000 in
theorem consumed_yes (t : Stp) (v : Value) (w : World) (ht : t.In w v) (h : consB t = true) :
    Calls Try.prog 90 #[v] w fun e w' => ∃ g, e = .returned (.pointer (some ⟨g, 0, none⟩)) ∧ w.heap.size ≤ g ∧
      w'.heap[g]? = some (.cells #[I t.ev.msg.node, I t.ev.msg.handler, I t.ev.msg.count, I t.ev.msg.index, I 0] 50 (0, 0)) ∧ Below w.heap.size w w' := by
  obtain ⟨ua, us, rfl, hta, hts⟩ := ht
  have q : ((t.ev.kind == 3) = true) ∨ ((t.ev.kind == 3) = false ∧ (t.ev.kind == 5) = true) ∨ ((t.ev.kind == 3) = false ∧ (t.ev.kind == 5) = false ∧ (t.ev.kind == 6) = true) := by
    unfold consB at h
    revert h
    cases (t.ev.kind == 3) <;> cases (t.ev.kind == 5) <;> cases (t.ev.kind == 6) <;> simp
  clear h
  simp only [Stp.val, Stp.row]
  rcases q with q1 | ⟨q1, q2⟩ | ⟨q1, q2, q3⟩
  all_goals
    go_enter Try.func90, Try.ntmps90
    go_wp2
    go_ret
    exact ⟨_, rfl, by simp, heap_alloc2_new _ _ _, (by repeat (first | exact Below.refl _ _ | assumption | refine Below.drew ?_ | refine below_drewN ?_ _ | refine Below.alloc ?_ (by simp <;> omega) _ | refine Below.setCell ?_ (by simp <;> omega) _))⟩

set_option maxHeartbeats 800000 in
set_option maxRecDepth 100000 in
theorem feedsFn (m : Msg) (q g : Nat) (b0 b1 b2 b3 b4 : Int) (w : World) (hq : w.cell? ⟨q, 0, none⟩ = some (.pointer (some ⟨g, 0, none⟩))) (hg : Blk w g #[I b0, I b1, I b2, I b3, I b4]) :
    Calls Try.prog 92 #[.agg #[I m.node, I m.handler, I m.count, I m.index, I m.copy], .pointer (some ⟨q, 0, none⟩)] w fun e w' => e = .returned (.bool (eqL m.ints [b0, b1, b2, b3, b4])) ∧ Below w.heap.size w w' := by
  have hql : q < w.heap.size := by simpa using World.block_lt_of_cell? _ _ hq
  have hb : Below w.heap.size w (w.alloc (.cells #[I m.node, I m.handler, I m.count, I m.index, I m.copy] 50)) := (by repeat (first | exact Below.refl _ _ | assumption | refine Below.drew ?_ | refine below_drewN ?_ _ | refine Below.alloc ?_ (by simp <;> omega) _ | refine Below.setCell ?_ (by simp <;> omega) _))
  have hq1 := (hb.cell (p := ⟨q, 0, none⟩) hql).trans hq
  have hg1 := (hg.alloc (.cells #[I m.node, I m.handler, I m.count, I m.index, I m.copy] 50)).cell
  have hm1 := (Blk.new w #[I m.node, I m.handler, I m.count, I m.index, I m.copy] 50).cell
  have Hb := Lib.hid hb
  clear hb hg
  go_enter Try.func92, Try.ntmps92
  go_wp2
  go_quiet (fail)
  go_wp2
  go_ret
  exact ⟨rfl, below_drewN Hb.out nq⟩

theorem eqL_match (m : Msg) (t : Stp) : eqL m.ints [t.ev.msg.node, t.ev.msg.handler, t.ev.msg.count, t.ev.msg.index, 0] = matchB m t := by
  rw [Bool.eq_iff_iff]
  simp [eqL, matchB, Msg.ints]
  constructor
  · rintro ⟨a, b, c, d, e⟩; exact ⟨⟨⟨⟨e, a⟩, b⟩, c⟩, d⟩
  · rintro ⟨⟨⟨⟨e, a⟩, b⟩, c⟩, d⟩; exact ⟨a, b, c, d, e⟩

set_option maxHeartbeats 800000 in
set_option maxRecDepth 100000 in
theorem indexMsg (l : List Msg) (t : Stp) (v : Value) (q g : Nat) (w : World) (hl : MsgSl w v l) (hq : w.cell? ⟨q, 0, none⟩ = some (.pointer (some ⟨g, 0, none⟩)))
    (hg : Blk w g #[I t.ev.msg.node, I t.ev.msg.handler, I t.ev.msg.count, I t.ev.msg.index, I 0]) :
    Calls Try.prog 95 #[v, .func (.func 92) #[] #[.pointer (some ⟨q, 0, none⟩)]] w fun e w' => ∃ r : Int, e = .returned (I r) ∧ decide (0 ≤ r) = (l.any fun m => matchB m t) ∧ Below w.heap.size w w' := by
  obtain ⟨ka, ca, rfl, hml⟩ := hl.open
  have hql : q < w.heap.size := by simpa using World.block_lt_of_cell? _ _ hq
  have hgl := hg.lt
  have c : ∀ (m : Msg) (W : World), Below w.heap.size w W → Calls Try.prog 92 #[.agg #[I m.node, I m.handler, I m.count, I m.index, I m.copy], .pointer (some ⟨q, 0, none⟩)] W fun e w' => e = .returned (.bool (matchB m t)) ∧ Below W.heap.size W w' := fun m W hB => by
    have := feedsFn m q g _ _ _ _ _ W ((hB.cell (p := ⟨q, 0, none⟩) hql).trans hq) (hg.kept hB hgl)
    rwa [eqL_match] at this
  have C := Lib.hid c
  clear c hq hg
  go_enter Try.func95, Try.ntmps95
  go_wp2_with fail
  go_loopw [8] (fun i wr => ∃ k : Nat, k ≤ l.length ∧ i = .int .i64 k ∧ Below w.heap.size w wr ∧ (∀ j < k, ∀ m, l[j]? = some m → matchB m t = false)) (fun i _ => l.length - (intOf i).toNat)
  case atStart => exact ⟨0, by omega, rfl, Below.refl _ _, fun j hj => absurd hj (by omega)⟩
  case round =>
    obtain ⟨k, hk, rfl, hB, hE⟩ := hrel
    have HE := Lib.hid hE
    clear hE
    by_cases hlt : k < l.length
    · obtain ⟨b, o, rfl, x0, x1, x2, x3, x4⟩ := (hl.kept hB (Nat.le_refl _)).at (i := k) (x := l[k]) (by simp [hlt])
      have c1 := C.out l[k] wr hB
      by_cases hx : matchB l[k] t = true
      · rw [hx] at c1
        have C1 := Lib.hid c1
        have Hx := Lib.hid hx
        clear c1 hx
        go_wp2_with fail
        refine C1.out.mono ?_
        rintro e w1 ⟨rfl, hB1⟩
        have hBB := hB.trans (hB1.mono hB.size)
        go_wp2_with fail
        go_ret
        refine ⟨k, rfl, ?_, hBB⟩
        have : (l.any fun m => matchB m t) = true := List.any_eq_true.2 ⟨_, List.getElem_mem hlt, Hx.out⟩
        rw [this]
        simp
      · have hx' : matchB l[k] t = false := by simpa using hx
        rw [hx'] at c1
        have C1 := Lib.hid c1
        have Hx := Lib.hid hx'
        clear c1 hx hx'
        go_wp2_with fail
        refine C1.out.mono ?_
        rintro e w1 ⟨rfl, hB1⟩
        have hBB := hB.trans (hB1.mono hB.size)
        go_wp2_with fail
        go_roundw
        case rel =>
          refine ⟨k + 1, by omega, by go_num, hBB, ?_⟩
          intro j hj m hm
          by_cases hjk : j = k
          · subst hjk
            rw [List.getElem?_eq_getElem hlt] at hm
            cases hm
            exact Hx.out
          · exact HE.out j (by omega) m hm
        case measure => simp [intOf]; omega
    · go_wp2_with fail
      go_ret
      refine ⟨-1, rfl, ?_, hB⟩
      have : (l.any fun m => matchB m t) = false := by
        rw [Bool.eq_false_iff]
        intro h0
        obtain ⟨m, hm, h1⟩ := List.any_eq_true.1 h0
        obtain ⟨j, hj⟩ := List.getElem?_of_mem hm
        rw [HE.out j (by have := (List.getElem?_eq_some_iff.1 hj).1; omega) m hj] at h1
        cases h1
      rw [this]
      simp

set_option maxHeartbeats 800000 in
set_option maxRecDepth 100000 in
theorem containsMsg (l : List Msg) (t : Stp) (v : Value) (q g : Nat) (w : World) (hl : MsgSl w v l) (hq : w.cell? ⟨q, 0, none⟩ = some (.pointer (some ⟨g, 0, none⟩)))
    (hg : Blk w g #[I t.ev.msg.node, I t.ev.msg.handler, I t.ev.msg.count, I t.ev.msg.index, I 0]) :
    Calls Try.prog 91 #[v, .func (.func 92) #[] #[.pointer (some ⟨q, 0, none⟩)]] w fun e w' => e = .returned (.bool (l.any fun m => matchB m t)) ∧ Below w.heap.size w w' := by
  have C := Lib.hid (indexMsg l t v q g w hl hq hg)
  clear hl hq hg
  go_enter Try.func91, Try.ntmps91
  go_wp2_with fail
  refine C.out.mono ?_
  rintro e w1 ⟨r, rfl, hr, hB1⟩
  have Hr := Lib.hid hr
  clear hr
  go_wp2_with fail
  go_ret
  exact ⟨ret_bool Hr.out, hB1⟩

set_option maxHeartbeats 800000 in
set_option maxRecDepth 100000 in
theorem pfeeds (s t : Stp) (v u : Value) (w : World) (hs : s.In w v) (ht : t.In w u) :
    Calls Try.prog 73 #[v, u] w fun e w' => e = .returned (.bool (feedsB s t)) ∧ Below w.heap.size w w' := by
  have htk := ht
  obtain ⟨va, vs, rfl, hsa, hss⟩ := hs
  obtain ⟨ka, ca, rfl, _⟩ := hsa.open
  obtain ⟨kb, cb, rfl, _⟩ := hss.open
  obtain ⟨ua, us, rfl, hta, hts⟩ := ht
  obtain ⟨kc, cc, rfl, _⟩ := hta.open
  obtain ⟨kd, cd, rfl, _⟩ := hts.open
  by_cases h : consB t = true
  · have hr := Lib.hid (show feedsB s t = (s.sent.any fun m => matchB m t) by rw [feedsB_eq, h]; rfl)
    have c : ∀ W, Below w.heap.size w W → _ := fun W hB => consumed_yes t _ W (htk.kept hB (Nat.le_refl _)) h
    simp only [Stp.val, Stp.row] at c ⊢
    have C := Lib.hid c
    clear c htk h
    go_enter Try.func73, Try.ntmps73
    go_wp2_with fail
    refine (C.out _ (by repeat (first | exact Below.refl _ _ | assumption | refine Below.drew ?_ | refine below_drewN ?_ _ | refine Below.alloc ?_ (by simp <;> omega) _ | refine Below.setCell ?_ (by simp <;> omega) _))).mono ?_
    rintro e w1 ⟨g, rfl, hg, hgb, hB1⟩
    have hk1 := (Kp2.start w _ _ _).call hB1
    have hd1 := (hk1.alloc (.cells #[.pointer (some ⟨g, 0, none⟩)] 119)).1.cell
    have hc1 : Blk (w1.alloc (.cells #[.pointer (some ⟨g, 0, none⟩)] 119)) w1.heap.size #[.pointer (some ⟨g, 0, none⟩)] := Blk.new _ _ _
    have hb1 : Blk (w1.alloc (.cells #[.pointer (some ⟨g, 0, none⟩)] 119)) g #[I t.ev.msg.node, I t.ev.msg.handler, I t.ev.msg.count, I t.ev.msg.index, I 0] := (blk_of_heap hgb).alloc _
    have hBk := (hk1.alloc (.cells #[.pointer (some ⟨g, 0, none⟩)] 119)).2.2.1
    go_wp2_with fail
    refine (containsMsg s.sent t _ _ g _ (hss.kept hBk (Nat.le_refl _)) (hc1.cell 0) hb1).mono ?_
    rintro e w2 ⟨rfl, hB2⟩
    go_wp2_with fail
    go_ret
    exact ⟨ret_bool hr.out.symm, Below.then hBk hB2⟩
  · have h' : consB t = false := by simpa using h
    have hr := Lib.hid (show feedsB s t = false by rw [feedsB_eq, h']; rfl)
    have c : ∀ W, Below w.heap.size w W → _ := fun W hB => consumed_no t _ W (htk.kept hB (Nat.le_refl _)) h'
    simp only [Stp.val, Stp.row] at c ⊢
    have C := Lib.hid c
    clear c htk h h'
    go_enter Try.func73, Try.ntmps73
    go_wp2_with fail
    refine (C.out _ (by repeat (first | exact Below.refl _ _ | assumption | refine Below.drew ?_ | refine below_drewN ?_ _ | refine Below.alloc ?_ (by simp <;> omega) _ | refine Below.setCell ?_ (by simp <;> omega) _))).mono ?_
    rintro e w1 ⟨rfl, hB1⟩
    have hk1 := (Kp2.start w _ _ _).call hB1
    go_wp2_with fail
    go_ret
    exact ⟨ret_bool hr.out.symm, (hk1.alloc _).2.2.1⟩

theorem pfeeds_at {s t : Stp} {v u : Value} {w W : World} {x : Bool} (hs : s.In w v) (ht : t.In w u) (hB : Below w.heap.size w W) (hx : feedsB s t = x) :
    Calls Try.prog 73 #[v, u] W fun e w' => e = .returned (.bool x) ∧ Below W.heap.size W w' := by
  rw [← hx]
  exact pfeeds s t v u W (hs.kept hB (Nat.le_refl _)) (ht.kept hB (Nat.le_refl _))

set_option maxHeartbeats 800000 in
set_option maxRecDepth 100000 in
theorem pdependent (s t : Stp) (v u : Value) (w : World) (hs : s.In w v) (ht : t.In w u) :
    Calls Try.prog 45 #[v, u] w fun e w' => e = .returned (.bool (depB s t)) ∧ Below w.heap.size w w' := by
  have f1 : ∀ W x, Below w.heap.size w W → feedsB s t = x → Calls Try.prog 73 #[v, u] W fun e w' => e = .returned (.bool x) ∧ Below W.heap.size W w' := fun W x hB hx => pfeeds_at hs ht hB hx
  have f2 : ∀ W x, Below w.heap.size w W → feedsB t s = x → Calls Try.prog 73 #[u, v] W fun e w' => e = .returned (.bool x) ∧ Below W.heap.size W w' := fun W x hB hx => pfeeds_at ht hs hB hx
  obtain ⟨va, vs, rfl, hsa, hss⟩ := hs
  obtain ⟨ua, us, rfl, hta, hts⟩ := ht
  obtain ⟨ka, ca, rfl, _⟩ := hsa.open
  obtain ⟨kb, cb, rfl, _⟩ := hss.open
  obtain ⟨kc, cc, rfl, _⟩ := hta.open
  obtain ⟨kd, cd, rfl, _⟩ := hts.open
  simp only [Stp.val, Stp.row] at f1 f2 ⊢
  have F1 := Lib.hid f1
  have F2 := Lib.hid f2
  clear f1 f2
  by_cases h1 : s.ev.node = t.ev.node
  · have q1 : (s.ev.node == t.ev.node) = true := by simp [h1]
    have hr := Lib.hid (show depB s t = true by simp [depB, h1])
    clear h1
    go_enter Try.func45, Try.ntmps45
    go_wp2_with fail
    go_ret
    exact ⟨ret_bool hr.out.symm, (by repeat (first | exact Below.refl _ _ | assumption | refine Below.drew ?_ | refine below_drewN ?_ _ | refine Below.alloc ?_ (by simp <;> omega) _ | refine Below.setCell ?_ (by simp <;> omega) _))⟩
  · have q1 : (s.ev.node == t.ev.node) = false := by simp [h1]
    clear h1
    have hdep : depB s t = ((s.obs && t.obs) || feedsB s t || feedsB t s) := by
      have : depB s t = ((s.ev.node == t.ev.node) || (s.obs && t.obs) || feedsB s t || feedsB t s) := rfl
      rw [this, q1]
      simp
    have Hdep := Lib.hid hdep
    clear hdep
    have key : ∀ so to : Bool, Hid (s.obs = so) → Hid (t.obs = to) → Calls Try.prog 45 #[.agg #[I s.ev.kind, I s.ev.node, I s.ev.arg, I s.ev.msg.node, I s.ev.msg.handler, I s.ev.msg.count, I s.ev.msg.index, I s.ev.msg.copy, .slice ka s.asks.length ca, .bool so, .slice kb s.sent.length cb],
        .agg #[I t.ev.kind, I t.ev.node, I t.ev.arg, I t.ev.msg.node, I t.ev.msg.handler, I t.ev.msg.count, I t.ev.msg.index, I t.ev.msg.copy, .slice kc t.asks.length cc, .bool to, .slice kd t.sent.length cd]] w fun e w' => e = .returned (.bool (depB s t)) ∧ Below w.heap.size w w' := by
      intro so to Hso Hto
      have F1 := F1.out
      have F2 := F2.out
      rw [Hso.out, Hto.out] at F1 F2
      have F1 := Lib.hid F1
      have F2 := Lib.hid F2
      clear hsa hss hta hts
      cases so
      · cases to
        · have hd : depB s t = (feedsB s t || feedsB t s) := by rw [Hdep.out, Hso.out, Hto.out]; simp
          have Hd := Lib.hid hd
          clear hd
          by_cases g1 : feedsB s t = true
          · have hr := Lib.hid (show depB s t = true by rw [Hd.out, g1]; simp)
            have G1 := Lib.hid g1
            clear g1
            go_enter Try.func45, Try.ntmps45
            go_wp2_with (go_at_call 73; refine (F1.out _ true (by repeat (first | exact Below.refl _ _ | assumption | refine Below.drew ?_ | refine below_drewN ?_ _ | refine Below.alloc ?_ (by simp <;> omega) _ | refine Below.setCell ?_ (by simp <;> omega) _)) G1.out).mono ?_; rintro e w1 ⟨rfl, hB1⟩; have hcc := bcell hB1)
            go_ret
            exact ⟨ret_bool hr.out.symm, Below.then (by repeat (first | exact Below.refl _ _ | assumption | refine Below.drew ?_ | refine below_drewN ?_ _ | refine Below.alloc ?_ (by simp <;> omega) _ | refine Below.setCell ?_ (by simp <;> omega) _)) hB1⟩
          · by_cases g2 : feedsB t s = true
            · have hr := Lib.hid (show depB s t = true by rw [Hd.out, g2]; simp)
              have G1 := Lib.hid (show feedsB s t = false by simpa using g1)
              have G2 := Lib.hid g2
              clear g1 g2
              go_enter Try.func45, Try.ntmps45
              go_wp2_with fail
              refine (F1.out _ false (by repeat (first | exact Below.refl _ _ | assumption | refine Below.drew ?_ | refine below_drewN ?_ _ | refine Below.alloc ?_ (by simp <;> omega) _ | refine Below.setCell ?_ (by simp <;> omega) _)) G1.out).mono ?_
              rintro e w1 ⟨rfl, hB1⟩
              have hcc := bcell hB1
              go_wp2_with fail
              refine (F2.out _ true (Below.then (by repeat (first | exact Below.refl _ _ | assumption | refine Below.drew ?_ | refine below_drewN ?_ _ | refine Below.alloc ?_ (by simp <;> omega) _ | refine Below.setCell ?_ (by simp <;> omega) _)) hB1) G2.out).mono ?_
              rintro e w2 ⟨rfl, hB2⟩
              go_wp2_with fail
              go_ret
              exact ⟨ret_bool hr.out.symm, Below.then (Below.then (by repeat (first | exact Below.refl _ _ | assumption | refine Below.drew ?_ | refine below_drewN ?_ _ | refine Below.alloc ?_ (by simp <;> omega) _ | refine Below.setCell ?_ (by simp <;> omega) _)) hB1) hB2⟩
            · have hr := Lib.hid (show depB s t = false by rw [Hd.out]; simp [g1, g2])
              have G1 := Lib.hid (show feedsB s t = false by simpa using g1)
              have G2 := Lib.hid (show feedsB t s = false by simpa using g2)
              clear g1 g2
              go_enter Try.func45, Try.ntmps45
              go_wp2_with fail
              refine (F1.out _ false (by repeat (first | exact Below.refl _ _ | assumption | refine Below.drew ?_ | refine below_drewN ?_ _ | refine Below.alloc ?_ (by simp <;> omega) _ | refine Below.setCell ?_ (by simp <;> omega) _)) G1.out).mono ?_
              rintro e w1 ⟨rfl, hB1⟩
              have hcc := bcell hB1
              go_wp2_with fail
              refine (F2.out _ false (Below.then (by repeat (first | exact Below.refl _ _ | assumption | refine Below.drew ?_ | refine below_drewN ?_ _ | refine Below.alloc ?_ (by simp <;> omega) _ | refine Below.setCell ?_ (by simp <;> omega) _)) hB1) G2.out).mono ?_
              rintro e w2 ⟨rfl, hB2⟩
              go_wp2_with fail
              go_ret
              exact ⟨ret_bool hr.out.symm, Below.then (Below.then (by repeat (first | exact Below.refl _ _ | assumption | refine Below.drew ?_ | refine below_drewN ?_ _ | refine Below.alloc ?_ (by simp <;> omega) _ | refine Below.setCell ?_ (by simp <;> omega) _)) hB1) hB2⟩
        · have hd : depB s t = (feedsB s t || feedsB t s) := by rw [Hdep.out, Hso.out, Hto.out]; simp
          have Hd := Lib.hid hd
          clear hd
          by_cases g1 : feedsB s t = true
          · have hr := Lib.hid (show depB s t = true by rw [Hd.out, g1]; simp)
            have G1 := Lib.hid g1
            clear g1
            go_enter Try.func45, Try.ntmps45
            go_wp2_with (go_at_call 73; refine (F1.out _ true (by repeat (first | exact Below.refl _ _ | assumption | refine Below.drew ?_ | refine below_drewN ?_ _ | refine Below.alloc ?_ (by simp <;> omega) _ | refine Below.setCell ?_ (by simp <;> omega) _)) G1.out).mono ?_; rintro e w1 ⟨rfl, hB1⟩; have hcc := bcell hB1)
            go_ret
            exact ⟨ret_bool hr.out.symm, Below.then (by repeat (first | exact Below.refl _ _ | assumption | refine Below.drew ?_ | refine below_drewN ?_ _ | refine Below.alloc ?_ (by simp <;> omega) _ | refine Below.setCell ?_ (by simp <;> omega) _)) hB1⟩
          · by_cases g2 : feedsB t s = true
            · have hr := Lib.hid (show depB s t = true by rw [Hd.out, g2]; simp)
              have G1 := Lib.hid (show feedsB s t = false by simpa using g1)
              have G2 := Lib.hid g2
              clear g1 g2
              go_enter Try.func45, Try.ntmps45
              go_wp2_with fail
              refine (F1.out _ false (by repeat (first | exact Below.refl _ _ | assumption | refine Below.drew ?_ | refine below_drewN ?_ _ | refine Below.alloc ?_ (by simp <;> omega) _ | refine Below.setCell ?_ (by simp <;> omega) _)) G1.out).mono ?_
              rintro e w1 ⟨rfl, hB1⟩
              have hcc := bcell hB1
              go_wp2_with fail
              refine (F2.out _ true (Below.then (by repeat (first | exact Below.refl _ _ | assumption | refine Below.drew ?_ | refine below_drewN ?_ _ | refine Below.alloc ?_ (by simp <;> omega) _ | refine Below.setCell ?_ (by simp <;> omega) _)) hB1) G2.out).mono ?_
              rintro e w2 ⟨rfl, hB2⟩
              go_wp2_with fail
              go_ret
              exact ⟨ret_bool hr.out.symm, Below.then (Below.then (by repeat (first | exact Below.refl _ _ | assumption | refine Below.drew ?_ | refine below_drewN ?_ _ | refine Below.alloc ?_ (by simp <;> omega) _ | refine Below.setCell ?_ (by simp <;> omega) _)) hB1) hB2⟩
            · have hr := Lib.hid (show depB s t = false by rw [Hd.out]; simp [g1, g2])
              have G1 := Lib.hid (show feedsB s t = false by simpa using g1)
              have G2 := Lib.hid (show feedsB t s = false by simpa using g2)
              clear g1 g2
              go_enter Try.func45, Try.ntmps45
              go_wp2_with fail
              refine (F1.out _ false (by repeat (first | exact Below.refl _ _ | assumption | refine Below.drew ?_ | refine below_drewN ?_ _ | refine Below.alloc ?_ (by simp <;> omega) _ | refine Below.setCell ?_ (by simp <;> omega) _)) G1.out).mono ?_
              rintro e w1 ⟨rfl, hB1⟩
              have hcc := bcell hB1
              go_wp2_with fail
              refine (F2.out _ false (Below.then (by repeat (first | exact Below.refl _ _ | assumption | refine Below.drew ?_ | refine below_drewN ?_ _ | refine Below.alloc ?_ (by simp <;> omega) _ | refine Below.setCell ?_ (by simp <;> omega) _)) hB1) G2.out).mono ?_
              rintro e w2 ⟨rfl, hB2⟩
              go_wp2_with fail
              go_ret
              exact ⟨ret_bool hr.out.symm, Below.then (Below.then (by repeat (first | exact Below.refl _ _ | assumption | refine Below.drew ?_ | refine below_drewN ?_ _ | refine Below.alloc ?_ (by simp <;> omega) _ | refine Below.setCell ?_ (by simp <;> omega) _)) hB1) hB2⟩
      · cases to
        · have hd : depB s t = (feedsB s t || feedsB t s) := by rw [Hdep.out, Hso.out, Hto.out]; simp
          have Hd := Lib.hid hd
          clear hd
          by_cases g1 : feedsB s t = true
          · have hr := Lib.hid (show depB s t = true by rw [Hd.out, g1]; simp)
            have G1 := Lib.hid g1
            clear g1
            go_enter Try.func45, Try.ntmps45
            go_wp2_with (go_at_call 73; refine (F1.out _ true (by repeat (first | exact Below.refl _ _ | assumption | refine Below.drew ?_ | refine below_drewN ?_ _ | refine Below.alloc ?_ (by simp <;> omega) _ | refine Below.setCell ?_ (by simp <;> omega) _)) G1.out).mono ?_; rintro e w1 ⟨rfl, hB1⟩; have hcc := bcell hB1)
            go_ret
            exact ⟨ret_bool hr.out.symm, Below.then (by repeat (first | exact Below.refl _ _ | assumption | refine Below.drew ?_ | refine below_drewN ?_ _ | refine Below.alloc ?_ (by simp <;> omega) _ | refine Below.setCell ?_ (by simp <;> omega) _)) hB1⟩
          · by_cases g2 : feedsB t s = true
            · have hr := Lib.hid (show depB s t = true by rw [Hd.out, g2]; simp)
              have G1 := Lib.hid (show feedsB s t = false by simpa using g1)
              have G2 := Lib.hid g2
              clear g1 g2
              go_enter Try.func45, Try.ntmps45
              go_wp2_with fail
              refine (F1.out _ false (by repeat (first | exact Below.refl _ _ | assumption | refine Below.drew ?_ | refine below_drewN ?_ _ | refine Below.alloc ?_ (by simp <;> omega) _ | refine Below.setCell ?_ (by simp <;> omega) _)) G1.out).mono ?_
              rintro e w1 ⟨rfl, hB1⟩
              have hcc := bcell hB1
              go_wp2_with fail
              refine (F2.out _ true (Below.then (by repeat (first | exact Below.refl _ _ | assumption | refine Below.drew ?_ | refine below_drewN ?_ _ | refine Below.alloc ?_ (by simp <;> omega) _ | refine Below.setCell ?_ (by simp <;> omega) _)) hB1) G2.out).mono ?_
              rintro e w2 ⟨rfl, hB2⟩
              go_wp2_with fail
              go_ret
              exact ⟨ret_bool hr.out.symm, Below.then (Below.then (by repeat (first | exact Below.refl _ _ | assumption | refine Below.drew ?_ | refine below_drewN ?_ _ | refine Below.alloc ?_ (by simp <;> omega) _ | refine Below.setCell ?_ (by simp <;> omega) _)) hB1) hB2⟩
            · have hr := Lib.hid (show depB s t = false by rw [Hd.out]; simp [g1, g2])
              have G1 := Lib.hid (show feedsB s t = false by simpa using g1)
              have G2 := Lib.hid (show feedsB t s = false by simpa using g2)
              clear g1 g2
              go_enter Try.func45, Try.ntmps45
              go_wp2_with fail
              refine (F1.out _ false (by repeat (first | exact Below.refl _ _ | assumption | refine Below.drew ?_ | refine below_drewN ?_ _ | refine Below.alloc ?_ (by simp <;> omega) _ | refine Below.setCell ?_ (by simp <;> omega) _)) G1.out).mono ?_
              rintro e w1 ⟨rfl, hB1⟩
              have hcc := bcell hB1
              go_wp2_with fail
              refine (F2.out _ false (Below.then (by repeat (first | exact Below.refl _ _ | assumption | refine Below.drew ?_ | refine below_drewN ?_ _ | refine Below.alloc ?_ (by simp <;> omega) _ | refine Below.setCell ?_ (by simp <;> omega) _)) hB1) G2.out).mono ?_
              rintro e w2 ⟨rfl, hB2⟩
              go_wp2_with fail
              go_ret
              exact ⟨ret_bool hr.out.symm, Below.then (Below.then (by repeat (first | exact Below.refl _ _ | assumption | refine Below.drew ?_ | refine below_drewN ?_ _ | refine Below.alloc ?_ (by simp <;> omega) _ | refine Below.setCell ?_ (by simp <;> omega) _)) hB1) hB2⟩
        · have hr := Lib.hid (show depB s t = true by rw [Hdep.out, Hso.out, Hto.out]; simp)
          go_enter Try.func45, Try.ntmps45
          go_wp2_with fail
          go_ret
          exact ⟨ret_bool hr.out.symm, (by repeat (first | exact Below.refl _ _ | assumption | refine Below.drew ?_ | refine below_drewN ?_ _ | refine Below.alloc ?_ (by simp <;> omega) _ | refine Below.setCell ?_ (by simp <;> omega) _))⟩
    exact key _ _ (Lib.hid rfl) (Lib.hid rfl)

end Go.Proofs.Ytaedfidfcoigoaa
