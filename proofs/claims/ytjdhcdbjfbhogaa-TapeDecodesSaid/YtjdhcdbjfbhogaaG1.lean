/- Around, Has, Lists; cmp.Compare, cmp.Or, numbers, compareCause, CompareQuestion. (Carried over from the Trace seat by port.py.) -/
import Derived.Test.YtjdhcdbjfbhogaaOps
import Derived.BigQuiet
import Derived.StillTailTactics
import Derived.Deep.RegionHeld3
namespace Go.Proofs.Ytjdhcdbjfbhogaa
open Go.RowKit

theorem bodyPost_any {P : Program} {fn : Func} {R : Ending → World → Prop} {a : Act} {w : World} {v : Value}
    (hr : (results fn a.tmps).run P w = .ok v w) (hd : a.defers = []) (hR : R (.returned v) w) : bodyPost P fn R .ret a w := ⟨hd, v, hr, hR⟩
/-- What Around computes. -/
def around (n most : Int) : Int := (if n < 0 then -(n + 1) else n) % most
theorem around_range (n most : Int) (h : 1 ≤ most) : 0 ≤ around n most ∧ around n most < most := by
  unfold around
  exact ⟨Int.emod_nonneg _ (by omega), Int.emod_lt_of_pos _ (by omega)⟩
set_option maxHeartbeats 400000 in
theorem around_any (n most : Int) (w : World) (h1 : 1 ≤ most) (ha : -9223372036854775808 ≤ n) (hb : n ≤ 9223372036854775807) : Calls Try.prog 18 #[I n, I most] w fun e w' => e = .returned (I (around n most)) ∧ w = w' := by
  have hz : (most == 0) = false := by rw [beq_eq_false_iff_ne]; omega
  by_cases hneg : n < 0
  · go_enter Try.func18, Try.ntmps18
    go_wp2
    go_ret
    refine ⟨ret_int ?_, rfl⟩
    unfold around
    rw [if_pos hneg, ← Int.neg_tmod, Int.tmod_eq_emod_of_nonneg (by omega)]
  · go_enter Try.func18, Try.ntmps18
    go_wp2
    go_ret
    refine ⟨ret_int ?_, rfl⟩
    unfold around
    rw [if_neg (by omega)]
set_option maxHeartbeats 400000 in
theorem has_any (l : List Int) (n : Int) (v : Value) (w : World) (hl : IntSl w v l) :
    Calls Try.prog 42 #[v, I n] w fun e w' => e = .returned (.bool (decide (n ∈ l))) ∧ w = w' := by
  obtain ⟨ka, ca, rfl, hml⟩ := hl.open
  go_enter Try.func42, Try.ntmps42
  go_wp2
  go_loop [5] (fun i => ∃ k : Nat, k ≤ l.length ∧ i = .int .i64 k ∧ (∀ j < k, l[j]? ≠ some n)) (fun i => l.length - (intOf i).toNat)
  case atStart => exact ⟨0, by omega, rfl, fun j hj => absurd hj (by omega)⟩
  case round =>
    obtain ⟨k, hk, rfl, hE⟩ := hrel
    have HE := Lib.hid hE
    clear hE
    by_cases hlt : k < l.length
    · obtain ⟨b, o, rfl, x0⟩ := hl.at (i := k) (x := l[k]) (by simp [hlt])
      by_cases hx : l[k] = n
      · have Hx := Lib.hid hx
        have hq : (l[k] == n) = true := by simp [hx]
        clear hx
        go_wp2
        go_ret
        refine ⟨ret_bool ?_, rfl⟩
        symm
        rw [decide_eq_true_iff, ← Hx.out]
        simp
      · have Hx := Lib.hid hx
        have hq : (l[k] == n) = false := by simp [hx]
        clear hx
        go_wp2
        go_round
        case rel =>
          refine ⟨k + 1, by omega, by go_num, ?_⟩
          intro j hj
          by_cases hjk : j = k
          · subst hjk
            simp [hlt, Hx.out]
          · exact HE.out j (by omega)
        case measure => simp [intOf]; omega
    · go_wp2
      go_ret
      refine ⟨ret_bool ?_, rfl⟩
      symm
      rw [decide_eq_false_iff_not]
      intro h
      obtain ⟨j, hj⟩ := List.getElem?_of_mem h
      exact HE.out j (by have := (List.getElem?_eq_some_iff.1 hj).1; omega) hj
theorem Below.then {w W w1 : World} (h : Below w.heap.size w W) (h1 : Below W.heap.size W w1) : Below w.heap.size w w1 := h.trans (h1.mono h.size)
theorem bcell {W w1 : World} (hb : Below W.heap.size W w1) : ∀ b o, b < W.heap.size → w1.cell? ⟨b, o, none⟩ = W.cell? ⟨b, o, none⟩ := fun b o h => hb.cell (p := ⟨b, o, none⟩) h
set_option maxHeartbeats 400000 in
theorem questionKey (a0 a1 a2 a3 a4 : Int) (w : World) : Calls Try.prog 82 #[.agg #[I a0, I a1, I a2, I a3, I a4]] w fun e w' =>
    ∃ g, e = .returned (.slice (some ⟨g, 0, none⟩) 5 5) ∧ w.heap.size ≤ g ∧ w'.heap[g]? = some (.cells #[I a0, I a1, I a2, I a3, I a4] 3 (0, 0)) ∧ Below w.heap.size w w' := by
  go_enter Try.func82, Try.ntmps82
  go_wp2
  go_ret
  exact ⟨_, rfl, by simp, heap_alloc2_new _ _ _, (by repeat (first | exact Below.refl _ _ | assumption | refine Below.drew ?_ | refine below_drewN ?_ _ | refine Below.alloc ?_ (by simp <;> omega) _ | refine Below.setCell ?_ (by simp <;> omega) _))⟩
/-- Lexicographic comparison of lists of numbers. -/
def lexL : List Int → List Int → Int
  | [], [] => 0
  | [], _ :: _ => -1
  | _ :: _, [] => 1
  | a :: l, b :: m => if a < b then -1 else if b < a then 1 else lexL l m
theorem lexL_end (l m : List Int) (h : l = [] ∨ m = []) : lexL l m = if l.length < m.length then -1 else if m.length < l.length then 1 else 0 := by
  rcases h with rfl | rfl
  · cases m <;> simp [lexL]
  · cases l <;> simp [lexL]
set_option maxHeartbeats 400000 in
theorem lists_any (l m : List Int) (v u : Value) (w : World) (hl : IntSl w v l) (hm : IntSl w u m) :
    Calls Try.prog 81 #[v, u] w fun e w' => e = .returned (I (lexL l m)) ∧ ∃ n, w' = w.drewN n := by
  obtain ⟨ka, ca, rfl, hml⟩ := hl.open
  obtain ⟨kb, cb, rfl, hmm⟩ := hm.open
  go_enter Try.func81, Try.ntmps81
  go_wp2
  go_loopw [5] (fun i wr => ∃ k n : Nat, k ≤ l.length ∧ k ≤ m.length ∧ i = .int .i64 k ∧ wr = w.drewN n ∧ lexL l m = lexL (l.drop k) (m.drop k)) (fun i _ => l.length - (intOf i).toNat)
  case atStart => exact ⟨0, 0, by omega, by omega, rfl, rfl, by simp⟩
  case round =>
    obtain ⟨k, n, hk, hk2, rfl, rfl, hE⟩ := hrel
    have HE := Lib.hid hE
    clear hE
    by_cases hlt : k < l.length
    · have q1 : decide (k < l.length) = true := by simp [hlt]
      by_cases hlt2 : k < m.length
      · have q2 : decide (k < m.length) = true := by simp [hlt2]
        obtain ⟨b, o, rfl, x0⟩ := hl.at (i := k) (x := l[k]) (by simp [hlt])
        obtain ⟨b', o', rfl, y0⟩ := hm.at (i := k) (x := m[k]) (by simp [hlt2])
        have hd : lexL l m = if l[k] < m[k] then -1 else if m[k] < l[k] then 1 else lexL (l.drop (k + 1)) (m.drop (k + 1)) := by
          rw [HE.out, List.drop_eq_getElem_cons hlt, List.drop_eq_getElem_cons hlt2]; rfl
        have Hd := Lib.hid hd
        clear hd q1 q2
        by_cases h1 : l[k] < m[k]
        · have p1 : decide (l[k] < m[k]) = true := by simp [h1]
          have h1' := Lib.hid h1
          clear h1
          go_wp2
          go_quiet (fail)
          go_wp2
          go_ret
          exact ⟨ret_int (by rw [Hd.out, if_pos h1'.out]), n + nq, by simp⟩
        · have p1 : decide (l[k] < m[k]) = false := by simp [h1]
          have h1' := Lib.hid h1
          clear h1
          by_cases h2 : m[k] < l[k]
          · have p2 : decide (m[k] < l[k]) = true := by simp [h2]
            have hr := Lib.hid (show lexL l m = 1 by rw [Hd.out, if_neg h1'.out, if_pos h2])
            clear h2
            go_wp2
            go_quiet (fail)
            go_wp2
            revert nq
            intro n1
            go_quiet (fail)
            go_wp2
            go_ret
            exact ⟨ret_int hr.out.symm, n + n1 + nq, by simp⟩
          · have p2 : decide (m[k] < l[k]) = false := by simp [h2]
            have hr := Lib.hid (show lexL l m = lexL (l.drop (k + 1)) (m.drop (k + 1)) by rw [Hd.out, if_neg h1'.out, if_neg h2])
            clear h2
            go_wp2
            go_quiet (fail)
            go_wp2
            revert nq
            intro n1
            go_quiet (fail)
            go_wp2
            go_roundw
            case rel => exact ⟨k + 1, n + n1 + nq, by omega, by omega, by go_num, by first | rfl | simp, hr.out⟩
            case measure => simp [intOf]; omega
      · have q2 : decide (k < m.length) = false := by simp [hlt2]
        have hkm : k = m.length := by omega
        have hr : lexL l m = 1 := by
          rw [HE.out, lexL_end _ _ (.inr (by simp [hkm]))]
          simp only [List.length_drop]
          rw [if_neg (by omega), if_pos (by omega)]
        have Hr := Lib.hid hr
        have r1 : decide (l.length < m.length) = false := by simp; omega
        have r2 : decide (m.length < l.length) = true := by simp; omega
        clear hr hkm hlt hlt2
        go_wp2
        go_ret
        exact ⟨ret_int Hr.out.symm, n, rfl⟩
    · have q1 : decide (k < l.length) = false := by simp [hlt]
      have hkm : k = l.length := by omega
      by_cases h1 : l.length < m.length
      · have hr : lexL l m = -1 := by
          rw [HE.out, lexL_end _ _ (.inl (by simp [hkm]))]
          simp only [List.length_drop]
          rw [if_pos (by omega)]
        have Hr := Lib.hid hr
        have r1 : decide (l.length < m.length) = true := by simp [h1]
        clear hr hkm hlt h1
        go_wp2
        go_ret
        exact ⟨ret_int Hr.out.symm, n, rfl⟩
      · have hr : lexL l m = 0 := by
          rw [HE.out, lexL_end _ _ (.inl (by simp [hkm]))]
          simp only [List.length_drop]
          rw [if_neg (by omega), if_neg (by omega)]
        have Hr := Lib.hid hr
        have r1 : decide (l.length < m.length) = false := by simp [h1]
        have r2 : decide (m.length < l.length) = false := by simp; omega
        clear hr hkm hlt h1
        go_wp2
        go_ret
        exact ⟨ret_int Hr.out.symm, n, rfl⟩
/-- What a call that makes blocks of its own alone leaves to a row. -/
theorem owns_below {w w1 : World} {B k n : Nat} {e : TypeId} {v : Value} {xs : List Value} (h : w.ownsRow B e k v n xs) (hB : Below w.heap.size w w1) : w1.ownsRow B e k v n xs :=
  h.kept (row := none) ⟨hB.os, hB.tape, hB.output, hB.size, fun k' hk _ => hB.block k' hk⟩ (by cases hv : v.ownBlock <;> simp)
theorem blk_of_heap {w : World} {g : Nat} {cs : Array Value} {t : TypeId} (h : w.heap[g]? = some (.cells cs t (0, 0))) : Blk w g cs := ⟨t, h⟩
def cmpI (a b : Int) : Int := if a < b then -1 else if b < a then 1 else 0
/-- The first number that is not 0. -/
def orL : List Int → Int
  | [] => 0
  | a :: l => if a != 0 then a else orL l
/-- Pairs compared: the first that differ decide. -/
def numsL : List Int → Int
  | a :: b :: l => if cmpI a b != 0 then cmpI a b else numsL l
  | _ => 0
theorem lexL_cons (a b : Int) (l m : List Int) : lexL (a :: l) (b :: m) = if cmpI a b != 0 then cmpI a b else lexL l m := by
  simp only [lexL, cmpI]
  by_cases h1 : a < b
  · simp [h1]
  · by_cases h2 : b < a <;> simp [h1, h2]
theorem lexL_append : ∀ (l m l' m' : List Int), l.length = m.length → lexL (l ++ l') (m ++ m') = if lexL l m != 0 then lexL l m else lexL l' m'
  | [], [], l', m', _ => by simp [lexL]
  | a :: l, b :: m, l', m', h => by
    have ih := lexL_append l m l' m' (by simpa using h)
    rw [List.cons_append, List.cons_append, lexL_cons, lexL_cons, ih]
    by_cases h1 : cmpI a b = 0
    · simp [h1]
    · have : (cmpI a b != 0) = true := by simpa using h1
      simp [this]
  | [], _ :: _, _, _, h => by simp at h
  | _ :: _, [], _, _, h => by simp at h
theorem IntSl.of_heap {w : World} {g n c : Nat} {cs : Array Value} {t : TypeId} {l : List Int} (h : w.heap[g]? = some (.cells cs t (0, 0))) (hl : cs.toList = iv l) (hn : n = l.length) (hs : l.length ≤ 1000000) : IntSl w (.slice (some ⟨g, 0, none⟩) n c) l := by
  subst hn
  refine Flat.of_cells (by simp [iv]) (by omega) fun j u hu => ?_
  rw [Nat.zero_add, cell_of_row w g j cs t _ h, ← Array.getElem?_toList, hl]
  exact hu
set_option maxHeartbeats 400000 in
theorem isNaN (a : Int) (w : World) : Calls Try.prog 94 #[I a] w fun e w' => e = .returned (.bool false) ∧ w = w' := by
  have h : (a != a) = false := by simp
  go_enter Try.func94, Try.ntmps94
  go_wp2
  go_ret
  exact ⟨rfl, rfl⟩
set_option maxHeartbeats 400000 in
theorem cmpCompare (a b : Int) (w : World) : Calls Try.prog 86 #[I a, I b] w fun e w' => e = .returned (I (cmpI a b)) ∧ w = w' := by
  by_cases h1 : a < b
  · have p1 : decide (a < b) = true := by simp [h1]
    have hr := Lib.hid (show cmpI a b = -1 by simp [cmpI, h1])
    clear h1
    go_enter Try.func86, Try.ntmps86
    go_wp2_with (go_at_call 94; refine (isNaN _ _).mono ?_; rintro e w' ⟨rfl, rfl⟩)
    go_ret
    exact ⟨ret_int hr.out.symm, rfl⟩
  · have p1 : decide (a < b) = false := by simp [h1]
    by_cases h2 : b < a
    · have p2 : decide (b < a) = true := by simp [h2]
      have hr := Lib.hid (show cmpI a b = 1 by simp [cmpI, h1, h2])
      clear h1 h2
      go_enter Try.func86, Try.ntmps86
      go_wp2_with (go_at_call 94; refine (isNaN _ _).mono ?_; rintro e w' ⟨rfl, rfl⟩)
      go_ret
      exact ⟨ret_int hr.out.symm, rfl⟩
    · have p2 : decide (b < a) = false := by simp [h2]
      have hr := Lib.hid (show cmpI a b = 0 by simp [cmpI, h1, h2])
      clear h1 h2
      go_enter Try.func86, Try.ntmps86
      go_wp2_with (go_at_call 94; refine (isNaN _ _).mono ?_; rintro e w' ⟨rfl, rfl⟩)
      go_ret
      exact ⟨ret_int hr.out.symm, rfl⟩
set_option maxHeartbeats 400000 in
theorem cmpOr (l : List Int) (v : Value) (w : World) (hl : IntSl w v l) : Calls Try.prog 70 #[v] w fun e w' => e = .returned (I (orL l)) ∧ w = w' := by
  obtain ⟨ka, ca, rfl, hml⟩ := hl.open
  go_enter Try.func70, Try.ntmps70
  go_wp2
  go_loop [8] (fun i => ∃ k : Nat, k ≤ l.length ∧ i = .int .i64 k ∧ orL l = orL (l.drop k)) (fun i => l.length - (intOf i).toNat)
  case atStart => exact ⟨0, by omega, rfl, by simp⟩
  case round =>
    obtain ⟨k, hk, rfl, hE⟩ := hrel
    have HE := Lib.hid hE
    clear hE
    by_cases hlt : k < l.length
    · obtain ⟨b, o, rfl, x0⟩ := hl.at (i := k) (x := l[k]) (by simp [hlt])
      have Hd := Lib.hid (List.drop_eq_getElem_cons hlt)
      by_cases hx : l[k] = 0
      · have hq : (l[k] != 0) = false := by simp [hx]
        have hr := Lib.hid (show orL l = orL (l.drop (k + 1)) by rw [HE.out, Hd.out, orL, if_neg (by simp [hx])])
        clear hx
        go_wp2
        go_round
        case rel => exact ⟨k + 1, by omega, by go_num, hr.out⟩
        case measure => simp [intOf]; omega
      · have hq : (l[k] != 0) = true := by simp [hx]
        have hr := Lib.hid (show orL l = l[k] by rw [HE.out, Hd.out, orL, if_pos (by simp [hx])])
        clear hx
        go_wp2
        go_ret
        exact ⟨ret_int hr.out.symm, rfl⟩
    · have hr := Lib.hid (show orL l = 0 by rw [HE.out, List.drop_of_length_le (by omega)]; rfl)
      go_wp2
      go_ret
      exact ⟨ret_int hr.out.symm, rfl⟩
/-- Nothing but the tape's count has moved on. -/
def Quiet (w wr : World) : Prop := ∃ n, wr = w.drewN n
theorem Quiet.refl (w : World) : Quiet w w := ⟨0, rfl⟩
theorem Quiet.drewN {w wr : World} (h : Quiet w wr) (n : Nat) : Quiet w (wr.drewN n) := by
  obtain ⟨m, rfl⟩ := h
  exact ⟨m + n, by simp⟩
theorem Quiet.cell {w wr : World} (h : Quiet w wr) (a : Addr) : wr.cell? a = w.cell? a := by
  obtain ⟨m, rfl⟩ := h
  rfl
theorem Quiet.below {w wr : World} (h : Quiet w wr) (B : Nat) : Below B w wr := by
  obtain ⟨m, rfl⟩ := h
  exact below_drewN (Below.refl _ _) m
set_option maxHeartbeats 400000 in
theorem numbers_any (l : List Int) (v : Value) (w : World) (hl : IntSl w v l) (hs : l.length ≤ 1000000) : Calls Try.prog 72 #[v] w fun e w' => e = .returned (I (numsL l)) ∧ Quiet w w' := by
  obtain ⟨ka, ca, rfl, hml⟩ := hl.open
  go_enter Try.func72, Try.ntmps72
  go_wp2
  go_loopw [3] (fun i wr => ∃ k : Nat, k ≤ l.length + 1 ∧ i = .int .i64 k ∧ Quiet w wr ∧ numsL l = numsL (l.drop k)) (fun i _ => l.length + 2 - (intOf i).toNat)
  case atStart => exact ⟨0, by omega, rfl, Quiet.refl _, by simp⟩
  case round =>
    obtain ⟨k, hk, rfl, hQ, hE⟩ := hrel
    have HE := Lib.hid hE
    clear hE
    by_cases hlt : k + 1 < l.length
    · have hlt0 : k < l.length := by omega
      obtain ⟨b, o, rfl, x0⟩ := hl.at (i := k) (x := l[k]) (by simp [hlt0])
      obtain ⟨b', o', hbo, x1⟩ := hl.at (i := k + 1) (x := l[k + 1]) (by simp [hlt])
      simp at hbo
      obtain ⟨rfl, rfl⟩ := hbo
      have y0 := (hQ.cell ⟨b, o + k, none⟩).trans x0
      have y1 := (hQ.cell ⟨b, o + (k + 1), none⟩).trans x1
      have Hd := Lib.hid ((List.drop_eq_getElem_cons hlt0).trans (congrArg (l[k] :: ·) (List.drop_eq_getElem_cons hlt)))
      by_cases hx : cmpI l[k] l[k + 1] = 0
      · have hq : (cmpI l[k] l[k + 1] != 0) = false := by simp [hx]
        have hr := Lib.hid (show numsL l = numsL (l.drop (k + 2)) by rw [HE.out, Hd.out, numsL, if_neg (by simp [hx])])
        clear hx
        go_wp2
        go_quiet ((go_at_call 86; exact Calls.quiet_of_same ((cmpCompare _ _ _).mono fun _ _ h => ⟨h.1, h.2.symm⟩)))
        go_wp2
        go_roundw
        case rel => exact ⟨k + 2, by omega, by go_num, hQ.drewN nq, hr.out⟩
        case measure => simp [intOf]; omega
      · have hq : (cmpI l[k] l[k + 1] != 0) = true := by simp [hx]
        have hr := Lib.hid (show numsL l = cmpI l[k] l[k + 1] by rw [HE.out, Hd.out, numsL, if_pos (by simp [hx])])
        clear hx
        go_wp2
        go_quiet ((go_at_call 86; exact Calls.quiet_of_same ((cmpCompare _ _ _).mono fun _ _ h => ⟨h.1, h.2.symm⟩)))
        go_wp2
        go_ret
        exact ⟨ret_int hr.out.symm, hQ.drewN nq⟩
    · have hr := Lib.hid (show numsL l = 0 by
        rw [HE.out]
        have : (l.drop k).length ≤ 1 := by simp; omega
        match hd : l.drop k, this with
        | [], _ => rfl
        | [_], _ => rfl)
      go_wp2
      go_ret
      exact ⟨ret_int hr.out.symm, hQ⟩
theorem heap_alloc3_new (w : World) (A B C : Obj) : (((w.alloc A).alloc B).alloc C).heap[w.heap.size + 1 + 1]? = some C := by
  have h := heap_alloc_new ((w.alloc A).alloc B) C
  simpa only [World.size_alloc] using h
/-- As Kp, for two boxes. -/
def Kp2 (w : World) (cs ds : Array Value) (X : World) : Prop := Blk X w.heap.size cs ∧ Blk X (w.heap.size + 1) ds ∧ Below w.heap.size w X ∧ w.heap.size + 2 ≤ X.heap.size
theorem Kp2.S {w X : World} {cs ds : Array Value} (h : Kp2 w cs ds X) : (∀ j, X.cell? ⟨w.heap.size, j, none⟩ = cs[j]?) ∧ (∀ j, X.cell? ⟨w.heap.size + 1, j, none⟩ = ds[j]?) := ⟨h.1.cell, h.2.1.cell⟩
theorem Kp2.drew {w X : World} {cs ds : Array Value} (h : Kp2 w cs ds X) : Kp2 w cs ds X.drew := ⟨h.1, h.2.1, h.2.2.1.drew, h.2.2.2⟩
theorem Kp2.drewN {w X : World} {cs ds : Array Value} (h : Kp2 w cs ds X) (n : Nat) : Kp2 w cs ds (X.drewN n) := ⟨h.1, h.2.1, below_drewN h.2.2.1 n, h.2.2.2⟩
theorem Kp2.alloc {w X : World} {cs ds : Array Value} (h : Kp2 w cs ds X) (o : Obj) : Kp2 w cs ds (X.alloc o) := ⟨h.1.alloc o, h.2.1.alloc o, h.2.2.1.alloc (by have := h.2.2.2; omega) o, by have := h.2.2.2; simp; omega⟩
theorem Kp2.call {w X w1 : World} {cs ds : Array Value} (h : Kp2 w cs ds X) (hB : Below X.heap.size X w1) : Kp2 w cs ds w1 :=
  ⟨h.1.kept hB (by have := h.2.2.2; omega), h.2.1.kept hB (by have := h.2.2.2; omega), h.2.2.1.trans (hB.mono (by have := h.2.2.2; omega)), by have := h.2.2.2; have := hB.size; omega⟩
theorem Kp2.start (w : World) (cs ds : Array Value) (t : TypeId) : Kp2 w cs ds ((w.alloc (.cells cs t)).alloc (.cells ds t)) :=
  ⟨(Blk.new _ _ _).alloc _, ⟨t, heap_alloc2_new w _ _⟩, (by repeat (first | exact Below.refl _ _ | assumption | refine Below.drew ?_ | refine below_drewN ?_ _ | refine Below.alloc ?_ (by simp <;> omega) _ | refine Below.setCell ?_ (by simp <;> omega) _)), by simp⟩
set_option maxHeartbeats 400000 in
set_option maxRecDepth 100000 in
theorem compareCause (a0 a1 a2 b0 b1 b2 : Int) (w : World) : Calls Try.prog 71 #[.agg #[I a0, I a1, I a2], .agg #[I b0, I b1, I b2]] w fun e w' => e = .returned (I (lexL [a0, a1, a2] [b0, b1, b2])) ∧ Below w.heap.size w w' := by
  have hr := Lib.hid (show lexL [a0, a1, a2] [b0, b1, b2] = numsL [a0, b0, a1, b1, a2, b2] by simp only [numsL]; rw [lexL_cons, lexL_cons, lexL_cons]; rfl)
  go_enter Try.func71, Try.ntmps71
  go_wp2_with fail
  refine (numbers_any [a0, b0, a1, b1, a2, b2] _ _ (IntSl.of_heap (heap_alloc3_new w _ _ _) rfl rfl (by simp)) (by simp)).mono ?_
  rintro e w1 ⟨rfl, hQ⟩
  have hB := hQ.below w.heap.size
  go_wp2_with fail
  go_ret
  exact ⟨ret_int hr.out.symm, Below.trans (by repeat (first | exact Below.refl _ _ | assumption | refine Below.drew ?_ | refine below_drewN ?_ _ | refine Below.alloc ?_ (by simp <;> omega) _ | refine Below.setCell ?_ (by simp <;> omega) _)) hB⟩
set_option maxHeartbeats 800000 in
set_option maxRecDepth 100000 in
theorem compareQuestion (a0 a1 a2 a3 a4 b0 b1 b2 b3 b4 : Int) (w : World) : Calls Try.prog 39 #[.agg #[I a0, I a1, I a2, I a3, I a4], .agg #[I b0, I b1, I b2, I b3, I b4]] w fun e w' => e = .returned (I (lexL [a0, a1, a2, a3, a4] [b0, b1, b2, b3, b4])) ∧ Below w.heap.size w w' := by
  have hr := Lib.hid (show lexL [a0, a1, a2, a3, a4] [b0, b1, b2, b3, b4] = orL [lexL [a0, a1, a2] [b0, b1, b2], numsL [a3, b3, a4, b4]] by
    rw [show lexL [a0, a1, a2, a3, a4] [b0, b1, b2, b3, b4] = lexL ([a0, a1, a2] ++ [a3, a4]) ([b0, b1, b2] ++ [b3, b4]) from rfl, lexL_append [a0, a1, a2] [b0, b1, b2] [a3, a4] [b3, b4] rfl, lexL_cons a3, lexL_cons a4]
    simp only [orL, numsL]
    repeat' split
    all_goals simp_all [lexL])
  have hk0 := Kp2.start w #[I a0, I a1, I a2, I a3, I a4] #[I b0, I b1, I b2, I b3, I b4] 66
  have hac := hk0.1.cell
  have hac' := hk0.2.1.cell
  go_enter Try.func39, Try.ntmps39
  go_wp2_with fail
  go_region_held3 (fun w' => (∀ j, w'.cell? ⟨w.heap.size, j, none⟩ = (#[I a0, I a1, I a2, I a3, I a4] : Array Value)[j]?) ∧ (∀ j, w'.cell? ⟨w.heap.size + 1, j, none⟩ = (#[I b0, I b1, I b2, I b3, I b4] : Array Value)[j]?))
    ((first | exact Kp2.S hk0 | exact Kp2.S hk0.drew | exact Kp2.S (hk0.alloc _).drew | exact Kp2.S kp1 | exact Kp2.S (kp1.alloc _) | exact Kp2.S kp2 | exact Kp2.S (kp2.alloc _)))
    (first
      | (go_at_call 71; refine (compareCause a0 a1 a2 b0 b1 b2 _).mono ?_; rintro e w1 ⟨rfl, hB1⟩
         have kp1 : Kp2 w #[I a0, I a1, I a2, I a3, I a4] #[I b0, I b1, I b2, I b3, I b4] w1 := by first | exact Kp2.call hk0.drew hB1 | exact Kp2.call (hk0.alloc _).drew hB1)
      | (go_at_call 72; refine (numbers_any [a3, b3, a4, b4] _ _ (by first | exact IntSl.of_heap (heap_alloc_new w1 _) rfl rfl (by simp) | exact IntSl.of_heap ((hB1.block _ (by simp only [heap_drew, World.size_alloc]; omega)).trans (heap_alloc3_new w _ _ _)) rfl rfl (by simp)) (by simp)).mono ?_; rintro e w2 ⟨rfl, hQ2⟩
         have kp2 : Kp2 w #[I a0, I a1, I a2, I a3, I a4] #[I b0, I b1, I b2, I b3, I b4] w2 := by first | exact Kp2.call kp1 (hQ2.below _) | exact Kp2.call (kp1.alloc _) (hQ2.below _))
      | (go_at_call 70; refine (cmpOr [lexL [a0, a1, a2] [b0, b1, b2], numsL [a3, b3, a4, b4]] _ _ (IntSl.of_heap (heap_alloc_new w2 _) rfl rfl (by simp))).mono ?_; rintro e w3 ⟨rfl, rfl⟩))
  all_goals
    go_wp2_with fail
    go_ret
    exact ⟨ret_int hr.out.symm, (kp2.alloc _).2.2.1⟩

end Go.Proofs.Ytjdhcdbjfbhogaa
