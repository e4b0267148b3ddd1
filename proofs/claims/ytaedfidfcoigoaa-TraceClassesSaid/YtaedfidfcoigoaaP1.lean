/- The program's comparisons: package names. -/
import Derived.Test.YtaedfidfcoigoaaR5
namespace Go.Proofs.Ytaedfidfcoigoaa
open Go.RowKit

def cmpI (a b : Int) : Int := if a < b then -1 else if b < a then 1 else 0
/-- The first number that is not 0. -/
def orL : List Int → Int
  | [] => 0
  | a :: l => if a != 0 then a else orL l
/-- Pairs compared: the first that differ decide. -/
def numsL : List Int → Int
  | a :: b :: l => if cmpI a b != 0 then cmpI a b else numsL l
  | _ => 0

theorem lexL_cons (a b : Int) (l m : List Int) : lexL (a :: l) (b :: m) = if cmpI a b != 0 then cmpI a b else lexL l m := by
  simp only [lexL, cmpI]
  by_cases h1 : a < b
  · simp [h1]
  · by_cases h2 : b < a <;> simp [h1, h2]
theorem lexL_append : ∀ (l m l' m' : List Int), l.length = m.length → lexL (l ++ l') (m ++ m') = if lexL l m != 0 then lexL l m else lexL l' m'
  | [], [], l', m', _ => by simp [lexL]
  | a :: l, b :: m, l', m', h => by
    have ih := lexL_append l m l' m' (by simpa using h)
    rw [List.cons_append, List.cons_append, lexL_cons, lexL_cons, ih]
    by_cases h1 : cmpI a b = 0
    · simp [h1]
    · have : (cmpI a b != 0) = true := by simpa using h1
      simp [this]
  | [], _ :: _, _, _, h => by simp at h
  | _ :: _, [], _, _, h => by simp at h

theorem IntSl.of_heap {w : World} {g n c : Nat} {cs : Array Value} {t : TypeId} {l : List Int} (h : w.heap[g]? = some (.cells cs t (0, 0))) (hl : cs.toList = iv l) (hn : n = l.length) (hs : l.length ≤ 1000000) : IntSl w (.slice (some ⟨g, 0, none⟩) n c) l := by
  subst hn
  refine Flat.of_cells (by simp [iv]) (by omega) fun j u hu => ?_
  rw [Nat.zero_add, cell_of_row w g j cs t _ h, ← Array.getElem?_toList, hl]
  exact hu

set_option maxHeartbeats 400000 in
theorem isNaN (a : Int) (w : World) : Calls Try.prog 89 #[I a] w fun e w' => e = .returned (.bool false) ∧ w = w' := by
  have h : (a != a) = false := by simp
  go_enter Try.func89, Try.ntmps89
  go_wp2
  go_ret
  exact ⟨rfl, rfl⟩

set_option maxHeartbeats 400000 in
theorem cmpCompare (a b : Int) (w : World) : Calls Try.prog 72 #[I a, I b] w fun e w' => e = .returned (I (cmpI a b)) ∧ w = w' := by
  by_cases h1 : a < b
  · have p1 : decide (a < b) = true := by simp [h1]
    have hr := Lib.hid (show cmpI a b = -1 by simp [cmpI, h1])
    clear h1
    go_enter Try.func72, Try.ntmps72
    go_wp2_with (go_at_call 89; refine (isNaN _ _).mono ?_; rintro e w' ⟨rfl, rfl⟩)
    go_ret
    exact ⟨ret_int hr.out.symm, rfl⟩
  · have p1 : decide (a < b) = false := by simp [h1]
    by_cases h2 : b < a
    · have p2 : decide (b < a) = true := by simp [h2]
      have hr := Lib.hid (show cmpI a b = 1 by simp [cmpI, h1, h2])
      clear h1 h2
      go_enter Try.func72, Try.ntmps72
      go_wp2_with (go_at_call 89; refine (isNaN _ _).mono ?_; rintro e w' ⟨rfl, rfl⟩)
      go_ret
      exact ⟨ret_int hr.out.symm, rfl⟩
    · have p2 : decide (b < a) = false := by simp [h2]
      have hr := Lib.hid (show cmpI a b = 0 by simp [cmpI, h1, h2])
      clear h1 h2
      go_enter Try.func72, Try.ntmps72
      go_wp2_with (go_at_call 89; refine (isNaN _ _).mono ?_; rintro e w' ⟨rfl, rfl⟩)
      go_ret
      exact ⟨ret_int hr.out.symm, rfl⟩

set_option maxHeartbeats 400000 in
theorem cmpOr (l : List Int) (v : Value) (w : World) (hl : IntSl w v l) : Calls Try.prog 70 #[v] w fun e w' => e = .returned (I (orL l)) ∧ w = w' := by
  obtain ⟨ka, ca, rfl, hml⟩ := hl.open
  go_enter Try.func70, Try.ntmps70
  go_wp2
  go_loop [8] (fun i => ∃ k : Nat, k ≤ l.length ∧ i = .int .i64 k ∧ orL l = orL (l.drop k)) (fun i => l.length - (intOf i).toNat)
  case atStart => exact ⟨0, by omega, rfl, by simp⟩
  case round =>
    obtain ⟨k, hk, rfl, hE⟩ := hrel
    have HE := Lib.hid hE
    clear hE
    by_cases hlt : k < l.length
    · obtain ⟨b, o, rfl, x0⟩ := hl.at (i := k) (x := l[k]) (by simp [hlt])
      have Hd := Lib.hid (List.drop_eq_getElem_cons hlt)
      by_cases hx : l[k] = 0
      · have hq : (l[k] != 0) = false := by simp [hx]
        have hr := Lib.hid (show orL l = orL (l.drop (k + 1)) by rw [HE.out, Hd.out, orL, if_neg (by simp [hx])])
        clear hx
        go_wp2
        go_round
        case rel => exact ⟨k + 1, by omega, by go_num, hr.out⟩
        case measure => simp [intOf]; omega
      · have hq : (l[k] != 0) = true := by simp [hx]
        have hr := Lib.hid (show orL l = l[k] by rw [HE.out, Hd.out, orL, if_pos (by simp [hx])])
        clear hx
        go_wp2
        go_ret
        exact ⟨ret_int hr.out.symm, rfl⟩
    · have hr := Lib.hid (show orL l = 0 by rw [HE.out, List.drop_of_length_le (by omega)]; rfl)
      go_wp2
      go_ret
      exact ⟨ret_int hr.out.symm, rfl⟩

/-- Nothing but the tape's count has moved on. -/
def Quiet (w wr : World) : Prop := ∃ n, wr = w.drewN n
theorem Quiet.refl (w : World) : Quiet w w := ⟨0, rfl⟩
theorem Quiet.drewN {w wr : World} (h : Quiet w wr) (n : Nat) : Quiet w (wr.drewN n) := by
  obtain ⟨m, rfl⟩ := h
  exact ⟨m + n, by simp⟩
theorem Quiet.cell {w wr : World} (h : Quiet w wr) (a : Addr) : wr.cell? a = w.cell? a := by
  obtain ⟨m, rfl⟩ := h
  rfl
theorem Quiet.below {w wr : World} (h : Quiet w wr) (B : Nat) : Below B w wr := by
  obtain ⟨m, rfl⟩ := h
  exact below_drewN (Below.refl _ _) m

set_option maxHeartbeats 400000 in
theorem numbers_any (l : List Int) (v : Value) (w : World) (hl : IntSl w v l) (hs : l.length ≤ 1000000) : Calls Try.prog 86 #[v] w fun e w' => e = .returned (I (numsL l)) ∧ Quiet w w' := by
  obtain ⟨ka, ca, rfl, hml⟩ := hl.open
  go_enter Try.func86, Try.ntmps86
  go_wp2
  go_loopw [3] (fun i wr => ∃ k : Nat, k ≤ l.length + 1 ∧ i = .int .i64 k ∧ Quiet w wr ∧ numsL l = numsL (l.drop k)) (fun i _ => l.length + 2 - (intOf i).toNat)
  case atStart => exact ⟨0, by omega, rfl, Quiet.refl _, by simp⟩
  case round =>
    obtain ⟨k, hk, rfl, hQ, hE⟩ := hrel
    have HE := Lib.hid hE
    clear hE
    by_cases hlt : k + 1 < l.length
    · have hlt0 : k < l.length := by omega
      obtain ⟨b, o, rfl, x0⟩ := hl.at (i := k) (x := l[k]) (by simp [hlt0])
      obtain ⟨b', o', hbo, x1⟩ := hl.at (i := k + 1) (x := l[k + 1]) (by simp [hlt])
      simp at hbo
      obtain ⟨rfl, rfl⟩ := hbo
      have y0 := (hQ.cell ⟨b, o + k, none⟩).trans x0
      have y1 := (hQ.cell ⟨b, o + (k + 1), none⟩).trans x1
      have Hd := Lib.hid ((List.drop_eq_getElem_cons hlt0).trans (congrArg (l[k] :: ·) (List.drop_eq_getElem_cons hlt)))
      by_cases hx : cmpI l[k] l[k + 1] = 0
      · have hq : (cmpI l[k] l[k + 1] != 0) = false := by simp [hx]
        have hr := Lib.hid (show numsL l = numsL (l.drop (k + 2)) by rw [HE.out, Hd.out, numsL, if_neg (by simp [hx])])
        clear hx
        go_wp2
        go_quiet ((go_at_call 72; exact Calls.quiet_of_same ((cmpCompare _ _ _).mono fun _ _ h => ⟨h.1, h.2.symm⟩)))
        go_wp2
        go_roundw
        case rel => exact ⟨k + 2, by omega, by go_num, hQ.drewN nq, hr.out⟩
        case measure => simp [intOf]; omega
      · have hq : (cmpI l[k] l[k + 1] != 0) = true := by simp [hx]
        have hr := Lib.hid (show numsL l = cmpI l[k] l[k + 1] by rw [HE.out, Hd.out, numsL, if_pos (by simp [hx])])
        clear hx
        go_wp2
        go_quiet ((go_at_call 72; exact Calls.quiet_of_same ((cmpCompare _ _ _).mono fun _ _ h => ⟨h.1, h.2.symm⟩)))
        go_wp2
        go_ret
        exact ⟨ret_int hr.out.symm, hQ.drewN nq⟩
    · have hr := Lib.hid (show numsL l = 0 by
        rw [HE.out]
        have : (l.drop k).length ≤ 1 := by simp; omega
        match hd : l.drop k, this with
        | [], _ => rfl
        | [_], _ => rfl)
      go_wp2
      go_ret
      exact ⟨ret_int hr.out.symm, hQ⟩

theorem heap_alloc3_new (w : World) (A B C : Obj) : (((w.alloc A).alloc B).alloc C).heap[w.heap.size + 1 + 1]? = some C := by
  have h := heap_alloc_new ((w.alloc A).alloc B) C
  simpa only [World.size_alloc] using h
/-- As Kp, for two boxes. -/
def Kp2 (w : World) (cs ds : Array Value) (X : World) : Prop := Blk X w.heap.size cs ∧ Blk X (w.heap.size + 1) ds ∧ Below w.heap.size w X ∧ w.heap.size + 2 ≤ X.heap.size
theorem Kp2.S {w X : World} {cs ds : Array Value} (h : Kp2 w cs ds X) : (∀ j, X.cell? ⟨w.heap.size, j, none⟩ = cs[j]?) ∧ (∀ j, X.cell? ⟨w.heap.size + 1, j, none⟩ = ds[j]?) := ⟨h.1.cell, h.2.1.cell⟩
theorem Kp2.drew {w X : World} {cs ds : Array Value} (h : Kp2 w cs ds X) : Kp2 w cs ds X.drew := ⟨h.1, h.2.1, h.2.2.1.drew, h.2.2.2⟩
theorem Kp2.drewN {w X : World} {cs ds : Array Value} (h : Kp2 w cs ds X) (n : Nat) : Kp2 w cs ds (X.drewN n) := ⟨h.1, h.2.1, below_drewN h.2.2.1 n, h.2.2.2⟩
theorem Kp2.alloc {w X : World} {cs ds : Array Value} (h : Kp2 w cs ds X) (o : Obj) : Kp2 w cs ds (X.alloc o) := ⟨h.1.alloc o, h.2.1.alloc o, h.2.2.1.alloc (by have := h.2.2.2; omega) o, by have := h.2.2.2; simp; omega⟩
theorem Kp2.call {w X w1 : World} {cs ds : Array Value} (h : Kp2 w cs ds X) (hB : Below X.heap.size X w1) : Kp2 w cs ds w1 :=
  ⟨h.1.kept hB (by have := h.2.2.2; omega), h.2.1.kept hB (by have := h.2.2.2; omega), h.2.2.1.trans (hB.mono (by have := h.2.2.2; omega)), by have := h.2.2.2; have := hB.size; omega⟩
theorem Kp2.start (w : World) (cs ds : Array Value) (t : TypeId) : Kp2 w cs ds ((w.alloc (.cells cs t)).alloc (.cells ds t)) :=
  ⟨(Blk.new _ _ _).alloc _, ⟨t, heap_alloc2_new w _ _⟩, (by repeat (first | exact Below.refl _ _ | assumption | refine Below.drew ?_ | refine below_drewN ?_ _ | refine Below.alloc ?_ (by simp <;> omega) _ | refine Below.setCell ?_ (by simp <;> omega) _)), by simp⟩

set_option maxHeartbeats 400000 in
set_option maxRecDepth 100000 in
theorem compareCause (a0 a1 a2 b0 b1 b2 : Int) (w : World) : Calls Try.prog 88 #[.agg #[I a0, I a1, I a2], .agg #[I b0, I b1, I b2]] w fun e w' => e = .returned (I (lexL [a0, a1, a2] [b0, b1, b2])) ∧ Below w.heap.size w w' := by
  have hr := Lib.hid (show lexL [a0, a1, a2] [b0, b1, b2] = numsL [a0, b0, a1, b1, a2, b2] by simp only [numsL]; rw [lexL_cons, lexL_cons, lexL_cons]; rfl)
  go_enter Try.func88, Try.ntmps88
  go_wp2_with fail
  refine (numbers_any [a0, b0, a1, b1, a2, b2] _ _ (IntSl.of_heap (heap_alloc3_new w _ _ _) rfl rfl (by simp)) (by simp)).mono ?_
  rintro e w1 ⟨rfl, hQ⟩
  have hB := hQ.below w.heap.size
  go_wp2_with fail
  go_ret
  exact ⟨ret_int hr.out.symm, Below.trans (by repeat (first | exact Below.refl _ _ | assumption | refine Below.drew ?_ | refine below_drewN ?_ _ | refine Below.alloc ?_ (by simp <;> omega) _ | refine Below.setCell ?_ (by simp <;> omega) _)) hB⟩

end Go.Proofs.Ytaedfidfcoigoaa
