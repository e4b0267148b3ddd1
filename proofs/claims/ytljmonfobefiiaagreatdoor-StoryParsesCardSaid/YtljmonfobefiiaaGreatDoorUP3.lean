import Derived.Test.YtljmonfobefiiaaGreatDoorUBase
/- The program's comparison of steps. -/
namespace Go.Proofs.YtljmonfobefiiaaGreatDoor
open Go.RowKit

def keysA (l : List Ask) : List Int := l.flatMap Ask.key
theorem keysA_cons (a : Ask) (l : List Ask) : keysA (a :: l) = a.key ++ keysA l := rfl
theorem lexL_keys (a b : Ask) (l m : List Ask) : lexL (keysA (a :: l)) (keysA (b :: m)) = if lexL a.key b.key != 0 then lexL a.key b.key else lexL (keysA l) (keysA m) := by
  rw [keysA_cons, keysA_cons, lexL_append a.key b.key _ _ rfl]
theorem lexL_keys_end (l m : List Ask) (h : l = [] ∨ m = []) : lexL (keysA l) (keysA m) = cmpI l.length m.length := by
  rcases h with rfl | rfl
  · cases m with
    | nil => rfl
    | cons b m => simp [keysA, Ask.key, lexL, cmpI]
  · cases l with
    | nil => rfl
    | cons b m => simp [keysA, Ask.key, lexL, cmpI] <;> omega

set_option maxHeartbeats 1600000 in
set_option maxRecDepth 100000 in
theorem listsAsk (l m : List Ask) (v u : Value) (w : World) (hl : AskSl w v l) (hm : AskSl w u m) :
    Calls Tryz.prog 130 #[v, u, .func (.func 131) #[] #[]] w fun e w' => e = .returned (I (lexL (keysA l) (keysA m))) ∧ Below w.heap.size w w' := by
  obtain ⟨ka, ca, rfl, hml⟩ := hl.open
  obtain ⟨kb, cb, rfl, hmm⟩ := hm.open
  have hcase : (l.length ≤ m.length) ∨ (m.length < l.length) := by omega
  rcases hcase with hle | hle
  all_goals
    have hmin : ∀ k, ¬ (k < l.length ∧ k < m.length) → k ≤ l.length → k ≤ m.length → l.drop k = [] ∨ m.drop k = [] := by
      intro k h1 h2 h3
      by_cases h4 : k < l.length
      · right; exact List.drop_of_length_le (by omega)
      · left; exact List.drop_of_length_le (by omega)
    have Hmin := Lib.hid hmin
    clear hmin
    go_enter Tryz.func130, Tryz.ntmps130
    go_wp2_with fail
    go_loopw [14] (fun i wr => ∃ k : Nat, k ≤ l.length ∧ k ≤ m.length ∧ i = .int .i64 k ∧ Below w.heap.size w wr ∧ lexL (keysA l) (keysA m) = lexL (keysA (l.drop k)) (keysA (m.drop k))) (fun i _ => l.length - (intOf i).toNat)
    case atStart => exact ⟨0, by omega, by omega, rfl, Below.refl _ _, by simp⟩
    case round =>
      obtain ⟨k, hk, hk2, rfl, hB, hE⟩ := hrel
      have HE := Lib.hid hE
      clear hE
      by_cases hlt : k < l.length ∧ k < m.length
      · obtain ⟨hlt1, hlt2⟩ := hlt
        obtain ⟨b, o, rfl, x0, x1, x2, x3, x4, x5, x6⟩ := (hl.kept hB (Nat.le_refl _)).at (i := k) (x := l[k]) (by simp [hlt1])
        obtain ⟨b', o', rfl, y0, y1, y2, y3, y4, y5, y6⟩ := (hm.kept hB (Nat.le_refl _)).at (i := k) (x := m[k]) (by simp [hlt2])
        have Hd := Lib.hid (show lexL (keysA l) (keysA m) = if lexL l[k].key m[k].key != 0 then lexL l[k].key m[k].key else lexL (keysA (l.drop (k + 1))) (keysA (m.drop (k + 1))) by
          rw [HE.out, List.drop_eq_getElem_cons hlt1, List.drop_eq_getElem_cons hlt2, lexL_keys])
        by_cases hx : lexL l[k].key m[k].key = 0
        · have hq : (lexL l[k].key m[k].key != 0) = false := by simp [hx]
          have hr := Lib.hid (Hd.out.trans (if_neg (by simp [hx])))
          clear hx
          go_wp2_with fail
          go_still_tail 9, (by kernel_rfl)
          change wpList _ _ _ _ _ wr.drew
          go_wp2_with fail
          refine (compareAsk l[k] m[k] _).mono ?_
          rintro e w1 ⟨rfl, hB1⟩
          have hBB := hB.drew.trans (hB1.mono hB.size)
          go_wp2_with fail
          go_roundw
          case rel => exact ⟨k + 1, by omega, by omega, by go_num, hBB, hr.out⟩
          case measure => simp [intOf]; omega
        · have hq : (lexL l[k].key m[k].key != 0) = true := by simp [hx]
          have hr := Lib.hid (Hd.out.trans (if_pos (by simp [hx])))
          clear hx
          go_wp2_with fail
          go_still_tail 9, (by kernel_rfl)
          change wpList _ _ _ _ _ wr.drew
          go_wp2_with fail
          refine (compareAsk l[k] m[k] _).mono ?_
          rintro e w1 ⟨rfl, hB1⟩
          have hBB := hB.drew.trans (hB1.mono hB.size)
          go_wp2_with fail
          go_ret
          exact ⟨ret_int hr.out.symm, hBB⟩
      · have hr := Lib.hid (show lexL (keysA l) (keysA m) = cmpI l.length m.length by
          rw [HE.out, lexL_keys_end _ _ (Hmin.out k hlt hk hk2), List.length_drop, List.length_drop]
          have : ((l.length - k : Nat) : Int) = (l.length : Int) - k := by omega
          have h2 : ((m.length - k : Nat) : Int) = (m.length : Int) - k := by omega
          rw [this, h2]
          simp only [cmpI]
          repeat' split
          all_goals omega)
        have hge : (k = l.length ∧ l.length ≤ m.length) ∨ (k = m.length ∧ m.length < l.length) := by omega
        go_wp2_with fail
        refine (cmpCompare l.length m.length _).mono ?_
        rintro e w1 ⟨rfl, rfl⟩
        go_wp2_with fail
        go_ret
        exact ⟨ret_int hr.out.symm, hB⟩

set_option maxHeartbeats 1600000 in
set_option maxRecDepth 100000 in
theorem cmpStep (s t : Stp) (v u : Value) (w : World) (hs : s.In w v) (ht : t.In w u) :
    Calls Tryz.prog 98 #[v, u] w fun e w' => e = .returned (I (lexL s.key t.key)) ∧ Below w.heap.size w w' := by
  obtain ⟨va, vs, rfl, hsa, hss⟩ := hs
  obtain ⟨ka, ca, rfl, hma⟩ := hsa.open
  obtain ⟨kb, cb, rfl, _⟩ := hss.open
  obtain ⟨ua, us, rfl, hta, hts⟩ := ht
  obtain ⟨kc, cc, rfl, _⟩ := hta.open
  obtain ⟨kd, cd, rfl, _⟩ := hts.open
  have hsp : lexL s.key t.key = if lexL s.ev.ints t.ev.ints != 0 then lexL s.ev.ints t.ev.ints else lexL (keysA s.asks) (keysA t.asks) := lexL_append s.ev.ints t.ev.ints _ _ rfl
  have Hsp := Lib.hid hsp
  clear hsp
  simp only [Stp.val, Stp.row]
  by_cases hx : lexL s.ev.ints t.ev.ints = 0
  · have hq : (lexL s.ev.ints t.ev.ints != 0) = false := by simp [hx]
    have hr := Lib.hid (Hsp.out.trans (if_neg (by simp [hx])))
    clear hx
    unfold Ev.ints at hq
    go_enter Tryz.func98, Tryz.ntmps98
    go_wp2_with fail
    refine (compareEvent _ _ _ _ _ _ _ _ _ _ _ _ _ _ _ _ _).mono ?_
    rintro e w1 ⟨rfl, hB1⟩
    have hcc := bcell hB1
    have hk1 := (Kp2.start w _ _ _).call hB1
    have hd1 := hk1.1.cell
    have hd2 := hk1.2.1.cell
    clear hcc
    go_wp2_with fail
    refine (listsAsk s.asks t.asks _ _ _ (hsa.kept hk1.2.2.1 (Nat.le_refl _)) (hta.kept hk1.2.2.1 (Nat.le_refl _))).mono ?_
    rintro e w2 ⟨rfl, hB2⟩
    go_wp2_with fail
    go_ret
    exact ⟨ret_int hr.out.symm, (hk1.call hB2).2.2.1⟩
  · have hq : (lexL s.ev.ints t.ev.ints != 0) = true := by simp [hx]
    have hr := Lib.hid (Hsp.out.trans (if_pos (by simp [hx])))
    clear hx
    unfold Ev.ints at hq
    go_enter Tryz.func98, Tryz.ntmps98
    go_wp2_with fail
    refine (compareEvent _ _ _ _ _ _ _ _ _ _ _ _ _ _ _ _ _).mono ?_
    rintro e w1 ⟨rfl, hB1⟩
    have hk1 := (Kp2.start w _ _ _).call hB1
    go_wp2_with fail
    go_ret
    exact ⟨ret_int hr.out.symm, hk1.2.2.1⟩

end Go.Proofs.YtljmonfobefiiaaGreatDoor
