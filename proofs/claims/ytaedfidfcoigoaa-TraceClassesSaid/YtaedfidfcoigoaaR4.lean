/- The reference's keys and comparison of steps. -/
import Derived.Test.YtaedfidfcoigoaaR2
namespace Go.Proofs.Ytaedfidfcoigoaa
open Go.RowKit

/-- Lexicographic comparison of lists of numbers. -/
def lexL : List Int → List Int → Int
  | [], [] => 0
  | [], _ :: _ => -1
  | _ :: _, [] => 1
  | a :: l, b :: m => if a < b then -1 else if b < a then 1 else lexL l m

theorem lexL_end (l m : List Int) (h : l = [] ∨ m = []) : lexL l m = if l.length < m.length then -1 else if m.length < l.length then 1 else 0 := by
  rcases h with rfl | rfl
  · cases m <;> simp [lexL]
  · cases l <;> simp [lexL]

set_option maxHeartbeats 400000 in
theorem lists_any (l m : List Int) (v u : Value) (w : World) (hl : IntSl w v l) (hm : IntSl w u m) :
    Calls Try.prog 74 #[v, u] w fun e w' => e = .returned (I (lexL l m)) ∧ ∃ n, w' = w.drewN n := by
  obtain ⟨ka, ca, rfl, hml⟩ := hl.open
  obtain ⟨kb, cb, rfl, hmm⟩ := hm.open
  go_enter Try.func74, Try.ntmps74
  go_wp2
  go_loopw [5] (fun i wr => ∃ k n : Nat, k ≤ l.length ∧ k ≤ m.length ∧ i = .int .i64 k ∧ wr = w.drewN n ∧ lexL l m = lexL (l.drop k) (m.drop k)) (fun i _ => l.length - (intOf i).toNat)
  case atStart => exact ⟨0, 0, by omega, by omega, rfl, rfl, by simp⟩
  case round =>
    obtain ⟨k, n, hk, hk2, rfl, rfl, hE⟩ := hrel
    have HE := Lib.hid hE
    clear hE
    by_cases hlt : k < l.length
    · have q1 : decide (k < l.length) = true := by simp [hlt]
      by_cases hlt2 : k < m.length
      · have q2 : decide (k < m.length) = true := by simp [hlt2]
        obtain ⟨b, o, rfl, x0⟩ := hl.at (i := k) (x := l[k]) (by simp [hlt])
        obtain ⟨b', o', rfl, y0⟩ := hm.at (i := k) (x := m[k]) (by simp [hlt2])
        have hd : lexL l m = if l[k] < m[k] then -1 else if m[k] < l[k] then 1 else lexL (l.drop (k + 1)) (m.drop (k + 1)) := by
          rw [HE.out, List.drop_eq_getElem_cons hlt, List.drop_eq_getElem_cons hlt2]; rfl
        have Hd := Lib.hid hd
        clear hd q1 q2
        by_cases h1 : l[k] < m[k]
        · have p1 : decide (l[k] < m[k]) = true := by simp [h1]
          have h1' := Lib.hid h1
          clear h1
          go_wp2
          go_quiet (fail)
          go_wp2
          go_ret
          exact ⟨ret_int (by rw [Hd.out, if_pos h1'.out]), n + nq, by simp⟩
        · have p1 : decide (l[k] < m[k]) = false := by simp [h1]
          have h1' := Lib.hid h1
          clear h1
          by_cases h2 : m[k] < l[k]
          · have p2 : decide (m[k] < l[k]) = true := by simp [h2]
            have hr := Lib.hid (show lexL l m = 1 by rw [Hd.out, if_neg h1'.out, if_pos h2])
            clear h2
            go_wp2
            go_quiet (fail)
            go_wp2
            revert nq
            intro n1
            go_quiet (fail)
            go_wp2
            go_ret
            exact ⟨ret_int hr.out.symm, n + n1 + nq, by simp⟩
          · have p2 : decide (m[k] < l[k]) = false := by simp [h2]
            have hr := Lib.hid (show lexL l m = lexL (l.drop (k + 1)) (m.drop (k + 1)) by rw [Hd.out, if_neg h1'.out, if_neg h2])
            clear h2
            go_wp2
            go_quiet (fail)
            go_wp2
            revert nq
            intro n1
            go_quiet (fail)
            go_wp2
            go_roundw
            case rel => exact ⟨k + 1, n + n1 + nq, by omega, by omega, by go_num, by first | rfl | simp, hr.out⟩
            case measure => simp [intOf]; omega
      · have q2 : decide (k < m.length) = false := by simp [hlt2]
        have hkm : k = m.length := by omega
        have hr : lexL l m = 1 := by
          rw [HE.out, lexL_end _ _ (.inr (by simp [hkm]))]
          simp only [List.length_drop]
          rw [if_neg (by omega), if_pos (by omega)]
        have Hr := Lib.hid hr
        have r1 : decide (l.length < m.length) = false := by simp; omega
        have r2 : decide (m.length < l.length) = true := by simp; omega
        clear hr hkm hlt hlt2
        go_wp2
        go_ret
        exact ⟨ret_int Hr.out.symm, n, rfl⟩
    · have q1 : decide (k < l.length) = false := by simp [hlt]
      have hkm : k = l.length := by omega
      by_cases h1 : l.length < m.length
      · have hr : lexL l m = -1 := by
          rw [HE.out, lexL_end _ _ (.inl (by simp [hkm]))]
          simp only [List.length_drop]
          rw [if_pos (by omega)]
        have Hr := Lib.hid hr
        have r1 : decide (l.length < m.length) = true := by simp [h1]
        clear hr hkm hlt h1
        go_wp2
        go_ret
        exact ⟨ret_int Hr.out.symm, n, rfl⟩
      · have hr : lexL l m = 0 := by
          rw [HE.out, lexL_end _ _ (.inl (by simp [hkm]))]
          simp only [List.length_drop]
          rw [if_neg (by omega), if_neg (by omega)]
        have Hr := Lib.hid hr
        have r1 : decide (l.length < m.length) = false := by simp [h1]
        have r2 : decide (m.length < l.length) = false := by simp; omega
        clear hr hkm hlt h1
        go_wp2
        go_ret
        exact ⟨ret_int Hr.out.symm, n, rfl⟩

set_option maxHeartbeats 800000 in
set_option maxRecDepth 100000 in
theorem eventKey (e : Ev) (w : World) : Calls Try.prog 52 #[.agg #[I e.kind, I e.node, I e.arg, I e.msg.node, I e.msg.handler, I e.msg.count, I e.msg.index, I e.msg.copy]] w fun r w' =>
    ∃ g c, r = .returned (.slice (some ⟨g, 0, none⟩) 8 c) ∧ w.heap.size ≤ g ∧ w'.ownsRow w.heap.size 3 1 (.slice (some ⟨g, 0, none⟩) 8 c) 8 (iv e.ints) ∧ Below w.heap.size w w' := by
  go_enter Try.func52, Try.ntmps52
  go_wp2
  go_region_held3 (fun w' => w'.cell? ⟨w.heap.size, 0, none⟩ = some (I e.kind) ∧ w'.cell? ⟨w.heap.size, 1, none⟩ = some (I e.node) ∧ w'.cell? ⟨w.heap.size, 2, none⟩ = some (I e.arg) ∧
    w'.cell? ⟨w.heap.size, 3, none⟩ = some (I e.msg.node) ∧ w'.cell? ⟨w.heap.size, 4, none⟩ = some (I e.msg.handler) ∧ w'.cell? ⟨w.heap.size, 5, none⟩ = some (I e.msg.count) ∧ w'.cell? ⟨w.heap.size, 6, none⟩ = some (I e.msg.index) ∧ w'.cell? ⟨w.heap.size, 7, none⟩ = some (I e.msg.copy)) (first | ((repeat' apply And.intro) <;> first | assumption | (simp [*]; done)) | go_keep)
    (first
      | (go_at_call 54; refine (msgKey ⟨e.msg.node, e.msg.handler, e.msg.count, e.msg.index, e.msg.copy⟩ _).mono ?_; rintro r w1 ⟨g, rfl, hg, hb, hB1⟩; have hk1 : Blk w1 w.heap.size #[I e.kind, I e.node, I e.arg, I e.msg.node, I e.msg.handler, I e.msg.count, I e.msg.index, I e.msg.copy] := Blk.kept (by first | exact Blk.new _ _ _ | exact (Blk.new _ _ _).alloc _) hB1 (by simp only [heap_drew, World.size_alloc]; omega); have hkc := hk1.cell; have hz1 := hB1.size; simp only [heap_drew, World.size_alloc] at hz1 hg; have hBw := Below.then (w := w) (by repeat (first | exact Below.refl _ _ | assumption | refine Below.drew ?_ | refine below_drewN ?_ _ | refine Below.alloc ?_ (by simp <;> omega) _ | refine Below.setCell ?_ (by simp <;> omega) _)) hB1)
      | (refine step_appB (by rfl) _ _ 22 (by rfl) 3 _ 1 8 Try.underlying22 info3 rfl (by omega) (by omega) w.heap.size (.slice (some ⟨w.heap.size + 1, 0, none⟩) 3 3) 3 [I e.kind, I e.node, I e.arg] (by rfl) (owns_of_block (cs := #[I e.kind, I e.node, I e.arg]) ((hB1.block _ (by simp only [heap_drew, World.size_alloc]; omega)).trans (heap_alloc2_new w _ _)) (by omega) rfl (by omega)) g 5 5 #[I e.msg.node, I e.msg.handler, I e.msg.count, I e.msg.index, I e.msg.copy] 3 (by rfl) hb rfl rfl (by omega) (by omega) (by first | omega | (simp only [World.size_alloc]; omega)) ?_
         intro g1 cap w2 hg1 hg2 hg3 hown1 hgr hB2
         have hkc2 := (hk1.grown hgr (by simp [Value.ownBlock] <;> omega)).cell
         have hBB := hBw.trans hB2)
      | (refine step_appB (by rfl) _ _ 22 (by rfl) 3 _ 1 8 Try.underlying22 info3 rfl (by omega) (by omega) w.heap.size (.slice (some ⟨w1.heap.size, 0, none⟩) 3 3) 3 [I e.kind, I e.node, I e.arg] (by rfl) (owns_of_block (cs := #[I e.kind, I e.node, I e.arg]) (heap_alloc_new w1 _) (by omega) rfl (by omega)) g 5 5 #[I e.msg.node, I e.msg.handler, I e.msg.count, I e.msg.index, I e.msg.copy] 3 (by rfl) ((Below.heap_alloc w1 _ _ (Array.getElem?_eq_some_iff.1 hb).1).trans hb) rfl rfl (by omega) (by omega) (by first | omega | (simp only [World.size_alloc]; omega)) ?_
         intro g1 cap w2 hg1 hg2 hg3 hown1 hgr hB2
         have hkc2 := ((hk1.alloc _).grown hgr (by simp [Value.ownBlock] <;> omega)).cell
         have hBB := (hBw.alloc (by omega) _).trans hB2))
  all_goals
    go_wp2
    go_ret
    exact ⟨g1, cap, rfl, hg1, hown1, hBB⟩

/-- The numbers by which a question is compared, and its answer. -/
def Ask.key (a : Ask) : List Int := [a.node, a.handler, a.count, a.kind, a.index, a.n]
def Stp.key (s : Stp) : List Int := s.ev.ints ++ s.asks.flatMap Ask.key

end Go.Proofs.Ytaedfidfcoigoaa
