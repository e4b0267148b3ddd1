/- The plain law of decoding: what can be decoded is an encoding, and in normal form. -/
import Derived.Test.YtjdhcdbjfbhogaaW1
namespace Go.Proofs.Ytjdhcdbjfbhogaa

theorem Rd.uint_ok_inv {s : Rd} {r : List Int} {n : Nat} (h : s.uint = (n, .ok r)) : ∃ b, s = .ok b := by
  cases s with
  | ok b => exact ⟨b, rfl⟩
  | bad e => cases h
theorem Rd.int_ok_inv {s : Rd} {r : List Int} (h : s.int.2 = .ok r) : ∃ b, s = .ok b := Rd.uint_ok_inv (n := s.uint.1) (Prod.ext rfl h)
theorem Rd.count_inv {s : Rd} {r : List Int} {n most : Nat} (hf : s.fine) (h : s.count most = (n, .ok r)) : ∃ b, s = .ok b ∧ b = encU n ++ r ∧ n ≤ most := by
  unfold Rd.count at h
  split at h
  · have h2 := congrArg Prod.snd h
    simp only [] at h2
    cases hs : s.uint.2 with
    | ok b => rw [hs] at h2; cases h2
    | bad e => rw [hs] at h2; cases h2
  · rename_i hm
    obtain ⟨b, rfl⟩ := Rd.uint_ok_inv h
    refine ⟨b, rfl, (Rd.uint_inv hf h).1, ?_⟩
    have := congrArg Prod.fst h
    simp only [] at this
    omega
theorem Rd.after_inv {b : List Int} (hb : ∀ c ∈ b, IsByte c) : ∀ (k : Nat) (r : List Int), (Rd.ok b).after k = .ok r → b = ((List.range k).map fun i => (Rd.ok b).nth i).flatMap encI ++ r
  | 0, r, h => by
    cases h
    simp
  | k + 1, r, h => by
    have h1 : ((Rd.ok b).after k).int.2 = .ok r := h
    obtain ⟨r', hr'⟩ := Rd.int_ok_inv h1
    have ih := Rd.after_inv hb k r' hr'
    have hf : ∀ c ∈ r', IsByte c := by
      have := Rd.fine_after (s := .ok b) hb k
      rw [hr'] at this
      exact this
    rw [hr'] at h1
    have h2 := (Rd.int_inv (n := (Rd.ok r').int.1) hf (Prod.ext rfl h1)).1
    have h3 : (Rd.ok b).nth k = (Rd.ok r').int.1 := by unfold Rd.nth; rw [hr']
    rw [List.range_succ, List.map_append, List.flatMap_append, List.append_assoc]
    simp only [List.map_cons, List.map_nil, List.flatMap_cons, List.flatMap_nil, List.append_nil]
    rw [h3, ← h2, ← ih]
theorem Rd.ev_inv {b r : List Int} (hb : ∀ c ∈ b, IsByte c) (h : (Rd.ok b).after 8 = .ok r) : b = encEv (Rd.ok b).ev ++ r := by
  have := Rd.after_inv hb 8 r h
  simpa [encEv, Rd.ev, Ev.ints, List.range_succ] using this
theorem Rd.ans_inv {b r : List Int} (hb : ∀ c ∈ b, IsByte c) (h : (Rd.ok b).after 6 = .ok r) : b = encAns (Rd.ok b).ans ++ r := by
  have := Rd.after_inv hb 6 r h
  simpa [encAns, Rd.ans, Ans.ints, List.range_succ] using this
theorem Rd.ev_ok {s : Rd} (h : s.fine) : s.ev.ok := by
  intro n hn
  simp [Rd.ev, Ev.ints] at hn
  rcases hn with rfl | rfl | rfl | rfl | rfl | rfl | rfl | rfl <;> exact Rd.nth_i64 h _
theorem Rd.ans_ok {s : Rd} (h : s.fine) : s.ans.ok := by
  refine (Ans.ok_iff _).2 fun n hn => ?_
  simp [Rd.ans, Ans.ints] at hn
  rcases hn with rfl | rfl | rfl | rfl | rfl | rfl <;> exact Rd.nth_i64 h _
theorem readEvs_fine : ∀ (n : Nat) (s : Rd) (acc : List Ev), s.fine → (∀ e ∈ acc, e.ok) → (readEvs n s acc).2.fine ∧ ∀ e ∈ (readEvs n s acc).1, e.ok
  | 0, s, acc, h, ha => ⟨h, ha⟩
  | n + 1, .bad e, acc, h, ha => ⟨h, ha⟩
  | n + 1, .ok b, acc, h, ha => readEvs_fine n _ _ (Rd.fine_after h 8) (fun e he => by
      rcases List.mem_append.1 he with he | he
      · exact ha e he
      · simp at he
        subst he
        exact Rd.ev_ok h)
theorem readEvs_inv : ∀ (n : Nat) (s : Rd) (acc evs : List Ev) (r : List Int), s.fine → readEvs n s acc = (evs, .ok r) → ∃ (b : List Int) (tl : List Ev), s = .ok b ∧ evs = acc ++ tl ∧ tl.length = n ∧ b = tl.flatMap encEv ++ r
  | 0, s, acc, evs, r, _, h => by
    cases h
    exact ⟨r, [], rfl, by simp, rfl, by simp⟩
  | n + 1, .bad e, acc, evs, r, _, h => by cases h
  | n + 1, .ok b, acc, evs, r, hf, h => by
    obtain ⟨b', tl, h1, h2, h3, h4⟩ := readEvs_inv n _ _ evs r (Rd.fine_after hf 8) h
    refine ⟨b, (Rd.ok b).ev :: tl, rfl, by rw [h2]; simp, by simp [h3], ?_⟩
    rw [List.flatMap_cons, List.append_assoc, ← h4]
    exact Rd.ev_inv hf h1
theorem ansNext_inv {acc : List Ans} {b r : List Int} (h : ansNext acc (.ok b) = .ok r) : (Rd.ok b).after 6 = .ok r ∧ behind acc (Rd.ok b).ans.q = true ∧ 0 < (Rd.ok b).ans.n := by
  have hfail : ∀ (x : Rd) (e : Int) (r : List Int), x.fail e ≠ .ok r := fun x e r h => by cases x <;> cases h
  unfold ansNext at h
  simp only [] at h
  split at h
  · exact absurd h (hfail _ _ _)
  · rename_i hn
    split at h
    · rename_i hb
      exact ⟨h, hb, by omega⟩
    · exact absurd h (hfail _ _ _)
theorem fine_ansN (acc : List Ans) {s : Rd} (hf : s.fine) : (ansNext acc s).fine := by
  have h5 : ∀ x : Rd, x.fine → (x.fail 5).fine := fun x h => Rd.fine_fail h (by omega) (by unfold InI64; omega)
  have h6 : ∀ x : Rd, x.fine → (x.fail 6).fine := fun x h => Rd.fine_fail h (by omega) (by unfold InI64; omega)
  have ha := Rd.fine_after hf 6
  unfold ansNext
  simp only []
  split
  · split
    · exact h6 _ ha
    · exact h6 _ (h5 _ ha)
  · split
    · exact ha
    · exact h5 _ ha
theorem readAs_fine : ∀ (n : Nat) (s : Rd) (acc : List Ans), s.fine → (∀ e ∈ acc, e.ok) → (readAs n s acc).2.fine ∧ ∀ e ∈ (readAs n s acc).1, e.ok
  | 0, s, acc, h, ha => ⟨h, ha⟩
  | n + 1, .bad e, acc, h, ha => ⟨h, ha⟩
  | n + 1, .ok b, acc, h, ha => readAs_fine n _ _ (fine_ansN _ h) (fun e he => by
      rcases List.mem_append.1 he with he | he
      · exact ha e he
      · simp at he
        subst he
        exact Rd.ans_ok h)
theorem behind_all {acc : List Ans} {q : Qn} (hp : acc.Pairwise (fun a b => a.q.cmp b.q < 0)) (h : behind acc q = true) : ∀ a ∈ acc, a.q.cmp q < 0 := by
  unfold behind at h
  split at h
  · rename_i hn
    have := List.getLast?_eq_none_iff.1 hn
    subst this
    intro a ha
    cases ha
  · rename_i p hl
    have hlt := of_decide_eq_true h
    obtain ⟨ys, rfl⟩ := List.getLast?_eq_some_iff.1 hl
    intro a ha
    rcases List.mem_append.1 ha with ha | ha
    · rw [List.pairwise_append] at hp
      exact Qn.cmp_trans (hp.2.2 a ha p (by simp)) hlt
    · simp at ha
      subst ha
      exact hlt
theorem readAs_inv : ∀ (n : Nat) (s : Rd) (acc rs : List Ans) (r : List Int), s.fine → acc.Pairwise (fun a b => a.q.cmp b.q < 0) → (∀ a ∈ acc, 0 < a.n) → readAs n s acc = (rs, .ok r) →
    ∃ (b : List Int) (tl : List Ans), s = .ok b ∧ rs = acc ++ tl ∧ tl.length = n ∧ b = tl.flatMap encAns ++ r ∧ rs.Pairwise (fun a b => a.q.cmp b.q < 0) ∧ ∀ a ∈ rs, 0 < a.n
  | 0, s, acc, rs, r, _, hp, hn, h => by
    cases h
    exact ⟨r, [], rfl, by simp, rfl, by simp, hp, hn⟩
  | n + 1, .bad e, acc, rs, r, _, _, _, h => by cases h
  | n + 1, .ok b, acc, rs, r, hf, hp, hn, h => by
    have hx : ∃ r', ansNext acc (.ok b) = .ok r' := by
      have h' : readAs n (ansNext acc (.ok b)) (acc ++ [(Rd.ok b).ans]) = (rs, .ok r) := h
      cases hs : ansNext acc (.ok b) with
      | ok r' => exact ⟨r', rfl⟩
      | bad e => rw [hs] at h'; cases n <;> cases h'
    obtain ⟨r', hr'⟩ := hx
    obtain ⟨h6, hb, hpos⟩ := ansNext_inv hr'
    have hall := behind_all hp hb
    have hp' : (acc ++ [(Rd.ok b).ans]).Pairwise (fun a b => a.q.cmp b.q < 0) := by
      rw [List.pairwise_append]
      refine ⟨hp, by simp, fun a ha c hc => ?_⟩
      simp at hc
      subst hc
      exact hall a ha
    have hn' : ∀ a ∈ acc ++ [(Rd.ok b).ans], 0 < a.n := fun a ha => by
      rcases List.mem_append.1 ha with ha | ha
      · exact hn a ha
      · simp at ha
        subst ha
        exact hpos
    obtain ⟨b', tl, h1, h2, h3, h4, h5, h7⟩ := readAs_inv n _ _ rs r (fine_ansN _ hf) hp' hn' h
    rw [hr'] at h1
    cases h1
    refine ⟨b, (Rd.ok b).ans :: tl, rfl, by rw [h2]; simp, by simp [h3], ?_, h5, h7⟩
    rw [List.flatMap_cons, List.append_assoc, ← h4]
    exact Rd.ans_inv hf h6
theorem Rd.stop_zero {s : Rd} (hf : s.fine) (h : s.stop = 0) : s = .ok [] := by
  cases s with
  | ok b =>
    cases b with
    | nil => rfl
    | cons x b => cases h
  | bad e => exact absurd h hf.1
theorem fine_cnt {s : Rd} (hf : s.fine) (most : Nat) : (s.count most).2.fine := by
  unfold Rd.count
  split
  · exact Rd.fine_fail (Rd.fine_uint hf) (by omega) (by unfold InI64; omega)
  · exact Rd.fine_uint hf
theorem decE_fine {b : List Int} (hb : ∀ c ∈ b, IsByte c) : (decE b).2.fine ∧ ∀ e ∈ (decE b).1, e.ok := readEvs_fine _ _ _ (fine_cnt (s := .ok b) hb 5000) (fun e he => by cases he)
theorem decA_fine {s : Rd} (hs : s.fine) : (decA s).2.fine ∧ ∀ e ∈ (decA s).1, e.ok := readAs_fine _ _ _ (fine_cnt hs 10000) (fun e he => by cases he)
theorem decP_ok {b : List Int} (hb : ∀ c ∈ b, IsByte c) : (∀ e ∈ (decP b).1.1, e.ok) ∧ ∀ a ∈ (decP b).1.2, a.ok := by
  unfold decP
  split
  · exact ⟨(decE_fine hb).2, (decA_fine (decE_fine hb).1).2⟩
  · refine ⟨?_, ?_⟩
    · intro e he
      cases he
    · intro e he
      cases he
/-- What can be decoded is an encoding; the answers are in normal form. -/
theorem decP_inv {b : List Int} (hb : ∀ c ∈ b, IsByte c) (h : (decP b).2 = 0) : b = encP (decP b).1.1 (decP b).1.2 ∧ normA (decP b).1.2 = (decP b).1.2 ∧ (decP b).1.1.length ≤ 5000 ∧ (decP b).1.2.length ≤ 10000 := by
  have hE := decE_fine hb
  have hA := decA_fine hE.1
  by_cases hs : (decA (decE b).2).2.stop = 0
  · have e1 : decP b = (((decE b).1, (decA (decE b).2).1), 0) := by unfold decP; rw [if_pos hs]
    rw [e1]
    have h3 := Rd.stop_zero hA.1 hs
    have hA2 : readAs ((decE b).2.count 10000).1 ((decE b).2.count 10000).2 [] = ((decA (decE b).2).1, .ok []) := by rw [← h3]; rfl
    obtain ⟨b2, tl2, hc2, hr2, hl2, hb2, hp2, hn2⟩ := readAs_inv _ _ _ _ _ (fine_cnt hE.1 10000) (by simp) (fun a ha => by cases ha) hA2
    obtain ⟨b1, hs1, hb1, hm1⟩ := Rd.count_inv hE.1 (Prod.ext (x := (decE b).2.count 10000) (y := (((decE b).2.count 10000).1, Rd.ok b2)) rfl hc2)
    have hE2 : readEvs ((Rd.ok b).count 5000).1 ((Rd.ok b).count 5000).2 [] = ((decE b).1, .ok b1) := by rw [← hs1]; rfl
    obtain ⟨b3, tl3, hc3, hr3, hl3, hb3⟩ := readEvs_inv _ _ _ _ _ (fine_cnt (s := .ok b) hb 5000) hE2
    obtain ⟨b0, hs0, hb0, hm0⟩ := Rd.count_inv (s := .ok b) hb (Prod.ext (x := (Rd.ok b).count 5000) (y := (((Rd.ok b).count 5000).1, Rd.ok b3)) rfl hc3)
    cases hs0
    rw [List.nil_append] at hr2 hr3
    have q3 : (decE b).1.length ≤ 5000 := by rw [hr3, hl3]; exact hm0
    have q2 : (decA (decE b).2).1.length ≤ 10000 := by rw [hr2, hl2]; exact hm1
    refine ⟨?_, normA_of_sorted hp2 hn2, q3, q2⟩
    unfold encP
    simp only []
    rw [hr3, hr2, hl3, hl2]
    exact hb0.trans (congrArg _ (hb3.trans (congrArg _ (hb1.trans (congrArg _ (by rw [hb2]; simp))))))
  · have e1 : decP b = (([], []), (decA (decE b).2).2.stop) := by unfold decP; rw [if_neg hs]
    rw [e1] at h
    exact absurd h hs

end Go.Proofs.Ytjdhcdbjfbhogaa
