/- The plain law of tapes: the normal form of a list of answers. -/
import Derived.Test.YtjdhcdbjfbhogaaG6
namespace Go.Proofs.Ytjdhcdbjfbhogaa

/-- r holds the positive answers of l, each once, in the order of their questions. -/
def IsNorm (l r : List Ans) : Prop := r.Pairwise (fun a b => a.q.cmp b.q < 0) ∧ ∀ a, a ∈ r ↔ (a.n = getA l a.q ∧ 0 < a.n)
theorem cmp_asymm {x y : Qn} (h : x.cmp y < 0) : ¬ y.cmp x < 0 := by have := Qn.cmp_anti x y; omega
theorem cmp_irrefl {x y : Qn} (h : x.cmp y < 0) : x ≠ y := by
  rintro rfl
  have := Qn.cmp_self x
  omega
theorem sorted_ext : ∀ r s : List Ans, r.Pairwise (fun a b => a.q.cmp b.q < 0) → s.Pairwise (fun a b => a.q.cmp b.q < 0) → (∀ a, a ∈ r ↔ a ∈ s) → r = s
  | [], [], _, _, _ => rfl
  | [], b :: s, _, _, h => absurd ((h b).2 (by simp)) (by simp)
  | a :: r, [], _, _, h => absurd ((h a).1 (by simp)) (by simp)
  | a :: r, b :: s, h1, h2, h => by
    rw [List.pairwise_cons] at h1 h2
    have e : a = b := by
      rcases List.mem_cons.1 ((h a).1 (by simp)) with e | e
      · exact e
      · rcases List.mem_cons.1 ((h b).2 (by simp)) with e2 | e2
        · exact e2.symm
        · exact absurd (h1.1 b e2) (cmp_asymm (h2.1 a e))
    subst e
    rw [sorted_ext r s h1.2 h2.2 fun x => ?_]
    constructor
    · intro hx
      rcases List.mem_cons.1 ((h x).1 (List.mem_cons_of_mem _ hx)) with e | e
      · exact absurd (e ▸ h1.1 x hx) (fun h => cmp_irrefl h rfl)
      · exact e
    · intro hx
      rcases List.mem_cons.1 ((h x).2 (List.mem_cons_of_mem _ hx)) with e | e
      · exact absurd (e ▸ h2.1 x hx) (fun h => cmp_irrefl h rfl)
      · exact e
theorem IsNorm.unique {l r s : List Ans} (h1 : IsNorm l r) (h2 : IsNorm l s) : r = s := sorted_ext r s h1.1 h2.1 fun a => by rw [h1.2, h2.2]

/-- One more answer in its place, unless there is one already. -/
def putA : List Ans → Ans → List Ans
  | [], a => [a]
  | b :: l, a => if b.q.cmp a.q < 0 then b :: putA l a else if b.q = a.q then b :: l else a :: b :: l
theorem putA_spec : ∀ (r : List Ans) (a : Ans), r.Pairwise (fun a b => a.q.cmp b.q < 0) → (putA r a).Pairwise (fun a b => a.q.cmp b.q < 0) ∧ ∀ x, x ∈ putA r a ↔ (x ∈ r ∨ (x = a ∧ ∀ b ∈ r, b.q ≠ a.q))
  | [], a, _ => by simp [putA]
  | b :: l, a, h => by
    rw [List.pairwise_cons] at h
    obtain ⟨i1, i2⟩ := putA_spec l a h.2
    unfold putA
    by_cases h1 : b.q.cmp a.q < 0
    · rw [if_pos h1]
      refine ⟨List.pairwise_cons.2 ⟨fun x hx => ?_, i1⟩, fun x => ?_⟩
      · rcases (i2 x).1 hx with hx | ⟨rfl, _⟩
        · exact h.1 x hx
        · exact h1
      · rw [List.mem_cons, i2 x, List.mem_cons]
        constructor
        · rintro (e | e | ⟨e, e2⟩)
          · exact .inl (.inl e)
          · exact .inl (.inr e)
          · exact .inr ⟨e, fun c hc => by
              rcases List.mem_cons.1 hc with rfl | hc
              · exact cmp_irrefl h1
              · exact e2 c hc⟩
        · rintro ((e | e) | ⟨e, e2⟩)
          · exact .inl e
          · exact .inr (.inl e)
          · exact .inr (.inr ⟨e, fun c hc => e2 c (List.mem_cons_of_mem _ hc)⟩)
    · rw [if_neg h1]
      by_cases h2 : b.q = a.q
      · rw [if_pos h2]
        refine ⟨List.pairwise_cons.2 h, fun x => ⟨.inl, ?_⟩⟩
        rintro (e | ⟨e, e2⟩)
        · exact e
        · exact absurd h2 (e2 b (by simp))
      · rw [if_neg h2]
        have h3 : a.q.cmp b.q < 0 := by
          have e1 := Qn.cmp_anti a.q b.q
          by_cases e : a.q.cmp b.q = 0
          · exact absurd (Qn.cmp_zero e).symm h2
          · omega
        refine ⟨List.pairwise_cons.2 ⟨fun x hx => ?_, List.pairwise_cons.2 h⟩, fun x => ?_⟩
        · rcases List.mem_cons.1 hx with rfl | hx
          · exact h3
          · exact Qn.cmp_trans h3 (h.1 x hx)
        · rw [List.mem_cons]
          constructor
          · rintro (e | e)
            · exact .inr ⟨e, fun c hc => by
                rcases List.mem_cons.1 hc with rfl | hc
                · exact h2
                · exact fun e3 => cmp_irrefl (Qn.cmp_trans h3 (h.1 c hc)) e3.symm⟩
            · exact .inl e
          · rintro (e | ⟨e, _⟩)
            · exact .inr e
            · exact .inl e
/-- The fold of the reference, over the answers p of the tape whose answers are l. -/
def foldA (l p : List Ans) : List Ans := p.foldl (fun r a => if 0 < getA l a.q then putA r ⟨a.q, getA l a.q⟩ else r) []
theorem foldA_snoc (l p : List Ans) (a : Ans) : foldA l (p ++ [a]) = if 0 < getA l a.q then putA (foldA l p) ⟨a.q, getA l a.q⟩ else foldA l p := by simp [foldA, List.foldl_append]
def normA (l : List Ans) : List Ans := foldA l l
theorem snocInd {α : Type} {P : List α → Prop} (h0 : P []) (h1 : ∀ l a, P l → P (l ++ [a])) (l : List α) : P l := by
  have key : ∀ m : List α, P m.reverse := by
    intro m
    induction m with
    | nil => simpa using h0
    | cons a m ih => rw [List.reverse_cons]; exact h1 _ _ ih
  simpa using key l.reverse
theorem foldA_spec (l p : List Ans) : (foldA l p).Pairwise (fun a b => a.q.cmp b.q < 0) ∧ ∀ a, a ∈ foldA l p ↔ (a.n = getA l a.q ∧ 0 < a.n ∧ ∃ b ∈ p, b.q = a.q) := by
  induction p using snocInd with
  | h0 => simp [foldA]
  | h1 p a ih =>
    rw [foldA_snoc]
    obtain ⟨i1, i2⟩ := ih
    by_cases h : 0 < getA l a.q
    · rw [if_pos h]
      obtain ⟨p1, p2⟩ := putA_spec _ ⟨a.q, getA l a.q⟩ i1
      refine ⟨p1, fun x => ?_⟩
      rw [p2 x, i2 x]
      constructor
      · rintro (⟨e1, e2, b, hb, e3⟩ | ⟨rfl, _⟩)
        · exact ⟨e1, e2, b, List.mem_append_left _ hb, e3⟩
        · exact ⟨rfl, h, a, by simp, rfl⟩
      · rintro ⟨e1, e2, b, hb, e3⟩
        rcases List.mem_append.1 hb with hb | hb
        · exact .inl ⟨e1, e2, b, hb, e3⟩
        · simp at hb
          subst hb
          have hx : x = ⟨b.q, getA l b.q⟩ := by cases x; simp at e1 e3; subst e3; simp [e1]
          by_cases hex : ∃ c ∈ foldA l p, c.q = b.q
          · obtain ⟨c, hc, hcq⟩ := hex
            have h3 := (i2 c).1 hc
            obtain ⟨_, _, d, hd, hdq⟩ := h3
            exact .inl ⟨e1, e2, d, hd, by rw [hdq, hcq, e3]⟩
          · exact .inr ⟨hx, fun c hc e => hex ⟨c, hc, e⟩⟩
    · rw [if_neg h]
      refine ⟨i1, fun x => ?_⟩
      rw [i2 x]
      constructor
      · rintro ⟨e1, e2, b, hb, e3⟩
        exact ⟨e1, e2, b, List.mem_append_left _ hb, e3⟩
      · rintro ⟨e1, e2, b, hb, e3⟩
        rcases List.mem_append.1 hb with hb | hb
        · exact ⟨e1, e2, b, hb, e3⟩
        · simp at hb
          subst hb
          rw [e3, ← e1] at h
          exact absurd e2 h
theorem getA_mem {l : List Ans} {q : Qn} (h : 0 < getA l q) : ∃ b ∈ l, b.q = q := by
  induction l using snocInd with
  | h0 => simp [getA] at h
  | h1 l a ih =>
    rw [getA_snoc] at h
    by_cases e : a.q = q
    · exact ⟨a, by simp, e⟩
    · rw [if_neg e] at h
      obtain ⟨b, hb, e2⟩ := ih h
      exact ⟨b, List.mem_append_left _ hb, e2⟩
theorem normA_spec (l : List Ans) : IsNorm l (normA l) := by
  obtain ⟨h1, h2⟩ := foldA_spec l l
  refine ⟨h1, fun a => ?_⟩
  show a ∈ foldA l l ↔ _
  rw [h2 a]
  constructor
  · rintro ⟨e1, e2, _⟩
    exact ⟨e1, e2⟩
  · rintro ⟨e1, e2⟩
    exact ⟨e1, e2, getA_mem (e1 ▸ e2)⟩
theorem IsNorm.eq {l r : List Ans} (h : IsNorm l r) : r = normA l := h.unique (normA_spec l)
/-- A list in order and without repetition gives the normal form. -/
theorem isNorm_of {l : List Ans} {ys : List Qn} (h1 : ys.Pairwise fun a b => a.cmp b ≤ 0) (h2 : ys.Nodup) (h3 : ∀ q, q ∈ ys ↔ 0 < getA l q) : IsNorm l (ys.map fun q => ⟨q, getA l q⟩) := by
  constructor
  · rw [List.pairwise_map]
    exact (h1.and h2).imp fun {a b} h => by
      by_cases e : a.cmp b = 0
      · exact absurd (Qn.cmp_zero e) h.2
      · have := h.1; show a.cmp b < 0; omega
  · intro a
    rw [List.mem_map]
    constructor
    · rintro ⟨q, hq, rfl⟩
      exact ⟨rfl, (h3 q).1 hq⟩
    · rintro ⟨e1, e2⟩
      exact ⟨a.q, (h3 _).2 (e1 ▸ e2), by cases a; simp at e1 ⊢; exact e1.symm⟩
theorem normA_congr {l m : List Ans} (h : ∀ q, getA l q = getA m q) : normA l = normA m := by
  refine IsNorm.eq ⟨(normA_spec l).1, fun a => ?_⟩
  rw [(normA_spec l).2 a, h]
theorem getA_of_norm {l r : List Ans} (h : IsNorm l r) (q : Qn) : getA r q = getA l q := by
  have key : ∀ (s : List Ans), s.Pairwise (fun a b => a.q.cmp b.q < 0) → (∀ a ∈ s, 0 < a.n) → ∀ q, (∀ a ∈ s, a.q = q → getA s q = a.n) ∧ ((∀ a ∈ s, a.q ≠ q) → getA s q = 0) := by
    intro s
    induction s using snocInd with
    | h0 => intro _ _ q; exact ⟨fun a ha => by simp at ha, fun _ => rfl⟩
    | h1 s b ih =>
      intro hp hn q
      rw [List.pairwise_append] at hp
      obtain ⟨i1, i2⟩ := ih hp.1 (fun a ha => hn a (List.mem_append_left _ ha)) q
      rw [getA_snoc]
      refine ⟨fun a ha e => ?_, fun hne => ?_⟩
      · rcases List.mem_append.1 ha with ha | ha
        · rw [if_neg (fun e2 => cmp_irrefl (hp.2.2 a ha b (by simp)) (e.trans e2.symm))]
          exact i1 a ha e
        · simp at ha
          subst ha
          have := hn a (by simp)
          rw [if_pos e]
          omega
      · rw [if_neg (hne b (by simp))]
        exact i2 fun a ha => hne a (List.mem_append_left _ ha)
  obtain ⟨k1, k2⟩ := key r h.1 (fun a ha => ((h.2 a).1 ha).2) q
  by_cases h0 : 0 < getA l q
  · exact k1 ⟨q, getA l q⟩ ((h.2 _).2 ⟨rfl, h0⟩) rfl
  · have := getA_nonneg l q
    rw [k2 fun a ha e => h0 (by have := (h.2 a).1 ha; rw [e] at this; omega)]
    omega
theorem getA_normA (l : List Ans) (q : Qn) : getA (normA l) q = getA l q := getA_of_norm (normA_spec l) q
theorem normA_idem (l : List Ans) : normA (normA l) = normA l := normA_congr (getA_normA l)
theorem normA_inj {l m : List Ans} : normA l = normA m ↔ ∀ q, getA l q = getA m q := ⟨fun h q => by rw [← getA_normA l, h, getA_normA], normA_congr⟩
theorem normA_of_sorted {l : List Ans} (h1 : l.Pairwise (fun a b => a.q.cmp b.q < 0)) (h2 : ∀ a ∈ l, 0 < a.n) : normA l = l := by
  refine (IsNorm.eq (l := l) ⟨h1, fun a => ?_⟩).symm
  have key : ∀ (s : List Ans), s.Pairwise (fun a b => a.q.cmp b.q < 0) → (∀ a ∈ s, 0 < a.n) → ∀ a ∈ s, getA s a.q = a.n := by
    intro s
    induction s using snocInd with
    | h0 => intro _ _ a ha; simp at ha
    | h1 s b ih =>
      intro hp hn a ha
      rw [List.pairwise_append] at hp
      rw [getA_snoc]
      rcases List.mem_append.1 ha with ha | ha
      · rw [if_neg (fun e2 => cmp_irrefl (hp.2.2 a ha b (by simp)) e2.symm)]
        exact ih hp.1 (fun a ha => hn a (List.mem_append_left _ ha)) a ha
      · simp at ha
        subst ha
        have := hn a (by simp)
        rw [if_pos rfl]
        omega
  constructor
  · intro ha
    exact ⟨(key l h1 h2 a ha).symm, h2 a ha⟩
  · rintro ⟨e1, e2⟩
    obtain ⟨b, hb, e⟩ := getA_mem (l := l) (q := a.q) (e1 ▸ e2)
    have := key l h1 h2 b hb
    have e3 : a = b := by cases a; cases b; simp at *; subst e; simp [e1, this]
    exact e3 ▸ hb
theorem foldA_length (l p : List Ans) : (foldA l p).length ≤ p.length := by
  have hput : ∀ (r : List Ans) (a : Ans), (putA r a).length ≤ r.length + 1 := by
    intro r a
    induction r with
    | nil => simp [putA]
    | cons b r ih =>
      unfold putA
      split
      · simp; omega
      · split <;> simp
  induction p using snocInd with
  | h0 => simp [foldA]
  | h1 p a ih =>
    rw [foldA_snoc]
    split
    · have := hput (foldA l p) ⟨a.q, getA l a.q⟩
      simp; omega
    · simp; omega
theorem normA_length (l : List Ans) : (normA l).length ≤ l.length := foldA_length l l
theorem normA_mem {l : List Ans} {a : Ans} (h : a ∈ normA l) : a.n = getA l a.q ∧ 0 < a.n := ((normA_spec l).2 a).1 h
theorem normA_q {l : List Ans} {a : Ans} (h : a ∈ normA l) : ∃ b ∈ l, b.q = a.q := getA_mem ((normA_mem h).1 ▸ (normA_mem h).2)
theorem getA_in (l : List Ans) (q : Qn) : getA l q = 0 ∨ ∃ b ∈ l, b.q = q ∧ getA l q = max 0 b.n := by
  induction l using snocInd with
  | h0 => exact .inl rfl
  | h1 l a ih =>
    rw [getA_snoc]
    by_cases e : a.q = q
    · exact .inr ⟨a, by simp, e, by rw [if_pos e]⟩
    · rw [if_neg e]
      rcases ih with h | ⟨b, hb, h1, h2⟩
      · exact .inl h
      · exact .inr ⟨b, List.mem_append_left _ hb, h1, h2⟩
theorem normA_ok {l : List Ans} (h : ∀ a ∈ l, a.ok) : ∀ a ∈ normA l, a.ok := by
  intro a ha
  obtain ⟨h1, h2⟩ := normA_mem ha
  rcases getA_in l a.q with h0 | ⟨b, hb, e1, e2⟩
  · omega
  · have := h b hb
    refine ⟨e1 ▸ this.1, ?_⟩
    have h3 := this.2
    unfold InI64 at *
    omega

end Go.Proofs.Ytjdhcdbjfbhogaa
