/- The plain law of the wire: numbers as bytes, and what a reader makes of bytes. -/
import Derived.Test.YtjdhcdbjfbhogaaG8
namespace Go.Proofs.Ytjdhcdbjfbhogaa

/-- The bytes of an unsigned number. -/
def encU (n : Nat) : List Int := if n < 128 then [(n : Int)] else ((128 + n % 128 : Nat) : Int) :: encU (n / 128)
termination_by n
decreasing_by omega
theorem encU_small {n : Nat} (h : n < 128) : encU n = [(n : Int)] := by rw [encU, if_pos h]
theorem encU_big {n : Nat} (h : ¬ n < 128) : encU n = ((128 + n % 128 : Nat) : Int) :: encU (n / 128) := by rw [encU, if_neg h]
def IsByte (c : Int) : Prop := 0 ≤ c ∧ c ≤ 255
theorem encU_byte (n : Nat) : ∀ c ∈ encU n, IsByte c := by
  induction n using Nat.strongRecOn with
  | ind n ih =>
    intro c hc
    by_cases h : n < 128
    · rw [encU_small h] at hc
      simp at hc
      subst hc
      exact ⟨by omega, by omega⟩
    · rw [encU_big h] at hc
      rcases List.mem_cons.1 hc with rfl | hc
      · exact ⟨by omega, by omega⟩
      · exact ih (n / 128) (by omega) c hc
theorem encU_length (n : Nat) (k : Nat) (h : n < 128 ^ (k + 1)) : (encU n).length ≤ k + 1 := by
  induction k generalizing n with
  | zero => rw [encU_small (by simpa using h)]; simp
  | succ k ih =>
    by_cases h1 : n < 128
    · rw [encU_small h1]; simp
    · rw [encU_big h1, List.length_cons]
      have := ih (n / 128) (by rw [Nat.pow_succ] at h; omega)
      omega
/-- The zigzag form of a number, and back. -/
def zig (n : Int) : Nat := if n < 0 then (2 * (-(n + 1)) + 1).toNat else (2 * n).toNat
def back (z : Nat) : Int := if z % 2 = 1 then -((z / 2 : Nat) : Int) - 1 else ((z / 2 : Nat) : Int)
theorem back_zig (n : Int) : back (zig n) = n := by unfold back zig; split <;> split <;> omega
theorem zig_back (z : Nat) : zig (back z) = z := by unfold back zig; split <;> split <;> omega
theorem zig_lt {n : Int} (h : InI64 n) : zig n < 18446744073709551616 := by unfold InI64 at h; unfold zig; split <;> omega
theorem back_i64 {z : Nat} (h : z < 18446744073709551616) : InI64 (back z) := by unfold InI64 back; split <;> omega
def encI (n : Int) : List Int := encU (zig n)

/-- What is read of a number: i bytes of it are read, m is their number. -/
def readU : Nat → Nat → List Int → (List Int × Nat) ⊕ Int
  | _, _, [] => .inr 7
  | i, m, c :: b => if (i = 9 ∧ 1 < c) ∨ (0 < i ∧ c = 0) then .inr 8 else if c < 128 then .inl (b, m + (c % 128).toNat * 128 ^ i) else readU (i + 1) (m + (c % 128).toNat * 128 ^ i) b
theorem pow_cases {i : Nat} (h : i ≤ 9) : (i = 0 ∧ 128 ^ i = 1) ∨ (i = 1 ∧ 128 ^ i = 128) ∨ (i = 2 ∧ 128 ^ i = 16384) ∨ (i = 3 ∧ 128 ^ i = 2097152) ∨ (i = 4 ∧ 128 ^ i = 268435456) ∨ (i = 5 ∧ 128 ^ i = 34359738368) ∨
    (i = 6 ∧ 128 ^ i = 4398046511104) ∨ (i = 7 ∧ 128 ^ i = 562949953421312) ∨ (i = 8 ∧ 128 ^ i = 72057594037927936) ∨ (i = 9 ∧ 128 ^ i = 9223372036854775808) := by
  have : i = 0 ∨ i = 1 ∨ i = 2 ∨ i = 3 ∨ i = 4 ∨ i = 5 ∨ i = 6 ∨ i = 7 ∨ i = 8 ∨ i = 9 := by omega
  rcases this with rfl | rfl | rfl | rfl | rfl | rfl | rfl | rfl | rfl | rfl <;> simp
theorem small_mul {i c : Nat} (hi : i ≤ 9) (h : c < 128) (h9 : i = 9 → c ≤ 1) : c * 128 ^ i < 18446744073709551616 := by
  have hp := pow_cases hi
  have h10 : c ≤ 1 ∨ i ≤ 8 := by omega
  clear h9 hi
  generalize 128 ^ i = P at hp ⊢
  rcases hp with ⟨e1, e2⟩ | ⟨e1, e2⟩ | ⟨e1, e2⟩ | ⟨e1, e2⟩ | ⟨e1, e2⟩ | ⟨e1, e2⟩ | ⟨e1, e2⟩ | ⟨e1, e2⟩ | ⟨e1, e2⟩ | ⟨e1, e2⟩ <;> subst e2 <;> omega
theorem pow_whole {i : Nat} (h : i + 1 ≤ 9) : 2 * 128 ^ (8 - i) * 128 ^ (i + 1) = 18446744073709551616 := by
  rw [Nat.mul_assoc, ← Nat.pow_add, show 8 - i + (i + 1) = 9 by omega]
theorem step_mul {i n c : Nat} (hi : i + 1 ≤ 9) (h : c < 128) (hn : n * 128 ^ (i + 1) < 18446744073709551616) : (n * 128 + c) * 128 ^ i < 18446744073709551616 := by
  have hM := pow_whole hi
  generalize 2 * 128 ^ (8 - i) = M at hM
  rw [← hM] at hn ⊢
  have h1 : n < M := Nat.lt_of_mul_lt_mul_right hn
  have h2 : (n + 1) * 128 ^ (i + 1) ≤ M * 128 ^ (i + 1) := Nat.mul_le_mul_right _ h1
  have h3 : (n * 128 + c) * 128 ^ i < (n + 1) * 128 ^ (i + 1) := by
    rw [Nat.pow_succ, Nat.mul_comm (128 ^ i), ← Nat.mul_assoc]
    exact Nat.mul_lt_mul_of_pos_right (by omega) (Nat.pow_pos (by omega))
  omega
theorem readU_enc (n : Nat) : ∀ (i m : Nat) (r : List Int), i ≤ 9 → n * 128 ^ i < 18446744073709551616 → (0 < i → 0 < n) → readU i m (encU n ++ r) = .inl (r, m + n * 128 ^ i) := by
  induction n using Nat.strongRecOn with
  | ind n ih =>
    intro i m r hi hb hp
    by_cases h : n < 128
    · rw [encU_small h, List.singleton_append]
      unfold readU
      rw [if_neg, if_pos (by omega)]
      · have : ((n : Int) % 128).toNat = n := by omega
        rw [this]
      · rintro (⟨rfl, h1⟩ | ⟨h1, h2⟩)
        · simp at hb; omega
        · have := hp h1; omega
    · have h9 : i ≠ 9 := by rintro rfl; simp at hb; omega
      rw [encU_big h, List.cons_append]
      unfold readU
      rw [if_neg (by omega), if_neg (by omega)]
      have e1 : ((((128 + n % 128 : Nat) : Int)) % 128).toNat = n % 128 := by omega
      have e2 : n / 128 * 128 ^ (i + 1) = 128 * (n / 128) * 128 ^ i := by rw [Nat.pow_succ, Nat.mul_comm (128 ^ i), ← Nat.mul_assoc, Nat.mul_comm (n / 128)]
      have e3 : n * 128 ^ i = 128 * (n / 128) * 128 ^ i + n % 128 * 128 ^ i := by rw [← Nat.add_mul, Nat.div_add_mod]
      rw [e1, ih (n / 128) (by omega) (i + 1) _ r (by omega) (by omega) (by intro; omega)]
      congr 2
      omega
theorem readU_inv : ∀ (b : List Int) (i m : Nat) (r : List Int) (v : Nat), (∀ c ∈ b, IsByte c) → i ≤ 9 → readU i m b = .inl (r, v) →
    ∃ n, b = encU n ++ r ∧ v = m + n * 128 ^ i ∧ n * 128 ^ i < 18446744073709551616 ∧ (0 < i → 0 < n)
  | [], _, _, _, _, _, _, h => by simp [readU] at h
  | c :: b, i, m, r, v, hb, hi, h => by
    obtain ⟨c0, c1⟩ := hb c (by simp)
    unfold readU at h
    by_cases h1 : (i = 9 ∧ 1 < c) ∨ (0 < i ∧ c = 0)
    · rw [if_pos h1] at h; cases h
    · rw [if_neg h1] at h
      by_cases h2 : c < 128
      · rw [if_pos h2] at h
        cases h
        have e : (c % 128).toNat = c.toNat := by omega
        refine ⟨c.toNat, ?_, by rw [e], ?_, by omega⟩
        · rw [encU_small (by omega)]
          simp
          omega
        · exact small_mul hi (by omega) (by intro; omega)
      · rw [if_neg h2] at h
        obtain ⟨n, hn1, hn2, hn3, hn4⟩ := readU_inv b (i + 1) _ r v (fun x hx => hb x (by simp [hx])) (by omega) h
        have hn5 := hn4 (by omega)
        refine ⟨n * 128 + (c % 128).toNat, ?_, ?_, ?_, by intro; omega⟩
        · rw [encU_big (by omega), List.cons_append]
          have e1 : (n * 128 + (c % 128).toNat) / 128 = n := by omega
          have e2 : (((128 + (n * 128 + (c % 128).toNat) % 128 : Nat) : Int)) = c := by omega
          rw [e1, e2, ← hn1]
        · rw [hn2, Nat.add_mul, Nat.pow_succ, Nat.mul_comm (128 ^ i), ← Nat.mul_assoc]
          omega
        · exact step_mul (by omega) (by omega) hn3

/-- A reader: the unread bytes, or the first error. -/
inductive Rd where
  | ok (b : List Int)
  | bad (e : Int)
def Rd.fine : Rd → Prop
  | .ok b => ∀ c ∈ b, IsByte c
  | .bad e => e ≠ 0 ∧ InI64 e
def Rd.err : Rd → Int
  | .ok _ => 0
  | .bad e => e
def Rd.fail (s : Rd) (e : Int) : Rd := match s with
  | .ok _ => .bad e
  | .bad x => .bad x
def Rd.stop : Rd → Int
  | .ok [] => 0
  | .ok (_ :: _) => 8
  | .bad e => e
def Rd.uint : Rd → Nat × Rd
  | .bad e => (0, .bad e)
  | .ok b => match readU 0 0 b with
    | .inl (r, n) => (n, .ok r)
    | .inr e => (0, .bad e)
def Rd.int (s : Rd) : Int × Rd := (back s.uint.1, s.uint.2)
def Rd.after (s : Rd) : Nat → Rd
  | 0 => s
  | k + 1 => (s.after k).int.2
def Rd.nth (s : Rd) (k : Nat) : Int := (s.after k).int.1
theorem Rd.uint_enc {n : Nat} (h : n < 18446744073709551616) (r : List Int) : (Rd.ok (encU n ++ r)).uint = (n, .ok r) := by
  unfold Rd.uint
  simp only [readU_enc n 0 0 r (by omega) (by simpa using h) (by omega)]
  simp
theorem Rd.int_enc {n : Int} (h : InI64 n) (r : List Int) : (Rd.ok (encI n ++ r)).int = (n, .ok r) := by
  unfold Rd.int encI
  rw [Rd.uint_enc (zig_lt h), back_zig]
theorem Rd.uint_inv {b r : List Int} {n : Nat} (hb : ∀ c ∈ b, IsByte c) (h : (Rd.ok b).uint = (n, .ok r)) : b = encU n ++ r ∧ n < 18446744073709551616 := by
  unfold Rd.uint at h
  split at h
  · cases h
  · rename_i b' heq
    cases heq
    split at h
    · rename_i r' n' h2
      cases h
      obtain ⟨m, h3, h4, h5, _⟩ := readU_inv b 0 0 r n hb (by omega) h2
      simp at h4 h5
      subst h4
      exact ⟨h3, h5⟩
    · cases h
theorem Rd.int_inv {b r : List Int} {n : Int} (hb : ∀ c ∈ b, IsByte c) (h : (Rd.ok b).int = (n, .ok r)) : b = encI n ++ r ∧ InI64 n := by
  have h2 : (Rd.ok b).uint = ((Rd.ok b).uint.1, .ok r) := by
    have := congrArg Prod.snd h
    unfold Rd.int at this
    exact Prod.ext rfl this
  obtain ⟨h3, h4⟩ := Rd.uint_inv hb h2
  have h5 : back (Rd.ok b).uint.1 = n := congrArg Prod.fst h
  subst h5
  refine ⟨?_, back_i64 h4⟩
  unfold encI
  rw [zig_back]
  exact h3
theorem readU_err : ∀ (b : List Int) (i m : Nat) (e : Int), readU i m b = .inr e → e = 7 ∨ e = 8
  | [], _, _, e, h => by simp [readU] at h; omega
  | c :: b, i, m, e, h => by
    unfold readU at h
    split at h
    · cases h; omega
    · split at h
      · cases h
      · exact readU_err b _ _ e h
theorem readU_sub : ∀ (b : List Int) (i m : Nat) (r : List Int) (v : Nat), readU i m b = .inl (r, v) → ∀ c ∈ r, c ∈ b
  | [], _, _, r, v, h => by simp [readU] at h
  | c :: b, i, m, r, v, h => by
    unfold readU at h
    split at h
    · cases h
    · split at h
      · cases h; intro x hx; simp [hx]
      · intro x hx; exact List.mem_cons_of_mem _ (readU_sub b _ _ r v h x hx)
theorem Rd.fine_uint {s : Rd} (h : s.fine) : s.uint.2.fine := by
  cases s with
  | bad e => exact h
  | ok b =>
    unfold Rd.uint
    simp only []
    split
    · rename_i r n hr
      intro c hc
      exact h c (readU_sub b _ _ r n hr c hc)
    · rename_i e hr
      have := readU_err b _ _ e hr
      refine ⟨by omega, ?_⟩
      unfold InI64
      omega
theorem Rd.uint_lt {s : Rd} (h : s.fine) : s.uint.1 < 18446744073709551616 := by
  cases s with
  | bad e => exact Nat.lt_of_lt_of_le (Nat.zero_lt_one) (by omega)
  | ok b =>
    unfold Rd.uint
    simp only []
    split
    · rename_i r n hr
      obtain ⟨m, _, h4, h5, _⟩ := readU_inv b 0 0 r n h (by omega) hr
      simp at h4 h5
      simp [h4, h5]
    · simp
theorem Rd.int_i64 {s : Rd} (h : s.fine) : InI64 s.int.1 := back_i64 (Rd.uint_lt h)
theorem Rd.fine_int {s : Rd} (h : s.fine) : s.int.2.fine := Rd.fine_uint h
theorem Rd.fine_after {s : Rd} (h : s.fine) (k : Nat) : (s.after k).fine := by
  induction k with
  | zero => exact h
  | succ k ih => exact Rd.fine_int ih
theorem Rd.nth_i64 {s : Rd} (h : s.fine) (k : Nat) : InI64 (s.nth k) := Rd.int_i64 (Rd.fine_after h k)
theorem Rd.fine_fail {s : Rd} (h : s.fine) {e : Int} (h0 : e ≠ 0) (h1 : InI64 e) : (s.fail e).fine := by
  cases s with
  | ok b => exact ⟨h0, h1⟩
  | bad x => exact h
theorem Rd.after_bad (e : Int) (k : Nat) : (Rd.bad e).after k = .bad e := by
  induction k with
  | zero => rfl
  | succ k ih => show ((Rd.bad e).after k).int.2 = _; rw [ih]; rfl

/-! ### Tapes -/
def encEv (e : Ev) : List Int := e.ints.flatMap encI
def encAns (a : Ans) : List Int := a.ints.flatMap encI
def encP (evs : List Ev) (r : List Ans) : List Int := encU evs.length ++ (evs.flatMap encEv ++ (encU r.length ++ r.flatMap encAns))
def Rd.ev (s : Rd) : Ev := ⟨s.nth 0, s.nth 1, s.nth 2, ⟨s.nth 3, s.nth 4, s.nth 5, s.nth 6, s.nth 7⟩⟩
def Rd.ans (s : Rd) : Ans := ⟨⟨s.nth 0, s.nth 1, s.nth 2, s.nth 3, s.nth 4⟩, s.nth 5⟩
def Rd.count (s : Rd) (most : Nat) : Nat × Rd := if most < s.uint.1 then (0, s.uint.2.fail 2) else s.uint
def readEvs : Nat → Rd → List Ev → List Ev × Rd
  | 0, s, acc => (acc, s)
  | _ + 1, .bad e, acc => (acc, .bad e)
  | n + 1, .ok b, acc => readEvs n ((Rd.ok b).after 8) (acc ++ [(Rd.ok b).ev])
/-- Whether a question comes behind the last one. -/
def behind (acc : List Ans) (q : Qn) : Bool := match acc.getLast? with
  | none => true
  | some p => decide (p.q.cmp q < 0)
def ansNext (acc : List Ans) (s : Rd) : Rd :=
  let s1 := if behind acc s.ans.q then s.after 6 else (s.after 6).fail 5
  if s.ans.n < 1 then s1.fail 6 else s1
def readAs : Nat → Rd → List Ans → List Ans × Rd
  | 0, s, acc => (acc, s)
  | _ + 1, .bad e, acc => (acc, .bad e)
  | n + 1, .ok b, acc => readAs n (ansNext acc (.ok b)) (acc ++ [(Rd.ok b).ans])
def decE (b : List Int) : List Ev × Rd := readEvs ((Rd.ok b).count 5000).1 ((Rd.ok b).count 5000).2 []
def decA (s : Rd) : List Ans × Rd := readAs (s.count 10000).1 (s.count 10000).2 []
def decP (b : List Int) : (List Ev × List Ans) × Int :=
  if (decA (decE b).2).2.stop = 0 then (((decE b).1, (decA (decE b).2).1), 0) else (([], []), (decA (decE b).2).2.stop)

def Ev.ok (e : Ev) : Prop := ∀ n ∈ e.ints, InI64 n
def Ans.ok' (a : Ans) : Prop := ∀ n ∈ a.ints, InI64 n
theorem Ans.ok_iff (a : Ans) : a.ok ↔ a.ok' := by
  unfold Ans.ok Ans.ok' Qn.ok Ans.ints Qn.ints
  simp
  constructor
  · rintro ⟨⟨h1, h2, h3, h4, h5⟩, h6⟩; exact ⟨h1, h2, h3, h4, h5, h6⟩
  · rintro ⟨h1, h2, h3, h4, h5, h6⟩; exact ⟨⟨h1, h2, h3, h4, h5⟩, h6⟩
theorem Rd.after_enc : ∀ (l : List Int) (r : List Int), (∀ n ∈ l, InI64 n) → ∀ k, k ≤ l.length → (Rd.ok (l.flatMap encI ++ r)).after k = .ok ((l.drop k).flatMap encI ++ r)
  | l, r, _, 0, _ => by simp [Rd.after]
  | l, r, h, k + 1, hk => by
    have hk' : k < l.length := by omega
    show ((Rd.ok (l.flatMap encI ++ r)).after k).int.2 = _
    rw [Rd.after_enc l r h k (by omega), List.drop_eq_getElem_cons hk', List.flatMap_cons, List.append_assoc, Rd.int_enc (h _ (List.getElem_mem hk'))]
theorem Rd.nth_enc (l r : List Int) (h : ∀ n ∈ l, InI64 n) (k : Nat) (hk : k < l.length) : (Rd.ok (l.flatMap encI ++ r)).nth k = l[k] := by
  unfold Rd.nth
  rw [Rd.after_enc l r h k (by omega), List.drop_eq_getElem_cons hk, List.flatMap_cons, List.append_assoc, Rd.int_enc (h _ (List.getElem_mem hk))]
theorem Rd.ev_enc (e : Ev) (h : e.ok) (r : List Int) : (Rd.ok (encEv e ++ r)).ev = e ∧ (Rd.ok (encEv e ++ r)).after 8 = .ok r := by
  have hn := fun k hk => Rd.nth_enc e.ints r h k hk
  refine ⟨?_, ?_⟩
  · unfold Rd.ev encEv
    rw [hn 0 (by simp [Ev.ints]), hn 1 (by simp [Ev.ints]), hn 2 (by simp [Ev.ints]), hn 3 (by simp [Ev.ints]), hn 4 (by simp [Ev.ints]), hn 5 (by simp [Ev.ints]), hn 6 (by simp [Ev.ints]), hn 7 (by simp [Ev.ints])]
    rfl
  · exact Rd.after_enc e.ints r h 8 (by simp [Ev.ints])
theorem Rd.ans_enc (a : Ans) (h : a.ok) (r : List Int) : (Rd.ok (encAns a ++ r)).ans = a ∧ (Rd.ok (encAns a ++ r)).after 6 = .ok r := by
  have h' := (Ans.ok_iff a).1 h
  have hn := fun k hk => Rd.nth_enc a.ints r h' k hk
  refine ⟨?_, ?_⟩
  · unfold Rd.ans encAns
    rw [hn 0 (by simp [Ans.ints]), hn 1 (by simp [Ans.ints]), hn 2 (by simp [Ans.ints]), hn 3 (by simp [Ans.ints]), hn 4 (by simp [Ans.ints]), hn 5 (by simp [Ans.ints])]
    rfl
  · exact Rd.after_enc a.ints r h' 6 (by simp [Ans.ints])
theorem readEvs_enc : ∀ (evs acc : List Ev) (r : List Int), (∀ e ∈ evs, e.ok) → readEvs evs.length (.ok (evs.flatMap encEv ++ r)) acc = (acc ++ evs, .ok r)
  | [], acc, r, _ => by simp [readEvs]
  | e :: evs, acc, r, h => by
    obtain ⟨h1, h2⟩ := Rd.ev_enc e (h e (by simp)) (evs.flatMap encEv ++ r)
    rw [List.length_cons, List.flatMap_cons, List.append_assoc]
    unfold readEvs
    rw [h1, h2, readEvs_enc evs _ r (fun x hx => h x (by simp [hx]))]
    simp
theorem readAs_enc : ∀ (l acc : List Ans) (r : List Int), (∀ a ∈ l, a.ok) → (acc ++ l).Pairwise (fun a b => a.q.cmp b.q < 0) → (∀ a ∈ l, 0 < a.n) → readAs l.length (.ok (l.flatMap encAns ++ r)) acc = (acc ++ l, .ok r)
  | [], acc, r, _, _, _ => by simp [readAs]
  | a :: l, acc, r, h, hp, hn => by
    obtain ⟨h1, h2⟩ := Rd.ans_enc a (h a (by simp)) (l.flatMap encAns ++ r)
    rw [List.length_cons, List.flatMap_cons, List.append_assoc]
    unfold readAs ansNext
    have hb : behind acc a.q = true := by
      unfold behind
      split
      · rfl
      · rename_i p hp2
        have hm := List.mem_of_getLast? hp2
        rw [List.pairwise_append] at hp
        exact decide_eq_true (hp.2.2 p hm a (by simp))
    have hz : ¬ a.n < 1 := by have := hn a (by simp); omega
    simp only [h1, h2, hb, if_neg hz, if_true]
    rw [readAs_enc l _ r (fun x hx => h x (by simp [hx])) (by simpa using hp) (fun x hx => hn x (by simp [hx]))]
    simp
theorem Rd.count_enc {n most : Nat} (h : n ≤ most) (hm : most < 18446744073709551616) (r : List Int) : (Rd.ok (encU n ++ r)).count most = (n, .ok r) := by
  unfold Rd.count
  rw [Rd.uint_enc (by omega), if_neg (by simpa using h)]
/-- Decoding the encoding. -/
theorem dec_enc {evs : List Ev} {r : List Ans} (he : ∀ e ∈ evs, e.ok) (hr : ∀ a ∈ r, a.ok) (hp : r.Pairwise (fun a b => a.q.cmp b.q < 0)) (hn : ∀ a ∈ r, 0 < a.n) (hle : evs.length ≤ 5000) (hlr : r.length ≤ 10000) :
    decP (encP evs r) = ((evs, r), 0) := by
  have h1 : decE (encP evs r) = (evs, .ok (encU r.length ++ r.flatMap encAns)) := by
    unfold decE encP
    rw [Rd.count_enc hle (by omega)]
    exact (readEvs_enc evs [] _ he).trans (by simp)
  have h2 : decA (.ok (encU r.length ++ r.flatMap encAns)) = (r, .ok []) := by
    unfold decA
    rw [Rd.count_enc hlr (by omega)]
    have := readAs_enc r [] [] hr (by simpa using hp) hn
    simpa using this
  unfold decP
  rw [h1]
  simp only []
  rw [h2]
  rfl

end Go.Proofs.Ytjdhcdbjfbhogaa
