/- Rows that may be written; Normal and With, their rows said whole. -/
import Derived.Test.YtjdhcdbjfbhogaaX8
import Derived.Test.YtjdhcdbjfbhogaaX2
namespace Go.Proofs.Ytjdhcdbjfbhogaa
open Go.RowKit

/-- A slice whose n elements of k cells each may be written; its block lies from B on, and below g. -/
def Room (W : World) (B g : Nat) (v : Value) (n k : Nat) : Prop :=
  (v = .slice none 0 0 ∧ n = 0) ∨ ∃ b cap cur t, v = .slice (some ⟨b, 0, none⟩) n cap ∧ B ≤ b ∧ b < g ∧ W.heap[b]? = some (.cells cur t (0, 0)) ∧ n * k ≤ cur.size
theorem Room.of_owns {W W' : World} {B B' g : Nat} {e : TypeId} {k : Nat} {v : Value} {n : Nat} {xs : List Value} (h : W.ownsRow B' e k v n xs) (hB : B ≤ B') (hg : W.heap.size ≤ g) (hW : Below W.heap.size W W') : Room W' B g v n k := by
  rcases h.2 with ⟨rfl, rfl⟩ | ⟨b, cap, cur, rfl, h1, h2, h3, _, h5, _⟩
  · exact .inl ⟨rfl, rfl⟩
  · have hb := (Array.getElem?_eq_some_iff.1 h2).1
    exact .inr ⟨b, cap, cur, e, rfl, by omega, by omega, (hW.block b hb).trans h2, by rw [h5]; exact Nat.mul_le_mul_right k h3⟩
theorem Room.set {W : World} {B g : Nat} {v : Value} {n k : Nat} (h : Room W B g v n k) (b i : Nat) (x : Value) : Room (W.setCell ⟨b, i, none⟩ x) B g v n k := by
  rcases h with h | ⟨b', cap, cur, t, rfl, h1, h2, h3, h4⟩
  · exact .inl h
  · by_cases e : b' = b
    · subst e
      exact .inr ⟨b', cap, _, t, rfl, h1, h2, heap_setCell_same W b' i cur t x h3, by simpa using h4⟩
    · exact .inr ⟨b', cap, cur, t, rfl, h1, h2, (heap_setCell_other W ⟨b, i, none⟩ b' x e).trans h3, h4⟩
theorem Room.drew {W : World} {B g : Nat} {v : Value} {n k : Nat} (h : Room W B g v n k) : Room W.drew B g v n k := h
theorem Room.open {W : World} {B g : Nat} {v : Value} {n k : Nat} (h : Room W B g v n k) : ∃ a c, v = .slice a n c := by
  rcases h with ⟨rfl, rfl⟩ | ⟨b, cap, cur, t, rfl, _⟩
  · exact ⟨_, _, rfl⟩
  · exact ⟨_, _, rfl⟩
/-- The place of an element. -/
theorem Room.at {W : World} {B g : Nat} {a : Option Addr} {m c n k : Nat} (h : Room W B g (.slice a m c) n k) {i : Nat} (hi : i < n) (j : Nat) (hj : j < k) :
    ∃ b, a = some ⟨b, 0, none⟩ ∧ B ≤ b ∧ b < g ∧ b < W.heap.size ∧ (∃ x, W.cell? ⟨b, i * k + j, none⟩ = some x) ∧ W.frozen? ⟨b, i * k + j, none⟩ = false := by
  rcases h with ⟨_, h2⟩ | ⟨b, cap, cur, t, hv, h1, h2, h3, h4⟩
  · omega
  · simp at hv
    obtain ⟨rfl, rfl, rfl⟩ := hv
    have hlt : i * k + j < cur.size := by
      have : (i + 1) * k ≤ m * k := Nat.mul_le_mul_right k hi
      rw [Nat.add_mul] at this
      omega
    refine ⟨b, rfl, h1, h2, (Array.getElem?_eq_some_iff.1 h3).1, ⟨cur[i * k + j], ?_⟩, frozen_of_row W b _ cur t h3⟩
    rw [cell_of_row W b _ cur t _ h3]
    simp [hlt]
/-- Three tapes in one row, all of whose rows may be written. -/
structure Own3 (W : World) (B g : Nat) (E A : Nat → Value) (n m : Nat → Nat) : Prop where
  cell : ∀ i, i < 3 → W.cell? ⟨g, i * 2, none⟩ = some (E i) ∧ W.cell? ⟨g, i * 2 + 1, none⟩ = some (A i)
  re : ∀ i, i < 3 → Room W B g (E i) (n i) 8
  ra : ∀ i, i < 3 → Room W B g (A i) (m i) 6
  nb : ∀ i, n i ≤ 1000000
  mb : ∀ i, m i ≤ 1000000
theorem Own3.set {W : World} {B g : Nat} {E A : Nat → Value} {n m : Nat → Nat} (h : Own3 W B g E A n m) {b : Nat} (hb : b < g) (i : Nat) (x : Value) : Own3 (W.setCell ⟨b, i, none⟩ x) B g E A n m := by
  have key : ∀ o, (W.setCell ⟨b, i, none⟩ x).cell? ⟨g, o, none⟩ = W.cell? ⟨g, o, none⟩ := fun o => by
    have := heap_setCell_other W ⟨b, i, none⟩ g x (by simp; omega)
    exact World.cell?_of_block this
  exact ⟨fun j hj => ⟨(key _).trans (h.cell j hj).1, (key _).trans (h.cell j hj).2⟩, fun j hj => (h.re j hj).set b i x, fun j hj => (h.ra j hj).set b i x, h.nb, h.mb⟩
theorem normR (evs : List Ev) (l : List Ans) (k : Option Addr) (c : Nat) (k2 : Option Addr) (c2 : Nat) (w : World) (h : TapeIn w k c k2 c2 evs l) (hok : ∀ a ∈ l, a.ok) (hle : evs.length ≤ 1000000) (hl : l.length ≤ 1000000) :
    Calls Try.prog 26 #[tv k c k2 c2 evs l] w fun e w' => ∃ k c k2 c2, e = .returned (tv k c k2 c2 evs (normA l)) ∧ w'.ownsRow w.heap.size 56 8 (.slice k evs.length c) evs.length (evs.flatMap ec) ∧ w'.ownsRow w.heap.size 75 6 (.slice k2 (normA l).length c2) (normA l).length ((normA l).flatMap ac) ∧ Below w.heap.size w w' := by
  refine (normalF evs l _ _ w h.1 h.2 hok hle hl).mono ?_
  rintro e w' ⟨ue, ua, rfl, h1, h2, h3⟩
  obtain ⟨k, c, k2, c2, rfl, rfl, h⟩ := TapeIn.of h1 h2
  exact ⟨k, c, k2, c2, rfl, h1, h2, h3⟩
theorem withR (evs : List Ev) (l : List Ans) (k : Option Addr) (c : Nat) (k2 : Option Addr) (c2 : Nat) (q : Qn) (n : Int) (w : World) (h : TapeIn w k c k2 c2 evs l) (hok : ∀ a ∈ l, a.ok) (hq : q.ok) (hn : InI64 n) (hle : evs.length ≤ 1000000) (hl : l.length ≤ 100000) :
    Calls Try.prog 38 #[tv k c k2 c2 evs l, qv q, I n] w fun e w' => ∃ k c k2 c2, e = .returned (tv k c k2 c2 evs (normA (putL l q n))) ∧ w'.ownsRow w.heap.size 56 8 (.slice k evs.length c) evs.length (evs.flatMap ec) ∧ w'.ownsRow w.heap.size 75 6 (.slice k2 (normA (putL l q n)).length c2) (normA (putL l q n)).length ((normA (putL l q n)).flatMap ac) ∧ Below w.heap.size w w' := by
  refine (withF evs l _ _ q n w h.1 h.2 (fun a ha => ?_) hle hl).mono ?_
  · rcases List.mem_append.1 ha with ha | ha
    · exact hok a ha
    · simp at ha
      subst ha
      exact ⟨hq, hn⟩
  · rintro e w' ⟨ue, ua, rfl, h1, h2, h3⟩
    obtain ⟨k, c, k2, c2, rfl, rfl, h⟩ := TapeIn.of h1 h2
    exact ⟨k, c, k2, c2, rfl, h1, h2, h3⟩
end Go.Proofs.Ytjdhcdbjfbhogaa
