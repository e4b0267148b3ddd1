/- Arguments that came in, each in one form: slices of integers and of bytes, slices of those, integers. -/
import Derived.Test.YtjdhcdbjfbhogaaQ6
import Derived.Deep.Matrix
namespace Go.Proofs.Ytjdhcdbjfbhogaa
open Go.RowKit Go.ChangeShapes Go.WideShapes Go.Joins Go.Deep

section
variable {H : Type} {enc : TypeId × Value → H} {w : World} {base : Nat} {held : Bool}

theorem IntSl.of_fn {w : World} {a : Addr} {len cap : Nat} {zs : List Int} (h1 : len ≤ cap) (h2 : cap ≤ maxLen) (h3 : zs.length = cap) (h4 : ∀ i, i < zs.length → w.cell? (a.add i) = some (.int .i64 (zs.getD i 0))) (h5 : ∀ n ∈ zs, (Lit.int .i64 n).wf = true) :
    ∃ l : List Int, l.length = len ∧ IntSl w (.slice (some a) len cap) l ∧ ∀ x ∈ l, InI64 x := by
  obtain ⟨l, hl, hi⟩ := int_row (w := w) (a := some a) (len := len) (cap := cap) (zs := zs) (.inr ⟨a, rfl, h1, h2, h3, h4, h5⟩)
  obtain ⟨k, c, e, _⟩ := hl.open
  simp at e
  exact ⟨l, e.2.1.symm, hl, hi⟩
set_option maxRecDepth 100000 in
theorem ints_trod {fuel : Nat} {cs : List Value} {x : DataW H × List MemPlace} (hf : DataW.trod enc Try.prog w base (fun _ => true) held fuel 22 cs = some x) :
    ∃ (k : Option Addr) (c : Nat) (l : List Int), cs = [.slice k l.length c] ∧ IntSl w (.slice k l.length c) l ∧ l.length ≤ c ∧ ∀ n ∈ l, InI64 n := by
  rcases open_ints Try.underlying22 Try.underlying3 (by kernel_rfl) hf with ⟨rfl, _⟩ | ⟨a, len, c, zs, rfl, _, hl, hm, hz, _, hcell, hwz⟩
  · exact ⟨none, 0, [], rfl, Flat.nil _ _ _ _, Nat.le_refl _, fun n hn => by simp at hn⟩
  · obtain ⟨l, rfl, h, hi⟩ := IntSl.of_fn hl hm (by simpa using hz) hcell hwz
    exact ⟨some a, c, l, rfl, h, hl, hi⟩
set_option maxRecDepth 100000 in
theorem ints_in {r : Reach} {b0 : Nat} {v : Value} {d : DataW H} {p : List MemPlace} (hv : Value.okWide Try.prog w r b0 22 v) (h : DataW.Trod enc Try.prog w base (fun _ => true) held 22 v d p) :
    ∃ (k : Option Addr) (c : Nat) (l : List Int), v = .slice k l.length c ∧ IntSl w (.slice k l.length c) l ∧ l.length ≤ c ∧ ∀ n ∈ l, InI64 n := by
  obtain ⟨a, len, cap, rfl⟩ := okWide_slice Try.underlying22 hv
  obtain ⟨fuel, hf⟩ := h
  obtain ⟨k, c, l, e, h1, h2, h3⟩ := ints_trod hf
  simp [Value.cells] at e
  obtain ⟨rfl, rfl, rfl⟩ := e
  exact ⟨_, _, l, rfl, h1, h2, h3⟩
set_option maxRecDepth 100000 in
theorem bytes_in {r : Reach} {b0 : Nat} {v : Value} {d : DataW H} {p : List MemPlace} (hv : Value.okWide Try.prog w r b0 30 v) (h : DataW.Trod enc Try.prog w base (fun _ => true) held 30 v d p) :
    ∃ (k : Option Addr) (c : Nat) (l : List Int), v = .slice k l.length c ∧ BySl w (.slice k l.length c) l ∧ l.length ≤ c ∧ ∀ n ∈ l, IsByte n := by
  obtain ⟨a, len, cap, rfl⟩ := okWide_slice Try.underlying30 hv
  obtain ⟨fuel, hf⟩ := h
  rcases open_ints Try.underlying30 Try.underlying5 (by kernel_rfl) hf with ⟨hcs, _⟩ | ⟨x, len', c, zs, hcs, _, hl, hm, hz, _, hcell, hwz⟩
  · simp [Value.cells] at hcs
    obtain ⟨rfl, rfl, rfl⟩ := hcs
    exact ⟨none, 0, [], rfl, Flat.nil _ _ _ _, Nat.le_refl _, fun n hn => by simp at hn⟩
  · simp [Value.cells] at hcs
    obtain ⟨rfl, rfl, rfl⟩ := hcs
    obtain ⟨l, h1, h2⟩ := byte_row (w := w) (a := some x) (len := len) (cap := cap) (zs := zs) (.inr ⟨x, rfl, hl, hm, by simpa using hz, hcell, hwz⟩)
    obtain ⟨k, c, e, _⟩ := Flat.open h1
    simp at e
    obtain ⟨_, rfl, _⟩ := e
    exact ⟨_, _, l, rfl, h1, hl, h2⟩
set_option maxRecDepth 100000 in
theorem int_in {r : Reach} {b0 : Nat} {v : Value} {d : DataW H} {p : List MemPlace} (hv : Value.okWide Try.prog w r b0 3 v) (h : DataW.Trod enc Try.prog w base (fun _ => true) held 3 v d p) : ∃ n, v = I n ∧ InI64 n := by
  obtain ⟨n, rfl, _, _, hw⟩ := open_int Try.underlying3 hv h
  exact ⟨n, rfl, bounds_i64 hw⟩
set_option maxRecDepth 100000 in
theorem byte_in {r : Reach} {b0 : Nat} {v : Value} {d : DataW H} {p : List MemPlace} (hv : Value.okWide Try.prog w r b0 5 v) (h : DataW.Trod enc Try.prog w base (fun _ => true) held 5 v d p) : ∃ n, v = .int .u8 n ∧ IsByte n := by
  obtain ⟨n, rfl, _, _, hw⟩ := open_int Try.underlying5 hv h
  exact ⟨n, rfl, bounds_u8 hw⟩
/-- A slice of slices of integers. -/
def MatSl (w : World) (v : Value) (m : List (List Int)) : Prop := ∃ (a : Option Addr) (c : Nat), v = .slice a m.length c ∧ m.length ≤ 9223372036854775807 ∧ ∀ i l, m[i]? = some l → ∃ b o k c', a = some ⟨b, o, none⟩ ∧ w.cell? ⟨b, o + i, none⟩ = some (.slice k l.length c') ∧ IntSl w (.slice k l.length c') l ∧ l.length ≤ c' ∧ ∀ n ∈ l, InI64 n
set_option maxRecDepth 100000 in
theorem mat_in {r : Reach} {b0 : Nat} {v : Value} {d : DataW H} {p : List MemPlace} (hv : Value.okWide Try.prog w r b0 49 v) (h : DataW.Trod enc Try.prog w base (fun _ => true) held 49 v d p) :
    ∃ m : List (List Int), MatSl w v m := by
  obtain ⟨a, len, cap, rfl⟩ := okWide_slice Try.underlying49 hv
  obtain ⟨fuel, hf⟩ := h
  rcases open_slice1 Try.underlying49 (by kernel_rfl) hf with ⟨hcs, _⟩ | ⟨x, len', c, mm, n, V, D, Pl, hcs, _, hl, hm, hmm, _, hx⟩
  · simp [Value.cells] at hcs
    obtain ⟨rfl, rfl, rfl⟩ := hcs
    exact ⟨[], none, 0, rfl, Nat.zero_le _, fun i l h => by simp at h⟩
  · simp [Value.cells] at hcs
    obtain ⟨rfl, rfl, rfl⟩ := hcs
    simp only [if_true] at hmm
    subst hmm
    have key : ∀ j, j ≤ len → ∃ m : List (List Int), m.length = j ∧ ∀ i l, m[i]? = some l → ∃ k c', w.cell? (x.add i) = some (.slice k l.length c') ∧ IntSl w (.slice k l.length c') l ∧ l.length ≤ c' ∧ ∀ n ∈ l, InI64 n := by
      intro j
      induction j with
      | zero => intro _; exact ⟨[], rfl, fun i l h => by simp at h⟩
      | succ j ih =>
        intro hj
        obtain ⟨m, h1, h2⟩ := ih (by omega)
        obtain ⟨hc1, hc2⟩ := hx j (by omega)
        obtain ⟨k, c', l, e, r1, r2, r3⟩ := ints_trod hc2
        simp at e
        refine ⟨m ++ [l], by simp [h1], fun i l' hi => ?_⟩
        by_cases hlt : i < m.length
        · rw [List.getElem?_append_left hlt] at hi
          exact h2 i l' hi
        · rw [List.getElem?_append_right (by omega)] at hi
          have h0 : i - m.length = 0 := by
            have := (List.getElem?_eq_some_iff.1 hi).1
            simp at this
            omega
          rw [h0] at hi
          simp at hi
          subst hi
          have hij : i = j := by omega
          subst hij
          exact ⟨k, c', by rw [hc1, e], r1, r2, r3⟩
    obtain ⟨m, h1, h2⟩ := key len (Nat.le_refl _)
    subst h1
    refine ⟨m, some x, _, rfl, by unfold maxLen at hm; omega, fun i l hi => ?_⟩
    obtain ⟨k, c', r0, r1, r2, r3⟩ := h2 i l hi
    obtain ⟨b, o, q⟩ := x
    have hq : q = none := by
      have hm0 : 0 < m.length := by have := (List.getElem?_eq_some_iff.1 hi).1; omega
      obtain ⟨k0, c0, s0, _⟩ := h2 0 _ (List.getElem?_eq_getElem hm0)
      simpa [Addr.add] using World.cell?_spot s0
    subst hq
    exact ⟨b, o, k, c', rfl, by rw [← Go.WideShapes.add_plain]; exact r0, r1, r2, r3⟩
theorem MatSl.kept {w w' : World} {v : Value} {m : List (List Int)} (h : MatSl w v m) {B : Nat} (hb : Below B w w') (hB : w.heap.size ≤ B) : MatSl w' v m := by
  obtain ⟨a, c, rfl, hm, hr⟩ := h
  refine ⟨a, c, rfl, hm, fun i l hi => ?_⟩
  obtain ⟨b, o, k, c', e, h0, h1, h2, h3⟩ := hr i l hi
  have hlt := World.block_lt_of_cell? _ _ h0
  exact ⟨b, o, k, c', e, by rw [hb.cell (p := ⟨b, o + i, none⟩) (by simp at hlt ⊢; omega)]; exact h0, h1.kept hb hB, h2, h3⟩
end
end Go.Proofs.Ytjdhcdbjfbhogaa
