/- Tapes, questions and runs that came in, as the walks want them. -/
import Derived.Test.YtjdhcdbjfbhogaaQ2
import Derived.Test.YtjdhcdbjfbhogaaQ3
import Derived.Lib.SmallJoins
import Derived.Deep.Slices
namespace Go.Proofs.Ytjdhcdbjfbhogaa
open Go.RowKit Go.ChangeShapes Go.WideShapes Go.Joins Go.Deep

section
variable {H : Type} {enc : TypeId × Value → H} {w : World} {base : Nat} {spare : Nat → Bool} {held : Bool}

theorem trod3 {fuel : Nat} {cs : List Value} {x : DataW H × List MemPlace} (h : DataW.trod enc Try.prog w base spare held fuel 3 cs = some x) : ∃ n, cs = [I n] ∧ InI64 n := by
  obtain ⟨n, rfl, _, hw⟩ := DataW.trod_int Try.underlying3 h
  exact ⟨n, rfl, bounds_i64 hw⟩
theorem cells54 : Try.prog.cellsOf 54 = 5 := by kernel_rfl
theorem cells56 : Try.prog.cellsOf 56 = 8 := by kernel_rfl
theorem cells75 : Try.prog.cellsOf 75 = 6 := by kernel_rfl
theorem cells26 : Try.prog.cellsOf 26 = 2 := by kernel_rfl
theorem cells23 : Try.prog.cellsOf 23 = 1 := by kernel_rfl
theorem cells24 : Try.prog.cellsOf 24 = 1 := by kernel_rfl
set_option maxRecDepth 100000 in
theorem trod52 {fuel : Nat} {cs : List Value} {x : DataW H × List MemPlace} (h : DataW.trod enc Try.prog w base spare held fuel 52 cs = some x) : ∃ a b c, cs = [I a, I b, I c] ∧ InI64 a ∧ InI64 b ∧ InI64 c := by
  obtain ⟨xs, n, _, rfl, hl, hlen, hf⟩ := DataW.trod_struct Try.underlying52 h
  rw [cells52] at hl
  match cs, hl, xs, hlen with
  | [c0, c1, c2], _, [y0, y1, y2], _ =>
    have h0 := hf 0 _ rfl
    have h1 := hf 1 _ rfl
    have h2 := hf 2 _ rfl
    simp [cells3] at h0 h1 h2
    obtain ⟨a, e0, r0⟩ := trod3 h0
    obtain ⟨b, e1, r1⟩ := trod3 h1
    obtain ⟨c, e2, r2⟩ := trod3 h2
    simp at e0 e1 e2
    exact ⟨a, b, c, by rw [e0, e1, e2], r0, r1, r2⟩
set_option maxRecDepth 100000 in
theorem trod54 {fuel : Nat} {cs : List Value} {x : DataW H × List MemPlace} (h : DataW.trod enc Try.prog w base spare held fuel 54 cs = some x) : ∃ a b c d e, cs = [I a, I b, I c, I d, I e] ∧ InI64 a ∧ InI64 b ∧ InI64 c ∧ InI64 d ∧ InI64 e := by
  obtain ⟨xs, n, _, rfl, hl, hlen, hf⟩ := DataW.trod_struct Try.underlying54 h
  rw [cells54] at hl
  match cs, hl, xs, hlen with
  | [c0, c1, c2, c3, c4], _, [y0, y1, y2], _ =>
    have h0 := hf 0 _ rfl
    have h1 := hf 1 _ rfl
    have h2 := hf 2 _ rfl
    simp [cells3, cells52] at h0 h1 h2
    obtain ⟨a, b, c, e0, r0⟩ := trod52 h0
    obtain ⟨d, e1, r1⟩ := trod3 h1
    obtain ⟨f, e2, r2⟩ := trod3 h2
    simp at e0 e1 e2
    exact ⟨a, b, c, d, f, by rw [e0.1, e0.2.1, e0.2.2, e1, e2], r0.1, r0.2.1, r0.2.2, r1, r2⟩
set_option maxRecDepth 100000 in
theorem trod66 {fuel : Nat} {cs : List Value} {x : DataW H × List MemPlace} (h : DataW.trod enc Try.prog w base spare held fuel 66 cs = some x) : ∃ q : Qn, cs = iv q.ints ∧ q.ok := by
  obtain ⟨xs, n, _, rfl, hl, hlen, hf⟩ := DataW.trod_struct Try.underlying66 h
  rw [cells66] at hl
  match cs, hl, xs, hlen with
  | [c0, c1, c2, c3, c4], _, [y0, y1, y2], _ =>
    have h0 := hf 0 _ rfl
    have h1 := hf 1 _ rfl
    have h2 := hf 2 _ rfl
    simp [cells3, cells52] at h0 h1 h2
    obtain ⟨a, b, c, e0, r0⟩ := trod52 h0
    obtain ⟨d, e1, r1⟩ := trod3 h1
    obtain ⟨f, e2, r2⟩ := trod3 h2
    simp at e0 e1 e2
    refine ⟨⟨a, b, c, d, f⟩, by rw [e0.1, e0.2.1, e0.2.2, e1, e2]; rfl, ?_⟩
    intro n hn
    simp [Qn.ints] at hn
    rcases hn with rfl | rfl | rfl | rfl | rfl
    · exact r0.1
    · exact r0.2.1
    · exact r0.2.2
    · exact r1
    · exact r2
set_option maxRecDepth 100000 in
theorem trod75 {fuel : Nat} {cs : List Value} {x : DataW H × List MemPlace} (h : DataW.trod enc Try.prog w base spare held fuel 75 cs = some x) : ∃ a : Ans, cs = ac a ∧ a.ok := by
  obtain ⟨xs, n, _, rfl, hl, hlen, hf⟩ := DataW.trod_struct Try.underlying75 h
  rw [cells75] at hl
  match cs, hl, xs, hlen with
  | [c0, c1, c2, c3, c4, c5], _, [y0, y1], _ =>
    have h0 := hf 0 _ rfl
    have h1 := hf 1 _ rfl
    simp [cells3, cells66] at h0 h1
    obtain ⟨q, e0, r0⟩ := trod66 h0
    obtain ⟨d, e1, r1⟩ := trod3 h1
    simp [iv, Qn.ints] at e0 e1
    exact ⟨⟨q, d⟩, by rw [e0.1, e0.2.1, e0.2.2.1, e0.2.2.2.1, e0.2.2.2.2, e1]; rfl, r0, r1⟩
set_option maxRecDepth 100000 in
theorem trod56 {fuel : Nat} {cs : List Value} {x : DataW H × List MemPlace} (h : DataW.trod enc Try.prog w base spare held fuel 56 cs = some x) : ∃ a : Ev, cs = ec a ∧ a.ok := by
  obtain ⟨xs, n, _, rfl, hl, hlen, hf⟩ := DataW.trod_struct Try.underlying56 h
  rw [cells56] at hl
  match cs, hl, xs, hlen with
  | [c0, c1, c2, c3, c4, c5, c6, c7], _, [y0, y1, y2, y3], _ =>
    have h0 := hf 0 _ rfl
    have h1 := hf 1 _ rfl
    have h2 := hf 2 _ rfl
    have h3 := hf 3 _ rfl
    simp [cells3, cells54] at h0 h1 h2 h3
    obtain ⟨n0, e0, r0⟩ := trod3 h0
    obtain ⟨n1, e1, r1⟩ := trod3 h1
    obtain ⟨n2, e2, r2⟩ := trod3 h2
    obtain ⟨a, b, c, d, f, e3, r3⟩ := trod54 h3
    simp at e0 e1 e2 e3
    refine ⟨⟨n0, n1, n2, ⟨a, b, c, d, f⟩⟩, by rw [e0, e1, e2, e3.1, e3.2.1, e3.2.2.1, e3.2.2.2.1, e3.2.2.2.2]; rfl, ?_⟩
    intro n hn
    simp [Ev.ints] at hn
    rcases hn with rfl | rfl | rfl | rfl | rfl | rfl | rfl | rfl
    · exact r0
    · exact r1
    · exact r2
    · exact r3.1
    · exact r3.2.1
    · exact r3.2.2.1
    · exact r3.2.2.2.1
    · exact r3.2.2.2.2

/-- A slice of elements whose cells read as 'f x'. -/
theorem open_flat {α : Type} {f : α → List Value} {ok : α → Prop} {k : Nat} (hf : ∀ x, (f x).length = k) {t e : TypeId} (ht : Try.prog.underlying t = some (.slice e)) (hc : Try.prog.cellsOf e = k)
    (he : ∀ fuel cs (x : DataW H × List MemPlace), DataW.trod enc Try.prog w base spare held fuel e cs = some x → ∃ a, cs = f a ∧ ok a)
    {fuel : Nat} {cs : List Value} {x : DataW H × List MemPlace} (h : DataW.trod enc Try.prog w base spare held fuel t cs = some x) :
    ∃ (a : Option Addr) (c : Nat) (l : List α), cs = [.slice a l.length c] ∧ l.length ≤ c ∧ c ≤ maxLen ∧ Flat w k (.slice a l.length c) l.length (l.flatMap f) ∧ ∀ a ∈ l, ok a := by
  rcases open_slice ht h with ⟨h0, _⟩ | ⟨a, len, cap, m, n, D, Pl, rfl, hb, hl, hm, hmm, _, hi⟩
  · exact ⟨none, 0, [], h0, Nat.le_refl _, Nat.zero_le _, Flat.nil _ _ _ _, fun a ha => by simp at ha⟩
  · have hle : len ≤ m := by rw [hmm]; split <;> omega
    have key : ∀ j, j ≤ len → ∃ l : List α, l.length = j ∧ (∀ a ∈ l, ok a) ∧ ∀ i u, (l.flatMap f)[i]? = some u → w.cell? (a.add i) = some u := by
      intro j
      induction j with
      | zero => intro _; exact ⟨[], rfl, fun a ha => by simp at ha, fun i u hu => by simp at hu⟩
      | succ j ih =>
        intro hj
        obtain ⟨l, h1, h2, h3⟩ := ih (by omega)
        obtain ⟨cs', hc1, hc2⟩ := hi j (by omega)
        obtain ⟨y, rfl, hy⟩ := he _ _ _ hc2
        obtain ⟨_, _, hat⟩ := World.cells?_some hc1
        refine ⟨l ++ [y], by simp [h1], fun z hz => ?_, fun i u hu => ?_⟩
        · rcases List.mem_append.1 hz with hz | hz
          · exact h2 z hz
          · simp at hz
            subst hz
            exact hy
        · rw [List.flatMap_append] at hu
          have hL : (l.flatMap f).length = j * k := by rw [length_flat f k hf, h1]
          by_cases hi : i < j * k
          · rw [List.getElem?_append_left (by omega)] at hu
            exact h3 i u hu
          · rw [List.getElem?_append_right (by omega), hL] at hu
            simp only [List.flatMap_cons, List.flatMap_nil, List.append_nil] at hu
            have hlt : i - j * k < k := by
              have := (List.getElem?_eq_some_iff.1 hu).1
              rw [hf] at this
              exact this
            have := hat (i - j * k) (by rw [hc]; exact hlt)
            rw [Go.Deep.add_add, hc, show j * k + (i - j * k) = i by omega] at this
            rw [this]
            exact hu
    obtain ⟨l, h1, h2, h3⟩ := key len (Nat.le_refl _)
    subst h1
    refine ⟨some a, cap, l, rfl, hl, hm, ?_, h2⟩
    have hmx : l.length ≤ 9223372036854775807 := by unfold maxLen at hm; omega
    refine ⟨length_flat f k hf l, hmx, some a, cap, rfl, fun j u hu => ?_⟩
    have h0 := h3 j u hu
    obtain ⟨b, o, q⟩ := a
    have hpos : 0 < (l.flatMap f).length := by have := (List.getElem?_eq_some_iff.1 hu).1; omega
    have hq : q = none := by simpa [Addr.add] using World.cell?_spot (h3 0 _ (List.getElem?_eq_getElem hpos))
    subst hq
    exact ⟨b, o, rfl, by rw [← Go.WideShapes.add_plain]; exact h0⟩
set_option maxRecDepth 100000 in
/-- A tape that came in, by value. -/
theorem tape_row {r : Reach} {b0 : Nat} {v : Value} {d : DataW H} {p : List MemPlace} (hv : Value.okWide Try.prog w r b0 26 v) (h : DataW.Trod enc Try.prog w base spare held 26 v d p) :
    ∃ (k : Option Addr) (c : Nat) (k2 : Option Addr) (c2 : Nat) (evs : List Ev) (l : List Ans), v = tv k c k2 c2 evs l ∧ TapeIn w k c k2 c2 evs l ∧ evs.length ≤ c ∧ l.length ≤ c2 ∧ (∀ e ∈ evs, e.ok) ∧ ∀ a ∈ l, a.ok := by
  obtain ⟨v0, v1, y0, y1, n, rfl, _, _, h0, h1⟩ := open_agg2 Try.underlying26 (by kernel_rfl) cells26 hv h
  obtain ⟨k, c, evs, e0, a1, a2, a3, a4⟩ := open_flat ec_length Try.underlying23 cells56 (fun _ _ _ h => trod56 h) h0
  obtain ⟨k2, c2, l, e1, b1, b2, b3, b4⟩ := open_flat ac_length Try.underlying24 cells75 (fun _ _ _ h => trod75 h) h1
  simp at e0 e1
  subst e0 e1
  exact ⟨k, c, k2, c2, evs, l, rfl, ⟨a3, b3⟩, a1, b1, a4, b4⟩
set_option maxRecDepth 100000 in
/-- A question that came in, by value. -/
theorem quest_row {r : Reach} {b0 : Nat} {v : Value} {d : DataW H} {p : List MemPlace} (hv : Value.okWide Try.prog w r b0 66 v) (h : DataW.Trod enc Try.prog w base spare held 66 v d p) : ∃ q : Qn, v = qv q ∧ q.ok := by
  obtain ⟨cs, rfl, hsz⟩ := okWide_struct Try.underlying66 hv
  obtain ⟨fuel, hf⟩ := h
  obtain ⟨q, e, hq⟩ := trod66 hf
  refine ⟨q, ?_, hq⟩
  obtain ⟨l⟩ := cs
  have e2 : l = iv q.ints := by simpa [Value.cells] using e
  rw [e2]
  rfl
end
end Go.Proofs.Ytjdhcdbjfbhogaa
