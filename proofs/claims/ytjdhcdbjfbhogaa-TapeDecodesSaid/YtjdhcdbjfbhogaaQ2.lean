/- With and Normal, their results opened; boxes of tapes. -/
import Derived.Test.YtjdhcdbjfbhogaaQ1
import Derived.Test.YtjdhcdbjfbhogaaG13
import Derived.Test.YtjdhcdbjfbhogaaG15
import Derived.Test.YtjdhcdbjfbhogaaG17
namespace Go.Proofs.Ytjdhcdbjfbhogaa
open Go.RowKit Go.Maps

/-- A tape in memory, its rows opened. -/
def TapeIn (w : World) (k : Option Addr) (c : Nat) (k2 : Option Addr) (c2 : Nat) (evs : List Ev) (l : List Ans) : Prop := EvSl w (.slice k evs.length c) evs ∧ AnsSl w (.slice k2 l.length c2) l
abbrev tv (k : Option Addr) (c : Nat) (k2 : Option Addr) (c2 : Nat) (evs : List Ev) (l : List Ans) : Value := .agg #[.slice k evs.length c, .slice k2 l.length c2]
abbrev qv (q : Qn) : Value := .agg #[I q.node, I q.handler, I q.count, I q.kind, I q.index]
theorem TapeIn.kept {w w' : World} {k : Option Addr} {c : Nat} {k2 : Option Addr} {c2 : Nat} {evs : List Ev} {l : List Ans} (h : TapeIn w k c k2 c2 evs l) (hb : Below w.heap.size w w') : TapeIn w' k c k2 c2 evs l := ⟨h.1.kept hb (Nat.le_refl _), h.2.kept hb (Nat.le_refl _)⟩
theorem TapeIn.of {w : World} {B B' : Nat} {ue ua : Value} {evs : List Ev} {l : List Ans} (h1 : w.ownsRow B 56 8 ue evs.length (evs.flatMap ec)) (h2 : w.ownsRow B' 75 6 ua l.length (l.flatMap ac)) : ∃ k c k2 c2, ue = .slice k evs.length c ∧ ua = .slice k2 l.length c2 ∧ TapeIn w k c k2 c2 evs l := by
  obtain ⟨k, c, rfl, _⟩ := (Flat.of_owns h1).open
  obtain ⟨k2, c2, rfl, _⟩ := (Flat.of_owns h2).open
  exact ⟨k, c, k2, c2, rfl, rfl, Flat.of_owns h1, Flat.of_owns h2⟩
theorem tapeT (l m : List Int) (vl vm : Value) (w : World) (hl : IntSl w vl l) (hm : IntSl w vm m) (okl : ∀ n ∈ l, InI64 n) (okm : ∀ n ∈ m, InI64 n) :
    Calls Try.prog 12 #[vl, vm] w fun e w' => ∃ k c k2 c2, e = .returned (tv k c k2 c2 (tapeEv l) (tapeAns m)) ∧ TapeIn w' k c k2 c2 (tapeEv l) (tapeAns m) ∧ Below w.heap.size w w' := by
  refine (tapeC l m vl vm w hl hm okl okm).mono ?_
  rintro e w' ⟨ue, ua, rfl, h1, h2, h3⟩
  obtain ⟨k, c, k2, c2, rfl, rfl, h⟩ := TapeIn.of h1 h2
  exact ⟨k, c, k2, c2, rfl, h, h3⟩
theorem withT (evs : List Ev) (l : List Ans) (k : Option Addr) (c : Nat) (k2 : Option Addr) (c2 : Nat) (q : Qn) (n : Int) (w : World) (h : TapeIn w k c k2 c2 evs l) (hok : ∀ a ∈ l, a.ok) (hq : q.ok) (hn : InI64 n) (hle : evs.length ≤ 1000000) (hl : l.length ≤ 100000) :
    Calls Try.prog 38 #[tv k c k2 c2 evs l, qv q, I n] w fun e w' => ∃ k c k2 c2, e = .returned (tv k c k2 c2 evs (normA (putL l q n))) ∧ TapeIn w' k c k2 c2 evs (normA (putL l q n)) ∧ Below w.heap.size w w' := by
  refine (withF evs l _ _ q n w h.1 h.2 (fun a ha => ?_) hle hl).mono ?_
  · rcases List.mem_append.1 ha with ha | ha
    · exact hok a ha
    · simp at ha
      subst ha
      exact ⟨hq, hn⟩
  · rintro e w' ⟨ue, ua, rfl, h1, h2, h3⟩
    obtain ⟨k, c, k2, c2, rfl, rfl, h⟩ := TapeIn.of h1 h2
    exact ⟨k, c, k2, c2, rfl, h, h3⟩
theorem normT_ (evs : List Ev) (l : List Ans) (k : Option Addr) (c : Nat) (k2 : Option Addr) (c2 : Nat) (w : World) (h : TapeIn w k c k2 c2 evs l) (hok : ∀ a ∈ l, a.ok) (hle : evs.length ≤ 1000000) (hl : l.length ≤ 1000000) :
    Calls Try.prog 26 #[tv k c k2 c2 evs l] w fun e w' => ∃ k c k2 c2, e = .returned (tv k c k2 c2 evs (normA l)) ∧ TapeIn w' k c k2 c2 evs (normA l) ∧ Below w.heap.size w w' := by
  refine (normalF evs l _ _ w h.1 h.2 hok hle hl).mono ?_
  rintro e w' ⟨ue, ua, rfl, h1, h2, h3⟩
  obtain ⟨k, c, k2, c2, rfl, rfl, h⟩ := TapeIn.of h1 h2
  exact ⟨k, c, k2, c2, rfl, h, h3⟩
theorem getT (evs : List Ev) (l : List Ans) (k : Option Addr) (c : Nat) (k2 : Option Addr) (c2 : Nat) (q : Qn) (w : World) (h : TapeIn w k c k2 c2 evs l) (hok : ∀ a ∈ l, a.ok) (hq : q.ok) (hl : l.length ≤ 1000000) :
    Calls Try.prog 36 #[tv k c k2 c2 evs l, qv q] w fun e w' => e = .returned (I (getA l q)) ∧ Below w.heap.size w w' := getF l _ _ q w h.2 hok hq hl
theorem partsT (evs : List Ev) (l : List Ans) (k : Option Addr) (c : Nat) (k2 : Option Addr) (c2 : Nat) (w : World) (h : TapeIn w k c k2 c2 evs l) (hok : ∀ a ∈ l, a.ok) (hle : evs.length ≤ 1000000) (hl : l.length ≤ 1000000) :
    Calls Try.prog 33 #[tv k c k2 c2 evs l] w fun e w' => e = .returned (I ((evs.length + (normA l).length : Nat) : Int)) ∧ Below w.heap.size w w' := partsF evs l _ _ w h.1 h.2 hok hle hl
theorem equalT (e1 e2 : List Ev) (l1 l2 : List Ans) (k : Option Addr) (c : Nat) (k2 : Option Addr) (c2 : Nat) (k3 : Option Addr) (c3 : Nat) (k4 : Option Addr) (c4 : Nat) (w : World) (h1 : TapeIn w k c k2 c2 e1 l1) (h2 : TapeIn w k3 c3 k4 c4 e2 l2)
    (ok1 : ∀ a ∈ l1, a.ok) (ok2 : ∀ a ∈ l2, a.ok) (n1 : l1.length ≤ 1000000) (n2 : l2.length ≤ 1000000) :
    Calls Try.prog 34 #[tv k c k2 c2 e1 l1, tv k3 c3 k4 c4 e2 l2] w fun e w' => e = .returned (.bool (decide (e1 = e2) && decide (normA l1 = normA l2))) ∧ Below w.heap.size w w' := equalF e1 e2 l1 l2 _ _ _ _ w h1.1 h1.2 h2.1 h2.2 ok1 ok2 n1 n2
theorem sameT (e1 e2 : List Ev) (l1 l2 : List Ans) (k : Option Addr) (c : Nat) (k2 : Option Addr) (c2 : Nat) (k3 : Option Addr) (c3 : Nat) (k4 : Option Addr) (c4 : Nat) (w : World) (h1 : TapeIn w k c k2 c2 e1 l1) (h2 : TapeIn w k3 c3 k4 c4 e2 l2) :
    Calls Try.prog 22 #[tv k c k2 c2 e1 l1, tv k3 c3 k4 c4 e2 l2] w fun e w' => e = .returned (.bool (decide (e1 = e2) && decide (l1 = l2))) ∧ Below w.heap.size w w' := sameF e1 e2 l1 l2 _ _ _ _ w h1.1 h1.2 h2.1 h2.2
theorem putL_ok {l : List Ans} {q : Qn} {n : Int} (h : ∀ a ∈ l, a.ok) (hq : q.ok) (hn : InI64 n) : ∀ a ∈ normA (putL l q n), a.ok := normA_ok (fun a ha => by
  rcases List.mem_append.1 ha with ha | ha
  · exact h a ha
  · simp at ha
    subst ha
    exact ⟨hq, hn⟩)
theorem putL_length (l : List Ans) (q : Qn) (n : Int) : (normA (putL l q n)).length ≤ l.length + 1 := by
  have := normA_length (putL l q n)
  simpa [putL] using this
/-- A new box. -/
theorem boxed (w : World) (cs : Array Value) (t : TypeId) : Blk (w.alloc (.cells cs t)) w.heap.size cs ∧ Below w.heap.size w (w.alloc (.cells cs t)) ∧ (w.alloc (.cells cs t)).heap.size = w.heap.size + 1 :=
  ⟨Blk.new _ _ _, (Below.refl _ _).alloc (Nat.le_refl _) _, World.size_alloc _ _⟩

end Go.Proofs.Ytjdhcdbjfbhogaa
