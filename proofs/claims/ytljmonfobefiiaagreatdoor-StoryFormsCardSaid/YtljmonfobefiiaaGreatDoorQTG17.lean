import Derived.Test.YtljmonfobefiiaaGreatDoorQTG16
import Derived.Test.YtljmonfobefiiaaGreatDoorQTG11
import Derived.Test.YtljmonfobefiiaaGreatDoorQTF4
import Derived.Test.YtljmonfobefiiaaGreatDoorQTG15
/- The generator of tapes. (Printed by mkG17.py, then gen.py.) -/
namespace Go.Proofs.YtljmonfobefiiaaGreatDoor
open Go.RowKit Go.Maps

def tEv (x : Int) : Ev := evOf x (x.tdiv 1000)
def tAns (x : Int) : Ans := ⟨qOf (around x 100000), around x 100000 / 96 % 5 - 1⟩
def tapeEv (l : List Int) : List Ev := (l.take 8).map tEv
def tapeAns (m : List Int) : List Ans := (m.take 10).map tAns
theorem tapeEv_ok (l : List Int) : ∀ e ∈ tapeEv l, e.ok := by
  intro e he
  obtain ⟨x, _, rfl⟩ := List.mem_map.1 he
  exact evOf_ok _ _
theorem tapeAns_ok (l : List Int) : ∀ a ∈ tapeAns l, a.ok := by
  intro e he
  obtain ⟨x, _, rfl⟩ := List.mem_map.1 he
  obtain ⟨h1, h2⟩ := around_range x 100000 (by omega)
  exact ⟨qOf_ok _, show InI64 (around x 100000 / 96 % 5 - 1) by unfold InI64; omega⟩
theorem tapeEv_length (l : List Int) : (tapeEv l).length ≤ 8 := by simp [tapeEv]; omega
theorem tapeAns_length (l : List Int) : (tapeAns l).length ≤ 10 := by simp [tapeAns]; omega
theorem map_take_snoc {α β : Type} (f : α → β) (l : List α) (k : Nat) (h : k < l.length) : (l.take (k + 1)).map f = (l.take k).map f ++ [f l[k]] := by
  rw [List.take_succ_eq_append_getElem h, List.map_append]; rfl
theorem take_stop {α : Type} {l : List α} {k n : Nat} (hk : k ≤ l.length) (hn : k ≤ n) (h : (decide (k < l.length) && decide (k < n)) = false) : l.take n = l.take k ∧ k = (l.take n).length := by
  simp at h
  by_cases h1 : k < l.length
  · have := h h1
    have e : k = n := by omega
    subst e
    exact ⟨rfl, by simp; omega⟩
  · have e : k = l.length := by omega
    subst e
    exact ⟨by rw [List.take_of_length_le hn, List.take_of_length_le (Nat.le_refl _)], by simp; omega⟩
theorem tdiv_i64 {x : Int} (h : InI64 x) : InI64 (x.tdiv 1000) := by
  unfold InI64 at h ⊢
  by_cases hx : 0 ≤ x
  · rw [Int.tdiv_eq_ediv_of_nonneg hx]
    omega
  · have e : x.tdiv 1000 = -((-x).tdiv 1000) := by rw [Int.neg_tdiv, Int.neg_neg]
    rw [e, Int.tdiv_eq_ediv_of_nonneg (by omega)]
    omega

end Go.Proofs.YtljmonfobefiiaaGreatDoor

/- With and Normal, their results opened; boxes of tapes. -/
namespace Go.Proofs.YtljmonfobefiiaaGreatDoor
open Go.RowKit Go.Maps

/-- A tape in memory, its rows opened. -/
def TapeIn (w : World) (k : Option Addr) (c : Nat) (k2 : Option Addr) (c2 : Nat) (evs : List Ev) (l : List Ans) : Prop := EvSl w (.slice k evs.length c) evs ∧ AnsSl w (.slice k2 l.length c2) l
abbrev tv (k : Option Addr) (c : Nat) (k2 : Option Addr) (c2 : Nat) (evs : List Ev) (l : List Ans) : Value := .agg #[.slice k evs.length c, .slice k2 l.length c2]
abbrev qv (q : Qn) : Value := .agg #[I q.node, I q.handler, I q.count, I q.kind, I q.index]
theorem TapeIn.kept {w w' : World} {k : Option Addr} {c : Nat} {k2 : Option Addr} {c2 : Nat} {evs : List Ev} {l : List Ans} (h : TapeIn w k c k2 c2 evs l) (hb : Below w.heap.size w w') : TapeIn w' k c k2 c2 evs l := ⟨h.1.kept hb (Nat.le_refl _), h.2.kept hb (Nat.le_refl _)⟩
theorem TapeIn.of {w : World} {B B' : Nat} {ue ua : Value} {evs : List Ev} {l : List Ans} (h1 : w.ownsRow B 49 8 ue evs.length (evs.flatMap ec)) (h2 : w.ownsRow B' 78 6 ua l.length (l.flatMap ac)) : ∃ k c k2 c2, ue = .slice k evs.length c ∧ ua = .slice k2 l.length c2 ∧ TapeIn w k c k2 c2 evs l := by
  obtain ⟨k, c, rfl, _⟩ := (Flat.of_owns h1).open
  obtain ⟨k2, c2, rfl, _⟩ := (Flat.of_owns h2).open
  exact ⟨k, c, k2, c2, rfl, rfl, Flat.of_owns h1, Flat.of_owns h2⟩
theorem normT_ (evs : List Ev) (l : List Ans) (k : Option Addr) (c : Nat) (k2 : Option Addr) (c2 : Nat) (w : World) (h : TapeIn w k c k2 c2 evs l) (hok : ∀ a ∈ l, a.ok) (hle : evs.length ≤ 1000000) (hl : l.length ≤ 1000000) :
    Calls Tryz.prog 24 #[tv k c k2 c2 evs l] w fun e w' => ∃ k c k2 c2, e = .returned (tv k c k2 c2 evs (normA l)) ∧ TapeIn w' k c k2 c2 evs (normA l) ∧ Below w.heap.size w w' := by
  refine (normalF evs l _ _ w h.1 h.2 hok hle hl).mono ?_
  rintro e w' ⟨ue, ua, rfl, h1, h2, h3⟩
  obtain ⟨k, c, k2, c2, rfl, rfl, h⟩ := TapeIn.of h1 h2
  exact ⟨k, c, k2, c2, rfl, h, h3⟩
theorem sameT (e1 e2 : List Ev) (l1 l2 : List Ans) (k : Option Addr) (c : Nat) (k2 : Option Addr) (c2 : Nat) (k3 : Option Addr) (c3 : Nat) (k4 : Option Addr) (c4 : Nat) (w : World) (h1 : TapeIn w k c k2 c2 e1 l1) (h2 : TapeIn w k3 c3 k4 c4 e2 l2) :
    Calls Tryz.prog 11 #[tv k c k2 c2 e1 l1, tv k3 c3 k4 c4 e2 l2] w fun e w' => e = .returned (.bool (decide (e1 = e2) && decide (l1 = l2))) ∧ Below w.heap.size w w' := sameF e1 e2 l1 l2 _ _ _ _ w h1.1 h1.2 h2.1 h2.2
theorem putL_ok {l : List Ans} {q : Qn} {n : Int} (h : ∀ a ∈ l, a.ok) (hq : q.ok) (hn : InI64 n) : ∀ a ∈ normA (putL l q n), a.ok := normA_ok (fun a ha => by
  rcases List.mem_append.1 ha with ha | ha
  · exact h a ha
  · simp at ha
    subst ha
    exact ⟨hq, hn⟩)
theorem putL_length (l : List Ans) (q : Qn) (n : Int) : (normA (putL l q n)).length ≤ l.length + 1 := by
  have := normA_length (putL l q n)
  simpa [putL] using this
/-- A new box. -/
theorem boxed (w : World) (cs : Array Value) (t : TypeId) : Blk (w.alloc (.cells cs t)) w.heap.size cs ∧ Below w.heap.size w (w.alloc (.cells cs t)) ∧ (w.alloc (.cells cs t)).heap.size = w.heap.size + 1 :=
  ⟨Blk.new _ _ _, (Below.refl _ _).alloc (Nat.le_refl _) _, World.size_alloc _ _⟩

end Go.Proofs.YtljmonfobefiiaaGreatDoor
