import Derived.Test.YtljmonfobefiiaaGreatDoorUTG16
import Derived.Test.YtljmonfobefiiaaGreatDoorUTG11
import Derived.Test.YtljmonfobefiiaaGreatDoorUTF4
import Derived.Test.YtljmonfobefiiaaGreatDoorUTG15
/- The generator of tapes. (Printed by mkG17.py, then gen.py.) -/
namespace Go.Proofs.YtljmonfobefiiaaGreatDoor
open Go.RowKit Go.Maps

end Go.Proofs.YtljmonfobefiiaaGreatDoor

/- With and Normal, their results opened; boxes of tapes. -/
namespace Go.Proofs.YtljmonfobefiiaaGreatDoor
open Go.RowKit Go.Maps

/-- A tape in memory, its rows opened. -/
def TapeIn (w : World) (k : Option Addr) (c : Nat) (k2 : Option Addr) (c2 : Nat) (evs : List Ev) (l : List Ans) : Prop := EvSl w (.slice k evs.length c) evs ∧ AnsSl w (.slice k2 l.length c2) l
abbrev tv (k : Option Addr) (c : Nat) (k2 : Option Addr) (c2 : Nat) (evs : List Ev) (l : List Ans) : Value := .agg #[.slice k evs.length c, .slice k2 l.length c2]
theorem TapeIn.kept {w w' : World} {k : Option Addr} {c : Nat} {k2 : Option Addr} {c2 : Nat} {evs : List Ev} {l : List Ans} (h : TapeIn w k c k2 c2 evs l) (hb : Below w.heap.size w w') : TapeIn w' k c k2 c2 evs l := ⟨h.1.kept hb (Nat.le_refl _), h.2.kept hb (Nat.le_refl _)⟩
theorem TapeIn.of {w : World} {B B' : Nat} {ue ua : Value} {evs : List Ev} {l : List Ans} (h1 : w.ownsRow B 49 8 ue evs.length (evs.flatMap ec)) (h2 : w.ownsRow B' 78 6 ua l.length (l.flatMap ac)) : ∃ k c k2 c2, ue = .slice k evs.length c ∧ ua = .slice k2 l.length c2 ∧ TapeIn w k c k2 c2 evs l := by
  obtain ⟨k, c, rfl, _⟩ := (Flat.of_owns h1).open
  obtain ⟨k2, c2, rfl, _⟩ := (Flat.of_owns h2).open
  exact ⟨k, c, k2, c2, rfl, rfl, Flat.of_owns h1, Flat.of_owns h2⟩
theorem sameT (e1 e2 : List Ev) (l1 l2 : List Ans) (k : Option Addr) (c : Nat) (k2 : Option Addr) (c2 : Nat) (k3 : Option Addr) (c3 : Nat) (k4 : Option Addr) (c4 : Nat) (w : World) (h1 : TapeIn w k c k2 c2 e1 l1) (h2 : TapeIn w k3 c3 k4 c4 e2 l2) :
    Calls Tryz.prog 11 #[tv k c k2 c2 e1 l1, tv k3 c3 k4 c4 e2 l2] w fun e w' => e = .returned (.bool (decide (e1 = e2) && decide (l1 = l2))) ∧ Below w.heap.size w w' := sameF e1 e2 l1 l2 _ _ _ _ w h1.1 h1.2 h2.1 h2.2
/-- A new box. -/
theorem boxed (w : World) (cs : Array Value) (t : TypeId) : Blk (w.alloc (.cells cs t)) w.heap.size cs ∧ Below w.heap.size w (w.alloc (.cells cs t)) ∧ (w.alloc (.cells cs t)).heap.size = w.heap.size + 1 :=
  ⟨Blk.new _ _ _, (Below.refl _ _).alloc (Nat.le_refl _) _, World.size_alloc _ _⟩

end Go.Proofs.YtljmonfobefiiaaGreatDoor
