import Derived.Test.YtljmonfobefiiaaGreatDoorQTG11
import Derived.Test.YtljmonfobefiiaaGreatDoorQTF2
import Derived.Test.YtljmonfobefiiaaGreatDoorQTX4
/- The reference's wire: Uint, Zigzag, Int, numbers. -/
namespace Go.Proofs.YtljmonfobefiiaaGreatDoor
open Go.RowKit

/-- A row of bytes of the call's own. -/
def Bytes (w : World) (B : Nat) (v : Value) (xs : List Int) : Prop := w.ownsRow B 5 1 v xs.length (bv xs)
theorem Bytes.push {w : World} {B N : Nat} {xs : List Int} {u : Value} {x : Int} (hN : N = xs.length) (h : w.ownsRow B 5 1 u (N + 1) (bv xs ++ #[.int .u8 x].toList)) : Bytes w B u (xs ++ [x]) := by
  subst hN
  unfold Bytes
  simpa [bv] using h
theorem Bytes.join {w : World} {B N M : Nat} {xs ys : List Int} {u : Value} (hN : N = xs.length) (hM : M = ys.length) (h : w.ownsRow B 5 1 u (N + M) (bv xs ++ bv ys)) : Bytes w B u (xs ++ ys) := by
  subst hN hM
  unfold Bytes
  rw [List.length_append, bv_append]
  exact h
theorem Bytes.below {w w' : World} {B : Nat} {v : Value} {xs : List Int} (h : Bytes w B v xs) (hb : Below w.heap.size w w') : Bytes w' B v xs := owns_below h hb
theorem Bytes.open {w : World} {B : Nat} {v : Value} {xs : List Int} (h : Bytes w B v xs) : ∃ k c, v = .slice k xs.length c := by
  obtain ⟨k, c, e, _⟩ := (Flat.of_owns h).open
  exact ⟨k, c, e⟩
theorem Bytes.open' {w : World} {B : Nat} {v : Value} {xs : List Int} (h : Bytes w B v xs) : ∃ k N c, v = .slice k N c ∧ Hid (N = xs.length) := by
  obtain ⟨k, c, e⟩ := h.open
  exact ⟨k, _, c, e, Lib.hid rfl⟩
theorem Bytes.own {w : World} {B N : Nat} {v : Value} {xs : List Int} (h : Bytes w B v xs) (hN : Hid (N = xs.length)) : w.ownsRow B 5 1 v N (bv xs) := by
  rw [hN.out]; exact h
theorem Bytes.nil (w : World) (B : Nat) : Bytes w B (.slice none 0 0) [] := World.ownsRow_nil _ _ _ _
theorem Bytes.weaken {w : World} {A B : Nat} {v : Value} {xs : List Int} (h : Bytes w B v xs) (hA : A ≤ B) : Bytes w A v xs := owns_weaken h hA

end Go.Proofs.YtljmonfobefiiaaGreatDoor

/- The reference's Encode. -/
namespace Go.Proofs.YtljmonfobefiiaaGreatDoor
open Go.RowKit

end Go.Proofs.YtljmonfobefiiaaGreatDoor

/- The reference's Without. -/
namespace Go.Proofs.YtljmonfobefiiaaGreatDoor
open Go.RowKit

theorem dropAt_take {α : Type} (ps : List Int) (l : List α) (i k : Nat) (h : k < l.length) : dropAt ps i (l.take (k + 1)) = dropAt ps i (l.take k) ++ if ((i + k : Nat) : Int) ∈ ps then [] else [l[k]] := by
  unfold dropAt
  rw [dropP_take _ l i k h]
  by_cases e : ((i + k : Nat) : Int) ∈ ps <;> simp
theorem dropAt_yes {α : Type} {ps : List Int} {l : List α} {i k : Nat} (h : k < l.length) (e : ((i + k : Nat) : Int) ∈ ps) : dropAt ps i (l.take (k + 1)) = dropAt ps i (l.take k) := by
  rw [dropAt_take ps l i k h, if_pos e, List.append_nil]
theorem dropAt_no {α : Type} {ps : List Int} {l : List α} {i k : Nat} (h : k < l.length) (e : ¬ ((i + k : Nat) : Int) ∈ ps) : dropAt ps i (l.take (k + 1)) = dropAt ps i (l.take k) ++ [l[k]] := by
  rw [dropAt_take ps l i k h, if_neg e]

end Go.Proofs.YtljmonfobefiiaaGreatDoor
