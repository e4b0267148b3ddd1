import Derived.Test.YtljmonfobefiiaaGreatDoorUTG11
import Derived.Test.YtljmonfobefiiaaGreatDoorUTF2
import Derived.Test.YtljmonfobefiiaaGreatDoorUTX4
/- The reference's wire: Uint, Zigzag, Int, numbers. -/
namespace Go.Proofs.YtljmonfobefiiaaGreatDoor
open Go.RowKit

/-- A row of bytes of the call's own. -/
def Bytes (w : World) (B : Nat) (v : Value) (xs : List Int) : Prop := w.ownsRow B 5 1 v xs.length (bv xs)
theorem Bytes.join {w : World} {B N M : Nat} {xs ys : List Int} {u : Value} (hN : N = xs.length) (hM : M = ys.length) (h : w.ownsRow B 5 1 u (N + M) (bv xs ++ bv ys)) : Bytes w B u (xs ++ ys) := by
  subst hN hM
  unfold Bytes
  rw [List.length_append, bv_append]
  exact h
theorem Bytes.below {w w' : World} {B : Nat} {v : Value} {xs : List Int} (h : Bytes w B v xs) (hb : Below w.heap.size w w') : Bytes w' B v xs := owns_below h hb
theorem Bytes.open {w : World} {B : Nat} {v : Value} {xs : List Int} (h : Bytes w B v xs) : ∃ k c, v = .slice k xs.length c := by
  obtain ⟨k, c, e, _⟩ := (Flat.of_owns h).open
  exact ⟨k, c, e⟩
theorem Bytes.own {w : World} {B N : Nat} {v : Value} {xs : List Int} (h : Bytes w B v xs) (hN : Hid (N = xs.length)) : w.ownsRow B 5 1 v N (bv xs) := by
  rw [hN.out]; exact h
theorem Bytes.nil (w : World) (B : Nat) : Bytes w B (.slice none 0 0) [] := World.ownsRow_nil _ _ _ _
end Go.Proofs.YtljmonfobefiiaaGreatDoor

/- The reference's Encode. -/
namespace Go.Proofs.YtljmonfobefiiaaGreatDoor
open Go.RowKit

end Go.Proofs.YtljmonfobefiiaaGreatDoor

/- The reference's Without. -/
namespace Go.Proofs.YtljmonfobefiiaaGreatDoor
open Go.RowKit

end Go.Proofs.YtljmonfobefiiaaGreatDoor
