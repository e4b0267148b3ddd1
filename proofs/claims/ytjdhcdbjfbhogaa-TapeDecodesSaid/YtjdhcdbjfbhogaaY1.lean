/- The reference: Ints. Rows of a tape that are the call's own; Normal, its rows said whole; equal tapes compared. -/
import Derived.Test.YtjdhcdbjfbhogaaQ2
import Derived.Test.YtjdhcdbjfbhogaaQ5
namespace Go.Proofs.Ytjdhcdbjfbhogaa
open Go.RowKit

set_option maxHeartbeats 2000000 in
set_option maxRecDepth 100000 in
theorem intsC (l : List Int) (k : Option Addr) (c : Nat) (w : World) (h : IntSl w (.slice k l.length c) l) (hc : l.length ≤ c) :
    Calls Try.prog 28 #[.slice k l.length c, I 20] w fun e w' => ∃ k' c', e = .returned (.slice k' (l.take 20).length c') ∧ w'.ownsRow w.heap.size 3 1 (.slice k' (l.take 20).length c') (l.take 20).length (iv (l.take 20)) ∧ IntSl w' (.slice k' (l.take 20).length c') (l.take 20) ∧ Below w.heap.size w w' := by
  have hml := Flat.open h
  obtain ⟨_, _, _, hml⟩ := hml
  have hm : (min (l.length : Int) 20).toNat = (l.take 20).length := by rw [List.length_take]; omega
  have hsrc : Flat w 1 (.slice k (min (l.length : Int) 20).toNat c) (l.take 20).length (iv (l.take 20)) := by
    have h1 := Flat.takeO (c' := c) (show Flat w 1 (.slice k l.length c) l.length (iv l) from h) (j := (l.take 20).length) (by rw [List.length_take]; omega)
    rw [hm]
    have e : (iv l).take ((l.take 20).length * 1) = iv (l.take 20) := by
      unfold iv
      rw [Nat.mul_one, List.length_take, ← List.map_take, ← List.take_eq_take_min]
    rw [← e]
    exact h1
  have hl8 : (l.take 20).length ≤ 20 := by rw [List.length_take]; omega
  have Hs := Lib.hid hsrc
  obtain ⟨n, hn⟩ : ∃ n, n = l.length := ⟨_, rfl⟩
  rw [← hn] at Hs hc hml ⊢
  generalize l.take 20 = lt at Hs hl8 ⊢
  clear hn hsrc hm h
  go_enter Try.func28, Try.ntmps28
  go_wp2_with (at_builtin; go_must (refine wpList_appG rfl _ _ 22 rfl 3 _ 1 8 Try.underlying22 info3 rfl (by omega) (by omega) w.heap.size (.slice none 0 0) 0 [] rfl (World.ownsRow_nil _ _ _ _) (.slice k (min (n : Int) 20).toNat c) rfl lt.length (iv lt) Hs.out (iv_one lt) (by omega) (Nat.le_refl _) ?_); intro u w1 hown hgr hB1)
  go_ret
  rw [Nat.zero_add, List.nil_append] at hown
  have hf := Flat.of_owns hown
  obtain ⟨k', c', rfl, _⟩ := hf.open
  exact ⟨_, _, rfl, hown, hf, hB1⟩

theorem TapeIn.owns {w : World} {B B' : Nat} {k k2 : Option Addr} {c c2 : Nat} {evs : List Ev} {l : List Ans} (h1 : w.ownsRow B 56 8 (.slice k evs.length c) evs.length (evs.flatMap ec)) (h2 : w.ownsRow B' 75 6 (.slice k2 l.length c2) l.length (l.flatMap ac)) : TapeIn w k c k2 c2 evs l := ⟨Flat.of_owns h1, Flat.of_owns h2⟩

theorem own_ne {w : World} {B n k : Nat} {e : TypeId} {v : Value} {xs : List Value} (h : w.ownsRow B e k v n xs) {j : Nat} (hj : j < B) : v.ownBlock = none ∨ v.ownBlock ≠ some j := by
  cases hv : v.ownBlock with
  | none => exact .inl rfl
  | some g => exact .inr (fun e => by have := (h.lt g hv).1; simp at e; omega)

theorem normR (evs : List Ev) (l : List Ans) (k : Option Addr) (c : Nat) (k2 : Option Addr) (c2 : Nat) (w : World) (h : TapeIn w k c k2 c2 evs l) (hok : ∀ a ∈ l, a.ok) (hle : evs.length ≤ 1000000) (hl : l.length ≤ 1000000) :
    Calls Try.prog 26 #[tv k c k2 c2 evs l] w fun e w' => ∃ k c k2 c2, e = .returned (tv k c k2 c2 evs (normA l)) ∧ w'.ownsRow w.heap.size 56 8 (.slice k evs.length c) evs.length (evs.flatMap ec) ∧ w'.ownsRow w.heap.size 75 6 (.slice k2 (normA l).length c2) (normA l).length ((normA l).flatMap ac) ∧ Below w.heap.size w w' := by
  refine (normalF evs l _ _ w h.1 h.2 hok hle hl).mono ?_
  rintro e w' ⟨ue, ua, rfl, h1, h2, h3⟩
  obtain ⟨k, c, k2, c2, rfl, rfl, h⟩ := TapeIn.of h1 h2
  exact ⟨k, c, k2, c2, rfl, h1, h2, h3⟩
theorem sameTT (e1 : List Ev) (l1 : List Ans) (k : Option Addr) (c : Nat) (k2 : Option Addr) (c2 : Nat) (k3 : Option Addr) (c3 : Nat) (k4 : Option Addr) (c4 : Nat) (w : World) (h1 : TapeIn w k c k2 c2 e1 l1) (h2 : TapeIn w k3 c3 k4 c4 e1 l1) :
    Calls Try.prog 22 #[tv k c k2 c2 e1 l1, tv k3 c3 k4 c4 e1 l1] w fun e w' => e = .returned (.bool true) ∧ Below w.heap.size w w' := by
  refine (sameT e1 e1 l1 l1 k c k2 c2 k3 c3 k4 c4 w h1 h2).mono ?_
  rintro e w' ⟨rfl, h⟩
  exact ⟨by simp, h⟩
end Go.Proofs.Ytjdhcdbjfbhogaa
