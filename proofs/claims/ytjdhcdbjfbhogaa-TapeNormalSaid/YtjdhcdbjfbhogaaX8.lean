/- The reference: Ints. Without, its results opened. -/
import Derived.Test.YtjdhcdbjfbhogaaX6
import Derived.Test.YtjdhcdbjfbhogaaX7
import Derived.Test.YtjdhcdbjfbhogaaQ2
import Derived.Test.YtjdhcdbjfbhogaaQ5
namespace Go.Proofs.Ytjdhcdbjfbhogaa
open Go.RowKit

set_option maxHeartbeats 2000000 in
set_option maxRecDepth 100000 in
theorem intsC (l : List Int) (k : Option Addr) (c : Nat) (w : World) (h : IntSl w (.slice k l.length c) l) (hc : l.length ≤ c) :
    Calls Try.prog 28 #[.slice k l.length c, I 20] w fun e w' => ∃ k' c', e = .returned (.slice k' (l.take 20).length c') ∧ w'.ownsRow w.heap.size 3 1 (.slice k' (l.take 20).length c') (l.take 20).length (iv (l.take 20)) ∧ IntSl w' (.slice k' (l.take 20).length c') (l.take 20) ∧ Below w.heap.size w w' := by
  have hml := Flat.open h
  obtain ⟨_, _, _, hml⟩ := hml
  have hm : (min (l.length : Int) 20).toNat = (l.take 20).length := by rw [List.length_take]; omega
  have hsrc : Flat w 1 (.slice k (min (l.length : Int) 20).toNat c) (l.take 20).length (iv (l.take 20)) := by
    have h1 := Flat.takeO (c' := c) (show Flat w 1 (.slice k l.length c) l.length (iv l) from h) (j := (l.take 20).length) (by rw [List.length_take]; omega)
    rw [hm]
    have e : (iv l).take ((l.take 20).length * 1) = iv (l.take 20) := by
      unfold iv
      rw [Nat.mul_one, List.length_take, ← List.map_take, ← List.take_eq_take_min]
    rw [← e]
    exact h1
  have hl8 : (l.take 20).length ≤ 20 := by rw [List.length_take]; omega
  have Hs := Lib.hid hsrc
  obtain ⟨n, hn⟩ : ∃ n, n = l.length := ⟨_, rfl⟩
  rw [← hn] at Hs hc hml ⊢
  generalize l.take 20 = lt at Hs hl8 ⊢
  clear hn hsrc hm h
  go_enter Try.func28, Try.ntmps28
  go_wp2_with (at_builtin; go_must (refine wpList_appG rfl _ _ 22 rfl 3 _ 1 8 Try.underlying22 info3 rfl (by omega) (by omega) w.heap.size (.slice none 0 0) 0 [] rfl (World.ownsRow_nil _ _ _ _) (.slice k (min (n : Int) 20).toNat c) rfl lt.length (iv lt) Hs.out (iv_one lt) (by omega) (Nat.le_refl _) ?_); intro u w1 hown hgr hB1)
  go_ret
  rw [Nat.zero_add, List.nil_append] at hown
  have hf := Flat.of_owns hown
  obtain ⟨k', c', rfl, _⟩ := hf.open
  exact ⟨_, _, rfl, hown, hf, hB1⟩

theorem withoutT (evs : List Ev) (l : List Ans) (ps : List Int) (k : Option Addr) (c : Nat) (k2 : Option Addr) (c2 : Nat) (vp : Value) (w : World) (h : TapeIn w k c k2 c2 evs l) (hp : IntSl w vp ps) (hok : ∀ a ∈ l, a.ok) (hle : evs.length ≤ 1000000) (hl : l.length ≤ 1000000) :
    Calls Try.prog 40 #[tv k c k2 c2 evs l, vp] w fun e w' => ∃ k c k2 c2, e = .returned (tv k c k2 c2 (dropAt ps 0 evs) (dropAt ps evs.length (normA l))) ∧
      w'.ownsRow w.heap.size 56 8 (.slice k (dropAt ps 0 evs).length c) (dropAt ps 0 evs).length ((dropAt ps 0 evs).flatMap ec) ∧ w'.ownsRow w.heap.size 75 6 (.slice k2 (dropAt ps evs.length (normA l)).length c2) (dropAt ps evs.length (normA l)).length ((dropAt ps evs.length (normA l)).flatMap ac) ∧ Below w.heap.size w w' := by
  refine (withoutF evs l ps _ _ vp w h.1 h.2 hp hok hle hl).mono ?_
  rintro e w' ⟨ue, ua, rfl, h1, h2, h3⟩
  obtain ⟨k, c, k2, c2, rfl, rfl, h⟩ := TapeIn.of h1 h2
  exact ⟨k, c, k2, c2, rfl, h1, h2, h3⟩
theorem refWithoutT (evs : List Ev) (l : List Ans) (ps : List Int) (k : Option Addr) (c : Nat) (k2 : Option Addr) (c2 : Nat) (vp : Value) (w : World) (h : TapeIn w k c k2 c2 evs l) (hp : IntSl w vp ps) (hle : evs.length ≤ 1000000) (hl : l.length ≤ 1000000) :
    Calls Try.prog 41 #[tv k c k2 c2 evs l, vp] w fun e w' => ∃ k c k2 c2, e = .returned (tv k c k2 c2 (dropAt ps 0 evs) (dropAt ps evs.length (normA l))) ∧ TapeIn w' k c k2 c2 (dropAt ps 0 evs) (dropAt ps evs.length (normA l)) ∧ Below w.heap.size w w' := by
  refine (refWithout evs l ps _ _ vp w h.1 h.2 hp hle hl).mono ?_
  rintro e w' ⟨ue, ua, rfl, h1, h2, h3⟩
  obtain ⟨k, c, k2, c2, rfl, rfl, h⟩ := TapeIn.of h1 h2
  exact ⟨k, c, k2, c2, rfl, h, h3⟩
theorem TapeIn.owns {w : World} {B B' : Nat} {k k2 : Option Addr} {c c2 : Nat} {evs : List Ev} {l : List Ans} (h1 : w.ownsRow B 56 8 (.slice k evs.length c) evs.length (evs.flatMap ec)) (h2 : w.ownsRow B' 75 6 (.slice k2 l.length c2) l.length (l.flatMap ac)) : TapeIn w k c k2 c2 evs l := ⟨Flat.of_owns h1, Flat.of_owns h2⟩

theorem own_ne {w : World} {B n k : Nat} {e : TypeId} {v : Value} {xs : List Value} (h : w.ownsRow B e k v n xs) {j : Nat} (hj : j < B) : v.ownBlock = none ∨ v.ownBlock ≠ some j := by
  cases hv : v.ownBlock with
  | none => exact .inl rfl
  | some g => exact .inr (fun e => by have := (h.lt g hv).1; simp at e; omega)

/-- The state of the loop that leaves parts out one by one: 'u' and 'all'. -/
structure PSt (few : List Int) (evs : List Ev) (r : List Ans) (gu : Nat) (wg wr : World) (kk : Nat) (v : Value) (k : Option Addr) (c : Nat) (k2 : Option Addr) (c2 : Nat) (E : List Ev) (A : List Ans) : Prop where
  own : wr.ownsRow (gu + 1) 3 1 v (downL (evs.length + r.length) kk).length (iv (downL (evs.length + r.length) kk))
  blk : Blk wr gu #[.slice k E.length c, .slice k2 A.length c2]
  sep : ∀ w', wr.grownBy w' v.ownBlock → TapeIn w' k c k2 c2 E A
  below : Below gu wg wr
  ev : E = goneP few kk 0 evs
  an : normA A = goneP few kk evs.length r
  ok : ∀ a ∈ A, a.ok
  len : A.length ≤ 100
  lenE : E.length ≤ 100
theorem PSt.same {few : List Int} {evs : List Ev} {r : List Ans} {gu : Nat} {wg wr : World} {kk : Nat} {v : Value} {k : Option Addr} {c : Nat} {k2 : Option Addr} {c2 : Nat} {E : List Ev} {A : List Ans} (h : PSt few evs r gu wg wr kk v k c k2 c2 E A) : TapeIn wr k c k2 c2 E A := h.sep wr (World.grownBy.refl _ _)
end Go.Proofs.Ytjdhcdbjfbhogaa
