/- wire.In: Fail, Err, End, next. -/
import Derived.Test.YtjdhcdbjfbhogaaW3
namespace Go.Proofs.Ytjdhcdbjfbhogaa
open Go.RowKit

/-- The reader at p: its unread bytes, or its error. -/
def InAt (w : World) (p : Nat) : Rd → Prop
  | .ok b => ∃ a c, Blk w p #[.slice a b.length c, I 0] ∧ BySl w (.slice a b.length c) b ∧ b.length ≤ c ∧ ∀ x, a = some x → x.block < p
  | .bad e => ∃ v, Blk w p #[v, I e]
theorem Flat.grownO {w w' : World} {k n m c : Nat} {a : Option Addr} {xs : List Value} {row : Option Nat} (h : Flat w k (.slice a m c) n xs) (hg : w.grownBy w' row) (hne : ∀ x, a = some x → row ≠ some x.block) : Flat w' k (.slice a m c) n xs := by
  obtain ⟨hl, hm, a', c', hv, hr⟩ := h
  refine ⟨hl, hm, a', c', hv, fun j u hu => ?_⟩
  obtain ⟨b', o', ha, hc⟩ := hr j u hu
  simp at hv
  obtain ⟨rfl, _⟩ := hv
  exact ⟨_, _, ha, hg.cell hc (fun e => hne _ ha e.symm)⟩
theorem InAt.blk {w : World} {p : Nat} {s : Rd} (h : InAt w p s) : ∃ v, Blk w p #[v, I s.err] := by
  cases s with
  | ok b => obtain ⟨a, c, h, _⟩ := h; exact ⟨_, h⟩
  | bad e => exact h
theorem InAt.lt {w : World} {p : Nat} {s : Rd} (h : InAt w p s) : p < w.heap.size := by
  obtain ⟨v, h⟩ := h.blk
  exact h.lt
theorem InAt.below {w w' : World} {p : Nat} {s : Rd} (h : InAt w p s) (hb : Below w.heap.size w w') : InAt w' p s := by
  cases s with
  | ok b => obtain ⟨a, c, h1, h2, h3, h4⟩ := h; exact ⟨a, c, h1.kept hb h1.lt, h2.kept hb (Nat.le_refl _), h3, h4⟩
  | bad e => obtain ⟨v, h⟩ := h; exact ⟨v, h.kept hb h.lt⟩
theorem InAt.grown {w w' : World} {p : Nat} {s : Rd} (h : InAt w p s) {row : Option Nat} (hg : w.grownBy w' row) (hr : ∀ j, row = some j → p < j) : InAt w' p s := by
  cases s with
  | ok b =>
    obtain ⟨a, c, h1, h2, h3, h4⟩ := h
    exact ⟨a, c, h1.grown hg (fun e => by have := hr _ e; omega), Flat.grownO h2 hg (fun x hx e => by have := hr _ e; have := h4 x hx; omega), h3, h4⟩
  | bad e => obtain ⟨v, h⟩ := h; exact ⟨v, h.grown hg (fun e => by have := hr _ e; omega)⟩
theorem InAt.fail {w : World} {p : Nat} {s : Rd} (h : InAt w p s) (e : Int) (h0 : s.err = 0) (hf : s.fine) : InAt (w.setCell ⟨p, 1, none⟩ (I e)) p (s.fail e) := by
  cases s with
  | ok b =>
    obtain ⟨a, c, h1, _⟩ := h
    exact ⟨_, h1.set 1 (I e)⟩
  | bad x => exact absurd h0 hf.1
theorem Rd.fail_of {s : Rd} (e : Int) (h0 : s.err ≠ 0) : s.fail e = s := by
  cases s with
  | ok b => exact absurd rfl h0
  | bad x => rfl

set_option maxRecDepth 100000 in
theorem inFail (s : Rd) (p : Nat) (e : Int) (w : World) (h : InAt w p s) (hf : s.fine) :
    Calls Try.prog 52 #[.pointer (some ⟨p, 0, none⟩), I e] w fun r w' => r = .returned (.tuple #[]) ∧ InAt w' p (s.fail e) ∧ w.grownBy w' (some p) := by
  obtain ⟨v, hb⟩ := h.blk
  have c1 := hb.cell 1
  have f1 := hb.frozen 1
  have H := Lib.hid h
  have Hf := Lib.hid hf
  clear h hf hb
  by_cases h0 : s.err = 0
  · have H0 := Lib.hid h0
    rw [h0] at c1
    clear h0
    go_enter Try.func52, Try.ntmps52
    go_wp2_with fail
    refine bodyPost_end (results_none rfl _ _ _) rfl ?_
    exact ⟨rfl, H.out.fail e H0.out Hf.out, grown_set' _ _ _⟩
  · have q : ¬ s.err = 0 := h0
    go_enter Try.func52, Try.ntmps52
    go_wp2_with fail
    refine bodyPost_end (results_none rfl _ _ _) rfl ?_
    rw [Rd.fail_of e h0]
    exact ⟨rfl, H.out, World.grownBy.refl _ _⟩
set_option maxRecDepth 100000 in
theorem inErr (s : Rd) (p : Nat) (w : World) (h : InAt w p s) :
    Calls Try.prog 51 #[.pointer (some ⟨p, 0, none⟩)] w fun r w' => r = .returned (I s.err) ∧ w' = w := by
  obtain ⟨v, hb⟩ := h.blk
  have c1 := hb.cell 1
  clear h hb
  go_enter Try.func51, Try.ntmps51
  go_wp2_with fail
  go_ret
  exact ⟨rfl, rfl⟩
set_option maxHeartbeats 1000000 in
set_option maxRecDepth 100000 in
theorem inEnd (s : Rd) (p : Nat) (w : World) (h : InAt w p s) (hf : s.fine) :
    Calls Try.prog 53 #[.pointer (some ⟨p, 0, none⟩)] w fun r w' => r = .returned (I s.stop) ∧ w' = w := by
  cases s with
  | ok b =>
    obtain ⟨a, c, hb, _⟩ := h
    have c0 := hb.cell 0
    have c1 := hb.cell 1
    clear hb
    go_enter Try.func53, Try.ntmps53
    cases b with
    | nil =>
      go_wp2_with fail
      go_ret
      exact ⟨rfl, rfl⟩
    | cons x b =>
      go_wp2_with fail
      go_ret
      exact ⟨rfl, rfl⟩
  | bad e =>
    obtain ⟨v, hb⟩ := h
    have c1 := hb.cell 1
    have h0 : ¬ e = 0 := hf.1
    clear hb hf
    go_enter Try.func53, Try.ntmps53
    go_wp2_with fail
    go_ret
    exact ⟨rfl, rfl⟩
set_option maxHeartbeats 1000000 in
set_option maxRecDepth 100000 in
theorem inNext_nil (p : Nat) (w : World) (h : InAt w p (.ok [])) :
    Calls Try.prog 89 #[.pointer (some ⟨p, 0, none⟩)] w fun r w' => r = .returned (.int .u8 0) ∧ InAt w' p (.bad 7) ∧ w.grownBy w' (some p) := by
  have H := Lib.hid (inFail (.ok []) p 7 w h (by intro c hc; cases hc))
  obtain ⟨a, c, hb, _⟩ := h
  have c0 := hb.cell 0
  have c1 := hb.cell 1
  clear hb
  go_enter Try.func89, Try.ntmps89
  go_wp2_with (go_at_call 52; refine H.out.mono ?_; rintro r w1 ⟨rfl, ⟨v, hb1⟩, hg⟩; have d1 := hb1.cell 1)
  go_ret
  exact ⟨rfl, ⟨v, hb1⟩, hg⟩
set_option maxHeartbeats 1000000 in
set_option maxRecDepth 100000 in
theorem inNext_cons (x : Int) (b : List Int) (p : Nat) (w : World) (h : InAt w p (.ok (x :: b))) :
    Calls Try.prog 89 #[.pointer (some ⟨p, 0, none⟩)] w fun r w' => r = .returned (.int .u8 x) ∧ InAt w' p (.ok b) ∧ w.grownBy w' (some p) := by
  obtain ⟨a, c, hb, hs, hc, hne⟩ := h
  obtain ⟨bb, o, rfl, x0⟩ := hs.at (i := 0) (x := x) rfl
  simp only [Nat.add_zero] at x0
  have c0 := hb.cell 0
  have c1 := hb.cell 1
  have f0 := hb.frozen 0
  have Hs := Lib.hid hs
  have hne' : bb < p := hne _ rfl
  clear hs hne
  go_enter Try.func89, Try.ntmps89
  simp only [List.length_cons] at c0 hc
  by_cases h1 : c = 1
  · subst h1
    obtain rfl : b = [] := List.length_eq_zero_iff.1 (by omega)
    go_wp2_with fail
    go_ret
    exact ⟨rfl, ⟨_, _, hb.set 0 _, Flat.nil _ _ _ _, by simp, fun y hy => by cases hy; exact hne'⟩, grown_set' _ _ _⟩
  · go_wp2_with fail
    go_ret
    have hg := grown_set' w ⟨p, 0, none⟩ (.slice (some ⟨bb, o + 1, none⟩) b.length (c - 1))
    refine ⟨rfl, ⟨_, _, hb.set 0 _, ?_, by omega, fun y hy => by cases hy; exact hne'⟩, hg⟩
    have h2 := Flat.drop (c' := c - 1) (show Flat w 1 (.slice (some ⟨bb, o, none⟩) (x :: b).length c) (x :: b).length (bv (x :: b)) from Hs.out) (j := 1) (by simp)
    simp only [Nat.mul_one, List.length_cons, Nat.add_sub_cancel] at h2
    exact Flat.grownO h2 hg (fun y hy => by cases hy; intro e; simp at e; omega)

end Go.Proofs.Ytjdhcdbjfbhogaa
