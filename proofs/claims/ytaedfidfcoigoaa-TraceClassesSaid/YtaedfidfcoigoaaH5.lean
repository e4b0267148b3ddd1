/- A row of words that grows beside a box that stays: what the walks of Key hold on to. -/
import Derived.Test.YtaedfidfcoigoaaH4
import Derived.Test.YtaedfidfcoigoaaM1
namespace Go.Proofs.Ytaedfidfcoigoaa
open Go.RowKit

/-- v is a row of the call's own that holds the words xs; the box gS holds cs and is none of v's; from w0 on nothing below B was touched. -/
structure KW (w0 : World) (B gS : Nat) (cs : Array Value) (W : World) (v : Value) (xs : List Int) : Prop where
  own : W.ownsRow B 3 1 v xs.length (iv xs)
  blk : Blk W gS cs
  ne : v.ownBlock ≠ some gS
  le : B ≤ W.heap.size
  bel : Below B w0 W

theorem KW.drew {w0 : World} {B gS : Nat} {cs : Array Value} {W : World} {v : Value} {xs : List Int} (h : KW w0 B gS cs W v xs) : KW w0 B gS cs W.drew v xs := ⟨h.own, h.blk.drew, h.ne, h.le, h.bel.drew⟩
theorem KW.alloc {w0 : World} {B gS : Nat} {cs : Array Value} {W : World} {v : Value} {xs : List Int} (h : KW w0 B gS cs W v xs) (o : Obj) : KW w0 B gS cs (W.alloc o) v xs :=
  ⟨h.own.alloc o, h.blk.alloc o, h.ne, by have := h.le; rw [World.size_alloc]; omega, h.bel.alloc h.le o⟩
theorem KW.call {w0 : World} {B gS : Nat} {cs : Array Value} {W W' : World} {v : Value} {xs : List Int} (h : KW w0 B gS cs W v xs) (hB : Below W.heap.size W W') : KW w0 B gS cs W' v xs :=
  ⟨owns_below h.own hB, h.blk.kept hB h.blk.lt, h.ne, Nat.le_trans h.le hB.size, h.bel.trans (hB.mono h.le)⟩
theorem KW.app {w0 : World} {B gS : Nat} {cs : Array Value} {W W' : World} {v : Value} {xs : List Int} (h : KW w0 B gS cs W v xs) {g cap m : Nat} {ys : List Int} (hm : ys.length = m) (hg : v.ownBlock = some g ∨ g = W.heap.size)
    (ho : W'.ownsRow B 3 1 (.slice (some ⟨g, 0, none⟩) (xs.length + m) cap) (xs.length + m) (iv xs ++ iv ys)) (hgr : W.grownBy W' v.ownBlock) (hB : Below B W W') : KW w0 B gS cs W' (.slice (some ⟨g, 0, none⟩) (xs.length + m) cap) (xs ++ ys) := by
  refine ⟨?_, h.blk.grown hgr h.ne, fun e => ?_, Nat.le_trans h.le hB.size, h.bel.trans hB⟩
  · have e1 : (xs ++ ys).length = xs.length + m := by rw [List.length_append, hm]
    have e2 : iv (xs ++ ys) = iv xs ++ iv ys := by simp [iv]
    rw [e1, e2]
    exact ho
  · have e' : g = gS := by simpa [Value.ownBlock] using e
    subst e'
    rcases hg with h1 | h1
    · exact h.ne h1
    · have := h.blk.lt
      omega
theorem iv_all (ys : List Int) : (iv ys).all Value.oneCell' = true := List.all_eq_true.2 (iv_one ys)

theorem wpList_appW {w0 w : World} {gS B : Nat} {cs : Array Value} {v : Value} {xs : List Int} {ops : Array Oper} {rest : List Oper} {o : Oper} {a : Act} {Q : Exit → Act → World → Prop} (hgd : o.guard = none) (s x : Operand)
    (ho : o.op = .call { callee := .builtin .append, args := #[s, x], argTypes := #[22, 22] }) (hs : a.eval s = v) (hk : KW w0 B gS cs w v xs)
    (b m c : Nat) (arr : Array Value) (ys : List Int) (hx : a.eval x = .slice (some ⟨b, 0, none⟩) m c) (hblk : w.heap[b]? = some (.cells arr 3 (0, 0))) (hy : arr.toList = iv ys) (hl : ys.length = m) (hm : 0 < m) (hbd : xs.length + m ≤ 100000000)
    (h : ∀ g cap w', KW w0 B gS cs w' (.slice (some ⟨g, 0, none⟩) (xs.length + m) cap) (xs ++ ys) → Below B w w' → wpList Try.prog ops Q rest (a.put o.dst (.slice (some ⟨g, 0, none⟩) (xs.length + m) cap)) w') : wpList Try.prog ops Q (o :: rest) a w := by
  refine wpList_appB hgd s x 22 ho 3 _ 1 8 Try.underlying22 info3 rfl (by omega) (by omega) B v xs.length (iv xs) hs hk.own b m c arr 3 hx hblk ?_ (by rw [hy]; exact iv_all ys) hm hbd hk.le fun g cap w' h1 h2 h3 h4 h5 h6 => h g cap w' (hk.app hl h3 (by rw [hy] at h4; exact h4) h5 h6) h6
  have := congrArg List.length hy
  simp [iv] at this
  omega
theorem step_appW {w0 w : World} {gS B : Nat} {cs : Array Value} {v : Value} {xs : List Int} {ops : Array Oper} {o : Oper} {a : Act} {K : Act → World → Prop} {Q : Exit → Act → World → Prop} {E : Prop} (hgd : o.guard = none) (s x : Operand)
    (ho : o.op = .call { callee := .builtin .append, args := #[s, x], argTypes := #[22, 22] }) (hs : a.eval s = v) (hk : KW w0 B gS cs w v xs)
    (b m c : Nat) (arr : Array Value) (ys : List Int) (hx : a.eval x = .slice (some ⟨b, 0, none⟩) m c) (hblk : w.heap[b]? = some (.cells arr 3 (0, 0))) (hy : arr.toList = iv ys) (hl : ys.length = m) (hm : 0 < m) (hbd : xs.length + m ≤ 100000000)
    (h : ∀ g cap w', KW w0 B gS cs w' (.slice (some ⟨g, 0, none⟩) (xs.length + m) cap) (xs ++ ys) → Below B w w' → K (a.put o.dst (.slice (some ⟨g, 0, none⟩) (xs.length + m) cap)) w') : if Region.wanted o (yielded ops a.tmps) = true then Oper.wp Try.prog o a w K Q else E := by
  refine step_appB hgd s x 22 ho 3 _ 1 8 Try.underlying22 info3 rfl (by omega) (by omega) B v xs.length (iv xs) hs hk.own b m c arr 3 hx hblk ?_ (by rw [hy]; exact iv_all ys) hm hbd hk.le fun g cap w' h1 h2 h3 h4 h5 h6 => h g cap w' (hk.app hl h3 (by rw [hy] at h4; exact h4) h5 h6) h6
  have := congrArg List.length hy
  simp [iv] at this
  omega

theorem wpList_appWF {w0 w : World} {gS B : Nat} {cs : Array Value} {v : Value} {xs : List Int} {ops : Array Oper} {rest : List Oper} {o : Oper} {a : Act} {Q : Exit → Act → World → Prop} (hgd : o.guard = none) (s x : Operand)
    (ho : o.op = .call { callee := .builtin .append, args := #[s, x], argTypes := #[22, 22] }) (hs : a.eval s = v) (hk : KW w0 B gS cs w v xs)
    (ad : Option Addr) (c : Nat) (ys : List Int) (hx : a.eval x = .slice ad ys.length c) (hfl : IntSl w (.slice ad ys.length c) ys) (hm : 0 < ys.length) (hbd : xs.length + ys.length ≤ 100000000)
    (h : ∀ g cap w', KW w0 B gS cs w' (.slice (some ⟨g, 0, none⟩) (xs.length + ys.length) cap) (xs ++ ys) → Below B w w' → wpList Try.prog ops Q rest (a.put o.dst (.slice (some ⟨g, 0, none⟩) (xs.length + ys.length) cap)) w') : wpList Try.prog ops Q (o :: rest) a w := by
  obtain ⟨b, of, rfl, hc⟩ := Flat.cells hfl (by simp [iv]; omega)
  exact wpList_app hgd s x 22 ho 3 _ 1 8 Try.underlying22 info3 rfl (by omega) (by omega) B v xs.length (iv xs) hs hk.own b of ys.length c (iv ys) hx (by simp [iv]) hc (iv_one ys) hm hbd hk.le fun g cap w' _ _ h3 h4 h5 h6 => h g cap w' (hk.app rfl h3 h4 h5 h6) h6

theorem NF.len {l m : List Stp} (h : NF l m) : m.length = l.length := by
  induction h with
  | nil => rfl
  | cons l m p s hs _ _ ih =>
    have hp := (List.getElem?_eq_some_iff.1 hs).1
    rw [List.length_cons, ih, List.length_eraseIdx, if_pos hp]
    omega
theorem NF.mem {l m : List Stp} (h : NF l m) : ∀ s ∈ m, s ∈ l := by
  induction h with
  | nil => intro s h; exact h
  | cons l m p s hs _ _ ih =>
    intro t ht
    rcases List.mem_cons.1 ht with rfl | h
    · exact List.mem_of_getElem? hs
    · exact List.mem_of_mem_eraseIdx (ih t h)
theorem normS_len (run : List Stp) : (normS run).length = run.length := (normS_nf run).len
theorem normS_mem (run : List Stp) : ∀ s ∈ normS run, s ∈ run := (normS_nf run).mem

end Go.Proofs.Ytaedfidfcoigoaa
