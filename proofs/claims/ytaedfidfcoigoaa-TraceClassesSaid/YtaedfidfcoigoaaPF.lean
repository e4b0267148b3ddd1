/- Blocks that stay as they were; steps whose slices lie in given blocks; a run that lies in new memory. -/
import Derived.Test.YtaedfidfcoigoaaP7
namespace Go.Proofs.Ytaedfidfcoigoaa
open Go.RowKit

/-- The blocks of P are as they were. -/
def Same (P : Nat → Prop) (A B : World) : Prop := A.heap.size ≤ B.heap.size ∧ ∀ b, P b → B.heap[b]? = A.heap[b]?
theorem Same.refl (P : Nat → Prop) (A : World) : Same P A A := ⟨Nat.le_refl _, fun _ _ => rfl⟩
theorem Same.trans {P : Nat → Prop} {A B C : World} (h : Same P A B) (k : Same P B C) : Same P A C := ⟨Nat.le_trans h.1 k.1, fun b hb => (k.2 b hb).trans (h.2 b hb)⟩
theorem Same.weak {P P' : Nat → Prop} {A B : World} (h : Same P A B) (hp : ∀ b, P' b → P b) : Same P' A B := ⟨h.1, fun b hb => h.2 b (hp b hb)⟩
theorem Same.below {P : Nat → Prop} {A B : World} {n : Nat} (h : Below n A B) (hp : ∀ b, P b → b < n) : Same P A B := ⟨h.size, fun b hb => h.block b (hp b hb)⟩
theorem Same.grown {P : Nat → Prop} {A B : World} {row : Option Nat} (h : A.grownBy B row) (hp : ∀ b, P b → b < A.heap.size ∧ some b ≠ row) : Same P A B := ⟨h.size, fun b hb => h.block b (hp b hb).1 (hp b hb).2⟩
theorem Same.set {P : Nat → Prop} {A B : World} (h : Same P A B) (a : Addr) (v : Value) (ha : ¬ P a.block) : Same P A (B.setCell a v) :=
  ⟨by simpa using h.1, fun b hb => (heap_setCell_other B a b v (fun e => ha (e ▸ hb))).trans (h.2 b hb)⟩
theorem Same.alloc {P : Nat → Prop} {A B : World} (h : Same P A B) (o : Obj) (hp : ∀ b, P b → b < A.heap.size) : Same P A (B.alloc o) :=
  h.trans (Same.below ((Below.refl B.heap.size B).alloc (Nat.le_refl _) o) fun b hb => Nat.lt_of_lt_of_le (hp b hb) h.1)
theorem Same.drew {P : Nat → Prop} {A B : World} (h : Same P A B) : Same P A B.drew := h
theorem Same.blk {P : Nat → Prop} {A B : World} (h : Same P A B) {g : Nat} {cs : Array Value} (hb : Blk A g cs) (hg : P g) : Blk B g cs := by
  obtain ⟨t, hb⟩ := hb
  exact ⟨t, (h.2 g hg).trans hb⟩
theorem Same.own {P : Nat → Prop} {A B : World} (h : Same P A B) {B0 : Nat} {e : TypeId} {k : Nat} {v : Value} {n : Nat} {xs : List Value} (ho : A.ownsRow B0 e k v n xs) (hv : ∀ g, v.ownBlock = some g → P g) : B.ownsRow B0 e k v n xs := by
  refine ⟨ho.1, ?_⟩
  rcases ho.2 with h0 | ⟨g, cap, cur, rfl, h1, h2, h3⟩
  · exact .inl h0
  · exact .inr ⟨g, cap, cur, rfl, h1, (h.2 g (hv g rfl)).trans h2, h3⟩
theorem Same.cell {P : Nat → Prop} {A B : World} (h : Same P A B) {b : Nat} (o : Nat) (hb : P b) : B.cell? ⟨b, o, none⟩ = A.cell? ⟨b, o, none⟩ := World.cell?_of_block (h.2 b hb)

/-- The slice's block is one of P. -/
def InP (P : Nat → Prop) (v : Value) : Prop := ∀ b o n c, v = .slice (some ⟨b, o, none⟩) n c → P b
theorem Flat.sameP {P : Nat → Prop} {A B : World} {k : Nat} {v : Value} {n : Nat} {xs : List Value} (h : Flat A k v n xs) (hv : InP P v) (hs : Same P A B) : Flat B k v n xs := by
  obtain ⟨hl, hm, a, c, rfl, hr⟩ := h
  refine ⟨hl, hm, a, c, rfl, fun j u hu => ?_⟩
  obtain ⟨b, o, ha, hc⟩ := hr j u hu
  subst ha
  exact ⟨b, o, rfl, (hs.cell _ (hv b o n c rfl)).trans hc⟩

/-- The cells xs are the steps l; what their slices hold lies in the blocks of P. -/
def StpCellsP (P : Nat → Prop) (w : World) : List Stp → List Value → Prop
  | [], xs => xs = []
  | s :: l, xs => ∃ va vs ys, xs = s.row va vs ++ ys ∧ (AskSl w va s.asks ∧ InP P va) ∧ (MsgSl w vs s.sent ∧ InP P vs) ∧ StpCellsP P w l ys
theorem StpCellsP.kept {P : Nat → Prop} {w w' : World} (hs : Same P w w') : ∀ {l : List Stp} {xs : List Value}, StpCellsP P w l xs → StpCellsP P w' l xs
  | [], _, h => h
  | _ :: _, _, ⟨va, vs, ys, hx, h1, h2, h3⟩ => ⟨va, vs, ys, hx, ⟨Flat.sameP h1.1 h1.2 hs, h1.2⟩, ⟨Flat.sameP h2.1 h2.2 hs, h2.2⟩, h3.kept hs⟩
theorem StpCellsP.weak {P P' : Nat → Prop} {w : World} (hp : ∀ b, P b → P' b) : ∀ {l : List Stp} {xs : List Value}, StpCellsP P w l xs → StpCellsP P' w l xs
  | [], _, h => h
  | _ :: _, _, ⟨va, vs, ys, hx, h1, h2, h3⟩ => ⟨va, vs, ys, hx, ⟨h1.1, fun b o n c e => hp b (h1.2 b o n c e)⟩, ⟨h2.1, fun b o n c e => hp b (h2.2 b o n c e)⟩, h3.weak hp⟩
theorem StpCellsP.cells {P : Nat → Prop} {w : World} : ∀ {l : List Stp} {xs : List Value}, StpCellsP P w l xs → StpCells w l xs
  | [], _, h => h
  | _ :: _, _, ⟨va, vs, ys, hx, h1, h2, h3⟩ => ⟨va, vs, ys, hx, h1.1, h2.1, h3.cells⟩
theorem StpCellsP.snoc {P : Nat → Prop} {w : World} {s : Stp} {va vs : Value} (h1 : AskSl w va s.asks ∧ InP P va) (h2 : MsgSl w vs s.sent ∧ InP P vs) : ∀ {l : List Stp} {xs : List Value}, StpCellsP P w l xs → StpCellsP P w (l ++ [s]) (xs ++ s.row va vs)
  | [], xs, h => by
    have : xs = [] := h
    subst this
    exact ⟨va, vs, [], by simp, h1, h2, rfl⟩
  | _ :: _, _, ⟨va', vs', ys, hx, g1, g2, g3⟩ => ⟨va', vs', ys ++ s.row va vs, by rw [hx, List.append_assoc], g1, g2, g3.snoc h1 h2⟩

theorem StpCellsP.at {P : Nat → Prop} {w : World} : ∀ {l : List Stp} {xs : List Value} {i : Nat} {s : Stp}, StpCellsP P w l xs → l[i]? = some s →
    ∃ va vs, (AskSl w va s.asks ∧ InP P va) ∧ (MsgSl w vs s.sent ∧ InP P vs) ∧ ∀ j u, (s.row va vs)[j]? = some u → xs[i * 11 + j]? = some u
  | [], _, _, _, _, h => by simp at h
  | t :: l, xs, 0, s, ⟨va, vs, zs, hx, h1, h2, h3⟩, h => by
    simp at h
    subst h
    refine ⟨va, vs, h1, h2, fun j u hu => ?_⟩
    have hj := (List.getElem?_eq_some_iff.1 hu).1
    rw [hx, Nat.zero_mul, Nat.zero_add, List.getElem?_append_left hj]
    exact hu
  | t :: l, xs, i + 1, s, ⟨va, vs, zs, hx, h1, h2, h3⟩, h => by
    have h' : l[i]? = some s := by simpa using h
    obtain ⟨va', vs', g1, g2, g3⟩ := h3.at h'
    refine ⟨va', vs', g1, g2, fun j u hu => ?_⟩
    have := g3 j u hu
    have e : (i + 1) * 11 + j = 11 + (i * 11 + j) := by omega
    have hl : (t.row va vs).length = 11 := rfl
    rw [hx, e, List.getElem?_append_right (by omega), hl, Nat.add_sub_cancel_left]
    exact this

/-- The slice value v reads, in w, as the steps l, all of it in blocks from B on. -/
def StpSlF (B : Nat) (w : World) (v : Value) (l : List Stp) : Prop := ∃ xs, StpCellsP (fun b => B ≤ b) w l xs ∧ Flat w 11 v l.length xs ∧ InP (fun b => B ≤ b) v
theorem StpSlF.sl {B : Nat} {w : World} {v : Value} {l : List Stp} (h : StpSlF B w v l) : StpSl w v l := by
  obtain ⟨xs, h1, h2, _⟩ := h
  exact ⟨xs, h1.cells, h2⟩
theorem StpSlF.keptP {B : Nat} {w w' : World} {v : Value} {l : List Stp} (h : StpSlF B w v l) (hs : Same (fun b => B ≤ b ∧ b < w.heap.size) w w') : StpSlF B w' v l := by
  obtain ⟨xs, h1, h2, h3⟩ := h
  have key : ∀ {k : Nat} {u : Value} {n : Nat} {ys : List Value}, Flat w k u n ys → InP (fun b => B ≤ b) u → Flat w' k u n ys := fun {k u n ys} hf hp => by
    obtain ⟨hl, hm, a, c, rfl, hr⟩ := hf
    refine ⟨hl, hm, a, c, rfl, fun j x hx => ?_⟩
    obtain ⟨b, o, ha, hc⟩ := hr j x hx
    subst ha
    have := World.block_lt_of_cell? _ _ hc
    exact ⟨b, o, rfl, (hs.cell _ ⟨hp b o n c rfl, by simpa using this⟩).trans hc⟩
  refine ⟨xs, ?_, key h2 h3, h3⟩
  clear h2 h3
  revert xs
  induction l with
  | nil => intro xs h1; exact h1
  | cons s l ih =>
    rintro xs ⟨va, vs, ys, hx, g1, g2, g3⟩
    exact ⟨va, vs, ys, hx, ⟨key g1.1 g1.2, g1.2⟩, ⟨key g2.1 g2.2, g2.2⟩, ih ys g3⟩
theorem StpSlF.kept {B : Nat} {w w' : World} {v : Value} {l : List Stp} (h : StpSlF B w v l) (hb : Below w.heap.size w w') : StpSlF B w' v l := h.keptP (Same.below hb fun _ hb => hb.2)
theorem StpSlF.open {B : Nat} {w : World} {v : Value} {l : List Stp} (h : StpSlF B w v l) : ∃ a c, v = .slice a l.length c ∧ l.length ≤ 9223372036854775807 := h.sl.open
theorem StpSlF.at {B : Nat} {w : World} {a : Option Addr} {n c : Nat} {l : List Stp} (h : StpSlF B w (.slice a n c) l) {i : Nat} {s : Stp} (hi : l[i]? = some s) :
    ∃ b o va vs, a = some ⟨b, o, none⟩ ∧ (AskSl w va s.asks ∧ InP (fun b => B ≤ b) va) ∧ (MsgSl w vs s.sent ∧ InP (fun b => B ≤ b) vs) ∧
      w.cell? ⟨b, o + i * 11, none⟩ = some (I s.ev.kind) ∧ w.cell? ⟨b, o + i * 11 + 1, none⟩ = some (I s.ev.node) ∧ w.cell? ⟨b, o + i * 11 + 2, none⟩ = some (I s.ev.arg) ∧
      w.cell? ⟨b, o + i * 11 + 3, none⟩ = some (I s.ev.msg.node) ∧ w.cell? ⟨b, o + i * 11 + 4, none⟩ = some (I s.ev.msg.handler) ∧ w.cell? ⟨b, o + i * 11 + 5, none⟩ = some (I s.ev.msg.count) ∧
      w.cell? ⟨b, o + i * 11 + 6, none⟩ = some (I s.ev.msg.index) ∧ w.cell? ⟨b, o + i * 11 + 7, none⟩ = some (I s.ev.msg.copy) ∧ w.cell? ⟨b, o + i * 11 + 8, none⟩ = some va ∧
      w.cell? ⟨b, o + i * 11 + 9, none⟩ = some (.bool s.obs) ∧ w.cell? ⟨b, o + i * 11 + 10, none⟩ = some vs := by
  obtain ⟨xs, h1, h2, _⟩ := h
  obtain ⟨va, vs, g1, g2, g3⟩ := h1.at hi
  have hlt := (List.getElem?_eq_some_iff.1 hi).1
  obtain ⟨b, o, ha, hc⟩ := h2.cells (by rw [h1.cells.length]; omega)
  have key : ∀ j u, (s.row va vs)[j]? = some u → w.cell? ⟨b, o + i * 11 + j, none⟩ = some u := fun j u hu => by
    have := hc _ u (g3 j u hu)
    rwa [← Nat.add_assoc] at this
  exact ⟨b, o, va, vs, ha, g1, g2, key 0 _ rfl, key 1 _ rfl, key 2 _ rfl, key 3 _ rfl, key 4 _ rfl, key 5 _ rfl, key 6 _ rfl, key 7 _ rfl, key 8 _ rfl, key 9 _ rfl, key 10 _ rfl⟩
theorem StpSlF.nil (B : Nat) (w : World) (c : Nat) : StpSlF B w (.slice none 0 c) [] := ⟨[], rfl, Flat.nil _ _ _ _, fun b o n c e => by simp at e⟩
theorem StpCellsP.below {P : Nat → Prop} {w w' : World} {B : Nat} (hb : Below B w w') (hB : w.heap.size ≤ B) : ∀ {l : List Stp} {xs : List Value}, StpCellsP P w l xs → StpCellsP P w' l xs
  | [], _, h => h
  | _ :: _, _, ⟨va, vs, ys, hx, h1, h2, h3⟩ => ⟨va, vs, ys, hx, ⟨h1.1.kept hb hB, h1.2⟩, ⟨h2.1.kept hb hB, h2.2⟩, h3.below hb hB⟩
theorem own_inB {W : World} {B : Nat} {e : TypeId} {k : Nat} {v : Value} {n : Nat} {xs : List Value} (h : W.ownsRow B e k v n xs) {B' : Nat} (hB : B' ≤ B) : InP (fun b => B' ≤ b) v := fun b o n c e => by
  subst e
  exact Nat.le_trans hB (h.lt b rfl).1
theorem StpSlF.of_owns {w W : World} {B0 B B' : Nat} {e : TypeId} {v : Value} {l : List Stp} {n : Nat} {xs : List Value} (h : w.ownsRow B e 11 v n xs) (hn : n = l.length) (hc : StpCellsP (fun b => B' ≤ b) W l xs) (hb : Below B0 W w) (hB : W.heap.size ≤ B0) (hBB : B' ≤ B) : StpSlF B' w v l := by
  subst hn
  exact ⟨xs, hc.below hb hB, Flat.of_owns h, own_inB h hBB⟩

end Go.Proofs.Ytaedfidfcoigoaa
