import Derived.Test.YtljmonfobefiiaaGreatDoorUO
import Derived.Test.YtljmonfobefiiaaGreatDoorUTG6
import Derived.Deep.CutRange
import Derived.Laws.ResultCell
/- A region that draws its order, where two operations that move the world may come up in either order: a tree of orders. -/
namespace Go.Proofs.YtljmonfobefiiaaGreatDoor
open Go

inductive OT where
  | nil
  | take (i : Nat) (t : OT)
  | move (i : Nat) (t : OT)
  | fork (i j : Nat) (ti tj : OT)

section
variable {P : Program} {ops : Array Oper} {Q : Exit → Act → World → Prop} {md : Region.Mode} {S : World → Prop}

def ordT (md : Region.Mode) (ops : Array Oper) (n : Nat) : OT → Nat → Array Bool → Bool
  | .nil, d, listed => decide (d = 0) && Region.seqB md ops (ops.size - n) n listed
  | .take i t, d, listed => decide (0 < d) && decide (i < n) && (Region.ready md ops listed).contains i && Region.free md ops listed i && ordT md ops n t (d - 1) (listed.setIfInBounds i true)
  | .move i t, d, listed => decide (0 < d) && decide (i < n) && decide (Region.ready md ops listed = [i]) && ordT md ops n t (d - 1) (listed.setIfInBounds i true)
  | .fork i j ti tj, d, listed => decide (0 < d) && decide (i < n) && decide (j < n) && decide (Region.ready md ops listed = [i, j]) && ordT md ops n ti (d - 1) (listed.setIfInBounds i true) && ordT md ops n tj (d - 1) (listed.setIfInBounds j true)

/-- One operation that moves the world. -/
def wpMv (P : Program) (ops : Array Oper) (Q : Exit → Act → World → Prop) (S : World → Prop) (l : List Oper) (i : Nat) (K : Act → World → Prop) (a : Act) (w : World) : Prop :=
  ∃ o, l[i]? = some o ∧ if Region.wanted o (yielded ops a.tmps) = true then Oper.wp P o a w (fun a' w' => S w' ∧ K a' w') Q else S w ∧ K (a.put o.dst undef) w

def wpT (P : Program) (ops : Array Oper) (Q : Exit → Act → World → Prop) (S : World → Prop) (F : Act → World → Prop) (l : List Oper) : OT → Act → World → Prop
  | .nil, a, w => F a w
  | .take i t, a, w => ∃ o v, l[i]? = some o ∧ YieldsIf P ops S o v a ∧ wpT P ops Q S F l t (a.put o.dst v) w
  | .move i t, a, w => wpMv P ops Q S l i (wpT P ops Q S F l t) a w
  | .fork i j ti tj, a, w => wpMv P ops Q S l i (wpT P ops Q S F l ti) a w ∧ wpMv P ops Q S l j (wpT P ops Q S F l tj) a w

theorem wpOp_of_mv {l : List Oper} {i : Nat} {K K' : Act → World → Prop} {a : Act} {w : World} (h : wpMv P l.toArray Q S l i K a w) (hK : ∀ a w, S w → K a w → K' a w) : wpOp P l.toArray Q i (fun a' w' => S w' ∧ K' a' w') a w := by
  obtain ⟨o, ho, h⟩ := h
  unfold wpOp
  have ho' : l.toArray[i]? = some o := by simpa using ho
  simp only [ho']
  split
  · rename_i hw
    rw [if_pos hw] at h
    exact .inl (Oper.wp_mono (fun a' w' hh => ⟨hh.1, hK a' w' hh.1 hh.2⟩) h)
  · rename_i hw
    rw [if_neg hw] at h
    exact ⟨h.1, hK _ _ h.1 h.2⟩

theorem wpHd_T {l : List Oper} {n : Nat} {F : Act → World → Prop} (hsel : Region.noSelect l.toArray = true) (hQ : ∀ c a d v w, Q (.panic c) (a.put d v) w → Q (.panic c) a w) (ht : tailOk md l.toArray n = true) :
    ∀ (t : OT) (d : Nat) (listed : Array Bool) (a : Act) (w : World), HeadInv md l.toArray n listed → ordT md l.toArray n t d listed = true → S w → wpT P l.toArray Q S F l t a w →
      wpHd P md l.toArray Q S n (fun listed' a' w' => Region.seqB md l.toArray (l.toArray.size - n) n listed' = true ∧ F a' w') d listed a w
  | .nil, d, listed, a, w, inv, hB, hS, h => by
    simp only [ordT, Bool.and_eq_true, decide_eq_true_eq] at hB
    obtain ⟨rfl, h2⟩ := hB
    exact ⟨h2, h⟩
  | .take i t, d, listed, a, w, inv, hB, hS, h => by
    simp only [ordT, Bool.and_eq_true, decide_eq_true_eq] at hB
    obtain ⟨⟨⟨⟨h0, h1⟩, h2⟩, h3⟩, h4⟩ := hB
    obtain ⟨d, rfl⟩ : ∃ e, d = e + 1 := ⟨d - 1, by omega⟩
    obtain ⟨o, v, ho, hy, hK⟩ := h
    have ho' : l.toArray[i]? = some o := by simpa using ho
    have hri : i ∈ Region.ready md l.toArray listed := by simpa using h2
    exact wpHd_first ho' (Region.noSelect_spec hsel) (fun c a w => hQ c a _ _ w) ht h1 (fun listed' a' w' hL => seqB_ready hL.1) d listed a w inv (Region.free_spec ho' h3) hri hy hS
      (wpHd_T hsel hQ ht t d _ _ _ (inv.set hri h1) (by simpa using h4) hS hK)
  | .move i t, d, listed, a, w, inv, hB, hS, h => by
    simp only [ordT, Bool.and_eq_true, decide_eq_true_eq] at hB
    obtain ⟨⟨⟨h0, h1⟩, h2⟩, h4⟩ := hB
    obtain ⟨d, rfl⟩ : ∃ e, d = e + 1 := ⟨d - 1, by omega⟩
    have hri : i ∈ Region.ready md l.toArray listed := by rw [h2]; simp
    refine ⟨fun e => by (rw [h2] at e; cases e), fun j hj => ?_⟩
    rw [h2] at hj
    have hji : j = i := by simpa using hj
    subst hji
    exact ⟨h1, wpOp_of_mv h fun a' w' hs hk => wpHd_T hsel hQ ht t d _ _ _ (inv.set hri h1) (by simpa using h4) hs hk⟩
  | .fork i j ti tj, d, listed, a, w, inv, hB, hS, h => by
    simp only [ordT, Bool.and_eq_true, decide_eq_true_eq] at hB
    obtain ⟨⟨⟨⟨⟨h0, h1⟩, h1'⟩, h2⟩, h4⟩, h5⟩ := hB
    obtain ⟨d, rfl⟩ : ∃ e, d = e + 1 := ⟨d - 1, by omega⟩
    have hri : i ∈ Region.ready md l.toArray listed := by rw [h2]; simp
    have hrj : j ∈ Region.ready md l.toArray listed := by rw [h2]; simp
    refine ⟨fun e => by (rw [h2] at e; cases e), fun x hx => ?_⟩
    rw [h2] at hx
    have hxx : x = i ∨ x = j := by simpa using hx
    rcases hxx with rfl | rfl
    · exact ⟨h1, wpOp_of_mv h.1 fun a' w' hs hk => wpHd_T hsel hQ ht ti d _ _ _ (inv.set hri h1) (by simpa using h4) hs hk⟩
    · exact ⟨h1', wpOp_of_mv h.2 fun a' w' hs hk => wpHd_T hsel hQ ht tj d _ _ _ (inv.set hrj h1') (by simpa using h5) hs hk⟩

/-- **A region, by a tree of orders.** -/
theorem wp_region_T {id : Nat} {a : Act} {w : World} {l : List Oper} (n : Nat) (t : OT) (S : World → Prop) {tl : List Oper} (hm : P.follows .mixedOrders = true) (htl : l.drop n = tl)
    (hB : (Region.noSelect l.toArray && tailOk .any l.toArray n && ordT .any l.toArray n t n (Array.replicate l.toArray.size false)) = true) (hS : S w.drew)
    (h : wpT P l.toArray (NoPanic Q) S (wpList P l.toArray (NoPanic Q) tl) l t a w.drew) : (Code.region id l.toArray true).wp P Q a w := by
  subst htl
  refine Code.wp_mono NoPanic.imp ?_
  simp only [Bool.and_eq_true] at hB
  obtain ⟨⟨hsel, ht⟩, hord⟩ := hB
  have hn : n ≤ l.length := by
    simp only [tailOk, Bool.or_eq_true, Bool.and_eq_true, decide_eq_true_eq, List.size_toArray] at ht
    omega
  have inv0 : HeadInv .any l.toArray n (Array.replicate l.toArray.size false) :=
    ⟨by simp, fun j oj _ hl => (by rw [getD_replicate_false] at hl; cases hl), fun t _ ht => getD_in (by simpa using ht) (getD_replicate_false _ _)⟩
  have H := wpHd_T (md := .any) hsel (fun c a d v w h => h) ht t n _ a w.drew inv0 hord hS h
  refine wp_region_any hm ?_
  have := wpAny_of_hd (Q := NoPanic Q) (g := l.toArray.size - n) (fun listed a' w' hL => by
    have := wpAny_of_seq (md := .any) (Q' := NoPanic Q) (l.drop n) n listed a' w' (fun j => by simp [List.getElem?_drop]) (by rw [List.length_drop]; simpa using hL.1) hL.2
    rwa [List.length_drop, show l.length - n = l.toArray.size - n by simp] at this) _ _ _ _ H
  rw [show n + (l.toArray.size - n) = l.toArray.size by simp; omega] at this
  exact this

theorem wpT_nil {F : Act → World → Prop} {l : List Oper} {a : Act} {w : World} (h : F a w) : wpT P ops Q S F l .nil a w := h
theorem wpT_take {F : Act → World → Prop} {l : List Oper} {i : Nat} {t : OT} {a : Act} {w : World} {o : Oper} (ho : l[i]? = some o) (v : Value) (hw : Region.wanted o (yielded ops a.tmps) = true) (hy : ∀ w, S w → (execOp a.eval o).run P w = .ok (.value v) w)
    (h : wpT P ops Q S F l t (a.put o.dst v) w) : wpT P ops Q S F l (.take i t) a w := ⟨o, v, ho, .inl ⟨hw, hy⟩, h⟩
theorem wpMv_step {l : List Oper} {i : Nat} {K : Act → World → Prop} {a : Act} {w : World} {o : Oper} (ho : l[i]? = some o)
    (h : ∀ K' : Act → World → Prop, Shut (∀ a w, S w → K a w → K' a w) → if Region.wanted o (yielded ops a.tmps) = true then Oper.wp P o a w K' Q else K' (a.put o.dst undef) w) : wpMv P ops Q S l i K a w :=
  ⟨o, ho, h _ (fun _ _ hS h => ⟨hS, h⟩)⟩
theorem wpT_move {F : Act → World → Prop} {l : List Oper} {i : Nat} {t : OT} {a : Act} {w : World} {o : Oper} (ho : l[i]? = some o)
    (h : ∀ K' : Act → World → Prop, Shut (∀ a w, S w → wpT P ops Q S F l t a w → K' a w) → if Region.wanted o (yielded ops a.tmps) = true then Oper.wp P o a w K' Q else K' (a.put o.dst undef) w) : wpT P ops Q S F l (.move i t) a w :=
  wpMv_step ho h
theorem wpT_fork {F : Act → World → Prop} {l : List Oper} {i j : Nat} {ti tj : OT} {a : Act} {w : World} (h1 : wpT P ops Q S F l (.move i ti) a w) (h2 : wpT P ops Q S F l (.move j tj) a w) : wpT P ops Q S F l (.fork i j ti tj) a w := ⟨h1, h2⟩
end

end Go.Proofs.YtljmonfobefiiaaGreatDoor

/- wire.NewIn; the closure of tape.Decode that reads a cause. -/
namespace Go.Proofs.YtljmonfobefiiaaGreatDoor
open Go.RowKit

/-- What may have changed: the old blocks in S, and new ones. -/
structure Keep (S : Nat → Prop) (w w' : World) : Prop where
  os : w'.os = w.os
  tape : w'.tape = w.tape
  output : w'.output = w.output
  size : w.heap.size ≤ w'.heap.size
  block : ∀ k, k < w.heap.size → ¬ S k → w'.heap[k]? = w.heap[k]?
theorem Keep.refl (S : Nat → Prop) (w : World) : Keep S w w := ⟨rfl, rfl, rfl, Nat.le_refl _, fun _ _ _ => rfl⟩
theorem Keep.then {S : Nat → Prop} {w w1 w2 : World} (h : Keep S w w1) {row : Option Nat} (hg : w1.grownBy w2 row) (hr : ∀ j, row = some j → w.heap.size ≤ j ∨ S j) : Keep S w w2 :=
  ⟨hg.os.trans h.os, hg.tape.trans h.tape, hg.output.trans h.output, Nat.le_trans h.size hg.size, fun k hk hs => (hg.block k (Nat.lt_of_lt_of_le hk h.size) (fun e => by
    rcases hr k e.symm with h1 | h1
    · omega
    · exact hs h1)).trans (h.block k hk hs)⟩
theorem Keep.trans {S : Nat → Prop} {w w1 w2 : World} (h : Keep S w w1) (g : Keep S w1 w2) : Keep S w w2 :=
  ⟨g.os.trans h.os, g.tape.trans h.tape, g.output.trans h.output, Nat.le_trans h.size g.size, fun k hk hs => (g.block k (Nat.lt_of_lt_of_le hk h.size) hs).trans (h.block k hk hs)⟩
theorem Keep.below {S : Nat → Prop} {w w' : World} (h : Keep S w w') {B : Nat} (hB : B ≤ w.heap.size) (hS : ∀ k, S k → B ≤ k) : Below B w w' :=
  ⟨h.os, h.tape, h.output, h.size, fun k hk => h.block k (by omega) (fun e => by have := hS k e; omega)⟩
theorem Keep.blk {S : Nat → Prop} {w w' : World} (h : Keep S w w') {g : Nat} {cs : Array Value} (hb : Blk w g cs) (hs : ¬ S g) : Blk w' g cs := by
  have hl := hb.lt
  obtain ⟨t, hb⟩ := hb
  exact ⟨t, (h.block g hl hs).trans hb⟩

end Go.Proofs.YtljmonfobefiiaaGreatDoor
