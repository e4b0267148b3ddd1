/- wire.NewIn; the closure of tape.Decode that reads a cause. -/
import Derived.Test.YtjdhcdbjfbhogaaW5
import Derived.Test.YtjdhcdbjfbhogaaOT
import Derived.Deep.CutRange
import Derived.Laws.ResultCell
namespace Go.Proofs.Ytjdhcdbjfbhogaa
open Go.RowKit

/-- What may have changed: the old blocks in S, and new ones. -/
structure Keep (S : Nat → Prop) (w w' : World) : Prop where
  os : w'.os = w.os
  tape : w'.tape = w.tape
  output : w'.output = w.output
  size : w.heap.size ≤ w'.heap.size
  block : ∀ k, k < w.heap.size → ¬ S k → w'.heap[k]? = w.heap[k]?
theorem Keep.refl (S : Nat → Prop) (w : World) : Keep S w w := ⟨rfl, rfl, rfl, Nat.le_refl _, fun _ _ _ => rfl⟩
theorem Keep.then {S : Nat → Prop} {w w1 w2 : World} (h : Keep S w w1) {row : Option Nat} (hg : w1.grownBy w2 row) (hr : ∀ j, row = some j → w.heap.size ≤ j ∨ S j) : Keep S w w2 :=
  ⟨hg.os.trans h.os, hg.tape.trans h.tape, hg.output.trans h.output, Nat.le_trans h.size hg.size, fun k hk hs => (hg.block k (Nat.lt_of_lt_of_le hk h.size) (fun e => by
    rcases hr k e.symm with h1 | h1
    · omega
    · exact hs h1)).trans (h.block k hk hs)⟩
theorem Keep.trans {S : Nat → Prop} {w w1 w2 : World} (h : Keep S w w1) (g : Keep S w1 w2) : Keep S w w2 :=
  ⟨g.os.trans h.os, g.tape.trans h.tape, g.output.trans h.output, Nat.le_trans h.size g.size, fun k hk hs => (g.block k (Nat.lt_of_lt_of_le hk h.size) hs).trans (h.block k hk hs)⟩
theorem Keep.below {S : Nat → Prop} {w w' : World} (h : Keep S w w') {B : Nat} (hB : B ≤ w.heap.size) (hS : ∀ k, S k → B ≤ k) : Below B w w' :=
  ⟨h.os, h.tape, h.output, h.size, fun k hk => h.block k (by omega) (fun e => by have := hS k e; omega)⟩
theorem Keep.blk {S : Nat → Prop} {w w' : World} (h : Keep S w w') {g : Nat} {cs : Array Value} (hb : Blk w g cs) (hs : ¬ S g) : Blk w' g cs := by
  have hl := hb.lt
  obtain ⟨t, hb⟩ := hb
  exact ⟨t, (h.block g hl hs).trans hb⟩

set_option maxRecDepth 100000 in
theorem newIn (l : List Int) (v : Value) (w : World) (h : BySl w v l) (hl : l.length ≤ 100000000) :
    Calls Try.prog 47 #[v] w fun e w' => ∃ p, e = .returned (.pointer (some ⟨p, 0, none⟩)) ∧ w.heap.size ≤ p ∧ InAt w' p (.ok l) ∧ Below w.heap.size w w' := by
  have Hc := Lib.hid (cloneBy l v w h hl)
  clear h
  go_enter Try.func47, Try.ntmps47
  go_wp2_with (go_at_call 60; refine Hc.out.mono ?_; rintro e w1 ⟨u, rfl, hown, hB⟩; obtain ⟨k, c, rfl, _⟩ := (Flat.of_owns hown).open)
  go_ret
  have hz := hB.size
  refine ⟨_, rfl, hz, ⟨k, c, Blk.new _ _ _, Flat.kept (Flat.of_owns hown) ((Below.refl _ _).alloc (Nat.le_refl _) _) (Nat.le_refl _), (owns_cap hown).2, fun x hx => ?_⟩, hB.alloc hz _⟩
  subst hx
  rcases owns_addr hown with ⟨h1, _⟩ | ⟨g, h1⟩
  · cases h1
  · cases h1
    exact (hown.lt g rfl).2

theorem Rd.after_succ (s : Rd) (k : Nat) : (s.after k).int.2 = s.after (k + 1) := rfl
theorem Rd.nth_eq (s : Rd) (k : Nat) : (s.after k).int.1 = s.nth k := rfl
set_option maxHeartbeats 2000000 in
set_option maxRecDepth 100000 in
theorem causeF (s : Rd) (p bx : Nat) (w : World) (h : InAt w p s) (hf : s.fine) (hb : Blk w bx #[.pointer (some ⟨p, 0, none⟩)]) (hne : bx ≠ p) :
    Calls Try.prog 48 #[.pointer (some ⟨bx, 0, none⟩)] w fun e w' => e = .returned (.agg #[I (s.nth 0), I (s.nth 1), I (s.nth 2)]) ∧ InAt w' p (s.after 3) ∧ w.grownBy w' (some p) := by
  have hB := (Below.refl w.heap.size w).alloc (Nat.le_refl _) (.cells #[I 0, I 0, I 0] 52)
  have h1 := h.below hB
  have hb1 := hb.kept hB hb.lt
  have hr := Blk.new w #[I 0, I 0, I 0] 52
  have hg0 : w.grownBy (w.alloc (.cells #[I 0, I 0, I 0] 52)) (some p) := World.grownBy_alloc _ _ _
  have hpl := h.lt
  have Hf := Lib.hid hf
  clear h hf hB hb
  go_enter Try.func48, Try.ntmps48
  go_upto_region 1 with fail
  generalize w.alloc (.cells #[I 0, I 0, I 0] 52) = v0 at h1 hb1 hr hg0 ⊢
  refine wp_region_ordN 7 [(0, true), (2, true), (4, true), (1, false), (3, false), (5, false), (6, true)] (fun w' => ∀ j, w'.cell? ⟨bx, j, none⟩ = (#[.pointer (some ⟨p, 0, none⟩)] : Array Value)[j]?) (by kernel_rfl) rfl rfl (by kernel_rfl) hb1.cell ?_
  iterate 3 (refine wpOrd_take ?_ (by rfl) ?_ ?_; rotate_left; (intro w hSw; (try dsimp only at hSw); go_simp; try with_reducible rfl); (try simp only [Act.put, List.setIfInBounds_toArray, List.set_cons_zero, List.set_cons_succ]))
  have h1d : InAt v0.drew p s := h1.below (Below.refl _ _).drew
  have hb1d : Blk v0.drew bx _ := hb1
  have hrd : Blk v0.drew w.heap.size _ := hr
  have hg0d : w.grownBy v0.drew (some p) := ⟨hg0.os, hg0.tape, hg0.output, hg0.size, hg0.block⟩
  clear h1 hb1 hr hg0
  generalize v0.drew = vd at h1d hb1d hrd hg0d ⊢
  refine wpOrd_move (fun K hK => ?_)
  go_simp
  go_at_call 49
  refine (inInt (s.after 0) p _ h1d (Rd.fine_after Hf.out 0)).mono ?_
  rintro e v1 ⟨rfl, q1, g1⟩
  rw [Rd.after_succ] at q1
  have hb2 := hb1d.grown g1 (fun e => hne (by simpa using e.symm))
  have r1 := hrd.grown g1 (fun e => by simp at e; omega)
  refine hK.out _ _ hb2.cell ?_
  clear hK K
  (try simp only [Act.put, List.setIfInBounds_toArray, List.set_cons_zero, List.set_cons_succ])
  refine wpOrd_move (fun K hK => ?_)
  go_simp
  go_at_call 49
  refine (inInt (s.after 1) p _ q1 (Rd.fine_after Hf.out 1)).mono ?_
  rintro e v2 ⟨rfl, q2, g2⟩
  rw [Rd.after_succ] at q2
  have hb3 := hb2.grown g2 (fun e => hne (by simpa using e.symm))
  have r2 := r1.grown g2 (fun e => by simp at e; omega)
  refine hK.out _ _ hb3.cell ?_
  clear hK K
  (try simp only [Act.put, List.setIfInBounds_toArray, List.set_cons_zero, List.set_cons_succ])
  refine wpOrd_move (fun K hK => ?_)
  go_simp
  go_at_call 49
  refine (inInt (s.after 2) p _ q2 (Rd.fine_after Hf.out 2)).mono ?_
  rintro e v3 ⟨rfl, q3, g3⟩
  rw [Rd.after_succ] at q3
  have hb4 := hb3.grown g3 (fun e => hne (by simpa using e.symm))
  have r3 := r2.grown g3 (fun e => by simp at e; omega)
  refine hK.out _ _ hb4.cell ?_
  clear hK K
  (try simp only [Act.put, List.setIfInBounds_toArray, List.set_cons_zero, List.set_cons_succ])
  (refine wpOrd_take ?_ (by rfl) ?_ ?_; rotate_left; (intro w hSw; (try dsimp only at hSw); go_simp; try with_reducible rfl); (try simp only [Act.put, List.setIfInBounds_toArray, List.set_cons_zero, List.set_cons_succ]))
  refine wpOrd_nil ?_
  have r0 := r3.cell 0
  have r01 := r3.cell 1
  have r02 := r3.cell 2
  have f0 := r3.frozen 0
  have f1 := r3.frozen 1
  have f2 := r3.frozen 2
  go_wp2_with fail
  refine NoPanic.normal ?_
  go_wp2_with fail
  simp only [Rd.nth_eq]
  have hS : v3.grownBy (((v3.setCell ⟨w.heap.size, 0, none⟩ (I (s.nth 0))).setCell ⟨w.heap.size, 1, none⟩ (I (s.nth 1))).setCell ⟨w.heap.size, 2, none⟩ (I (s.nth 2))) (some w.heap.size) := ((grown_set' v3 ⟨w.heap.size, 0, none⟩ _).trans (grown_set' _ ⟨w.heap.size, 1, none⟩ _)).trans (grown_set' _ ⟨w.heap.size, 2, none⟩ _)
  have hR : Blk (((v3.setCell ⟨w.heap.size, 0, none⟩ (I (s.nth 0))).setCell ⟨w.heap.size, 1, none⟩ (I (s.nth 1))).setCell ⟨w.heap.size, 2, none⟩ (I (s.nth 2))) w.heap.size #[I (s.nth 0), I (s.nth 1), I (s.nth 2)] := ((r3.set 0 _).set 1 _).set 2 _
  have q4 := q3.grown hS (fun j hj => by cases hj; omega)
  have g4 := World.grownBy.andThen (((hg0d.trans g1).trans g2).trans g3) hS (fun j hj => by cases hj; exact .inl (Nat.le_refl _))
  generalize ((v3.setCell ⟨w.heap.size, 0, none⟩ (I (s.nth 0))).setCell ⟨w.heap.size, 1, none⟩ (I (s.nth 1))).setCell ⟨w.heap.size, 2, none⟩ (I (s.nth 2)) = W5 at hS hR q4 g4 ⊢
  obtain ⟨t5, ht5⟩ := hR
  have hr : ∀ tmps : Array Value, tmps.getD 1 undef = .pointer (some ⟨w.heap.size, 0, none⟩) → (results Try.f48 tmps).run Try.prog W5 = .ok (.agg #[I (s.nth 0), I (s.nth 1), I (s.nth 2)]) W5 := fun tmps hp => results_cell_row Try.results48 tmps W5 w.heap.size t5 _ (0, 0) _ hp ht5 Try.underlying52 rfl (by kernel_rfl)
  refine bodyPost_ret (hr _ rfl) rfl ?_
  exact ⟨rfl, q4, g4⟩

end Go.Proofs.Ytjdhcdbjfbhogaa
