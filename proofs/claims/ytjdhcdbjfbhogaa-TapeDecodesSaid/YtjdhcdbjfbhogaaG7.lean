/- slices.SortFunc at questions. -/
import Derived.Test.YtjdhcdbjfbhogaaG5
import Derived.Test.YtjdhcdbjfbhogaaG6
import Derived.Test.YtjdhcdbjfbhogaaS1
import Derived.Shelf.SlSortCmp.WholeK
namespace Go.Proofs.Ytjdhcdbjfbhogaa
open Go.RowKit Go.Shelf
open Go.Sort hiding Below

instance : Inhabited Qn := ⟨⟨0, 0, 0, 0, 0⟩⟩
theorem qc_length (q : Qn) : (qc q).length = 5 := rfl
theorem flatK_get (d : Array Qn) (t : Nat) (h : t < d.size * 5) : (d.toList.flatMap qc)[t]? = some (flatK qc 5 d)[t]! := by
  have h5 : t / 5 < d.size := by omega
  have h6 : t % 5 < 5 := Nat.mod_lt _ (by omega)
  rw [get_flatK _ _ _ _ h]
  have e : t / 5 * 5 + t % 5 = t := by omega
  conv => lhs; rw [← e]
  rw [getElem?_flat qc 5 qc_length d.toList (t / 5) (t % 5) d[t / 5]! (by simp [h5]) h6]
  rw [List.getElem?_eq_getElem (by rw [qc_length]; exact h6), getElem!_pos (qc d[t / 5]!) (t % 5) (by rw [qc_length]; exact h6)]
theorem holds_of_owns {w : World} {B n cap blk : Nat} {xs : List Qn} (h : w.ownsRow B 66 5 (.slice (some ⟨blk, 0, none⟩) n cap) n (xs.flatMap qc)) : HoldsK qc 5 w blk 0 xs.toArray := by
  intro j hj
  rw [size_flatK] at hj
  have hg := flatK_get xs.toArray j hj
  obtain ⟨_, h0 | ⟨g, cap', cur, hv, _, hh, _, _, _, ht⟩⟩ := h
  · simp at h0
  · simp at hv
    obtain ⟨rfl, _⟩ := hv
    refine ⟨?_, by simp [World.frozen?, hh]⟩
    rw [cell_of_row w blk (0 + j) cur 66 (0, 0) hh, Nat.zero_add, ← Array.getElem?_toList]
    rw [← ht] at hg
    rw [List.getElem?_take] at hg
    split at hg
    · simpa using hg
    · cases hg
theorem flat_of_holds {w : World} {blk n cap : Nat} {d : Array Qn} (h : HoldsK qc 5 w blk 0 d) (hn : n = d.size) (hm : n ≤ 1000000) : Flat w 5 (.slice (some ⟨blk, 0, none⟩) n cap) d.toList.length (d.toList.flatMap qc) := by
  subst hn
  have hl : (d.toList.flatMap qc).length = d.size * 5 := by rw [length_flat qc 5 qc_length]; simp
  rw [show d.toList.length = d.size from by simp]
  refine Flat.of_cells hl (by omega) fun j u hu => ?_
  have hj : j < d.size * 5 := by have := (List.getElem?_eq_some_iff.1 hu).1; omega
  rw [flatK_get d j hj] at hu
  rw [(h j (by rw [size_flatK]; exact hj)).1]
  exact hu
theorem below_sortWorldK {α : Type} [Inhabited α] (enc : α → List Value) (k : Nat) (w : World) (blk off m : Nat) (dk : Array α) (os : Array Obj) (B : Nat) (hB : B ≤ blk) (hb : blk < w.heap.size) : Below B w (sortWorldK enc k w blk off m dk os) := by
  refine ⟨rfl, rfl, rfl, size_sortWorldK_c enc k w blk off m dk os, fun j hj => ?_⟩
  show ((w.heap.modify blk _) ++ os)[j]? = _
  rw [Array.getElem?_append_left (by simp; omega), Array.getElem?_modify, if_neg (by omega)]
theorem cmpLaysQ (blk off size : Nat) (w : World) : CmpLays Try.prog 39 #[] qc 5 Qn.cmp blk off size w := fun _ _ _ _ x y => compareQuestionG x.node x.handler x.count x.kind x.index y.node y.handler y.count y.kind y.index _
/-- In order: none is less than an earlier one. -/
def InOrder (l : List Qn) : Prop := l.Pairwise fun a b => a.cmp b ≤ 0
theorem inOrder_of {d : Array Qn} (h : Sort.SortedIn (ltOf Qn.cmp) 0 d.size d) : InOrder d.toList := by
  rw [InOrder, List.pairwise_iff_getElem]
  intro i j hi hj hij
  have h1 := h i j (by omega) hij (by simpa using hj)
  simp at hi hj
  rw [getElem!_pos d j hj, getElem!_pos d i hi] at h1
  have h2 : ¬ Qn.cmp d[j] d[i] < 0 := of_decide_eq_false h1
  have := Qn.cmp_anti d[i] d[j]
  simp only [Array.getElem_toList]
  omega

set_option maxHeartbeats 1000000 in
theorem sortQ_some (blk cap : Nat) (xs : List Qn) (B : Nat) (w : World) (hown : w.ownsRow B 66 5 (.slice (some ⟨blk, 0, none⟩) xs.length cap) xs.length (xs.flatMap qc)) (hsz : xs.length ≤ 1000000) :
    Calls Try.prog 84 #[.slice (some ⟨blk, 0, none⟩) xs.length cap, .func (.func 39) #[] #[]] w fun e w' => e = .returned (.tuple #[]) ∧ ∃ ys : List Qn, ys.Perm xs ∧ InOrder ys ∧ Flat w' 5 (.slice (some ⟨blk, 0, none⟩) xs.length cap) ys.length (ys.flatMap qc) ∧ Below B w w' := by
  have eg : ∀ args w, (callFunc 39 args).run Try.prog w = .ok (.enter 39 args) w := enters_of Try.func39 (by kernel_rfl) rfl
  have hH := holds_of_owns hown
  obtain ⟨hB, hblk⟩ : B ≤ blk ∧ blk < w.heap.size := by
    obtain ⟨_, h0 | ⟨g, cap', cur, hv, hb, hh, _⟩⟩ := hown
    · simp at h0
    · simp at hv
      obtain ⟨rfl, _⟩ := hv
      exact ⟨hb, (Array.getElem?_eq_some_iff.1 hh).1⟩
  have hcon := AnyQ.slices_SortFunc Try.sortQn 5 Try.isAgg66 Try.sizeOf66 qc qc_length (fun x v hv => by simp [qc, iv, Qn.ints] at hv; rcases hv with rfl | rfl | rfl | rfl | rfl <;> rfl) Qn.cmp sortedQ 39 #[] blk 0 cap xs.toArray w eg (cmpLaysQ blk 0 xs.toArray.size w) hH hblk (by simp; omega)
  change Calls Try.prog 84 _ _ _ at hcon
  refine hcon.mono ?_
  rintro e w' ⟨rfl, d', n, os, hp, hs, rfl⟩
  have hsz' : d'.size = xs.length := by rw [hp.1]; simp
  have hh := holdsK_sortWorldK_c qc 5 w blk 0 xs.toArray d' n os hH hblk hp.1
  refine ⟨rfl, d'.toList, ?_, inOrder_of (by rw [hsz']; simpa using hs), flat_of_holds hh (by omega) hsz, below_sortWorldK _ _ _ _ _ _ _ _ _ hB hblk⟩
  have h2 := hp.2.2
  have e1 : d'.extract 0 xs.toArray.size = d' := by simp [← hsz']
  have e2 : xs.toArray.extract 0 xs.toArray.size = xs.toArray := by simp
  rw [e1, e2] at h2
  simpa using h2
end Go.Proofs.Ytjdhcdbjfbhogaa
