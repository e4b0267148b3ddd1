import Derived.Shelf.SlGeneric
import Derived.Shelf.SlLaysF0
import Derived.Ground.SlsfProg
import Derived.Test.YtljmonfobefiiaaGreatDoorProg
import Derived.Test.YtljmonfobefiiaaGreatDoorUTG3
import Derived.Test.YtljmonfobefiiaaGreatDoorUTG6
import Derived.Shelf.SlSortCmp.WholeK
import Derived.Test.YtljmonfobefiiaaGreatDoorUTG9
import Derived.Deep.CutRange
import Derived.Deep.DeepMust
/-
  DERIVED: THE SHELF's CONTRACTS AT THIS DUMP, IN PLAIN WORDS (tools/lay-plain.mjs out of 'YtljmonfobefiiaaGreatDoorShelfT.lean', which tools/lay-shelf.mjs wrote): THE SAME DECLARATIONS UNDER THE SAME NAMES: 'import', 'namespace', 'open', 'def', 'theorem' AND NOTHING ELSE: no command of the shelf's: FOR A HAND-IN. Each laying: the table of numbers ('.._ren') and one theorem, a field a fact of the dump's own or the kernel's comparison; each contract: ONE APPLICATION.
-/
namespace Go.Proofs
open Go.Shelf
def Tryz.sortQn_ren : Go.Shelf.Ren := ⟨fun | 6 => 91 | 15 => 124 | 14 => 123 | 28 => 162 | 29 => 163 | 20 => 154 | 21 => 155 | 22 => 156 | 23 => 157 | 24 => 158 | 25 => 159 | 26 => 160 | 27 => 161 | 46 => 176 | 47 => 177 | 48 => 178 | 49 => 179 | 50 => 180 | 57 => 187 | n => n, fun | 22 => 102 | 24 => 58 | 25 => 107 | 3 => 3 | 39 => 169 | 0 => 0 | 53 => 190 | 55 => 143 | 4 => 4 | 46 => 205 | 45 => 204 | 50 => 209 | 5 => 5 | 9 => 9 | 66 => 226 | 70 => 230 | 76 => 240 | 77 => 241 | n => n, fun | n => n⟩
theorem Tryz.sortQn : Go.Proofs.SlLaysF0.n6 Tryz.prog Tryz.sortQn_ren := {
  mixed := by kernel_rfl
  f6 := ⟨Tryz.f91.name, by decide, Tryz.func91.trans (congrArg some (by kernel_rfl))⟩
  f14 := ⟨Tryz.f123.name, by decide, Tryz.func123.trans (congrArg some (by kernel_rfl))⟩
  f15 := Tryz.func124.trans (congrArg some (by kernel_rfl))
  f20 := ⟨Tryz.f154.name, by decide, Tryz.func154.trans (congrArg some (by kernel_rfl))⟩
  f21 := ⟨Tryz.f155.name, by decide, Tryz.func155.trans (congrArg some (by kernel_rfl))⟩
  f22 := ⟨Tryz.f156.name, by decide, Tryz.func156.trans (congrArg some (by kernel_rfl))⟩
  f23 := ⟨Tryz.f157.name, by decide, Tryz.func157.trans (congrArg some (by kernel_rfl))⟩
  f24 := ⟨Tryz.f158.name, by decide, Tryz.func158.trans (congrArg some (by kernel_rfl))⟩
  f25 := ⟨Tryz.f159.name, by decide, Tryz.func159.trans (congrArg some (by kernel_rfl))⟩
  f26 := ⟨Tryz.f160.name, by decide, Tryz.func160.trans (congrArg some (by kernel_rfl))⟩
  f27 := ⟨Tryz.f161.name, by decide, Tryz.func161.trans (congrArg some (by kernel_rfl))⟩
  f28 := Tryz.func162.trans (congrArg some (by kernel_rfl))
  f29 := Tryz.func163.trans (congrArg some (by kernel_rfl))
  f46 := ⟨Tryz.f176.name, by decide, Tryz.func176.trans (congrArg some (by kernel_rfl))⟩
  f47 := Tryz.func177.trans (congrArg some (by kernel_rfl))
  f48 := Tryz.func178.trans (congrArg some (by kernel_rfl))
  f49 := ⟨Tryz.f179.name, by decide, Tryz.func179.trans (congrArg some (by kernel_rfl))⟩
  f50 := ⟨Tryz.f180.name, by decide, Tryz.func180.trans (congrArg some (by kernel_rfl))⟩
  f57 := ⟨Tryz.f187.name, by decide, Tryz.func187.trans (congrArg some (by kernel_rfl))⟩
  t0 := Tryz.underlying0
  a0 := Tryz.isAgg0
  z0 := Tryz.sizeOf0
  v0 := Tryz.zeroValue0
  t3 := Tryz.underlying3
  a3 := Tryz.isAgg3
  z3 := Tryz.sizeOf3
  v3 := Tryz.zeroValue3
  t4 := Tryz.underlying4
  a4 := Tryz.isAgg4
  z4 := Tryz.sizeOf4
  v4 := Tryz.zeroValue4
  t5 := Tryz.underlying5
  a5 := Tryz.isAgg5
  z5 := Tryz.sizeOf5
  v5 := Tryz.zeroValue5
  t9 := Tryz.underlying9
  a9 := Tryz.isAgg9
  z9 := Tryz.sizeOf9
  v9 := Tryz.zeroValue9
  t22 := Tryz.underlying102
  a22 := Tryz.isAgg102
  z22 := Tryz.sizeOf102
  v22 := Tryz.zeroValue102
  t25 := Tryz.underlying107
  a25 := Tryz.isAgg107
  z25 := Tryz.sizeOf107
  v25 := Tryz.zeroValue107
  t39 := Tryz.underlying169
  a39 := Tryz.isAgg169
  z39 := Tryz.sizeOf169
  v39 := Tryz.zeroValue169
  t45 := Tryz.underlying204
  a45 := Tryz.isAgg204
  z45 := Tryz.sizeOf204
  v45 := Tryz.zeroValue204
  t46 := Tryz.underlying205
  a46 := Tryz.isAgg205
  z46 := Tryz.sizeOf205
  v46 := Tryz.zeroValue205
  t50 := Tryz.underlying209
  a50 := Tryz.isAgg209
  z50 := Tryz.sizeOf209
  v50 := Tryz.zeroValue209
  t53 := Tryz.underlying190
  a53 := Tryz.isAgg190
  z53 := Tryz.sizeOf190
  v53 := Tryz.zeroValue190
  t55 := Tryz.underlying143
  a55 := Tryz.isAgg143
  z55 := Tryz.sizeOf143
  v55 := Tryz.zeroValue143
  t66 := Tryz.underlying226
  a66 := Tryz.isAgg226
  z66 := Tryz.sizeOf226
  v66 := Tryz.zeroValue226
  t70 := Tryz.underlying230
  a70 := Tryz.isAgg230
  z70 := Tryz.sizeOf230
  v70 := Tryz.zeroValue230
  t76 := Tryz.underlying240
  a76 := Tryz.isAgg240
  z76 := Tryz.sizeOf240
  v76 := Tryz.zeroValue240
  t77 := Tryz.underlying241
  a77 := Tryz.isAgg241
  z77 := Tryz.sizeOf241
  v77 := Tryz.zeroValue241 }
end Go.Proofs

/- slices.SortFunc at questions. -/
namespace Go.Proofs.YtljmonfobefiiaaGreatDoor
open Go.RowKit Go.Shelf
open Go.Sort hiding Below

instance : Inhabited Qn := ⟨⟨0, 0, 0, 0, 0⟩⟩
theorem qc_length (q : Qn) : (qc q).length = 5 := rfl
theorem flatK_get (d : Array Qn) (t : Nat) (h : t < d.size * 5) : (d.toList.flatMap qc)[t]? = some (flatK qc 5 d)[t]! := by
  have h5 : t / 5 < d.size := by omega
  have h6 : t % 5 < 5 := Nat.mod_lt _ (by omega)
  rw [get_flatK _ _ _ _ h]
  have e : t / 5 * 5 + t % 5 = t := by omega
  conv => lhs; rw [← e]
  rw [getElem?_flat qc 5 qc_length d.toList (t / 5) (t % 5) d[t / 5]! (by simp [h5]) h6]
  rw [List.getElem?_eq_getElem (by rw [qc_length]; exact h6), getElem!_pos (qc d[t / 5]!) (t % 5) (by rw [qc_length]; exact h6)]
theorem holds_of_owns {w : World} {B n cap blk : Nat} {xs : List Qn} (h : w.ownsRow B 58 5 (.slice (some ⟨blk, 0, none⟩) n cap) n (xs.flatMap qc)) : HoldsK qc 5 w blk 0 xs.toArray := by
  intro j hj
  rw [size_flatK] at hj
  have hg := flatK_get xs.toArray j hj
  obtain ⟨_, h0 | ⟨g, cap', cur, hv, _, hh, _, _, _, ht⟩⟩ := h
  · simp at h0
  · simp at hv
    obtain ⟨rfl, _⟩ := hv
    refine ⟨?_, by simp [World.frozen?, hh]⟩
    rw [cell_of_row w blk (0 + j) cur 58 (0, 0) hh, Nat.zero_add, ← Array.getElem?_toList]
    rw [← ht] at hg
    rw [List.getElem?_take] at hg
    split at hg
    · simpa using hg
    · cases hg
theorem flat_of_holds {w : World} {blk n cap : Nat} {d : Array Qn} (h : HoldsK qc 5 w blk 0 d) (hn : n = d.size) (hm : n ≤ 1000000) : Flat w 5 (.slice (some ⟨blk, 0, none⟩) n cap) d.toList.length (d.toList.flatMap qc) := by
  subst hn
  have hl : (d.toList.flatMap qc).length = d.size * 5 := by rw [length_flat qc 5 qc_length]; simp
  rw [show d.toList.length = d.size from by simp]
  refine Flat.of_cells hl (by omega) fun j u hu => ?_
  have hj : j < d.size * 5 := by have := (List.getElem?_eq_some_iff.1 hu).1; omega
  rw [flatK_get d j hj] at hu
  rw [(h j (by rw [size_flatK]; exact hj)).1]
  exact hu
theorem below_sortWorldK {α : Type} [Inhabited α] (enc : α → List Value) (k : Nat) (w : World) (blk off m : Nat) (dk : Array α) (os : Array Obj) (B : Nat) (hB : B ≤ blk) (hb : blk < w.heap.size) : Below B w (sortWorldK enc k w blk off m dk os) := by
  refine ⟨rfl, rfl, rfl, size_sortWorldK_c enc k w blk off m dk os, fun j hj => ?_⟩
  show ((w.heap.modify blk _) ++ os)[j]? = _
  rw [Array.getElem?_append_left (by simp; omega), Array.getElem?_modify, if_neg (by omega)]
theorem cmpLaysQ (blk off size : Nat) (w : World) : CmpLays Tryz.prog 55 #[] qc 5 Qn.cmp blk off size w := fun _ _ _ _ x y => compareQuestionG x.node x.handler x.count x.kind x.index y.node y.handler y.count y.kind y.index _
/-- In order: none is less than an earlier one. -/
def InOrder (l : List Qn) : Prop := l.Pairwise fun a b => a.cmp b ≤ 0
theorem inOrder_of {d : Array Qn} (h : Sort.SortedIn (ltOf Qn.cmp) 0 d.size d) : InOrder d.toList := by
  rw [InOrder, List.pairwise_iff_getElem]
  intro i j hi hj hij
  have h1 := h i j (by omega) hij (by simpa using hj)
  simp at hi hj
  rw [getElem!_pos d j hj, getElem!_pos d i hi] at h1
  have h2 : ¬ Qn.cmp d[j] d[i] < 0 := of_decide_eq_false h1
  have := Qn.cmp_anti d[i] d[j]
  simp only [Array.getElem_toList]
  omega

set_option maxHeartbeats 1000000 in
theorem sortQ_some (blk cap : Nat) (xs : List Qn) (B : Nat) (w : World) (hown : w.ownsRow B 58 5 (.slice (some ⟨blk, 0, none⟩) xs.length cap) xs.length (xs.flatMap qc)) (hsz : xs.length ≤ 1000000) :
    Calls Tryz.prog 91 #[.slice (some ⟨blk, 0, none⟩) xs.length cap, .func (.func 55) #[] #[]] w fun e w' => e = .returned (.tuple #[]) ∧ ∃ ys : List Qn, ys.Perm xs ∧ InOrder ys ∧ Flat w' 5 (.slice (some ⟨blk, 0, none⟩) xs.length cap) ys.length (ys.flatMap qc) ∧ Below B w w' := by
  have eg : ∀ args w, (callFunc 55 args).run Tryz.prog w = .ok (.enter 55 args) w := enters_of Tryz.func55 (by kernel_rfl) rfl
  have hH := holds_of_owns hown
  obtain ⟨hB, hblk⟩ : B ≤ blk ∧ blk < w.heap.size := by
    obtain ⟨_, h0 | ⟨g, cap', cur, hv, hb, hh, _⟩⟩ := hown
    · simp at h0
    · simp at hv
      obtain ⟨rfl, _⟩ := hv
      exact ⟨hb, (Array.getElem?_eq_some_iff.1 hh).1⟩
  have hcon := AnyQ.slices_SortFunc Tryz.sortQn 5 Tryz.isAgg58 Tryz.sizeOf58 qc qc_length (fun x v hv => by simp [qc, iv, Qn.ints] at hv; rcases hv with rfl | rfl | rfl | rfl | rfl <;> rfl) Qn.cmp sortedQ 55 #[] blk 0 cap xs.toArray w eg (cmpLaysQ blk 0 xs.toArray.size w) hH hblk (by simp; omega)
  change Calls Tryz.prog 91 _ _ _ at hcon
  refine hcon.mono ?_
  rintro e w' ⟨rfl, d', n, os, hp, hs, rfl⟩
  have hsz' : d'.size = xs.length := by rw [hp.1]; simp
  have hh := holdsK_sortWorldK_c qc 5 w blk 0 xs.toArray d' n os hH hblk hp.1
  refine ⟨rfl, d'.toList, ?_, inOrder_of (by rw [hsz']; simpa using hs), flat_of_holds hh (by omega) hsz, below_sortWorldK _ _ _ _ _ _ _ _ _ hB hblk⟩
  have h2 := hp.2.2
  have e1 : d'.extract 0 xs.toArray.size = d' := by simp [← hsz']
  have e2 : xs.toArray.extract 0 xs.toArray.size = xs.toArray := by simp
  rw [e1, e2] at h2
  simpa using h2
end Go.Proofs.YtljmonfobefiiaaGreatDoor

/- maps.Keys, slices.Collect, slices.SortedFunc, slices.Clone. -/
namespace Go.Proofs.YtljmonfobefiiaaGreatDoor
open Go.RowKit Go.Maps

set_option maxRecDepth 100000 in
theorem insertNil (w : World) : Calls Tryz.prog 154 #[.slice none 0 0, I 0, I 0, .func (.func 55) #[] #[]] w fun e w' => e = .returned (.tuple #[]) ∧ w' = w := by
  go_enter Tryz.func154, Tryz.ntmps154
  go_wp2_with fail
  refine wp_loop_rounds 1 ?_
  rw [rounds_succ]
  go_wp2_with fail
  go_end0
  exact ⟨rfl, rfl⟩
set_option maxRecDepth 100000 in
theorem pdqNil (lim : Int) (w : World) : Calls Tryz.prog 123 #[.slice none 0 0, I 0, I 0, I lim, .func (.func 55) #[] #[]] w fun e w' => e = .returned (.tuple #[]) ∧ w' = w := by
  have hi := insertNil w
  go_enter Tryz.func123, Tryz.ntmps123
  go_wp2_with fail
  refine wp_loop_rounds 1 ?_
  rw [rounds_succ]
  go_wp2_with (go_at_call 154; refine hi.mono ?_; rintro e w' ⟨rfl, rfl⟩)
  (try simp only [Exit.inBlock, Exit.then]); refine bodyPost_ret (results_none rfl _ _ _) rfl ?_
  exact ⟨rfl, rfl⟩
theorem bitsLen (n : Nat) (w : World) (h : n ≤ 1000000) : Calls Tryz.prog 124 #[.int .u64 n] w fun e w' => (∃ l : Int, e = .returned (.int .i64 l)) ∧ w' = w := by
  have h1 := Any.bits_Len (SlLaysF0.n15.bits (P := Tryz.prog) (ρ := Tryz.sortQn_ren) { Tryz.sortQn with }) (n : Int) w (by omega) (by omega)
  change Calls Tryz.prog 124 _ _ _ at h1
  exact h1.mono fun _ _ ⟨he, hw⟩ => ⟨⟨_, he⟩, hw⟩
set_option maxRecDepth 100000 in
theorem sortQ_nil (w : World) : Calls Tryz.prog 91 #[.slice none 0 0, .func (.func 55) #[] #[]] w fun e w' => e = .returned (.tuple #[]) ∧ w' = w := by
  have hl := bitsLen 0 w (by omega)
  go_enter Tryz.func91, Tryz.ntmps91
  go_wp2_with (first | (go_at_call 124; refine hl.mono ?_; rintro e w' ⟨⟨l, rfl⟩, rfl⟩) | (go_at_call 123; refine (pdqNil _ _).mono ?_; rintro e w' ⟨rfl, rfl⟩))
  go_end0
  exact ⟨rfl, rfl⟩
theorem sortQ (v : Value) (xs : List Qn) (B : Nat) (w : World) (hown : w.ownsRow B 58 5 v xs.length (xs.flatMap qc)) (hsz : xs.length ≤ 1000000) :
    Calls Tryz.prog 91 #[v, .func (.func 55) #[] #[]] w fun e w' => e = .returned (.tuple #[]) ∧ ∃ ys : List Qn, ys.Perm xs ∧ InOrder ys ∧ Flat w' 5 v ys.length (ys.flatMap qc) ∧ Below B w w' := by
  have h2 := hown
  obtain ⟨hl, ⟨rfl, hn⟩ | ⟨g, cap, cur, rfl, _⟩⟩ := h2
  · have hx : xs = [] := List.length_eq_zero_iff.1 hn
    subst hx
    refine (sortQ_nil w).mono ?_
    rintro e w' ⟨rfl, rfl⟩
    exact ⟨rfl, [], List.Perm.refl _, List.Pairwise.nil, Flat.nil _ _ _ _, Below.refl _ _⟩
  · exact sortQ_some g cap xs B w hown hsz

/-- maps.Keys: the iterator, bound to a box that holds the map. -/
theorem keysF (b : Nat) (w : World) : Calls Tryz.prog 54 #[.map (some b)] w fun e w' => e = .returned (.func (.func 92) #[] #[.pointer (some ⟨w.heap.size, 0, none⟩)]) ∧ w' = w.alloc (.cells #[.map (some b)] 99) := by
  go_enter Tryz.func54, Tryz.ntmps54
  go_wp2_with fail
  go_ret
  exact ⟨rfl, rfl⟩
theorem collectF (mb b nn : Nat) (D : DataW Unit) (w : World) (hbox : w.cell? ⟨mb, 0, none⟩ = some (.map (some b))) (hown : w.ownsMap (H := Unit) Tryz.prog 58 (plainElem Tryz.prog 3) b nn D) (hsz : Maps.size D ≤ 1000000) :
    Calls Tryz.prog 90 #[.func (.func 92) #[] #[.pointer (some ⟨mb, 0, none⟩)]] w fun e w' => ∃ u xs, e = .returned u ∧ KeysD D xs ∧ w'.ownsRow w.heap.size 58 5 u xs.length (xs.flatMap qc) ∧ Below w.heap.size w w' := by
  have hc := callsIn_wide.1 (appendSeqQ mb b nn D w hbox hown hsz)
  have Hc := Lib.hid hc
  clear hc hbox hown
  go_enter Tryz.func90, Tryz.ntmps90
  go_wp2_with (go_at_call 122; refine Hc.out.mono ?_; rintro e w' ⟨u, xs, rfl, h1, h2, h3⟩)
  go_ret
  exact ⟨_, xs, rfl, h1, h2, h3⟩
theorem keysD_size {D : DataW Unit} {xs : List Qn} {f : Qn → Int} {n : Nat} (h : KeysD D xs) (hM : MapA D f) (l : List Ans) (hf : ∀ q, 0 < f q → ∃ a ∈ l, a.q = q) (hn : l.length = n) : xs.length ≤ n := by
  subst hn
  have hsub : ∀ q ∈ xs, q ∈ l.map Ans.q := fun q hq => by
    obtain ⟨h1, h2⟩ := (h.2 q).1 hq
    rw [hM.has_ q h1] at h2
    obtain ⟨a, ha, e⟩ := hf q (of_decide_eq_true h2)
    exact List.mem_map.2 ⟨a, ha, e⟩
  have : ∀ (xs ys : List Qn), xs.Nodup → (∀ q ∈ xs, q ∈ ys) → xs.length ≤ ys.length := by
    intro xs
    induction xs with
    | nil => intros; simp
    | cons x xs ih =>
      intro ys hn hs
      rw [List.nodup_cons] at hn
      have hx := hs x (by simp)
      have := ih (ys.erase x) hn.2 fun q hq => (List.mem_erase_of_ne (by rintro rfl; exact hn.1 hq)).2 (hs q (List.mem_cons_of_mem _ hq))
      rw [List.length_erase_of_mem hx] at this
      have h0 : 0 < ys.length := List.length_pos_of_mem hx
      simp
      omega
  have := this xs _ h.1 hsub
  simpa using this
/-- The keys of a map of questions, in their order. -/
theorem sortedF (mb b nn : Nat) (D : DataW Unit) (w : World) (hbox : w.cell? ⟨mb, 0, none⟩ = some (.map (some b))) (hown : w.ownsMap (H := Unit) Tryz.prog 58 (plainElem Tryz.prog 3) b nn D) (hsz : Maps.size D ≤ 1000000) (hk : ∀ xs, KeysD D xs → xs.length ≤ 1000000) :
    Calls Tryz.prog 53 #[.func (.func 92) #[] #[.pointer (some ⟨mb, 0, none⟩)], .func (.func 55) #[] #[]] w fun e w' => ∃ u ys, e = .returned u ∧ KeysD D ys ∧ InOrder ys ∧ Flat w' 5 u ys.length (ys.flatMap qc) ∧ (∀ k, u.ownBlock = some k → w.heap.size ≤ k) ∧ Below w.heap.size w w' := by
  have Hc := Lib.hid (collectF mb b nn D w hbox hown hsz)
  clear hbox hown
  go_enter Tryz.func53, Tryz.ntmps53
  go_upto_region 2 with (go_at_call 90; refine Hc.out.mono ?_; rintro e w1 ⟨u, xs, rfl, h1, h2, h3⟩)
  have hl := hk xs h1
  have Hs := Lib.hid (sortQ u xs w.heap.size w1 h2 hl)
  clear hl
  go_wp2_with (go_at_call 91; refine Hs.out.mono ?_; rintro e w2 ⟨rfl, ys, h4, h5, h6, h7⟩)
  go_ret
  exact ⟨_, ys, rfl, ⟨(List.Perm.nodup_iff h4).2 h1.1, fun q => by rw [List.Perm.mem_iff h4, h1.2 q]⟩, h5, h6, fun k hk => (h2.lt k hk).1, h3.trans h7⟩

set_option maxRecDepth 100000 in
theorem cloneEv (l : List Ev) (v : Value) (w : World) (h : EvSl w v l) (hl : l.length ≤ 1000000) : Calls Tryz.prog 52 #[v] w fun e w' => ∃ u, e = .returned u ∧ w'.ownsRow w.heap.size 49 8 u l.length (l.flatMap ec) ∧ Below w.heap.size w w' := by
  have qT : ∀ (w : World) (a : Option Addr) (n c n' c' : Nat), (binOp .eql 29 (.slice a n c) (.slice none n' c')).run Tryz.prog w = .ok (.bool a.isNone) w := fun w a n c n' c' => Lib.run_eql_slice_nil w _ _ a n c n' c' Tryz.underlying29
  obtain ⟨ka, ca, rfl, hml⟩ := h.open
  cases ka with
  | none =>
    have e := flat_none h
    have e0 : l = [] := by
      have := h.1
      rw [e] at this
      simp at this
      exact List.length_eq_zero_iff.1 (by omega)
    subst e0
    go_enter Tryz.func52, Tryz.ntmps52
    go_wp2_with fail
    go_ret
    exact ⟨_, rfl, World.ownsRow_nil _ _ _ _, Below.refl _ _⟩
  | some ad =>
    have Hf := Lib.hid (show Flat w 8 (.slice (some ad) l.length ca) l.length (l.flatMap ec) from h)
    clear h
    go_enter Tryz.func52, Tryz.ntmps52
    go_wp2_with (at_builtin; go_must (refine wpList_appG rfl _ _ 29 rfl 49 _ 8 64 Tryz.underlying29 info_Event rfl (by omega) (by omega) w.heap.size _ 0 [] rfl (owns_of_block (n := 0) (cs := #[]) (heap_alloc_new _ _) (Nat.le_refl _) rfl (by omega)) _ rfl l.length _ (Flat.kept Hf.out ((Below.refl _ _).alloc (Nat.le_refl _) _) (Nat.le_refl _)) (evs_one l) (by omega) (by simp) ?_); intro u w1 hown hgr hB1)
    go_ret
    rw [Nat.zero_add, List.nil_append] at hown
    exact ⟨_, rfl, hown, ((Below.refl _ _).alloc (Nat.le_refl _) _).trans hB1⟩
end Go.Proofs.YtljmonfobefiiaaGreatDoor
