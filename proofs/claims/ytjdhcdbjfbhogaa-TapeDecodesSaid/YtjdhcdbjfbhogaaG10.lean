/- maps.Keys, slices.Collect, slices.SortedFunc, slices.Clone. -/
import Derived.Test.YtjdhcdbjfbhogaaG7
import Derived.Test.YtjdhcdbjfbhogaaG8
import Derived.Test.YtjdhcdbjfbhogaaG9
import Derived.Deep.CutRange
import Derived.Deep.DeepMust
namespace Go.Proofs.Ytjdhcdbjfbhogaa
open Go.RowKit Go.Maps

set_option maxRecDepth 100000 in
theorem insertNil (w : World) : Calls Try.prog 95 #[.slice none 0 0, I 0, I 0, .func (.func 39) #[] #[]] w fun e w' => e = .returned (.tuple #[]) ∧ w' = w := by
  go_enter Try.func95, Try.ntmps95
  go_wp2_with fail
  refine wp_loop_rounds 1 ?_
  rw [rounds_succ]
  go_wp2_with fail
  go_end0
  exact ⟨rfl, rfl⟩
set_option maxRecDepth 100000 in
theorem pdqNil (lim : Int) (w : World) : Calls Try.prog 92 #[.slice none 0 0, I 0, I 0, I lim, .func (.func 39) #[] #[]] w fun e w' => e = .returned (.tuple #[]) ∧ w' = w := by
  have hi := insertNil w
  go_enter Try.func92, Try.ntmps92
  go_wp2_with fail
  refine wp_loop_rounds 1 ?_
  rw [rounds_succ]
  go_wp2_with (go_at_call 95; refine hi.mono ?_; rintro e w' ⟨rfl, rfl⟩)
  (try simp only [Exit.inBlock, Exit.then]); refine bodyPost_ret (results_none rfl _ _ _) rfl ?_
  exact ⟨rfl, rfl⟩
theorem bitsLen (n : Nat) (w : World) (h : n ≤ 1000000) : Calls Try.prog 93 #[.int .u64 n] w fun e w' => (∃ l : Int, e = .returned (.int .i64 l)) ∧ w' = w := by
  have h1 := Any.bits_Len (SlLaysF0.n15.bits (P := Try.prog) (ρ := Try.sortQn_ren) { Try.sortQn with }) (n : Int) w (by omega) (by omega)
  change Calls Try.prog 93 _ _ _ at h1
  exact h1.mono fun _ _ ⟨he, hw⟩ => ⟨⟨_, he⟩, hw⟩
set_option maxRecDepth 100000 in
theorem sortQ_nil (w : World) : Calls Try.prog 84 #[.slice none 0 0, .func (.func 39) #[] #[]] w fun e w' => e = .returned (.tuple #[]) ∧ w' = w := by
  have hl := bitsLen 0 w (by omega)
  go_enter Try.func84, Try.ntmps84
  go_wp2_with (first | (go_at_call 93; refine hl.mono ?_; rintro e w' ⟨⟨l, rfl⟩, rfl⟩) | (go_at_call 92; refine (pdqNil _ _).mono ?_; rintro e w' ⟨rfl, rfl⟩))
  go_end0
  exact ⟨rfl, rfl⟩
theorem sortQ (v : Value) (xs : List Qn) (B : Nat) (w : World) (hown : w.ownsRow B 66 5 v xs.length (xs.flatMap qc)) (hsz : xs.length ≤ 1000000) :
    Calls Try.prog 84 #[v, .func (.func 39) #[] #[]] w fun e w' => e = .returned (.tuple #[]) ∧ ∃ ys : List Qn, ys.Perm xs ∧ InOrder ys ∧ Flat w' 5 v ys.length (ys.flatMap qc) ∧ Below B w w' := by
  have h2 := hown
  obtain ⟨hl, ⟨rfl, hn⟩ | ⟨g, cap, cur, rfl, _⟩⟩ := h2
  · have hx : xs = [] := List.length_eq_zero_iff.1 hn
    subst hx
    refine (sortQ_nil w).mono ?_
    rintro e w' ⟨rfl, rfl⟩
    exact ⟨rfl, [], List.Perm.refl _, List.Pairwise.nil, Flat.nil _ _ _ _, Below.refl _ _⟩
  · exact sortQ_some g cap xs B w hown hsz

/-- maps.Keys: the iterator, bound to a box that holds the map. -/
theorem keysF (b : Nat) (w : World) : Calls Try.prog 64 #[.map (some b)] w fun e w' => e = .returned (.func (.func 85) #[] #[.pointer (some ⟨w.heap.size, 0, none⟩)]) ∧ w' = w.alloc (.cells #[.map (some b)] 102) := by
  go_enter Try.func64, Try.ntmps64
  go_wp2_with fail
  go_ret
  exact ⟨rfl, rfl⟩
theorem collectF (mb b nn : Nat) (D : DataW Unit) (w : World) (hbox : w.cell? ⟨mb, 0, none⟩ = some (.map (some b))) (hown : w.ownsMap (H := Unit) Try.prog 66 (plainElem Try.prog 3) b nn D) (hsz : Maps.size D ≤ 1000000) :
    Calls Try.prog 83 #[.func (.func 85) #[] #[.pointer (some ⟨mb, 0, none⟩)]] w fun e w' => ∃ u xs, e = .returned u ∧ KeysD D xs ∧ w'.ownsRow w.heap.size 66 5 u xs.length (xs.flatMap qc) ∧ Below w.heap.size w w' := by
  have hc := callsIn_wide.1 (appendSeqQ mb b nn D w hbox hown hsz)
  have Hc := Lib.hid hc
  clear hc hbox hown
  go_enter Try.func83, Try.ntmps83
  go_wp2_with (go_at_call 91; refine Hc.out.mono ?_; rintro e w' ⟨u, xs, rfl, h1, h2, h3⟩)
  go_ret
  exact ⟨_, xs, rfl, h1, h2, h3⟩
theorem keysD_size {D : DataW Unit} {xs : List Qn} {f : Qn → Int} {n : Nat} (h : KeysD D xs) (hM : MapA D f) (l : List Ans) (hf : ∀ q, 0 < f q → ∃ a ∈ l, a.q = q) (hn : l.length = n) : xs.length ≤ n := by
  subst hn
  have hsub : ∀ q ∈ xs, q ∈ l.map Ans.q := fun q hq => by
    obtain ⟨h1, h2⟩ := (h.2 q).1 hq
    rw [hM.has_ q h1] at h2
    obtain ⟨a, ha, e⟩ := hf q (of_decide_eq_true h2)
    exact List.mem_map.2 ⟨a, ha, e⟩
  have : ∀ (xs ys : List Qn), xs.Nodup → (∀ q ∈ xs, q ∈ ys) → xs.length ≤ ys.length := by
    intro xs
    induction xs with
    | nil => intros; simp
    | cons x xs ih =>
      intro ys hn hs
      rw [List.nodup_cons] at hn
      have hx := hs x (by simp)
      have := ih (ys.erase x) hn.2 fun q hq => (List.mem_erase_of_ne (by rintro rfl; exact hn.1 hq)).2 (hs q (List.mem_cons_of_mem _ hq))
      rw [List.length_erase_of_mem hx] at this
      have h0 : 0 < ys.length := List.length_pos_of_mem hx
      simp
      omega
  have := this xs _ h.1 hsub
  simpa using this
/-- The keys of a map of questions, in their order. -/
theorem sortedF (mb b nn : Nat) (D : DataW Unit) (w : World) (hbox : w.cell? ⟨mb, 0, none⟩ = some (.map (some b))) (hown : w.ownsMap (H := Unit) Try.prog 66 (plainElem Try.prog 3) b nn D) (hsz : Maps.size D ≤ 1000000) (hk : ∀ xs, KeysD D xs → xs.length ≤ 1000000) :
    Calls Try.prog 63 #[.func (.func 85) #[] #[.pointer (some ⟨mb, 0, none⟩)], .func (.func 39) #[] #[]] w fun e w' => ∃ u ys, e = .returned u ∧ KeysD D ys ∧ InOrder ys ∧ Flat w' 5 u ys.length (ys.flatMap qc) ∧ (∀ k, u.ownBlock = some k → w.heap.size ≤ k) ∧ Below w.heap.size w w' := by
  have Hc := Lib.hid (collectF mb b nn D w hbox hown hsz)
  clear hbox hown
  go_enter Try.func63, Try.ntmps63
  go_upto_region 2 with (go_at_call 83; refine Hc.out.mono ?_; rintro e w1 ⟨u, xs, rfl, h1, h2, h3⟩)
  have hl := hk xs h1
  have Hs := Lib.hid (sortQ u xs w.heap.size w1 h2 hl)
  clear hl
  go_wp2_with (go_at_call 84; refine Hs.out.mono ?_; rintro e w2 ⟨rfl, ys, h4, h5, h6, h7⟩)
  go_ret
  exact ⟨_, ys, rfl, ⟨(List.Perm.nodup_iff h4).2 h1.1, fun q => by rw [List.Perm.mem_iff h4, h1.2 q]⟩, h5, h6, fun k hk => (h2.lt k hk).1, h3.trans h7⟩

set_option maxRecDepth 100000 in
theorem cloneEv (l : List Ev) (v : Value) (w : World) (h : EvSl w v l) (hl : l.length ≤ 1000000) : Calls Try.prog 62 #[v] w fun e w' => ∃ u, e = .returned u ∧ w'.ownsRow w.heap.size 56 8 u l.length (l.flatMap ec) ∧ Below w.heap.size w w' := by
  have qT : ∀ (w : World) (a : Option Addr) (n c n' c' : Nat), (binOp .eql 23 (.slice a n c) (.slice none n' c')).run Try.prog w = .ok (.bool a.isNone) w := fun w a n c n' c' => Lib.run_eql_slice_nil w _ _ a n c n' c' Try.underlying23
  obtain ⟨ka, ca, rfl, hml⟩ := h.open
  cases ka with
  | none =>
    have e := flat_none h
    have e0 : l = [] := by
      have := h.1
      rw [e] at this
      simp at this
      exact List.length_eq_zero_iff.1 (by omega)
    subst e0
    go_enter Try.func62, Try.ntmps62
    go_wp2_with fail
    go_ret
    exact ⟨_, rfl, World.ownsRow_nil _ _ _ _, Below.refl _ _⟩
  | some ad =>
    have Hf := Lib.hid (show Flat w 8 (.slice (some ad) l.length ca) l.length (l.flatMap ec) from h)
    clear h
    go_enter Try.func62, Try.ntmps62
    go_wp2_with (at_builtin; go_must (refine wpList_appG rfl _ _ 23 rfl 56 _ 8 64 Try.underlying23 info56 rfl (by omega) (by omega) w.heap.size _ 0 [] rfl (owns_of_block (n := 0) (cs := #[]) (heap_alloc_new _ _) (Nat.le_refl _) rfl (by omega)) _ rfl l.length _ (Flat.kept Hf.out ((Below.refl _ _).alloc (Nat.le_refl _) _) (Nat.le_refl _)) (evs_one l) (by omega) (by simp) ?_); intro u w1 hown hgr hB1)
    go_ret
    rw [Nat.zero_add, List.nil_append] at hown
    exact ⟨_, rfl, hown, ((Below.refl _ _).alloc (Nat.le_refl _) _).trans hB1⟩
set_option maxRecDepth 100000 in
theorem cloneAns (l : List Ans) (v : Value) (w : World) (h : AnsSl w v l) (hl : l.length ≤ 1000000) : Calls Try.prog 69 #[v] w fun e w' => ∃ u, e = .returned u ∧ w'.ownsRow w.heap.size 75 6 u l.length (l.flatMap ac) ∧ Below w.heap.size w w' := by
  have qT : ∀ (w : World) (a : Option Addr) (n c n' c' : Nat), (binOp .eql 24 (.slice a n c) (.slice none n' c')).run Try.prog w = .ok (.bool a.isNone) w := fun w a n c n' c' => Lib.run_eql_slice_nil w _ _ a n c n' c' Try.underlying24
  obtain ⟨ka, ca, rfl, hml⟩ := h.open
  cases ka with
  | none =>
    have e := flat_none h
    have e0 : l = [] := by
      have := h.1
      rw [e] at this
      simp at this
      exact List.length_eq_zero_iff.1 (by omega)
    subst e0
    go_enter Try.func69, Try.ntmps69
    go_wp2_with fail
    go_ret
    exact ⟨_, rfl, World.ownsRow_nil _ _ _ _, Below.refl _ _⟩
  | some ad =>
    have Hf := Lib.hid (show Flat w 6 (.slice (some ad) l.length ca) l.length (l.flatMap ac) from h)
    clear h
    go_enter Try.func69, Try.ntmps69
    go_wp2_with (at_builtin; go_must (refine wpList_appG rfl _ _ 24 rfl 75 _ 6 48 Try.underlying24 info75 rfl (by omega) (by omega) w.heap.size _ 0 [] rfl (owns_of_block (n := 0) (cs := #[]) (heap_alloc_new _ _) (Nat.le_refl _) rfl (by omega)) _ rfl l.length _ (Flat.kept Hf.out ((Below.refl _ _).alloc (Nat.le_refl _) _) (Nat.le_refl _)) (ans_one l) (by omega) (by simp) ?_); intro u w1 hown hgr hB1)
    go_ret
    rw [Nat.zero_add, List.nil_append] at hown
    exact ⟨_, rfl, hown, ((Below.refl _ _).alloc (Nat.le_refl _) _).trans hB1⟩

end Go.Proofs.Ytjdhcdbjfbhogaa
