/- What poset.New holds in memory while it reads the pairs. -/
import Derived.Test.YtaedfidfcoigoaaN1
import Derived.Test.YtaedfidfcoigoaaP6
import Derived.Test.YtaedfidfcoigoaaP5A
import Derived.Test.YtaedfidfcoigoaaP8
namespace Go.Proofs.Ytaedfidfcoigoaa
open Go.RowKit

theorem info22 : (Try.prog.info? 22).map (fun i => (i.zero, i.size, i.bytes)) = some (some (.slice none 0 0), 1, 24) := by kernel_rfl
/-- The second parts of the pairs whose first part is a. -/
def nxL (L : List (Nat × Nat)) (a : Nat) : List Nat := (L.filter fun p => p.1 == a).map fun p => p.2
theorem nxL_snoc (L : List (Nat × Nat)) (p : Nat × Nat) (a : Nat) : nxL (L ++ [p]) a = if p.1 = a then nxL L a ++ [p.2] else nxL L a := by
  unfold nxL
  rw [List.filter_append, List.map_append]
  by_cases h : p.1 = a <;> simp [h]
theorem pc_length (x : Nat × Nat) : (pc x).length = 2 := rfl
theorem pair_at {w : World} {a : Option Addr} {n c m : Nat} {L : List (Nat × Nat)} (h : Flat w 2 (.slice a m c) n (L.flatMap pc)) {i : Nat} {x : Nat × Nat} (hi : L[i]? = some x) :
    ∃ b o, a = some ⟨b, o, none⟩ ∧ w.cell? ⟨b, o + i * 2, none⟩ = some (I x.1) ∧ w.cell? ⟨b, o + i * 2 + 1, none⟩ = some (I x.2) := by
  obtain ⟨b, o, ha, hc⟩ := flat_at pc_length (by omega) h hi
  exact ⟨b, o, ha, hc 0 _ rfl, hc 1 _ rfl⟩

def nv (l : List Nat) : List Value := l.map fun (i : Nat) => I (i : Int)
/-- How often b is a second part. -/
def wtL (L : List (Nat × Nat)) (b : Nat) : Nat := (L.map fun p => p.2).count b
theorem wtL_snoc (L : List (Nat × Nat)) (p : Nat × Nat) (b : Nat) : wtL (L ++ [p]) b = wtL L b + if p.2 = b then 1 else 0 := by
  unfold wtL
  rw [List.map_append, List.count_append]
  by_cases h : p.2 = b <;> simp [h]

/-- The rows of second parts (arr, in block gn) and the numbers of predecessors (wa, in block gw). -/
structure NxAt (B gn gw n : Nat) (W : World) (L : List (Nat × Nat)) (arr wa : Array Value) : Prop where
  bn : Blk W gn arr
  bw : Blk W gw wa
  ne : gn ≠ gw
  ln : gn < B
  lw : gw < B
  hB : B ≤ W.heap.size
  sn : arr.size = n
  sw : wa.size = n
  wt : ∀ b < n, wa[b]? = some (I (wtL L b : Nat))
  row : ∀ a < n, ∃ va, arr[a]? = some va ∧ W.ownsRow B 3 1 va (nxL L a).length (nv (nxL L a))
  sep : ∀ (a a' : Nat) (va va' : Value), a ≠ a' → arr[a]? = some va → arr[a']? = some va' → va.ownBlock = none ∨ va.ownBlock ≠ va'.ownBlock

theorem NxAt.kept {B gn gw n : Nat} {W W' : World} {L : List (Nat × Nat)} {arr wa : Array Value} (h : NxAt B gn gw n W L arr wa) (hb : Below W.heap.size W W') : NxAt B gn gw n W' L arr wa :=
  { h with
    bn := h.bn.kept hb h.bn.lt
    bw := h.bw.kept hb h.bw.lt
    hB := Nat.le_trans h.hB hb.size
    row := fun a ha => by
      obtain ⟨va, h1, h2⟩ := h.row a ha
      exact ⟨va, h1, owns_below h2 hb⟩ }
theorem NxAt.drew {B gn gw n : Nat} {W : World} {L : List (Nat × Nat)} {arr wa : Array Value} (h : NxAt B gn gw n W L arr wa) : NxAt B gn gw n W.drew L arr wa := h.kept ((Below.refl _ W).drew)
theorem NxAt.start {B gn gw n : Nat} {W : World} (hn : Blk W gn (mk1 n (.slice none 0 0))) (hw : Blk W gw (mk1 n (.int .i64 0))) (hne : gn ≠ gw) (h1 : gn < B) (h2 : gw < B) (hB : B ≤ W.heap.size) : NxAt B gn gw n W [] (mk1 n (.slice none 0 0)) (mk1 n (.int .i64 0)) where
  bn := hn
  bw := hw
  ne := hne
  ln := h1
  lw := h2
  hB := hB
  sn := mk1_size _ _
  sw := mk1_size _ _
  wt := fun b hb => by rw [mk1_get _ _ _ hb]; rfl
  row := fun a ha => ⟨_, mk1_get _ _ _ ha, World.ownsRow_nil _ _ _ _⟩
  sep := fun a a' va va' _ h1 _ => by
    have : va = .slice none 0 0 := by
      have hlt := (Array.getElem?_eq_some_iff.1 h1).1
      rw [mk1_size] at hlt
      rw [mk1_get _ _ _ hlt] at h1
      exact (Option.some.inj h1).symm
    subst this
    exact .inl rfl

theorem owns_block {W : World} {B : Nat} {e : TypeId} {k : Nat} {v : Value} {n : Nat} {xs : List Value} (h : W.ownsRow B e k v n xs) : v.ownBlock = none ∨ ∃ g, v.ownBlock = some g ∧ B ≤ g ∧ g < W.heap.size := by
  cases hv : v.ownBlock with
  | none => exact .inl rfl
  | some g => exact .inr ⟨g, rfl, h.lt g hv⟩

/-- One more pair: the row of its first part has grown, its second part has one predecessor more. -/
theorem NxAt.step {B gn gw n : Nat} {W W2 : World} {L : List (Nat × Nat)} {arr wa : Array Value} (h : NxAt B gn gw n W L arr wa) (p : Nat × Nat) (hp1 : p.1 < n) (hp2 : p.2 < n) (va : Value) (hva : arr[p.1]? = some va)
    (g cap : Nat) (hown : W2.ownsRow B 3 1 (.slice (some ⟨g, 0, none⟩) ((nxL L p.1).length + 1) cap) ((nxL L p.1).length + 1) (nv (nxL L p.1) ++ [I (p.2 : Nat)])) (hgr : W.grownBy W2 va.ownBlock) (hg : va.ownBlock = some g ∨ W.heap.size ≤ g) (hsz : W.heap.size ≤ W2.heap.size) :
    NxAt B gn gw n ((W2.setCell ⟨gn, p.1, none⟩ (.slice (some ⟨g, 0, none⟩) ((nxL L p.1).length + 1) cap)).setCell ⟨gw, p.2, none⟩ (I ((wtL L p.2 + 1 : Nat)))) (L ++ [p])
      (arr.setIfInBounds p.1 (.slice (some ⟨g, 0, none⟩) ((nxL L p.1).length + 1) cap)) (wa.setIfInBounds p.2 (I ((wtL L p.2 + 1 : Nat)))) := by
  have hvb : va.ownBlock = none ∨ ∃ g, va.ownBlock = some g ∧ B ≤ g ∧ g < W.heap.size := by
    obtain ⟨va', e1, e2⟩ := h.row p.1 hp1
    rw [hva] at e1
    cases e1
    exact owns_block e2
  have hne : ∀ x, x < B → va.ownBlock ≠ some x := fun x hx e => by
    rcases hvb with h0 | ⟨g', h0, h1, _⟩
    · rw [h0] at e; cases e
    · rw [h0] at e; cases e; omega
  have hgB : B ≤ g := (hown.lt g rfl).1
  have hset : ∀ {va' : Value} {m : Nat} {xs : List Value}, W2.ownsRow B 3 1 va' m xs → ((W2.setCell ⟨gn, p.1, none⟩ (.slice (some ⟨g, 0, none⟩) ((nxL L p.1).length + 1) cap)).setCell ⟨gw, p.2, none⟩ (I ((wtL L p.2 + 1 : Nat)))).ownsRow B 3 1 va' m xs := by
    intro va' m xs ho
    have hnb : ∀ x, x < B → va'.ownBlock = none ∨ va'.ownBlock ≠ some x := fun x hx => by
      rcases owns_block ho with h0 | ⟨g', h0, h1, _⟩
      · exact .inl h0
      · exact .inr (by rw [h0]; intro e; cases e; omega)
    have h1 : W2.grownBy (W2.setCell ⟨gn, p.1, none⟩ (.slice (some ⟨g, 0, none⟩) ((nxL L p.1).length + 1) cap)) (some gn) := ⟨rfl, rfl, rfl, by simp, fun k _ hk => heap_setCell_other _ _ _ _ (fun e => hk (by rw [e]))⟩
    have h2 : ∀ W3 : World, W3.grownBy (W3.setCell ⟨gw, p.2, none⟩ (I ((wtL L p.2 + 1 : Nat)))) (some gw) := fun W3 => ⟨rfl, rfl, rfl, by simp, fun k _ hk => heap_setCell_other _ _ _ _ (fun e => hk (by rw [e]))⟩
    exact (ho.kept h1 (hnb gn h.ln)).kept (h2 _) (hnb gw h.lw)
  exact {
    bn := (((h.bn.grown hgr (hne gn h.ln)).set p.1 _).setOther _ _ (fun e => h.ne e.symm))
    bw := (((h.bw.grown hgr (hne gw h.lw)).setOther ⟨gn, p.1, none⟩ _ h.ne).set p.2 _)
    ne := h.ne
    ln := h.ln
    lw := h.lw
    hB := by simp only [World.size_setCell]; exact Nat.le_trans h.hB hsz
    sn := by rw [Array.size_setIfInBounds]; exact h.sn
    sw := by rw [Array.size_setIfInBounds]; exact h.sw
    wt := fun b hb => by
      rw [wtL_snoc]
      by_cases e : p.2 = b
      · subst e
        rw [Array.getElem?_setIfInBounds_self_of_lt (by rw [h.sw]; exact hp2)]
        simp
      · rw [Array.getElem?_setIfInBounds_ne e, h.wt b hb]
        simp [e]
    row := fun a ha => by
      by_cases e : p.1 = a
      · subst e
        refine ⟨_, by rw [Array.getElem?_setIfInBounds_self_of_lt (by rw [h.sn]; exact hp1)], ?_⟩
        rw [nxL_snoc, if_pos rfl]
        have := hset hown
        simpa [nv] using this
      · obtain ⟨va', e1, e2⟩ := h.row a ha
        refine ⟨va', by rw [Array.getElem?_setIfInBounds_ne e]; exact e1, ?_⟩
        rw [nxL_snoc, if_neg e]
        exact hset (e2.kept hgr (h.sep a p.1 va' va (fun x => e x.symm) e1 hva))
    sep := fun a a' x y hne' hx hy => by
      by_cases e : p.1 = a
      · subst e
        rw [Array.getElem?_setIfInBounds_self_of_lt (by rw [h.sn]; exact hp1)] at hx
        cases hx
        rw [Array.getElem?_setIfInBounds_ne hne'] at hy
        right
        intro e2
        have hy2 : y.ownBlock = some g := e2.symm
        have ha' : a' < n := by have := (Array.getElem?_eq_some_iff.1 hy).1; rw [h.sn] at this; exact this
        obtain ⟨y', f1, f2⟩ := h.row a' ha'
        rw [hy] at f1
        cases f1
        have hlt := (f2.lt g hy2).2
        rcases hg with hg | hg
        · rcases h.sep p.1 a' va y hne' hva hy with h0 | h0
          · rw [h0] at hg; cases hg
          · exact h0 (hg.trans hy2.symm)
        · omega
      · rw [Array.getElem?_setIfInBounds_ne e] at hx
        by_cases e' : p.1 = a'
        · subst e'
          rw [Array.getElem?_setIfInBounds_self_of_lt (by rw [h.sn]; exact hp1)] at hy
          cases hy
          right
          intro e2
          have hx2 : x.ownBlock = some g := e2
          have ha : a < n := by have := (Array.getElem?_eq_some_iff.1 hx).1; rw [h.sn] at this; exact this
          obtain ⟨x', f1, f2⟩ := h.row a ha
          rw [hx] at f1
          cases f1
          have hlt := (f2.lt g hx2).2
          rcases hg with hg | hg
          · rcases h.sep p.1 a va x (fun z => e z) hva hx with h0 | h0
            · rw [h0] at hg; cases hg
            · exact h0 (hg.trans hx2.symm)
          · omega
        · rw [Array.getElem?_setIfInBounds_ne e'] at hy
          exact h.sep a a' x y hne' hx hy }

end Go.Proofs.Ytaedfidfcoigoaa
