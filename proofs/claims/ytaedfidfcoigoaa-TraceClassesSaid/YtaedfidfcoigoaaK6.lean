/- What the gathering of runs into classes holds in memory. -/
import Derived.Test.YtaedfidfcoigoaaK2
import Derived.Test.YtaedfidfcoigoaaK3
import Derived.Laws.OwnMore
import Derived.OneCell
namespace Go.Proofs.Ytaedfidfcoigoaa
open Go.RowKit

/-- Rows of numbers in a row of the call's own: none shares a block with another. -/
structure CR (B : Nat) (w : World) (vo : Value) (hs : List Value) (ls : List (List Nat)) : Prop where
  oo : w.ownsRow B 22 1 vo hs.length hs
  len : hs.length = ls.length
  row : ∀ (k : Nat) (h : Value) (l : List Nat), hs[k]? = some h → ls[k]? = some l → w.ownsRow B 3 1 h l.length (iv (natI l))
  dj : ∀ (k : Nat) (h : Value) (b : Nat), hs[k]? = some h → h.ownBlock = some b → vo.ownBlock ≠ some b
  dj2 : ∀ (j k : Nat) (h h' : Value) (b : Nat), j ≠ k → hs[j]? = some h → hs[k]? = some h' → h.ownBlock = some b → h'.ownBlock ≠ some b
theorem CR.start (B : Nat) (w : World) : CR B w (.slice none 0 0) [] [] :=
  ⟨World.ownsRow_nil _ _ _ _, rfl, fun k h l e => by simp at e, fun k h b e => by simp at e, fun j k h h' b _ e => by simp at e⟩
theorem CR.below {B : Nat} {w w' : World} {vo : Value} {hs : List Value} {ls : List (List Nat)} (h : CR B w vo hs ls) (hb : Below w.heap.size w w') : CR B w' vo hs ls :=
  ⟨owns_below h.oo hb, h.len, fun k x l h1 h2 => owns_below (h.row k x l h1 h2) hb, h.dj, h.dj2⟩
theorem natI_length (l : List Nat) : (natI l).length = l.length := by simp [natI]
theorem natI_snoc (l : List Nat) (i : Nat) : iv (natI (l ++ [i])) = iv (natI l) ++ [I i] := by simp [natI, iv]
theorem CR.fresh {B : Nat} {w : World} {vo : Value} {hs : List Value} {ls : List (List Nat)} (h : CR B w vo hs ls) (b : Nat) (hb : w.heap.size ≤ b) : vo.ownBlock ≠ some b ∧ ∀ (k : Nat) (x : Value), hs[k]? = some x → x.ownBlock ≠ some b := by
  refine ⟨fun e => by have := (h.oo.lt b e).2; omega, fun k x hx e => ?_⟩
  have hkl : k < ls.length := by have := (List.getElem?_eq_some_iff.1 hx).1; rw [← h.len]; exact this
  have := ((h.row k x _ hx (List.getElem?_eq_getElem hkl)).lt b e).2
  omega
/-- Some block that is none of the rows' grows. -/
theorem CR.other {B : Nat} {w w' : World} {vo : Value} {hs : List Value} {ls : List (List Nat)} (h : CR B w vo hs ls) {row : Option Nat} (hg : w.grownBy w' row) (h1 : ∀ b, row = some b → vo.ownBlock ≠ some b ∧ ∀ (k : Nat) (x : Value), hs[k]? = some x → x.ownBlock ≠ some b) : CR B w' vo hs ls := by
  have key : ∀ {e : TypeId} {k : Nat} {v : Value} {n : Nat} {xs : List Value}, w.ownsRow B e k v n xs → (∀ b, row = some b → v.ownBlock ≠ some b) → w'.ownsRow B e k v n xs := fun {e k v n xs} ho hne => by
    refine ho.kept hg ?_
    cases hv : v.ownBlock with
    | none => exact .inl rfl
    | some b => exact .inr fun e => hne b e.symm hv
  exact ⟨key h.oo fun b hb => (h1 b hb).1, h.len, fun k x l e1 e2 => key (h.row k x l e1 e2) fun b hb => (h1 b hb).2 k x e1, h.dj, h.dj2⟩
/-- A number is appended to row k, and the row put back. -/
theorem CR.put {B : Nat} {w w' : World} {g n cap : Nat} {hs : List Value} {ls : List (List Nat)} (h : CR B w (.slice (some ⟨g, 0, none⟩) n cap) hs ls) {k i : Nat} {hd hd' : Value} {l : List Nat} (hk : hs[k]? = some hd) (hl : ls[k]? = some l)
    (hg : w.grownBy w' hd.ownBlock) (ho : w'.ownsRow B 3 1 hd' (l ++ [i]).length (iv (natI (l ++ [i])))) (hn : ∀ b, hd'.ownBlock = some b → hd.ownBlock = some b ∨ w.heap.size ≤ b) :
    CR B (w'.setCell ⟨g, k, none⟩ hd') (.slice (some ⟨g, 0, none⟩) n cap) (hs.set k hd') (ls.set k (l ++ [i])) := by
  have hnn : n = hs.length := by
    rcases h.oo.2 with ⟨h0, _⟩ | ⟨g', cap', cur, h0, _⟩
    · simp at h0
    · simp at h0; exact h0.2.1
  subst hnn
  have hgl : g < w.heap.size := (h.oo.lt g rfl).2
  have hdg : ∀ b, hd'.ownBlock = some b → b ≠ g := fun b hb e => by
    subst e
    rcases hn b hb with h1 | h1
    · exact h.dj k hd b hk h1 rfl
    · omega
  have hold : ∀ (j : Nat) (x : Value) (b : Nat), j ≠ k → hs[j]? = some x → x.ownBlock = some b → hd'.ownBlock ≠ some b := fun j x b hj hx hb e => by
    rcases hn b e with h1 | h1
    · exact h.dj2 j k x hd b hj hx hk hb h1
    · have hjl : j < ls.length := by have := (List.getElem?_eq_some_iff.1 hx).1; rw [← h.len]; exact this
      have := ((h.row j x _ hx (List.getElem?_eq_getElem hjl)).lt b hb).2
      omega
  have ho1 : w'.ownsRow B 22 1 (.slice (some ⟨g, 0, none⟩) hs.length cap) hs.length hs := by
    refine h.oo.kept hg (.inr fun e => ?_)
    exact h.dj k hd g hk e.symm rfl
  have hkl := (List.getElem?_eq_some_iff.1 hk).1
  have hll := (List.getElem?_eq_some_iff.1 hl).1
  refine ⟨?_, by rw [List.length_set, List.length_set]; exact h.len, ?_, ?_, ?_⟩
  · rw [List.length_set]
    exact (ho1.stored k hd').1
  · intro j x m hx hm
    by_cases e : k = j
    · subst e
      rw [List.getElem?_set_self hkl] at hx
      rw [List.getElem?_set_self hll] at hm
      cases hx
      cases hm
      exact ownsRow_setCell_other ho (fun e => hdg g e rfl) _
    · rw [List.getElem?_set_ne e] at hx hm
      refine ownsRow_setCell_other ((h.row j x m hx hm).kept hg ?_) (fun e2 => h.dj j x g hx e2 rfl) _
      cases hb : x.ownBlock with
      | none => exact .inl rfl
      | some b => exact .inr fun e2 => h.dj2 j k x hd b (Ne.symm e) hx hk hb e2.symm
  · intro j x b hx hb
    by_cases e : k = j
    · subst e
      rw [List.getElem?_set_self hkl] at hx
      cases hx
      intro e2
      simp [Value.ownBlock] at e2
      exact hdg b hb e2.symm
    · rw [List.getElem?_set_ne e] at hx
      exact h.dj j x b hx hb
  · intro i' j x y b hij hx hy hb
    by_cases e : k = i'
    · subst e
      rw [List.getElem?_set_self hkl] at hx
      rw [List.getElem?_set_ne hij] at hy
      cases hx
      intro e2
      exact hold j y b (Ne.symm hij) hy e2 hb
    · rw [List.getElem?_set_ne e] at hx
      by_cases e' : k = j
      · subst e'
        rw [List.getElem?_set_self hkl] at hy
        cases hy
        exact hold i' x b (Ne.symm e) hx hb
      · rw [List.getElem?_set_ne e'] at hy
        exact h.dj2 i' j x y b hij hx hy hb
/-- A row is appended. -/
theorem CR.push {B : Nat} {w w' : World} {vo vo' hd : Value} {hs : List Value} {ls : List (List Nat)} {l : List Nat} (h : CR B w vo hs ls) (hr : w.ownsRow B 3 1 hd l.length (iv (natI l))) (h1 : ∀ b, hd.ownBlock = some b → vo.ownBlock ≠ some b ∧ ∀ (k : Nat) (x : Value), hs[k]? = some x → x.ownBlock ≠ some b)
    (hg : w.grownBy w' vo.ownBlock) (ho : w'.ownsRow B 22 1 vo' (hs.length + 1) (hs ++ [hd])) (hn : ∀ b, vo'.ownBlock = some b → vo.ownBlock = some b ∨ w.heap.size ≤ b) : CR B w' vo' (hs ++ [hd]) (ls ++ [l]) := by
  have hrow : ∀ (k : Nat) (x : Value) (b : Nat), hs[k]? = some x → x.ownBlock = some b → b < w.heap.size := fun k x b hx hb => by
    have hkl : k < ls.length := by have := (List.getElem?_eq_some_iff.1 hx).1; rw [← h.len]; exact this
    exact ((h.row k x _ hx (List.getElem?_eq_getElem hkl)).lt b hb).2
  have key : ∀ {v : Value} {n : Nat} {xs : List Value}, w.ownsRow B 3 1 v n xs → (∀ b, v.ownBlock = some b → vo.ownBlock ≠ some b) → w'.ownsRow B 3 1 v n xs := fun {v n xs} ho hne => by
    refine ho.kept hg ?_
    cases hv : v.ownBlock with
    | none => exact .inl rfl
    | some b => exact .inr fun e => hne b hv e.symm
  have hget : ∀ (k : Nat) (x : Value), (hs ++ [hd])[k]? = some x → (k < hs.length ∧ hs[k]? = some x) ∨ (k = hs.length ∧ x = hd) := fun k x hx => by
    by_cases e : k < hs.length
    · rw [List.getElem?_append_left e] at hx
      exact .inl ⟨e, hx⟩
    · rw [List.getElem?_append_right (by omega)] at hx
      have h0 : k - hs.length = 0 := by have := (List.getElem?_eq_some_iff.1 hx).1; simp at this; omega
      rw [h0] at hx
      simp at hx
      exact .inr ⟨by omega, hx.symm⟩
  refine ⟨by rw [List.length_append]; exact ho, by simp [h.len], ?_, ?_, ?_⟩
  · intro k x m hx hm
    rcases hget k x hx with ⟨e, hx⟩ | ⟨rfl, rfl⟩
    · rw [List.getElem?_append_left (by rw [← h.len]; exact e)] at hm
      exact key (h.row k x m hx hm) fun b hb => h.dj k x b hx hb
    · rw [h.len, List.getElem?_append_right (Nat.le_refl _), Nat.sub_self] at hm
      simp at hm
      subst hm
      exact key hr fun b hb => (h1 b hb).1
  · intro k x b hx hb e
    rcases hget k x hx with ⟨e2, hx⟩ | ⟨rfl, rfl⟩
    · rcases hn b e with h2 | h2
      · exact h.dj k x b hx hb h2
      · have := hrow k x b hx hb; omega
    · rcases hn b e with h2 | h2
      · exact (h1 b hb).1 h2
      · have := (hr.lt b hb).2; omega
  · intro j k x y b hjk hx hy hb
    rcases hget j x hx with ⟨_, hx1⟩ | ⟨rfl, rfl⟩
    · rcases hget k y hy with ⟨_, hy1⟩ | ⟨rfl, rfl⟩
      · exact h.dj2 j k x y b hjk hx1 hy1 hb
      · intro e
        exact (h1 b e).2 j x hx1 hb
    · rcases hget k y hy with ⟨_, hy1⟩ | ⟨rfl, rfl⟩
      · exact (h1 b hb).2 k y hy1
      · exact absurd rfl hjk

/-- The slice value v reads as rows of numbers. -/
def ClsSl (w : World) (v : Value) (ls : List (List Nat)) : Prop := ∃ hs, Flat w 1 v ls.length hs ∧ ∀ (k : Nat) (h : Value) (l : List Nat), hs[k]? = some h → ls[k]? = some l → IntSl w h (natI l)
theorem ClsSl.kept {w w' : World} {v : Value} {ls : List (List Nat)} (h : ClsSl w v ls) {B : Nat} (hb : Below B w w') (hB : w.heap.size ≤ B) : ClsSl w' v ls := by
  obtain ⟨hs, h1, h2⟩ := h
  exact ⟨hs, h1.kept hb hB, fun k x l e1 e2 => (h2 k x l e1 e2).kept hb hB⟩
theorem ClsSl.open {w : World} {v : Value} {ls : List (List Nat)} (h : ClsSl w v ls) : ∃ a c, v = .slice a ls.length c ∧ ls.length ≤ 9223372036854775807 := by
  obtain ⟨hs, h1, _⟩ := h
  exact h1.open
theorem ClsSl.at {w : World} {a : Option Addr} {n c : Nat} {ls : List (List Nat)} (h : ClsSl w (.slice a n c) ls) {k : Nat} {l : List Nat} (hk : ls[k]? = some l) : ∃ b o x, a = some ⟨b, o, none⟩ ∧ w.cell? ⟨b, o + k, none⟩ = some x ∧ IntSl w x (natI l) := by
  obtain ⟨hs, h1, h2⟩ := h
  have hkl := (List.getElem?_eq_some_iff.1 hk).1
  have hhl : hs.length = ls.length := by rw [h1.1]; omega
  obtain ⟨b, o, ha, hc⟩ := h1.cells (by omega)
  have hx : hs[k]? = some (hs[k]'(by omega)) := List.getElem?_eq_getElem (by omega)
  exact ⟨b, o, _, ha, hc k _ hx, h2 k _ l hx hk⟩
theorem CR.sl {B : Nat} {w : World} {vo : Value} {hs : List Value} {ls : List (List Nat)} (h : CR B w vo hs ls) : ClsSl w vo ls :=
  ⟨hs, by have := Flat.of_owns h.oo; rwa [h.len] at this, fun k x l h1 h2 => by
    have := Flat.of_owns (h.row k x l h1 h2)
    unfold IntSl
    rw [natI_length]
    exact this⟩
/-- The slice value v reads as the runs. -/
def RunsSl (w : World) (v : Value) (rs : List (List Stp)) : Prop := ∃ hs, Flat w 1 v rs.length hs ∧ ∀ (k : Nat) (h : Value) (r : List Stp), hs[k]? = some h → rs[k]? = some r → StpSl w h r
theorem RunsSl.kept {w w' : World} {v : Value} {rs : List (List Stp)} (h : RunsSl w v rs) {B : Nat} (hb : Below B w w') (hB : w.heap.size ≤ B) : RunsSl w' v rs := by
  obtain ⟨hs, h1, h2⟩ := h
  exact ⟨hs, h1.kept hb hB, fun k x l e1 e2 => (h2 k x l e1 e2).kept hb hB⟩
theorem RunsSl.open {w : World} {v : Value} {rs : List (List Stp)} (h : RunsSl w v rs) : ∃ a c, v = .slice a rs.length c ∧ rs.length ≤ 9223372036854775807 := by
  obtain ⟨hs, h1, _⟩ := h
  exact h1.open
theorem RunsSl.at {w : World} {a : Option Addr} {n c : Nat} {rs : List (List Stp)} (h : RunsSl w (.slice a n c) rs) {k : Nat} {r : List Stp} (hk : rs[k]? = some r) : ∃ b o x, a = some ⟨b, o, none⟩ ∧ w.cell? ⟨b, o + k, none⟩ = some x ∧ StpSl w x r := by
  obtain ⟨hs, h1, h2⟩ := h
  have hkl := (List.getElem?_eq_some_iff.1 hk).1
  have hhl : hs.length = rs.length := by rw [h1.1]; omega
  obtain ⟨b, o, ha, hc⟩ := h1.cells (by omega)
  have hx : hs[k]? = some (hs[k]'(by omega)) := List.getElem?_eq_getElem (by omega)
  exact ⟨b, o, _, ha, hc k _ hx, h2 k _ r hx hk⟩

/-- Between two rounds of Classes: vf: the forms; vo: the rows; P: the blocks that the forms lie in. -/
structure CS (B : Nat) (w : World) (vf vo : Value) (fs hs : List Value) (fm : List (List Stp)) (ls : List (List Nat)) (P : Nat → Prop) : Prop where
  fo : w.ownsRow B 23 1 vf fs.length fs
  fl : fs.length = fm.length
  fk : ∀ (j : Nat) (h : Value) (f : List Stp), fs[j]? = some h → fm[j]? = some f → ∀ w', Same P w w' → StpSl w' h f
  co : CR B w vo hs ls
  pl : ∀ b, P b → b < w.heap.size ∧ vf.ownBlock ≠ some b ∧ vo.ownBlock ≠ some b ∧ ∀ (k : Nat) (h : Value), hs[k]? = some h → h.ownBlock ≠ some b
  fd : ∀ b, vf.ownBlock = some b → vo.ownBlock ≠ some b ∧ ∀ (k : Nat) (h : Value), hs[k]? = some h → h.ownBlock ≠ some b
theorem CS.start (B : Nat) (w : World) : CS B w (.slice none 0 0) (.slice none 0 0) [] [] [] [] (fun _ => False) :=
  ⟨World.ownsRow_nil _ _ _ _, rfl, fun j h f e => by simp at e, CR.start _ _, fun b h => h.elim, fun b h => by cases h⟩
theorem CS.below {B : Nat} {w w' : World} {vf vo : Value} {fs hs : List Value} {fm : List (List Stp)} {ls : List (List Nat)} {P : Nat → Prop} (h : CS B w vf vo fs hs fm ls P) (hb : Below w.heap.size w w') : CS B w' vf vo fs hs fm ls P :=
  ⟨owns_below h.fo hb, h.fl, fun j x f e1 e2 w2 hs2 => h.fk j x f e1 e2 w2 ((Same.below hb fun b hP => (h.pl b hP).1).trans hs2), h.co.below hb, fun b hP => ⟨Nat.lt_of_lt_of_le (h.pl b hP).1 hb.size, (h.pl b hP).2⟩, h.fd⟩
/-- A form that lies in new memory joins what is kept. -/
theorem CS.join {B : Nat} {w w' : World} {vf vo u : Value} {fs hs : List Value} {fm : List (List Stp)} {ls : List (List Nat)} {P : Nat → Prop} {f : List Stp} (h : CS B w vf vo fs hs fm ls P) (hb : Below w.heap.size w w') (hu : StpSlF w.heap.size w' u f) :
    ∃ P', CS B w' vf vo fs hs fm ls P' ∧ ∀ w2, Same P' w' w2 → StpSl w2 u f := by
  have h2 := h.below hb
  have hrow : ∀ (k : Nat) (x : Value) (b : Nat), hs[k]? = some x → x.ownBlock = some b → b < w.heap.size := fun k x b hx hb => by
    have hkl : k < ls.length := by have := (List.getElem?_eq_some_iff.1 hx).1; rw [← h.co.len]; exact this
    exact ((h.co.row k x _ hx (List.getElem?_eq_getElem hkl)).lt b hb).2
  refine ⟨fun b => P b ∨ (w.heap.size ≤ b ∧ b < w'.heap.size), ⟨h2.fo, h2.fl, fun j x f e1 e2 w2 hs2 => h2.fk j x f e1 e2 w2 (hs2.weak fun b hb => .inl hb), h2.co, ?_, h2.fd⟩, fun w2 hs2 => (hu.keptP (hs2.weak fun b hb => .inr hb)).sl⟩
  rintro b (hP | ⟨h3, h4⟩)
  · exact h2.pl b hP
  · exact ⟨h4, fun e => by have := (h.fo.lt b e).2; omega, fun e => by have := (h.co.oo.lt b e).2; omega, fun k x hx e => by have := hrow k x b hx e; omega⟩
/-- The form is appended. -/
theorem CS.pushF {B : Nat} {w w' : World} {vf vf' vo u : Value} {fs hs : List Value} {fm : List (List Stp)} {ls : List (List Nat)} {P : Nat → Prop} {f : List Stp} (h : CS B w vf vo fs hs fm ls P) (hu : ∀ w2, Same P w w2 → StpSl w2 u f)
    (hg : w.grownBy w' vf.ownBlock) (ho : w'.ownsRow B 23 1 vf' (fs.length + 1) (fs ++ [u])) (hn : ∀ b, vf'.ownBlock = some b → vf.ownBlock = some b ∨ w.heap.size ≤ b) : CS B w' vf' vo (fs ++ [u]) hs (fm ++ [f]) ls P := by
  have hS : Same P w w' := Same.grown hg fun b hP => ⟨(h.pl b hP).1, fun e => (h.pl b hP).2.1 e.symm⟩
  have hrow : ∀ (k : Nat) (x : Value) (b : Nat), hs[k]? = some x → x.ownBlock = some b → b < w.heap.size := fun k x b hx hb => by
    have hkl : k < ls.length := by have := (List.getElem?_eq_some_iff.1 hx).1; rw [← h.co.len]; exact this
    exact ((h.co.row k x _ hx (List.getElem?_eq_getElem hkl)).lt b hb).2
  refine ⟨by rw [List.length_append]; exact ho, by simp [h.fl], ?_, h.co.other hg fun b hb => h.fd b hb, ?_, ?_⟩
  · intro j x m e1 e2 w2 hs2
    by_cases e : j < fs.length
    · rw [List.getElem?_append_left e] at e1
      rw [List.getElem?_append_left (by rw [← h.fl]; exact e)] at e2
      exact h.fk j x m e1 e2 w2 (hS.trans hs2)
    · rw [List.getElem?_append_right (by omega)] at e1
      have h0 : j - fs.length = 0 := by have := (List.getElem?_eq_some_iff.1 e1).1; simp at this; omega
      rw [List.getElem?_append_right (by rw [← h.fl]; omega), ← h.fl, h0] at e2
      rw [h0] at e1
      simp at e1 e2
      subst e1 e2
      exact hu w2 (hS.trans hs2)
  · intro b hP
    have h1 := h.pl b hP
    have h4 := hg.size
    exact ⟨by omega, fun e => by
      rcases hn b e with h2 | h2
      · exact h1.2.1 h2
      · omega, h1.2.2⟩
  · intro b hb
    rcases hn b hb with h2 | h2
    · exact h.fd b h2
    · exact ⟨fun e => by have := (h.co.oo.lt b e).2; omega, fun k x hx e => by have := hrow k x b hx e; omega⟩
/-- A row of new memory is appended. -/
theorem CS.pushR {B : Nat} {w w' : World} {vf vo vo' : Value} {fs hs : List Value} {fm : List (List Stp)} {ls : List (List Nat)} {P : Nat → Prop} (h : CS B w vf vo fs hs fm ls P)
    (hg : w.grownBy w' vo.ownBlock) (ho : w'.ownsRow B 22 1 vo' (hs.length + 1) (hs ++ [.slice none 0 0])) (hn : ∀ b, vo'.ownBlock = some b → vo.ownBlock = some b ∨ w.heap.size ≤ b) : CS B w' vf vo' fs (hs ++ [.slice none 0 0]) fm (ls ++ [[]]) P := by
  have hS : Same P w w' := Same.grown hg fun b hP => ⟨(h.pl b hP).1, fun e => (h.pl b hP).2.2.1 e.symm⟩
  have h4 := hg.size
  have hfo : w'.ownsRow B 23 1 vf fs.length fs := by
    refine h.fo.kept hg ?_
    cases hb : vf.ownBlock with
    | none => exact .inl rfl
    | some b => exact .inr fun e => (h.fd b hb).1 e.symm
  have hsn : ∀ (k : Nat) (x : Value) (b : Nat), (hs ++ [.slice none 0 0])[k]? = some x → x.ownBlock = some b → hs[k]? = some x := fun k x b hx hb => by
    by_cases e : k < hs.length
    · rwa [List.getElem?_append_left e] at hx
    · rw [List.getElem?_append_right (by omega)] at hx
      have h0 : k - hs.length = 0 := by have := (List.getElem?_eq_some_iff.1 hx).1; simp at this; omega
      rw [h0] at hx
      simp at hx
      subst hx
      cases hb
  refine ⟨hfo, h.fl, fun j x f e1 e2 w2 hs2 => h.fk j x f e1 e2 w2 (hS.trans hs2), h.co.push (l := []) (World.ownsRow_nil _ _ _ _) (fun b hb => by cases hb) hg ho hn, ?_, ?_⟩
  · intro b hP
    have h1 := h.pl b hP
    exact ⟨by omega, h1.2.1, fun e => by
      rcases hn b e with h2 | h2
      · exact h1.2.2.1 h2
      · omega, fun k x hx e => h1.2.2.2 k x (hsn k x b hx e) e⟩
  · intro b hb
    have h1 := h.fd b hb
    have h2 := (h.fo.lt b hb).2
    exact ⟨fun e => by
      rcases hn b e with h3 | h3
      · exact h1.1 h3
      · omega, fun k x hx e => h1.2 k x (hsn k x b hx e) e⟩
/-- A number is appended to a row. -/
theorem CS.put {B : Nat} {w w' : World} {vf : Value} {g n cap : Nat} {fs hs : List Value} {fm : List (List Stp)} {ls : List (List Nat)} {P : Nat → Prop} (h : CS B w vf (.slice (some ⟨g, 0, none⟩) n cap) fs hs fm ls P) {k i : Nat} {hd hd' : Value} {l : List Nat} (hk : hs[k]? = some hd) (hl : ls[k]? = some l)
    (hg : w.grownBy w' hd.ownBlock) (ho : w'.ownsRow B 3 1 hd' (l ++ [i]).length (iv (natI (l ++ [i])))) (hn : ∀ b, hd'.ownBlock = some b → hd.ownBlock = some b ∨ w.heap.size ≤ b) :
    CS B (w'.setCell ⟨g, k, none⟩ hd') vf (.slice (some ⟨g, 0, none⟩) n cap) fs (hs.set k hd') fm (ls.set k (l ++ [i])) P := by
  have hS : Same P w (w'.setCell ⟨g, k, none⟩ hd') := (Same.grown hg fun b hP => ⟨(h.pl b hP).1, fun e => (h.pl b hP).2.2.2 k hd hk e.symm⟩).set _ _ (fun hP => (h.pl g hP).2.2.1 rfl)
  have h4 := hg.size
  have hkl := (List.getElem?_eq_some_iff.1 hk).1
  have hfo : w'.ownsRow B 23 1 vf fs.length fs := by
    refine h.fo.kept hg ?_
    cases hb : vf.ownBlock with
    | none => exact .inl rfl
    | some b => exact .inr fun e => (h.fd b hb).2 k hd hk e.symm
  have hsn : ∀ (j : Nat) (x : Value) (b : Nat), (hs.set k hd')[j]? = some x → x.ownBlock = some b → (∃ (y : Value) (j' : Nat), hs[j']? = some y ∧ y.ownBlock = some b) ∨ w.heap.size ≤ b := fun j x b hx hb => by
    by_cases e : k = j
    · subst e
      rw [List.getElem?_set_self hkl] at hx
      cases hx
      rcases hn b hb with h1 | h1
      · exact .inl ⟨hd, k, hk, h1⟩
      · exact .inr h1
    · rw [List.getElem?_set_ne e] at hx
      exact .inl ⟨x, j, hx, hb⟩
  refine ⟨ownsRow_setCell_other hfo (fun e => (h.fd g e).1 rfl) _, h.fl, fun j x f e1 e2 w2 hs2 => h.fk j x f e1 e2 w2 (hS.trans hs2), h.co.put hk hl hg ho hn, ?_, ?_⟩
  · intro b hP
    have h1 := h.pl b hP
    refine ⟨by rw [World.size_setCell]; omega, h1.2.1, h1.2.2.1, fun j x hx e => ?_⟩
    rcases hsn j x b hx e with ⟨y, j', hy, hb⟩ | h2
    · exact h1.2.2.2 j' y hy hb
    · omega
  · intro b hb
    have h1 := h.fd b hb
    have h2 := (h.fo.lt b hb).2
    refine ⟨h1.1, fun j x hx e => ?_⟩
    rcases hsn j x b hx e with ⟨y, j', hy, hb⟩ | h3
    · exact h1.2 j' y hy hb
    · omega

end Go.Proofs.Ytaedfidfcoigoaa
