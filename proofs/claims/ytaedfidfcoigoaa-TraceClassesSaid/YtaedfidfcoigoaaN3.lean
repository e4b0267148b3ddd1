/- What poset.New holds in memory while it sorts: the numbers of predecessors that are left, and the rows of second parts. -/
import Derived.Test.YtaedfidfcoigoaaNA
namespace Go.Proofs.Ytaedfidfcoigoaa
open Go.RowKit

theorem sum_upd (f g : Nat → Nat) (i c : Nat) : ∀ n, i < n → (∀ a < n, a ≠ i → f a = g a) → f i = g i + c → ((List.range n).map f).sum = ((List.range n).map g).sum + c
  | 0, h, _, _ => by omega
  | n + 1, h, h1, h2 => by
    rw [List.range_succ, List.map_append, List.map_append, List.sum_append, List.sum_append]
    simp only [List.map_cons, List.map_nil, List.sum_cons, List.sum_nil]
    by_cases e : i = n
    · subst e
      have : (List.range i).map f = (List.range i).map g := List.map_congr_left fun a ha => h1 a (by have := List.mem_range.1 ha; omega) (by have := List.mem_range.1 ha; omega)
      rw [this]
      omega
    · rw [sum_upd f g i c n (by omega) (fun a ha => h1 a (by omega)) h2, h1 n (by omega) (fun e' => e e'.symm)]
      omega
theorem wt_all (n b : Nat) (L : List (Nat × Nat)) (h : ∀ p ∈ L, p.1 < n) : (allS (nxL L) n).count b = wtL L b := by
  induction L with
  | nil =>
    have : allS (nxL []) n = [] := by
      unfold allS
      rw [List.flatMap_eq_nil_iff]
      intro a _
      rfl
    rw [this]
    rfl
  | cons p L ih =>
    have ih := ih (fun q hq => h q (List.mem_cons_of_mem _ hq))
    unfold allS at ih ⊢
    rw [List.count_flatMap] at ih ⊢
    rw [sum_upd (List.count b ∘ nxL (p :: L)) (List.count b ∘ nxL L) p.1 (if p.2 = b then 1 else 0) n (h p List.mem_cons_self), ih]
    · unfold wtL
      rw [List.map_cons, List.count_cons]
      simp
    · intro a _ ha
      simp [nxL, Ne.symm ha]
    · simp [nxL, List.count_cons]

theorem nxL_lt {L : List (Nat × Nat)} {n a b : Nat} (h : ∀ p ∈ L, p.1 < p.2 ∧ p.2 < n) (hb : b ∈ nxL L a) : a < b ∧ b < n := by
  unfold nxL at hb
  obtain ⟨p, hp, rfl⟩ := List.mem_map.1 hb
  obtain ⟨h1, h2⟩ := List.mem_filter.1 hp
  have := h p h1
  simp at h2
  omega
/-- What is left to be counted off. -/
def WtAt (W : World) (gw n : Nat) (t : Nat → Nat) : Prop := ∃ wa : Array Value, Blk W gw wa ∧ wa.size = n ∧ ∀ b < n, wa[b]? = some (I (t b : Nat))
theorem WtAt.cell {W : World} {gw n : Nat} {t : Nat → Nat} (h : WtAt W gw n t) {b : Nat} (hb : b < n) : W.cell? ⟨gw, b, none⟩ = some (I (t b : Nat)) ∧ W.frozen? ⟨gw, b, none⟩ = false := by
  obtain ⟨wa, h1, h2, h3⟩ := h
  exact ⟨(h1.cell b).trans (h3 b hb), h1.frozen b⟩
theorem WtAt.set {W : World} {gw n : Nat} {t t' : Nat → Nat} (h : WtAt W gw n t) (b : Nat) (ho : ∀ c, c ≠ b → t' c = t c) : WtAt (W.setCell ⟨gw, b, none⟩ (I (t' b : Nat))) gw n t' := by
  obtain ⟨wa, h1, h2, h3⟩ := h
  refine ⟨_, h1.set b _, by rw [Array.size_setIfInBounds]; exact h2, fun c hc => ?_⟩
  by_cases e : b = c
  · subst e
    rw [Array.getElem?_setIfInBounds_self_of_lt (by rw [h2]; exact hc)]
  · rw [Array.getElem?_setIfInBounds_ne e, h3 c hc, ho c (fun x => e x.symm)]
theorem WtAt.kept {W W' : World} {gw n B : Nat} {t : Nat → Nat} (h : WtAt W gw n t) (hb : Below B W W') (hg : gw < B) : WtAt W' gw n t := by
  obtain ⟨wa, h1, h2, h3⟩ := h
  exact ⟨wa, h1.kept hb hg, h2, h3⟩
theorem WtAt.congr {W : World} {gw n : Nat} {t t' : Nat → Nat} (h : WtAt W gw n t) (ht : ∀ b < n, t' b = t b) : WtAt W gw n t' := by
  obtain ⟨wa, h1, h2, h3⟩ := h
  exact ⟨wa, h1, h2, fun b hb => by rw [ht b hb]; exact h3 b hb⟩

/-- The row of a: where it is read. -/
theorem NxAt.read {B gn gw n : Nat} {W : World} {L : List (Nat × Nat)} {arr wa : Array Value} (h : NxAt B gn gw n W L arr wa) {a : Nat} (ha : a < n) :
    ∃ va, ∀ W', Agr gw W W' → W'.cell? ⟨gn, a, none⟩ = some va ∧ Flat W' 1 va (nxL L a).length (nv (nxL L a)) := by
  obtain ⟨va, h1, h2⟩ := h.row a ha
  refine ⟨va, fun W' hA => ⟨?_, Flat.own_off h2 h.lw hA⟩⟩
  rw [hA.2 gn a (Nat.lt_of_lt_of_le h.ln h.hB) h.ne]
  exact (h.bn.cell a).trans h1
theorem NxAt.wtAt {B gn gw n : Nat} {W : World} {L : List (Nat × Nat)} {arr wa : Array Value} (h : NxAt B gn gw n W L arr wa) : WtAt W gw n (wtL L) := ⟨wa, h.bw, h.sw, h.wt⟩

theorem own_set {W : World} {B : Nat} {e : TypeId} {k : Nat} {v : Value} {n : Nat} {xs : List Value} (h : W.ownsRow B e k v n xs) (a : Addr) (u : Value) (ha : a.block < B) : (W.setCell a u).ownsRow B e k v n xs := by
  refine h.kept ⟨rfl, rfl, rfl, by simp, fun j _ hj => heap_setCell_other _ _ _ _ (fun e => hj (by rw [e]))⟩ (row := some a.block) ?_
  rcases owns_block h with h0 | ⟨g, h0, h1, _⟩
  · exact .inl h0
  · exact .inr (by rw [h0]; intro e; cases e; omega)
theorem nv_length (l : List Nat) : (nv l).length = l.length := by simp [nv]
theorem nv_snoc (l : List Nat) (i : Nat) : nv (l ++ [i]) = nv l ++ [I (i : Int)] := by simp [nv]
theorem nv_get {l : List Nat} {i x : Nat} (h : l[i]? = some x) : (nv l)[i]? = some (I (x : Int)) := by simp [nv, h]
theorem flat_nv {w : World} {a : Option Addr} {m c n : Nat} {l : List Nat} (h : Flat w 1 (.slice a m c) n (nv l)) {i x : Nat} (hi : l[i]? = some x) : ∃ b o, a = some ⟨b, o, none⟩ ∧ w.cell? ⟨b, o + i, none⟩ = some (I (x : Int)) := by
  have hlt := (List.getElem?_eq_some_iff.1 hi).1
  obtain ⟨b, o, ha, hc⟩ := h.cells (by rw [nv_length]; omega)
  exact ⟨b, o, ha, hc i _ (nv_get hi)⟩
theorem filter_succ (Z : Nat → Bool) (k : Nat) : (List.range (k + 1)).filter Z = (List.range k).filter Z ++ if Z k then [k] else [] := by
  rw [List.range_succ, List.filter_append]
  by_cases h : Z k <;> simp [h]

/-- What poset.New holds while it sorts: w3: where the sorting begins; done: the second parts that have been counted off; v: the row. -/
structure QM (n gw : Nat) (L : List (Nat × Nat)) (w w3 W : World) (row done : List Nat) (v : Value) : Prop where
  ag : Agr gw w3 W
  wt : WtAt W gw n (fun b => wtL L b - done.count b)
  own : W.ownsRow w3.heap.size 3 1 v row.length (nv row)
  be : Below w.heap.size w W
theorem QM.drew {n gw : Nat} {L : List (Nat × Nat)} {w w3 W : World} {row done : List Nat} {v : Value} (h : QM n gw L w w3 W row done v) : QM n gw L w w3 W.drew row done v :=
  ⟨h.ag.drew, h.wt, owns_below h.own (Below.refl _ _).drew, h.be.drew⟩
theorem QM.kept {n gw : Nat} {L : List (Nat × Nat)} {w w3 W W' : World} {row done : List Nat} {v : Value} (h : QM n gw L w w3 W row done v) (hb : Below W.heap.size W W') (h1 : gw < w3.heap.size) : QM n gw L w w3 W' row done v :=
  ⟨⟨Nat.le_trans h.ag.1 hb.size, fun x o hx hg => (hb.cell (p := ⟨x, o, none⟩) (Nat.lt_of_lt_of_le hx h.ag.1)).trans (h.ag.2 x o hx hg)⟩, h.wt.kept hb (Nat.lt_of_lt_of_le h1 h.ag.1), owns_below h.own hb, h.be.trans (hb.mono h.be.size)⟩
theorem QM.set {n gw : Nat} {L : List (Nat × Nat)} {w w3 W : World} {row done : List Nat} {v : Value} (h : QM n gw L w w3 W row done v) (b c : Nat) (hc : wtL L b - done.count b = c + 1) (h1 : gw < w3.heap.size) (h2 : w.heap.size ≤ gw) :
    QM n gw L w w3 (W.setCell ⟨gw, b, none⟩ (I c)) row (done ++ [b]) v where
  ag := h.ag.trans (Agr.set gw W b _)
  wt := by
    have := h.wt.set (t' := fun x => wtL L x - (done ++ [b]).count x) b (fun x hx => by
      show wtL L x - (done ++ [b]).count x = wtL L x - done.count x
      rw [List.count_append]
      simp [Ne.symm hx])
    have e : wtL L b - (done ++ [b]).count b = c := by
      rw [List.count_append]
      simp
      omega
    simp only [e] at this
    exact this
  own := own_set h.own _ _ h1
  be := h.be.setCell h2 _
theorem QM.app {n gw : Nat} {L : List (Nat × Nat)} {w w3 W W' : World} {row done : List Nat} {v v' : Value} (h : QM n gw L w w3 W row done v) (b : Nat) (h1 : gw < w3.heap.size) (h2 : w.heap.size ≤ gw)
    (ho : W'.ownsRow w3.heap.size 3 1 v' (row.length + 1) (nv row ++ [I (b : Int)])) (hb : Below w3.heap.size W W') : QM n gw L w w3 W' (row ++ [b]) done v' where
  ag := ⟨Nat.le_trans h.ag.1 hb.size, fun x o hx hg => (hb.cell (p := ⟨x, o, none⟩) hx).trans (h.ag.2 x o hx hg)⟩
  wt := h.wt.kept hb h1
  own := by rw [List.length_append, nv_snoc]; exact ho
  be := h.be.trans (hb.mono (by omega))

/-- A new order of k elements: its three blocks. -/
def OrdMade (w4 : World) (k : Nat) (v : Value) (wc : World) : Prop := ∃ ga gp gv : Nat, v = .pointer (some ⟨gv, 0, none⟩) ∧ w4.heap.size ≤ ga ∧ w4.heap.size ≤ gp ∧ w4.heap.size ≤ gv ∧ ga ≠ gp ∧ ga ≠ gv ∧ gp ≠ gv ∧
  Blk wc ga (mk1 k (.slice none 0 0)) ∧ Blk wc gp #[I k, .slice (some ⟨ga, 0, none⟩) k k] ∧ Blk wc gv #[.pointer (some ⟨gp, 0, none⟩)] ∧ Below w4.heap.size w4 wc

end Go.Proofs.Ytaedfidfcoigoaa
