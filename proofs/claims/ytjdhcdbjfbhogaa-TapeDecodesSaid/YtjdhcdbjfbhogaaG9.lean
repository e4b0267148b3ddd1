/- append of a row that may be nil; parts of rows; rows of answers and events. -/
import Derived.Test.YtjdhcdbjfbhogaaG2
import Derived.Laws.AppendOwnNone
namespace Go.Proofs.Ytjdhcdbjfbhogaa
open Go.RowKit

def ac (a : Ans) : List Value := iv a.ints
def ec (e : Ev) : List Value := iv e.ints
theorem ac_length (a : Ans) : (ac a).length = 6 := rfl
theorem ec_length (e : Ev) : (ec e).length = 8 := rfl
theorem info75 : (Try.prog.info? 75).map (fun i => (i.zero, i.size, i.bytes)) = some (some (.agg #[.int .i64 0, .int .i64 0, .int .i64 0, .int .i64 0, .int .i64 0, .int .i64 0]), 6, 48) := by kernel_rfl
theorem info56 : (Try.prog.info? 56).map (fun i => (i.zero, i.size, i.bytes)) = some (some (.agg #[.int .i64 0, .int .i64 0, .int .i64 0, .int .i64 0, .int .i64 0, .int .i64 0, .int .i64 0, .int .i64 0]), 8, 64) := by kernel_rfl
theorem iv_one (l : List Int) : ∀ u ∈ iv l, u.oneCell' = true := by
  intro u hu
  simp [iv] at hu
  obtain ⟨x, _, rfl⟩ := hu
  rfl
theorem flat_one {α : Type} {f : α → List Value} (hf : ∀ x, ∀ u ∈ f x, u.oneCell' = true) (l : List α) : ∀ u ∈ l.flatMap f, u.oneCell' = true := by
  intro u hu
  obtain ⟨x, _, hx⟩ := List.mem_flatMap.1 hu
  exact hf x u hx
theorem ans_one (l : List Ans) : ∀ u ∈ l.flatMap ac, u.oneCell' = true := flat_one (fun _ => iv_one _) l
theorem evs_one (l : List Ev) : ∀ u ∈ l.flatMap ec, u.oneCell' = true := flat_one (fun _ => iv_one _) l
theorem flat_none {w : World} {k n c m : Nat} {xs : List Value} (h : Flat w k (.slice none m c) n xs) : xs = [] := by
  cases xs with
  | nil => rfl
  | cons x xs =>
    obtain ⟨b, o, e, _⟩ := h.cells (by simp)
    cases e
theorem run_append_none (w : World) (base : Nat) (t ty e : TypeId) (i : TypeInfo) (size : Nat) (ht : Try.prog.underlying t = some (.slice e)) (hi : Try.prog.info? e = some i)
    (v : Value) (n c : Nat) (xs : List Value) (hown : w.ownsRow base e size v n xs) :
    (Builtin.append_ #[t, t] ty #[v, .slice none 0 c]).run Try.prog w = .ok v w := by
  rcases hown.2 with ⟨rfl, rfl⟩ | ⟨g, cap, cur, rfl, _, _, hnc, _⟩
  · simp [Builtin.append_, run_underlying ht, sizeOf, typeInfo, hi, Builtin.lenOf, Builtin.firstCells]
  · simp [Builtin.append_, run_underlying ht, sizeOf, typeInfo, hi, Builtin.lenOf, Builtin.firstCells, hnc, storeCells]
theorem wpList_app0 {P : Program} {w : World} {ops : Array Oper} {rest : List Oper} {o : Oper} {a : Act} {Q : Exit → Act → World → Prop} (hgd : o.guard = none) (s x : Operand) (t : TypeId)
    (ho : o.op = .call { callee := .builtin .append, args := #[s, x], argTypes := #[t, t] })
    (e : TypeId) (z : Value) (k bytes : Nat) (ht : P.underlying t = some (.slice e)) (hinfo : (P.info? e).map (fun i => (i.zero, i.size, i.bytes)) = some (some z, k, bytes)) (hzs : z.cells.size = k) (hk : 0 < k) (hby : bytes ≤ 1000)
    (B : Nat) (v : Value) (n : Nat) (xs : List Value) (hs : a.eval s = v) (hown : w.ownsRow B e k v n xs)
    (ad : Addr) (m c : Nat) (news : List Value) (hx : a.eval x = .slice (some ad) m c) (hfl : Flat w k (.slice (some ad) m c) m news) (h1 : ∀ u ∈ news, u.oneCell' = true)
    (hbd : n + m ≤ 100000000) (hbase : B ≤ w.heap.size)
    (h : ∀ u w', w'.ownsRow B e k u (n + m) (xs ++ news) → w.grownBy w' v.ownBlock → Below B w w' → wpList P ops Q rest (a.put o.dst u) w') : wpList P ops Q (o :: rest) a w := by
  obtain ⟨i0, hi, hz0, hz1, hz2⟩ := info_parts hinfo
  refine wpList_append_own_at w hgd s x t ho B e i0 z k bytes ht hi hz0 hz1 hz2 hzs hk v n xs hs hown ad m c news hx hfl.1 (fun j u hu => ?_) h1 (by unfold maxLen; omega)
    (Nat.le_trans (Nat.mul_le_mul hbd hby) (by omega)) hbase ?_
  · obtain ⟨b, of, e1, hnews⟩ := hfl.cells (by have := (List.getElem?_eq_some_iff.1 hu).1; omega)
    simp at e1
    subst e1
    have hadd : (⟨b, of, none⟩ : Addr).add j = ⟨b, of + j, none⟩ := by unfold Addr.add; split <;> simp_all
    rw [hadd]
    exact hnews j u hu
  · intro u w' h2 h3 _ _
    exact h u w' h2 h3 ((Below.refl B w).grown h3 hbase (fun k' hk' => (hown.lt k' hk').1))
/-- append(row, more...), the source nil or not. -/
theorem wpList_appG {w : World} {ops : Array Oper} {rest : List Oper} {o : Oper} {a : Act} {Q : Exit → Act → World → Prop} (hgd : o.guard = none) (s x : Operand) (t : TypeId)
    (ho : o.op = .call { callee := .builtin .append, args := #[s, x], argTypes := #[t, t] })
    (e : TypeId) (z : Value) (k bytes : Nat) (ht : Try.prog.underlying t = some (.slice e)) (hinfo : (Try.prog.info? e).map (fun i => (i.zero, i.size, i.bytes)) = some (some z, k, bytes)) (hzs : z.cells.size = k) (hk : 0 < k) (hby : bytes ≤ 1000)
    (B : Nat) (v : Value) (n : Nat) (xs : List Value) (hs : a.eval s = v) (hown : w.ownsRow B e k v n xs)
    (y : Value) (hx : a.eval x = y) (m : Nat) (news : List Value) (hfl : Flat w k y m news) (h1 : ∀ u ∈ news, u.oneCell' = true)
    (hbd : n + m ≤ 100000000) (hbase : B ≤ w.heap.size)
    (h : ∀ u w', w'.ownsRow B e k u (n + m) (xs ++ news) → w.grownBy w' v.ownBlock → Below B w w' → wpList Try.prog ops Q rest (a.put o.dst u) w') : wpList Try.prog ops Q (o :: rest) a w := by
  obtain ⟨ka, ca, rfl, _⟩ := hfl.open
  cases ka with
  | some ad => exact wpList_app0 hgd s x t ho e z k bytes ht hinfo hzs hk hby B v n xs hs hown ad m ca news hx hfl h1 hbd hbase h
  | none =>
    have e' := flat_none hfl
    have e0 : m = 0 := by
      have := hfl.1
      rw [e'] at this
      rcases Nat.mul_eq_zero.1 this.symm with h | h
      · exact h
      · omega
    subst e0 e'
    obtain ⟨i0, hi, _⟩ := info_parts hinfo
    refine wpList_plain hgd fun K hK => ?_
    have hrun := run_append_none w B t o.type e i0 k ht hi v n ca xs hown
    unfold Oper.wp
    simp [execOp, ho, resolve, invoke, builtin, hs, hx, hrun, Result.andThen]
    exact hK _ _ (h v w (by simpa using hown) (World.grownBy.refl _ _) (Below.refl _ _))

/-! ### Parts of rows -/
theorem Flat.take {w : World} {k : Nat} {a : Option Addr} {n c m c' : Nat} {xs : List Value} (h : Flat w k (.slice a m c) n xs) {j : Nat} (hj : j ≤ n) : Flat w k (.slice a j c') j (xs.take (j * k)) := by
  obtain ⟨hl, hm, a', c2, hv, hr⟩ := h
  simp at hv
  obtain ⟨rfl, rfl, rfl⟩ := hv
  refine ⟨?_, by omega, _, _, rfl, fun i u hu => hr i u ?_⟩
  · rw [List.length_take, hl]
    have := Nat.mul_le_mul_right k hj
    omega
  · rw [List.getElem?_take] at hu
    split at hu
    · exact hu
    · cases hu
theorem Flat.drop {w : World} {k : Nat} {b o n c m c' : Nat} {xs : List Value} (h : Flat w k (.slice (some ⟨b, o, none⟩) m c) n xs) {j : Nat} (hj : j ≤ n) : Flat w k (.slice (some ⟨b, o + j * k, none⟩) (n - j) c') (n - j) (xs.drop (j * k)) := by
  obtain ⟨hl, hm, a', c2, hv, hr⟩ := h
  simp at hv
  obtain ⟨rfl, rfl, rfl⟩ := hv
  refine Flat.of_cells ?_ (by omega) fun i u hu => ?_
  · rw [List.length_drop, hl, Nat.sub_mul]
  · rw [List.getElem?_drop] at hu
    obtain ⟨b', o', e, hc⟩ := hr _ u hu
    simp at e
    obtain ⟨rfl, rfl⟩ := e
    rw [Nat.add_assoc]
    exact hc
theorem Flat.drop_all {w : World} {k : Nat} {a : Option Addr} {c : Nat} (n : Nat) (xs : List Value) (hl : xs.length = n * k) : Flat w k (.slice a 0 c) 0 (xs.drop (n * k)) := by
  rw [List.drop_of_length_le (by omega)]
  exact Flat.nil _ _ _ _
theorem flatMap_take {α : Type} {f : α → List Value} {k : Nat} (hf : ∀ x, (f x).length = k) : ∀ (l : List α) (j : Nat), (l.flatMap f).take (j * k) = (l.take j).flatMap f
  | [], j => by simp
  | a :: l, 0 => by simp
  | a :: l, j + 1 => by
    rw [List.flatMap_cons, List.take_succ_cons, List.flatMap_cons, List.take_append, hf, Nat.add_mul, Nat.one_mul, Nat.add_sub_cancel, flatMap_take hf l j, List.take_of_length_le (by rw [hf]; omega)]
theorem flatMap_drop {α : Type} {f : α → List Value} {k : Nat} (hf : ∀ x, (f x).length = k) : ∀ (l : List α) (j : Nat), (l.flatMap f).drop (j * k) = (l.drop j).flatMap f
  | [], j => by simp
  | a :: l, 0 => by simp
  | a :: l, j + 1 => by
    rw [List.flatMap_cons, List.drop_succ_cons, List.drop_append, hf, Nat.add_mul, Nat.one_mul, Nat.add_sub_cancel, flatMap_drop hf l j, List.drop_of_length_le (by rw [hf]; omega), List.nil_append]
theorem owns_cap {w : World} {B n k m c : Nat} {e : TypeId} {a : Option Addr} {xs : List Value} (h : w.ownsRow B e k (.slice a m c) n xs) : m = n ∧ n ≤ c := by
  rcases h.2 with ⟨hv, hn⟩ | ⟨g, cap, cur, hv, _, _, hnc, _⟩
  · simp at hv
    omega
  · simp at hv
    omega
theorem owns_addr {w : World} {B n k m c : Nat} {e : TypeId} {a : Option Addr} {xs : List Value} (h : w.ownsRow B e k (.slice a m c) n xs) : (a = none ∧ c = 0 ∧ n = 0) ∨ ∃ g, a = some ⟨g, 0, none⟩ := by
  rcases h.2 with ⟨hv, hn⟩ | ⟨g, cap, cur, hv, _, _, hnc, _⟩
  · simp at hv
    exact .inl ⟨hv.1, hv.2.2, hn⟩
  · simp at hv
    exact .inr ⟨g, hv.1⟩

end Go.Proofs.Ytjdhcdbjfbhogaa
