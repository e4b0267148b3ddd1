/- slices.Clone of asks, messages and steps; trace.own. -/
import Derived.Test.YtaedfidfcoigoaaR6
import Derived.Lib.SliceRun
import Derived.BigRegion
namespace Go.Proofs.Ytaedfidfcoigoaa
open Go.RowKit

/-- append of m elements, m may be 0, onto a row of the call's own. -/
theorem wpList_app0 {P : Program} {w : World} {ops : Array Oper} {rest : List Oper} {o : Oper} {a : Act} {Q : Exit → Act → World → Prop} (hgd : o.guard = none) (s x : Operand) (t : TypeId)
    (ho : o.op = .call { callee := .builtin .append, args := #[s, x], argTypes := #[t, t] })
    (e : TypeId) (z : Value) (k bytes : Nat) (ht : P.underlying t = some (.slice e)) (hinfo : (P.info? e).map (fun i => (i.zero, i.size, i.bytes)) = some (some z, k, bytes)) (hzs : z.cells.size = k) (hk : 0 < k) (hby : bytes ≤ 1000)
    (B : Nat) (v : Value) (n : Nat) (xs : List Value) (hs : a.eval s = v) (hown : w.ownsRow B e k v n xs)
    (ad : Addr) (m c : Nat) (news : List Value) (hx : a.eval x = .slice (some ad) m c) (hfl : Flat w k (.slice (some ad) m c) m news) (h1 : ∀ u ∈ news, u.oneCell' = true)
    (hbd : n + m ≤ 100000000) (hbase : B ≤ w.heap.size)
    (h : ∀ u w', w'.ownsRow B e k u (n + m) (xs ++ news) → w.grownBy w' v.ownBlock → Below B w w' → wpList P ops Q rest (a.put o.dst u) w') : wpList P ops Q (o :: rest) a w := by
  obtain ⟨i0, hi, hz0, hz1, hz2⟩ := info_parts hinfo
  refine wpList_append_own_at w hgd s x t ho B e i0 z k bytes ht hi hz0 hz1 hz2 hzs hk v n xs hs hown ad m c news hx hfl.1 (fun j u hu => ?_) h1 (by unfold maxLen; omega)
    (Nat.le_trans (Nat.mul_le_mul hbd hby) (by omega)) hbase ?_
  · obtain ⟨b, of, e1, hnews⟩ := hfl.cells (by have := (List.getElem?_eq_some_iff.1 hu).1; omega)
    simp at e1
    subst e1
    have hadd : (⟨b, of, none⟩ : Addr).add j = ⟨b, of + j, none⟩ := by unfold Addr.add; split <;> simp_all
    rw [hadd]
    exact hnews j u hu
  · intro u w' h2 h3 _ _
    exact h u w' h2 h3 ((Below.refl B w).grown h3 hbase (fun k' hk' => (hown.lt k' hk').1))

theorem iv_one (l : List Int) : ∀ u ∈ iv l, u.oneCell' = true := by
  intro u hu
  obtain ⟨x, _, rfl⟩ := List.mem_map.1 hu
  rfl
theorem asks_one (l : List Ask) : ∀ u ∈ l.flatMap Ask.cells, u.oneCell' = true := by
  intro u hu
  obtain ⟨x, _, h⟩ := List.mem_flatMap.1 hu
  exact iv_one _ u h
theorem msgs_one (l : List Msg) : ∀ u ∈ l.flatMap Msg.cells, u.oneCell' = true := by
  intro u hu
  obtain ⟨x, _, h⟩ := List.mem_flatMap.1 hu
  exact iv_one _ u h
theorem row_one (s : Stp) (va vs : Value) (ha : va.oneCell' = true) (hs : vs.oneCell' = true) : ∀ u ∈ s.row va vs, u.oneCell' = true := by
  intro u hu
  simp only [Stp.row, List.mem_cons, List.not_mem_nil, or_false] at hu
  rcases hu with rfl | rfl | rfl | rfl | rfl | rfl | rfl | rfl | rfl | rfl | rfl <;> first | rfl | assumption
theorem steps_one {w : World} : ∀ {l : List Stp} {xs : List Value}, StpCells w l xs → ∀ u ∈ xs, u.oneCell' = true
  | [], _, h => by
    have : _ = [] := h
    subst this
    simp
  | s :: l, xs, ⟨va, vs, ys, hx, h1, h2, h3⟩ => by
    intro u hu
    rw [hx] at hu
    obtain ⟨_, _, rfl, _⟩ := h1.open
    obtain ⟨_, _, rfl, _⟩ := h2.open
    rcases List.mem_append.1 hu with h | h
    · exact row_one s _ _ rfl rfl u h
    · exact steps_one h3 u h
theorem flat_none {w : World} {k n c m : Nat} {xs : List Value} (h : Flat w k (.slice none m c) n xs) : xs = [] := by
  cases xs with
  | nil => rfl
  | cons x xs =>
    obtain ⟨b, o, e, _⟩ := h.cells (by simp)
    cases e

set_option maxHeartbeats 400000 in
theorem cloneAsk (l : List Ask) (v : Value) (w : World) (h : AskSl w v l) (hn : l.length ≤ 1000000) :
    Calls Try.prog 60 #[v] w fun e w' => ∃ u, e = .returned u ∧ w'.ownsRow w.heap.size 59 7 u l.length (l.flatMap Ask.cells) ∧ Below w.heap.size w w' := by
  obtain ⟨ka, ca, rfl, hml⟩ := h.open
  have qT : ∀ (w : World) (a : Option Addr) (n c n' c' : Nat), (binOp .eql 53 (.slice a n c) (.slice none n' c')).run Try.prog w = .ok (.bool a.isNone) w := fun w a n c n' c' => Lib.run_eql_slice_nil w _ _ a n c n' c' Try.underlying53
  go_enter Try.func60, Try.ntmps60
  cases ka with
  | none =>
    have e := flat_none h
    have e0 : l.length = 0 := by have := h.1; rw [e] at this; simp at this; omega
    go_wp2_with fail
    go_ret
    exact ⟨_, rfl, by rw [e0, e]; exact World.ownsRow_nil _ _ _ _, Below.refl _ _⟩
  | some ad =>
    go_wp2_with (at_builtin; refine wpList_app0 rfl _ _ 53 rfl 59 _ 7 56 Try.underlying53 info59 rfl (by omega) (by omega) w.heap.size _ 0 [] rfl (owns_of_block (n := 0) (cs := #[]) (heap_alloc_new _ _) (by simp) rfl (by omega)) ad l.length ca _ rfl (Flat.kept (B := w.heap.size) h (by repeat (first | exact Below.refl _ _ | assumption | refine Below.drew ?_ | refine below_drewN ?_ _ | refine Below.alloc ?_ (by simp <;> omega) _ | refine Below.setCell ?_ (by simp <;> omega) _)) (Nat.le_refl _)) (asks_one l) (by omega) (by simp) ?_; intro u w1 hown hgr hB1)
    go_ret
    exact ⟨_, rfl, by simpa using hown, Below.trans (b := w.alloc (.cells #[] 59)) (by repeat (first | exact Below.refl _ _ | assumption | refine Below.drew ?_ | refine below_drewN ?_ _ | refine Below.alloc ?_ (by simp <;> omega) _ | refine Below.setCell ?_ (by simp <;> omega) _)) hB1⟩

set_option maxHeartbeats 400000 in
theorem cloneMsg (l : List Msg) (v : Value) (w : World) (h : MsgSl w v l) (hn : l.length ≤ 1000000) :
    Calls Try.prog 61 #[v] w fun e w' => ∃ u, e = .returned u ∧ w'.ownsRow w.heap.size 50 5 u l.length (l.flatMap Msg.cells) ∧ Below w.heap.size w w' := by
  obtain ⟨ka, ca, rfl, hml⟩ := h.open
  have qT : ∀ (w : World) (a : Option Addr) (n c n' c' : Nat), (binOp .eql 46 (.slice a n c) (.slice none n' c')).run Try.prog w = .ok (.bool a.isNone) w := fun w a n c n' c' => Lib.run_eql_slice_nil w _ _ a n c n' c' Try.underlying46
  go_enter Try.func61, Try.ntmps61
  cases ka with
  | none =>
    have e := flat_none h
    have e0 : l.length = 0 := by have := h.1; rw [e] at this; simp at this; omega
    go_wp2_with fail
    go_ret
    exact ⟨_, rfl, by rw [e0, e]; exact World.ownsRow_nil _ _ _ _, Below.refl _ _⟩
  | some ad =>
    go_wp2_with (at_builtin; refine wpList_app0 rfl _ _ 46 rfl 50 _ 5 40 Try.underlying46 info50 rfl (by omega) (by omega) w.heap.size _ 0 [] rfl (owns_of_block (n := 0) (cs := #[]) (heap_alloc_new _ _) (by simp) rfl (by omega)) ad l.length ca _ rfl (Flat.kept (B := w.heap.size) h (by repeat (first | exact Below.refl _ _ | assumption | refine Below.drew ?_ | refine below_drewN ?_ _ | refine Below.alloc ?_ (by simp <;> omega) _ | refine Below.setCell ?_ (by simp <;> omega) _)) (Nat.le_refl _)) (msgs_one l) (by omega) (by simp) ?_; intro u w1 hown hgr hB1)
    go_ret
    exact ⟨_, rfl, by simpa using hown, Below.trans (b := w.alloc (.cells #[] 50)) (by repeat (first | exact Below.refl _ _ | assumption | refine Below.drew ?_ | refine below_drewN ?_ _ | refine Below.alloc ?_ (by simp <;> omega) _ | refine Below.setCell ?_ (by simp <;> omega) _)) hB1⟩

set_option maxHeartbeats 400000 in
theorem cloneStp (l : List Stp) (v : Value) (w : World) (h : StpSl w v l) (hn : l.length ≤ 1000000) :
    Calls Try.prog 59 #[v] w fun e w' => ∃ u xs, e = .returned u ∧ StpCells w l xs ∧ w'.ownsRow w.heap.size 55 11 u l.length xs ∧ Below w.heap.size w w' := by
  obtain ⟨ka, ca, rfl, hml⟩ := h.open
  obtain ⟨xs, hcs, hfl⟩ := h
  have qT : ∀ (w : World) (a : Option Addr) (n c n' c' : Nat), (binOp .eql 23 (.slice a n c) (.slice none n' c')).run Try.prog w = .ok (.bool a.isNone) w := fun w a n c n' c' => Lib.run_eql_slice_nil w _ _ a n c n' c' Try.underlying23
  go_enter Try.func59, Try.ntmps59
  cases ka with
  | none =>
    have e := flat_none hfl
    have e0 : l.length = 0 := by have := hfl.1; rw [e] at this; simp at this; omega
    go_wp2_with fail
    go_ret
    exact ⟨_, xs, rfl, hcs, by rw [e0, e]; exact World.ownsRow_nil _ _ _ _, Below.refl _ _⟩
  | some ad =>
    go_wp2_with (at_builtin; refine wpList_app0 rfl _ _ 23 rfl 55 _ 11 120 Try.underlying23 info55 rfl (by omega) (by omega) w.heap.size _ 0 [] rfl (owns_of_block (n := 0) (cs := #[]) (heap_alloc_new _ _) (by simp) rfl (by omega)) ad l.length ca _ rfl (Flat.kept (B := w.heap.size) hfl (by repeat (first | exact Below.refl _ _ | assumption | refine Below.drew ?_ | refine below_drewN ?_ _ | refine Below.alloc ?_ (by simp <;> omega) _ | refine Below.setCell ?_ (by simp <;> omega) _)) (Nat.le_refl _)) (steps_one hcs) (by omega) (by simp) ?_; intro u w1 hown hgr hB1)
    go_ret
    exact ⟨_, xs, rfl, hcs, by simpa using hown, Below.trans (b := w.alloc (.cells #[] 55)) (by repeat (first | exact Below.refl _ _ | assumption | refine Below.drew ?_ | refine below_drewN ?_ _ | refine Below.alloc ?_ (by simp <;> omega) _ | refine Below.setCell ?_ (by simp <;> omega) _)) hB1⟩

end Go.Proofs.Ytaedfidfcoigoaa
