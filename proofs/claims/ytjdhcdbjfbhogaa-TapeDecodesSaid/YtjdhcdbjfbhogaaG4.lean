/- maps.Keys over a map of questions: its iterator. -/
import Derived.Test.YtjdhcdbjfbhogaaG3
import Derived.RangeFuncNested
import Derived.RangeFuncBound
import Derived.RangeFuncCalls
import Derived.RangeFuncLeaves
import Derived.RangeFuncKeeps
import Derived.RangeFuncGives
import Derived.Sort.MapsRangeIn
import Derived.Shelf.Abstract
import Derived.OwnWalkIn
import Derived.TacticsInMore
import Derived.LoopNIn
import Derived.LoopIn
import Derived.OpenShut
namespace Go.Proofs.Ytjdhcdbjfbhogaa
open Go.RowKit Go.Shelf Go.Maps
attribute [local go_sem] Oper.semAt_some

theorem key3 {m : Nat} {c : Value} {ls : List Lit} (h : Try.prog.keyLits (m + 1) 3 [c] = some ls) : ∃ n, c = I n ∧ InI64 n := by
  cases c <;> simp [Program.keyLits, Try.underlying3] at h
  rename_i k n
  obtain ⟨⟨rfl, h1⟩, _⟩ := h
  exact ⟨n, rfl, bounds_i64 h1⟩
theorem key52 {m : Nat} {c0 c1 c2 : Value} {ls : List Lit} (h : Try.prog.keyLits (m + 3) 52 [c0, c1, c2] = some ls) : ∃ n0 n1 n2, c0 = I n0 ∧ c1 = I n1 ∧ c2 = I n2 ∧ InI64 n0 ∧ InI64 n1 ∧ InI64 n2 := by
  unfold Program.keyLits at h
  simp only [Try.underlying52] at h
  rw [if_pos ⟨by rw [cells52]; rfl, by kernel_rfl⟩] at h
  simp [cells3] at h
  cases e0 : Try.prog.keyLits (m + 2) 3 [c0] with
  | none => rw [e0] at h; simp at h
  | some l0 =>
    cases e1 : Try.prog.keyLits (m + 2) 3 [c1] with
    | none => rw [e0, e1] at h; simp at h
    | some l1 =>
      cases e2 : Try.prog.keyLits (m + 2) 3 [c2] with
      | none => rw [e0, e1, e2] at h; simp at h
      | some l2 =>
        obtain ⟨n0, h0, o0⟩ := key3 e0
        obtain ⟨n1, h1, o1⟩ := key3 e1
        obtain ⟨n2, h2, o2⟩ := key3 e2
        exact ⟨n0, n1, n2, h0, h1, h2, o0, o1, o2⟩
set_option maxRecDepth 100000 in
theorem keyQ_inv {v : Value} {kl : Lit} (h : keyOf Try.prog 66 v = some kl) : ∃ q : Qn, q.ok ∧ v = q.val ∧ kl = qLit q := by
  have h0 := h
  obtain ⟨m, hm⟩ : ∃ m, Try.prog.types.size = m + 3 := ⟨Try.prog.types.size - 3, by kernel_rfl⟩
  unfold keyOf at h
  simp only [Try.underlying66] at h
  split at h
  · rename_i hf
    cases v with
    | agg cs =>
      simp only [keyType66, Value.formed, Try.underlying66, cells66, Bool.true_and, beq_iff_eq] at hf
      obtain ⟨l, rfl⟩ : ∃ l : List Value, cs = l.toArray := ⟨cs.toList, by simp⟩
      simp only [List.size_toArray] at hf
      match l, hf with
      | [c0, c1, c2, c3, c4], _ =>
        rw [hm] at h
        unfold Program.keyLits at h
        simp only [Try.underlying66, Value.cells] at h
        rw [if_pos ⟨by rw [cells66]; rfl, by kernel_rfl⟩] at h
        simp [cells52, cells3] at h
        rw [Option.bind_eq_some_iff] at h
        obtain ⟨l52, h52, h⟩ := h
        cases e3 : Try.prog.keyLits (m + 3) 3 [c3] with
        | none => rw [e3] at h; simp at h
        | some l3 =>
          cases e4 : Try.prog.keyLits (m + 3) 3 [c4] with
          | none => rw [e3, e4] at h; simp at h
          | some l4 =>
            obtain ⟨n3, rfl, o3⟩ := key3 e3
            obtain ⟨n4, rfl, o4⟩ := key3 e4
            obtain ⟨n0, n1, n2, rfl, rfl, rfl, o0, o1, o2⟩ := key52 h52
            have hq : (⟨n0, n1, n2, n3, n4⟩ : Qn).ok := fun n hn => by
              simp [Qn.ints] at hn
              rcases hn with rfl | rfl | rfl | rfl | rfl <;> assumption
            have := keyQ ⟨n0, n1, n2, n3, n4⟩ hq
            exact ⟨⟨n0, n1, n2, n3, n4⟩, hq, rfl, by
              have h2 := h0.symm.trans this
              exact Option.some.inj h2⟩
    | _ => simp [Value.formed, Try.underlying66] at hf
  · cases h

/-- The keys of a map of questions, each once. -/
def KeysD (D : DataW Unit) (xs : List Qn) : Prop := xs.Nodup ∧ ∀ q, q ∈ xs ↔ (q.ok ∧ has D (qLit q) = true)
def Coll (D : DataW Unit) (left : Lit → Bool) (ss : List Qn) : Prop := ss.Nodup ∧ ∀ q, q ∈ ss ↔ (q.ok ∧ has D (qLit q) = true ∧ left (qLit q) = false)
theorem Coll.start (D : DataW Unit) : Coll D (has D) [] := ⟨List.nodup_nil, fun q => by simp⟩
theorem qLit_same {p q : Qn} (hp : p.ok) (hq : q.ok) : (qLit p).sameKey (qLit q) = decide (p = q) := by
  rw [Bool.eq_iff_iff, decide_eq_true_eq]
  constructor
  · intro h
    refine qLit_inj hp hq ?_
    unfold qLit at h ⊢
    simp [Lit.sameKey] at h
    rw [h]
  · rintro rfl
    simp [qLit, Lit.sameKey]
theorem Coll.step {D : DataW Unit} {left : Lit → Bool} {ss : List Qn} (h : Coll D left ss) {q : Qn} (hq : q.ok) (hl : left (qLit q) = true) (hh : has D (qLit q) = true) : Coll D (fun z => left z && !z.sameKey (qLit q)) (ss ++ [q]) := by
  have hn : q ∉ ss := fun hm => by
    have := ((h.2 q).1 hm).2.2
    rw [hl] at this
    cases this
  refine ⟨?_, fun p => ?_⟩
  · rw [List.nodup_append]
    exact ⟨h.1, by simp, fun a ha b hb e => by simp at hb; subst hb; subst e; exact hn ha⟩
  · rw [List.mem_append, h.2 p]
    constructor
    · rintro (⟨h1, h2, h3⟩ | h1)
      · exact ⟨h1, h2, by simp [h3]⟩
      · simp at h1
        subst h1
        exact ⟨hq, hh, by simp [qLit_same hq hq]⟩
    · rintro ⟨h1, h2, h3⟩
      by_cases e : p = q
      · exact .inr (by simp [e])
      · replace h3 : (left (qLit p) && !(qLit p).sameKey (qLit q)) = false := h3
        rw [qLit_same h1 hq, decide_eq_false e] at h3
        exact .inl ⟨h1, h2, by simpa using h3⟩
theorem Coll.end_ {D : DataW Unit} {left : Lit → Bool} {ss : List Qn} (h : Coll D left ss) (hl : ∀ z, left z = false) : KeysD D ss := ⟨h.1, fun q => by rw [h.2 q, hl]; simp⟩

set_option maxHeartbeats 4000000 in
set_option maxRecDepth 100000 in
theorem keysIter (n : Nat) (hn : 1 ≤ n) (mb b nn : Nat) (D : DataW Unit) (w0 : World) (hbox : w0.cell? ⟨mb, 0, none⟩ = some (.map (some b))) (hown0 : w0.ownsMap (H := Unit) Try.prog 66 (plainElem Try.prog 3) b nn D) :
    SeqStopsK Fence.wide n Try.prog 85 #[.pointer (some ⟨mb, 0, none⟩)] (fun q : Qn => #[q.val]) KeepsWalks (fun xs => KeysD D xs) (fun _ => True) (Maps.size D) w0 := by
  intro l J Jx W hW hJ hJx hY h0
  have hbl : mb < w0.heap.size := by simpa using World.block_lt_of_cell? _ _ hbox
  have HY := Lib.hid hY
  clear hY
  have hb0 := (hW.cell (p := ⟨mb, 0, none⟩) hbl).trans hbox
  have hown : W.ownsMap (H := Unit) Try.prog 66 (plainElem Try.prog 3) b nn D := hown0.kept (row := none) ⟨hW.os, hW.tape, hW.output, hW.size, fun k hk _ => hW.block k hk⟩ (by simp)
  refine callsIn_of_wp Try.func85 rfl trivial ?_ rfl
  simp only [Try.ntmps85, List.size_toArray, List.length_cons, List.length_nil, Nat.reduceAdd, Nat.reduceSub, Array.replicate_succ, Array.replicate_zero, List.push_toArray, List.append_toArray, List.nil_append, List.cons_append]
  gi_wp2_with (first
    | (gi_at_range; refine wpListIn_range_own (H := Unit) _ rfl _ 102 rfl 66 3 law66 Try.underlying102 (plainElem Try.prog 3) b nn D rfl hown ?_; intro w1 hrg0 hg0 hs0)
    | gi_in)
  gi_loopw [3] (fun _ wr => ∃ (left : Lit → Bool) (cnt : Nat) (ss : List Qn), wr.ranges Try.prog 66 (plainElem (H := Unit) Try.prog 3) b W.heap.size nn D left cnt ∧ ss.length + cnt ≤ Maps.size D ∧ Coll D left ss ∧ J ss wr)
    (fun _ wr => wr.rangeLeft b W.heap.size)
  case atStart =>
    exact ⟨_, _, [], hrg0, by simp, Coll.start D, hJ [] W w1 none h0 hg0 (fun r e => by cases e)⟩
  case round =>
    obtain ⟨left, cnt, ss, hrg, hcs, hC, hJs⟩ := hrel
    gi_wp2_with (first
      | (gi_at_next; refine wpListIn_next_ranges (H := Unit) _ rfl _ rfl 66 law66 (plainElem Try.prog 3) Qn.val id (fun key kl hk => by obtain ⟨q, _, hq, _⟩ := keyQ_inv hk; exact ⟨q, hq⟩) (fun v _ _ => ⟨v, rfl⟩) b W.heap.size nn _ _ _ rfl hrg ?_ ?_)
      | gi_in)
    · intro hc0 hl0
      gi_wp2
      go_end0
      exact ⟨⟨_, rfl⟩, .inl ⟨ss, hC.end_ hl0, hJs⟩⟩
    · intro x c kl yd yp w2 cnt2 hkey hlk hv hat hrg2 hlt hg2 hs2 hen
      obtain ⟨x', hxo, ex, rfl⟩ := keyQ_inv hkey
      obtain rfl : x = x' := by
        cases x; cases x'
        simp [Qn.val] at ex
        simp [ex]
      have hJ2 : J ss w2 := hJ ss wr w2 (some W.heap.size) hJs hg2 (fun r e => by cases e; exact ⟨Nat.le_refl _, hrg.iter_walk⟩)
      have hK3 : KeepsWalks w2 (w2.alloc (.cells #[I x.node, I x.handler, I x.count, I x.kind, I x.index] 66)) := KeepsWalks.alloc _ _
      have hJ3 : J ss (w2.alloc (.cells #[I x.node, I x.handler, I x.count, I x.kind, I x.index] 66)) := hJ ss w2 _ none hJ2 (World.grownBy_alloc _ _ none) (fun r e => by cases e)
      obtain ⟨fn, tmps, assign, body, hy, hR⟩ := HY.out ss x _ hJ3 (by omega)
      have hC2 := hC.step hxo hlk (has_true_of_atKey hat)
      have HC2 := Lib.hid hC2
      have hrg3 := hrg2.of_walks hK3
      have HR := Lib.hid hR
      simp only [Qn.val] at hen hy ⊢
      clear hs2 hC hC2 hR
      gi_wp2
      refine HR.out.mono ?_
      rintro e W3 (⟨rfl, hJ4, hk4⟩ | ⟨rfl, hJx4⟩)
      · gi_wp2
        have hrg4 := hrg3.of_walks hk4
        go_roundw
        case rel => exact ⟨_, cnt2, ss ++ [x], hrg4, by simp; omega, HC2.out, hJ4⟩
        case measure => rw [hrg4.left_eq, hrg.left_eq]; exact hlt
      · gi_wp2
        refine bodyPost_ret (results_none rfl _ _ _) rfl ?_
        exact ⟨⟨_, rfl⟩, .inr ⟨_, trivial, hJx4⟩⟩

end Go.Proofs.Ytjdhcdbjfbhogaa
