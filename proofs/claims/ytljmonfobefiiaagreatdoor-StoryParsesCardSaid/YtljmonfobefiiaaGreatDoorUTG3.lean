import Derived.Test.YtljmonfobefiiaaGreatDoorUBase
import Derived.Deep.CutRange
import Derived.Deep.DeepMust
import Derived.RangeFuncNested
import Derived.RangeFuncBound
import Derived.RangeFuncCalls
import Derived.RangeFuncLeaves
import Derived.RangeFuncKeeps
import Derived.RangeFuncGives
import Derived.Sort.MapsRangeIn
import Derived.Shelf.Abstract
import Derived.OwnWalkIn
import Derived.TacticsInMore
import Derived.LoopNIn
import Derived.LoopIn
import Derived.OpenShut
import Derived.Maps.AppendAt
/- tape.answers. -/
namespace Go.Proofs.YtljmonfobefiiaaGreatDoor
open Go.RowKit Go.Maps

theorem size75 : (Tryz.prog.info? 78).map (·.size) = some 6 := by kernel_rfl
theorem size66 : (Tryz.prog.info? 58).map (·.size) = some 5 := by kernel_rfl
theorem blk_range {W : World} {g : Nat} {cs : Array Value} (h : Blk W g cs) (o : Nat) (xs : List Value) (hx : ∀ j v, xs[j]? = some v → cs[o + j]? = some v) : W.rangeAt g o xs := fun j v hv => by
  rw [h.cell]
  exact hx j v hv
section
variable {ops : Array Oper} {Q : Exit → Act → World → Prop} {rest : List Oper} {o : Oper} {a : Act} {w : World}
theorem wpList_load75 (hgd : o.guard = none) (x : Operand) (ho : o.op = .load 78 x) (b off : Nat) (cs : List Value) (hl : cs.length = 6) (hx : a.eval x = .pointer (some ⟨b, off, none⟩)) (hc : w.rangeAt b off cs)
    (h : wpList Tryz.prog ops Q rest (a.put o.dst (.agg cs.toArray)) w) : wpList Tryz.prog ops Q (o :: rest) a w :=
  wpList_load_mid hgd 78 x ho b off hx cs _ hc Tryz.underlying78 rfl (by rw [hl]; exact size75) h
end

set_option maxHeartbeats 4000000 in
set_option maxRecDepth 100000 in
theorem answersF (l : List Ans) (ve va : Value) (w : World) (ha : AnsSl w va l) (hok : ∀ a ∈ l, a.ok) (hl : l.length ≤ 1000000) :
    Calls Tryz.prog 51 #[.agg #[ve, va]] w fun e w' => ∃ b D, e = .returned (.map (some b)) ∧ w.heap.size ≤ b ∧ w'.ownsMap (H := Unit) Tryz.prog 58 (plainElem Tryz.prog 3) b l.length D ∧ MapA D (getA l) ∧ Below w.heap.size w w' := by
  obtain ⟨ka, ca, rfl, hml⟩ := ha.open
  have Hok := Lib.hid hok
  have hmm := @run_makeMap Tryz.prog
  clear hok
  go_enter Tryz.func51, Tryz.ntmps51
  go_wp2_with fail
  clear hmm
  have hstart : ((w.alloc (.cells #[ve, .slice ka l.length ca] 32)).alloc (.map #[] 0)).ownsMap (H := Unit) Tryz.prog 58 (plainElem Tryz.prog 3) (w.heap.size + 1) 0 (.map []) := by
    have := World.ownsMap_made (H := Unit) (w.alloc (.cells #[ve, .slice ka l.length ca] 32)) Tryz.prog 58 (plainElem Tryz.prog 3)
    rwa [World.size_alloc] at this
  have Hstart := Lib.hid hstart
  clear hstart
  go_loopw [10] (fun p wr => ∃ (k : Nat) (D : DataW Unit), k ≤ l.length ∧ p = .int .i64 k ∧ Hid (wr.ownsMap (H := Unit) Tryz.prog 58 (plainElem Tryz.prog 3) (w.heap.size + 1) k D) ∧ Hid (MapA D (getA (l.take k))) ∧ Below w.heap.size w wr) (fun p _ => l.length - (intOf p).toNat)
  case atStart => exact ⟨0, .map [], by omega, rfl, Lib.hid Hstart.out, Lib.hid MapA.empty, (by repeat (first | exact Below.refl _ _ | assumption | refine Below.drew ?_ | refine below_drewN ?_ _ | refine Below.alloc ?_ (by simp <;> omega) _ | refine Below.setCell ?_ (by simp <;> omega) _))⟩
  case round =>
    clear Hstart
    obtain ⟨k, D, hk, rfl, Hown, HM, hB⟩ := hrel
    by_cases hlt : k < l.length
    · obtain ⟨b, o, rfl, hr⟩ := (ha.kept hB (Nat.le_refl _)).at (i := k) (x := l[k]) (by simp [hlt])
      have hq := Hok.out l[k] (List.getElem_mem hlt)
      have hkey := keyQ l[k].q hq.1
      have hwf := wf_of hq.2
      have Hq := Lib.hid hq.1
      have Hkey := Lib.hid hkey
      have Hwf := Lib.hid hwf
      have Hr := Lib.hid hr
      have hzz := hB.size
      have hbl : w.heap.size + 1 < wr.heap.size := Hown.out.lt
      have hgt := getA_snoc (l.take k) l[k]
      rw [← List.take_succ_eq_append_getElem hlt] at hgt
      have Hgt := Lib.hid hgt
      clear hq hkey hwf hr hgt
      go_upto_region 5 with ((with_reducible refine wpList_load75 rfl _ rfl b (o + k * 6) [I l[k].q.node, I l[k].q.handler, I l[k].q.count, I l[k].q.kind, I l[k].q.index, I l[k].n] rfl ?_ ?_ ?_); (rfl); (exact Hr.out))
      have hblk : Blk (wr.alloc (.cells #[I l[k].q.node, I l[k].q.handler, I l[k].q.count, I l[k].q.kind, I l[k].q.index, I l[k].n] 78)) wr.heap.size #[I l[k].q.node, I l[k].q.handler, I l[k].q.count, I l[k].q.kind, I l[k].q.index, I l[k].n] := Blk.new _ _ _
      have hown1 := Hown.out.alloc (.cells #[I l[k].q.node, I l[k].q.handler, I l[k].q.count, I l[k].q.kind, I l[k].q.index, I l[k].n] 78)
      have hB1 : Below w.heap.size w (wr.alloc (.cells #[I l[k].q.node, I l[k].q.handler, I l[k].q.count, I l[k].q.kind, I l[k].q.index, I l[k].n] 78)) := hB.alloc hzz _
      have hs1 : (wr.alloc (.cells #[I l[k].q.node, I l[k].q.handler, I l[k].q.count, I l[k].q.kind, I l[k].q.index, I l[k].n] 78)).heap.size = wr.heap.size + 1 := World.size_alloc _ _
      generalize wr.alloc (.cells #[I l[k].q.node, I l[k].q.handler, I l[k].q.count, I l[k].q.kind, I l[k].q.index, I l[k].n] 78) = w1 at hblk hown1 hB1 hs1 ⊢
      have Hown1 := Lib.hid hown1
      have Hblk := Lib.hid hblk
      have Hs1 := Lib.hid hs1
      have c0 := hblk.cell 0
      have c1 := hblk.cell 1
      have c2 := hblk.cell 2
      have c3 := hblk.cell 3
      have c4 := hblk.cell 4
      clear hown1 hblk hs1
      go_upto_region 6 with (at_delete; refine wpList_delete_own (H := Unit) _ rfl _ _ 99 58 rfl 3 law_Question Tryz.underlying99 (plainElem Tryz.prog 3) (w.heap.size + 1) k D rfl Hown1.out l[k].q.val (qLit l[k].q) rfl Hkey.out ?_; intro w2 hown2 hturn2)
      simp only [Act.put]
      have hg2 := hturn2.grown
      have hblk2 : Blk w2 wr.heap.size #[I l[k].q.node, I l[k].q.handler, I l[k].q.count, I l[k].q.kind, I l[k].q.index, I l[k].n] := Hblk.out.grown hg2 (by simp; omega)
      have hB2 : Below w.heap.size w w2 := hB1.grown hg2 (by have := hB1.size; omega) (fun g hg => by cases hg; omega)
      have Hown2 := Lib.hid hown2
      have c0 := hblk2.cell 0
      have c1 := hblk2.cell 1
      have c2 := hblk2.cell 2
      have c3 := hblk2.cell 3
      have c4 := hblk2.cell 4
      have c5 := hblk2.cell 5
      clear hown2 hturn2 hg2 hblk2 hB1 Hown1 Hblk Hs1
      obtain ⟨nn, hnn⟩ : ∃ nn, nn = l[k].n := ⟨_, rfl⟩
      have Hnn := Lib.hid hnn
      by_cases hn : 0 < l[k].n
      · have hM : MapA ((D.del (qLit l[k].q)).put (qLit l[k].q) (.lit (.int .i64 l[k].n))) (getA (l.take (k + 1))) := ((HM.out.del l[k].q Hq.out).put l[k].q Hq.out l[k].n hn).congr fun p => by
          unfold getA
          rw [List.take_succ_eq_append_getElem hlt, List.foldl_append]
          by_cases e : l[k].q = p
          · simp [e]; omega
          · simp [e]
        have HM' := Lib.hid hM
        clear hM hnn
        go_wp2_with (at_mapUpdate; refine wpList_mapUpdate_own (H := Unit) _ rfl _ _ _ 99 rfl 58 3 law_Question Tryz.underlying99 (plainElem Tryz.prog 3) (w.heap.size + 1) k _ rfl Hown2.out (by unfold maxLen; omega) l[k].q.val (I l[k].n) (qLit l[k].q) rfl rfl Hkey.out (.lit (.int .i64 l[k].n)) [] (plainElem_int Tryz.underlying3 Hwf.out) ?_; intro w3 hown3 hgr3)
        have hB3 : Below w.heap.size w w3 := hB2.grown hgr3 (by have := hB2.size; omega) (fun g hg => by cases hg; omega)
        have Hown3 := Lib.hid hown3
        clear hown3 hgr3 c0 c1 c2 c3 c4 c5
        go_roundw
        case rel => exact ⟨k + 1, _, by omega, by go_num, Hown3, HM', hB3⟩
        case measure => simp [intOf]; omega
      · have hM : MapA (D.del (qLit l[k].q)) (getA (l.take (k + 1))) := (HM.out.del l[k].q Hq.out).congr fun p => by
          unfold getA
          rw [List.take_succ_eq_append_getElem hlt, List.foldl_append]
          by_cases e : l[k].q = p
          · simp [e]; omega
          · simp [e]
        have HM' := Lib.hid hM
        have Hown3 := Lib.hid (Hown2.out.mono (show k ≤ k + 1 by omega))
        clear hM hnn
        go_wp2_with fail
        go_roundw
        case rel => exact ⟨k + 1, _, by omega, by go_num, Hown3, HM', hB2⟩
        case measure => simp [intOf]; omega
    · have hke : k = l.length := by omega
      have h1 := Hown.out
      have h2 := HM.out
      rw [hke] at h1
      rw [List.take_of_length_le (by omega)] at h2
      have H1 := Lib.hid h1
      have H2 := Lib.hid h2
      clear h1 h2
      go_wp2_with fail
      go_ret
      exact ⟨_, D, rfl, by omega, H1.out, H2.out, hB⟩

end Go.Proofs.YtljmonfobefiiaaGreatDoor

/- maps.Keys over a map of questions: its iterator. -/
namespace Go.Proofs.YtljmonfobefiiaaGreatDoor
open Go.RowKit Go.Shelf Go.Maps
attribute [local go_sem] Oper.semAt_some

theorem key3 {m : Nat} {c : Value} {ls : List Lit} (h : Tryz.prog.keyLits (m + 1) 3 [c] = some ls) : ∃ n, c = I n ∧ InI64 n := by
  cases c <;> simp [Program.keyLits, Tryz.underlying3] at h
  rename_i k n
  obtain ⟨⟨rfl, h1⟩, _⟩ := h
  exact ⟨n, rfl, bounds_i64 h1⟩
theorem key52 {m : Nat} {c0 c1 c2 : Value} {ls : List Lit} (h : Tryz.prog.keyLits (m + 3) 45 [c0, c1, c2] = some ls) : ∃ n0 n1 n2, c0 = I n0 ∧ c1 = I n1 ∧ c2 = I n2 ∧ InI64 n0 ∧ InI64 n1 ∧ InI64 n2 := by
  unfold Program.keyLits at h
  simp only [Tryz.underlying45] at h
  rw [if_pos ⟨by rw [cells_Cause]; rfl, by kernel_rfl⟩] at h
  simp [cells_int] at h
  cases e0 : Tryz.prog.keyLits (m + 2) 3 [c0] with
  | none => rw [e0] at h; simp at h
  | some l0 =>
    cases e1 : Tryz.prog.keyLits (m + 2) 3 [c1] with
    | none => rw [e0, e1] at h; simp at h
    | some l1 =>
      cases e2 : Tryz.prog.keyLits (m + 2) 3 [c2] with
      | none => rw [e0, e1, e2] at h; simp at h
      | some l2 =>
        obtain ⟨n0, h0, o0⟩ := key3 e0
        obtain ⟨n1, h1, o1⟩ := key3 e1
        obtain ⟨n2, h2, o2⟩ := key3 e2
        exact ⟨n0, n1, n2, h0, h1, h2, o0, o1, o2⟩
set_option maxRecDepth 100000 in
theorem keyQ_inv {v : Value} {kl : Lit} (h : keyOf Tryz.prog 58 v = some kl) : ∃ q : Qn, q.ok ∧ v = q.val ∧ kl = qLit q := by
  have h0 := h
  obtain ⟨m, hm⟩ : ∃ m, Tryz.prog.types.size = m + 3 := ⟨Tryz.prog.types.size - 3, by kernel_rfl⟩
  unfold keyOf at h
  simp only [Tryz.underlying58] at h
  split at h
  · rename_i hf
    cases v with
    | agg cs =>
      simp only [keyType_Question, Value.formed, Tryz.underlying58, cells_Question, Bool.true_and, beq_iff_eq] at hf
      obtain ⟨l, rfl⟩ : ∃ l : List Value, cs = l.toArray := ⟨cs.toList, by simp⟩
      simp only [List.size_toArray] at hf
      match l, hf with
      | [c0, c1, c2, c3, c4], _ =>
        rw [hm] at h
        unfold Program.keyLits at h
        simp only [Tryz.underlying58, Value.cells] at h
        rw [if_pos ⟨by rw [cells_Question]; rfl, by kernel_rfl⟩] at h
        simp [cells_Cause, cells_int] at h
        rw [Option.bind_eq_some_iff] at h
        obtain ⟨l52, h52, h⟩ := h
        cases e3 : Tryz.prog.keyLits (m + 3) 3 [c3] with
        | none => rw [e3] at h; simp at h
        | some l3 =>
          cases e4 : Tryz.prog.keyLits (m + 3) 3 [c4] with
          | none => rw [e3, e4] at h; simp at h
          | some l4 =>
            obtain ⟨n3, rfl, o3⟩ := key3 e3
            obtain ⟨n4, rfl, o4⟩ := key3 e4
            obtain ⟨n0, n1, n2, rfl, rfl, rfl, o0, o1, o2⟩ := key52 h52
            have hq : (⟨n0, n1, n2, n3, n4⟩ : Qn).ok := fun n hn => by
              simp [Qn.ints] at hn
              rcases hn with rfl | rfl | rfl | rfl | rfl <;> assumption
            have := keyQ ⟨n0, n1, n2, n3, n4⟩ hq
            exact ⟨⟨n0, n1, n2, n3, n4⟩, hq, rfl, by
              have h2 := h0.symm.trans this
              exact Option.some.inj h2⟩
    | _ => simp [Value.formed, Tryz.underlying58] at hf
  · cases h

/-- The keys of a map of questions, each once. -/
def KeysD (D : DataW Unit) (xs : List Qn) : Prop := xs.Nodup ∧ ∀ q, q ∈ xs ↔ (q.ok ∧ has D (qLit q) = true)
def Coll (D : DataW Unit) (left : Lit → Bool) (ss : List Qn) : Prop := ss.Nodup ∧ ∀ q, q ∈ ss ↔ (q.ok ∧ has D (qLit q) = true ∧ left (qLit q) = false)
theorem Coll.start (D : DataW Unit) : Coll D (has D) [] := ⟨List.nodup_nil, fun q => by simp⟩
theorem qLit_same {p q : Qn} (hp : p.ok) (hq : q.ok) : (qLit p).sameKey (qLit q) = decide (p = q) := by
  rw [Bool.eq_iff_iff, decide_eq_true_eq]
  constructor
  · intro h
    refine qLit_inj hp hq ?_
    unfold qLit at h ⊢
    simp [Lit.sameKey] at h
    rw [h]
  · rintro rfl
    simp [qLit, Lit.sameKey]
theorem Coll.step {D : DataW Unit} {left : Lit → Bool} {ss : List Qn} (h : Coll D left ss) {q : Qn} (hq : q.ok) (hl : left (qLit q) = true) (hh : has D (qLit q) = true) : Coll D (fun z => left z && !z.sameKey (qLit q)) (ss ++ [q]) := by
  have hn : q ∉ ss := fun hm => by
    have := ((h.2 q).1 hm).2.2
    rw [hl] at this
    cases this
  refine ⟨?_, fun p => ?_⟩
  · rw [List.nodup_append]
    exact ⟨h.1, by simp, fun a ha b hb e => by simp at hb; subst hb; subst e; exact hn ha⟩
  · rw [List.mem_append, h.2 p]
    constructor
    · rintro (⟨h1, h2, h3⟩ | h1)
      · exact ⟨h1, h2, by simp [h3]⟩
      · simp at h1
        subst h1
        exact ⟨hq, hh, by simp [qLit_same hq hq]⟩
    · rintro ⟨h1, h2, h3⟩
      by_cases e : p = q
      · exact .inr (by simp [e])
      · replace h3 : (left (qLit p) && !(qLit p).sameKey (qLit q)) = false := h3
        rw [qLit_same h1 hq, decide_eq_false e] at h3
        exact .inl ⟨h1, h2, by simpa using h3⟩
theorem Coll.end_ {D : DataW Unit} {left : Lit → Bool} {ss : List Qn} (h : Coll D left ss) (hl : ∀ z, left z = false) : KeysD D ss := ⟨h.1, fun q => by rw [h.2 q, hl]; simp⟩

set_option maxHeartbeats 4000000 in
set_option maxRecDepth 100000 in
theorem keysIter (n : Nat) (hn : 1 ≤ n) (mb b nn : Nat) (D : DataW Unit) (w0 : World) (hbox : w0.cell? ⟨mb, 0, none⟩ = some (.map (some b))) (hown0 : w0.ownsMap (H := Unit) Tryz.prog 58 (plainElem Tryz.prog 3) b nn D) :
    SeqStopsK Fence.wide n Tryz.prog 92 #[.pointer (some ⟨mb, 0, none⟩)] (fun q : Qn => #[q.val]) KeepsWalks (fun xs => KeysD D xs) (fun _ => True) (Maps.size D) w0 := by
  intro l J Jx W hW hJ hJx hY h0
  have hbl : mb < w0.heap.size := by simpa using World.block_lt_of_cell? _ _ hbox
  have HY := Lib.hid hY
  clear hY
  have hb0 := (hW.cell (p := ⟨mb, 0, none⟩) hbl).trans hbox
  have hown : W.ownsMap (H := Unit) Tryz.prog 58 (plainElem Tryz.prog 3) b nn D := hown0.kept (row := none) ⟨hW.os, hW.tape, hW.output, hW.size, fun k hk _ => hW.block k hk⟩ (by simp)
  refine callsIn_of_wp Tryz.func92 rfl trivial ?_ rfl
  simp only [Tryz.ntmps92, List.size_toArray, List.length_cons, List.length_nil, Nat.reduceAdd, Nat.reduceSub, Array.replicate_succ, Array.replicate_zero, List.push_toArray, List.append_toArray, List.nil_append, List.cons_append]
  gi_wp2_with (first
    | (gi_at_range; refine wpListIn_range_own (H := Unit) _ rfl _ 99 rfl 58 3 law_Question Tryz.underlying99 (plainElem Tryz.prog 3) b nn D rfl hown ?_; intro w1 hrg0 hg0 hs0)
    | gi_in)
  gi_loopw [3] (fun _ wr => ∃ (left : Lit → Bool) (cnt : Nat) (ss : List Qn), wr.ranges Tryz.prog 58 (plainElem (H := Unit) Tryz.prog 3) b W.heap.size nn D left cnt ∧ ss.length + cnt ≤ Maps.size D ∧ Coll D left ss ∧ J ss wr)
    (fun _ wr => wr.rangeLeft b W.heap.size)
  case atStart =>
    exact ⟨_, _, [], hrg0, by simp, Coll.start D, hJ [] W w1 none h0 hg0 (fun r e => by cases e)⟩
  case round =>
    obtain ⟨left, cnt, ss, hrg, hcs, hC, hJs⟩ := hrel
    gi_wp2_with (first
      | (gi_at_next; refine wpListIn_next_ranges (H := Unit) _ rfl _ rfl 58 law_Question (plainElem Tryz.prog 3) Qn.val id (fun key kl hk => by obtain ⟨q, _, hq, _⟩ := keyQ_inv hk; exact ⟨q, hq⟩) (fun v _ _ => ⟨v, rfl⟩) b W.heap.size nn _ _ _ rfl hrg ?_ ?_)
      | gi_in)
    · intro hc0 hl0
      gi_wp2
      go_end0
      exact ⟨⟨_, rfl⟩, .inl ⟨ss, hC.end_ hl0, hJs⟩⟩
    · intro x c kl yd yp w2 cnt2 hkey hlk hv hat hrg2 hlt hg2 hs2 hen
      obtain ⟨x', hxo, ex, rfl⟩ := keyQ_inv hkey
      obtain rfl : x = x' := by
        cases x; cases x'
        simp [Qn.val] at ex
        simp [ex]
      have hJ2 : J ss w2 := hJ ss wr w2 (some W.heap.size) hJs hg2 (fun r e => by cases e; exact ⟨Nat.le_refl _, hrg.iter_walk⟩)
      have hK3 : KeepsWalks w2 (w2.alloc (.cells #[I x.node, I x.handler, I x.count, I x.kind, I x.index] 58)) := KeepsWalks.alloc _ _
      have hJ3 : J ss (w2.alloc (.cells #[I x.node, I x.handler, I x.count, I x.kind, I x.index] 58)) := hJ ss w2 _ none hJ2 (World.grownBy_alloc _ _ none) (fun r e => by cases e)
      obtain ⟨fn, tmps, assign, body, hy, hR⟩ := HY.out ss x _ hJ3 (by omega)
      have hC2 := hC.step hxo hlk (has_true_of_atKey hat)
      have HC2 := Lib.hid hC2
      have hrg3 := hrg2.of_walks hK3
      have HR := Lib.hid hR
      simp only [Qn.val] at hen hy ⊢
      clear hs2 hC hC2 hR
      gi_wp2
      refine HR.out.mono ?_
      rintro e W3 (⟨rfl, hJ4, hk4⟩ | ⟨rfl, hJx4⟩)
      · gi_wp2
        have hrg4 := hrg3.of_walks hk4
        go_roundw
        case rel => exact ⟨_, cnt2, ss ++ [x], hrg4, by simp; omega, HC2.out, hJ4⟩
        case measure => rw [hrg4.left_eq, hrg.left_eq]; exact hlt
      · gi_wp2
        refine bodyPost_ret (results_none rfl _ _ _) rfl ?_
        exact ⟨⟨_, rfl⟩, .inr ⟨_, trivial, hJx4⟩⟩

end Go.Proofs.YtljmonfobefiiaaGreatDoor

/- maps.Keys, slices.AppendSeq, slices.Collect over a map of questions. -/
namespace Go.Proofs.YtljmonfobefiiaaGreatDoor
open Go.RowKit Go.Shelf Go.Maps
attribute [local go_sem] Oper.semAt_some

theorem info_Question : (Tryz.prog.info? 58).map (fun i => (i.zero, i.size, i.bytes)) = some (some (.agg #[.int .i64 0, .int .i64 0, .int .i64 0, .int .i64 0, .int .i64 0]), 5, 40) := by kernel_rfl
def qc (q : Qn) : List Value := iv q.ints

theorem wpListIn_appB {F : Fence} {nn : Nat} {P : Program} {w : World} {ops : Array Oper} {rest : List Oper} {o : Oper} {a : Act} {Q : Exit → Act → World → Prop} (hgd : o.guard = none) (s x : Operand) (t : TypeId)
    (ho : o.op = .call { callee := .builtin .append, args := #[s, x], argTypes := #[t, t] })
    (e : TypeId) (z : Value) (k bytes : Nat) (ht : P.underlying t = some (.slice e)) (hinfo : (P.info? e).map (fun i => (i.zero, i.size, i.bytes)) = some (some z, k, bytes)) (hzs : z.cells.size = k) (hk : 0 < k) (hby : bytes ≤ 1000)
    (B : Nat) (v : Value) (n : Nat) (xs : List Value) (hs : a.eval s = v) (hown : w.ownsRow B e k v n xs)
    (b m c : Nat) (cs : Array Value) (t' : TypeId) (hx : a.eval x = .slice (some ⟨b, 0, none⟩) m c) (hblk : w.heap[b]? = some (.cells cs t' (0, 0))) (hl : cs.size = m * k) (h1 : cs.toList.all Value.oneCell' = true)
    (hbd : n + m ≤ 100000000) (hbase : B ≤ w.heap.size)
    (h : ∀ u w', w'.ownsRow B e k u (n + m) (xs ++ cs.toList) → w.grownBy w' v.ownBlock → wpListIn F nn P ops Q rest (a.put o.dst u) w') : wpListIn F nn P ops Q (o :: rest) a w := by
  obtain ⟨i0, hi, hz0, hz1, hz2⟩ := info_parts hinfo
  refine wpListIn_append_own w hgd s x t ho B e i0 z k bytes ht hi hz0 hz1 hz2 hzs hk v n xs hs hown ⟨b, 0, none⟩ m c cs.toList hx (by simpa using hl) (fun j u hu => ?_) (List.all_eq_true.1 h1) (by unfold maxLen; omega)
    (Nat.le_trans (Nat.mul_le_mul hbd hby) (by omega)) hbase ?_
  · have hadd : (⟨b, 0, none⟩ : Addr).add j = ⟨b, 0 + j, none⟩ := by unfold Addr.add; split <;> simp_all
    rw [hadd, Nat.zero_add, cell_of_row w b j cs t' _ hblk]
    simpa using hu
  · intro u w' h2 h3 _
    exact h u w' h2 h3

/-- A box that holds a question. -/
def BoxQ (W : World) (B : Nat) (x : Qn) : Prop := W.heap[B]? = some (.cells #[I x.node, I x.handler, I x.count, I x.kind, I x.index] 58 (0, 0))
theorem BoxQ.lt {W : World} {B : Nat} {x : Qn} (h : BoxQ W B x) : B < W.heap.size := (Array.getElem?_eq_some_iff.1 h).1
theorem boxQ_own (B : Nat) (x : Qn) : Own (fun (_ : Unit) W => BoxQ W B x) := fun _ X Y row hs hg hrow =>
  (hg.block B (BoxQ.lt hs) (fun e => by
    obtain ⟨o, ho, hc⟩ := hrow B e.symm
    rw [show X.heap[B]? = _ from hs] at ho
    cases ho
    cases hc)).trans hs

set_option maxHeartbeats 4000000 in
set_option maxRecDepth 100000 in
theorem appendSeqQ (mb b nn : Nat) (D : DataW Unit) (w : World) (hbox : w.cell? ⟨mb, 0, none⟩ = some (.map (some b))) (hown : w.ownsMap (H := Unit) Tryz.prog 58 (plainElem Tryz.prog 3) b nn D) (hsz : Maps.size D ≤ 1000000) :
    CallsIn Fence.wide 5 Tryz.prog 122 #[.slice none 0 0, .func (.func 92) #[] #[.pointer (some ⟨mb, 0, none⟩)]] w fun e w' => ∃ u xs, e = .returned u ∧ KeysD D xs ∧ w'.ownsRow w.heap.size 58 5 u xs.length (xs.flatMap qc) ∧ Below w.heap.size w w' := by
  have hseq := keysIter (5 - 1) (by omega) mb b nn D w hbox hown
  have Hseq := Lib.hid hseq
  clear hseq
  refine callsIn_of_wp_marks Tryz.func122 rfl trivial ?_ rfl
  simp only [Tryz.ntmps122, List.size_toArray, List.length_cons, List.length_nil, Nat.reduceAdd, Nat.reduceSub, Array.replicate_succ, Array.replicate_zero, List.push_toArray, List.append_toArray, List.nil_append, List.cons_append]
  gi_wp2
  have bS := Boxed.new w 102 (.slice none 0 0)
  have hB0 : Below w.heap.size w (w.alloc (.cells #[.slice none 0 0] 102)) := (Below.refl _ w).alloc (Nat.le_refl _) _
  refine wpIn_rangeFunc_ownH rfl (by omega) (gf := 92) (lb := #[.pointer (some ⟨mb, 0, none⟩)]) rfl trivial (enters_of Tryz.func92 (by kernel_rfl) rfl)
    Hseq.out walksK_t walksK_b hB0 (fun _ => rfl)
    (fun (pre : List Qn) W => (∃ u, Boxed W w.heap.size 102 u ∧ W.ownsRow w.heap.size 58 5 u pre.length (pre.flatMap qc) ∧ True) ∧ Below w.heap.size w W)
    (fun _ _ _ => False)
    (OwnFrom.and (Own.from (holdsRow_own _ _ _ _ _ (fun pre : List Qn => pre.length) (fun pre => pre.flatMap qc) (fun _ _ => True)) _) (ownFrom_below (Nat.le_refl _) (by simp)))
    (fun _ _ _ _ _ hs _ _ => hs)
    ⟨⟨_, bS, World.ownsRow_nil _ _ _ _, trivial⟩, hB0⟩
    (fun x a' W => ∃ Bx, w.heap.size < Bx ∧ BoxQ W Bx x ∧ a' = { tmps := #[.slice none 0 0, .func (.func 92) #[] #[.pointer (some ⟨mb, 0, none⟩)], .pointer (some ⟨w.heap.size, 0, none⟩), undef, .slice none 0 0, .pointer (some ⟨Bx, 0, none⟩), .func (.func 92) #[] #[.pointer (some ⟨mb, 0, none⟩)], .agg #[I x.node, I x.handler, I x.count, I x.kind, I x.index], undef, undef, undef, undef, undef], defers := [] })
    (fun x a' _ X Y row hs hg hr => by obtain ⟨Bx, h1, h2, h3⟩ := hs; exact ⟨Bx, h1, boxQ_own Bx x () X Y row h2 hg (fun r e => (hr r e).2), h3⟩)
    ?assign ?body ?done ?stop
  case assign =>
    rintro l pre x W K ⟨⟨u, b1, o1, _⟩, hB1⟩ hK
    simp only [Qn.val]
    gi_wp2
    exact hK _ _ ((KeepsOthers.alloc _ _).from _) (KeepsWalks.alloc _ _) ⟨⟨u, b1.alloc _, o1.alloc _, trivial⟩, hB1.alloc hB1.size _⟩ ⟨W.heap.size, b1.lt, World.alloc_heap_new W _, rfl⟩
  case body =>
    rintro l pre x a' W hl ⟨r, hr⟩ ⟨⟨u, b1, o1, _⟩, hB1⟩ ⟨Bx, hBx, bX, rfl⟩ hlt
    have c1 := b1.cell
    have hlen2 : pre.length ≤ 1000000 := by omega
    have cX := fun j => cell_of_row W Bx j _ _ _ bX
    have hsW := hB1.size
    clear hlt
    gi_wp2_with (gi_at_builtin; refine wpListIn_appB rfl _ _ 102 rfl 58 _ 5 40 Tryz.underlying102 info_Question rfl (by omega) (by omega) w.heap.size _ _ _ rfl (o1.alloc _) W.heap.size 1 1 _ 58 rfl (heap_alloc_new _ _) rfl rfl (by omega) (by simp; omega) ?_; intro u2 w1 hown1 hgrow; obtain ⟨g', cap', rfl⟩ := ownsRow_succ hown1; obtain ⟨hv1, hv2, hr2, hk2, hb2⟩ := b1.appended (by decide) o1 hsW (Nat.le_refl _) hown1 hgrow; have hc1 := hv1.cell; have hf1 := hv1.frozen)
    have hh : (w1.setCell ⟨w.heap.size, 0, none⟩ (.slice (some ⟨g', 0, none⟩) (pre.length + 1) cap')).ownsRow w.heap.size 58 5 (.slice (some ⟨g', 0, none⟩) (pre.length + 1) cap') (pre ++ [x]).length ((pre ++ [x]).flatMap qc) := by
      rw [List.length_append, List.flatMap_append]
      simpa [qc, Qn.ints, iv] using hr2
    exact ⟨hk2.from _, hk2.walks, ⟨_, hv2, by first | exact hh | exact ⟨hh, trivial⟩⟩, hB1.trans hb2⟩
  case done =>
    rintro D' ys W hD hks ⟨⟨u, b1, o1, _⟩, hB1⟩ hK
    have c1 := b1.cell
    gi_wp2
    refine ⟨by simp, .inl ⟨_, _, rfl, run_takeDeferred hK, ?_⟩⟩
    exact ⟨_, results_tmp rfl _ _ _, _, ys, rfl, hks, ownsRow_putObj o1 _ hK rfl, hB1.trans (belowK_b (w := w) (Nat.le_refl _) W D' _ _ (by simp at hD; omega) hK rfl rfl)⟩
  case stop =>
    rintro D' c pre W hD _ hf _
    exact hf.elim

end Go.Proofs.YtljmonfobefiiaaGreatDoor
