/- tape.Encode. -/
import Derived.Test.YtjdhcdbjfbhogaaW5
import Derived.Test.YtjdhcdbjfbhogaaG13
namespace Go.Proofs.Ytjdhcdbjfbhogaa
open Go.RowKit

theorem size56 : (Try.prog.info? 56).map (·.size) = some 8 := by kernel_rfl
section
variable {ops : Array Oper} {Q : Exit → Act → World → Prop} {rest : List Oper} {o : Oper} {a : Act} {w : World}
theorem wpList_load56 (hgd : o.guard = none) (x : Operand) (ho : o.op = .load 56 x) (b off : Nat) (cs : List Value) (hl : cs.length = 8) (hx : a.eval x = .pointer (some ⟨b, off, none⟩)) (hc : w.rangeAt b off cs)
    (h : wpList Try.prog ops Q rest (a.put o.dst (.agg cs.toArray)) w) : wpList Try.prog ops Q (o :: rest) a w :=
  wpList_load_mid hgd 56 x ho b off hx cs _ hc Try.underlying56 rfl (by rw [hl]; exact size56) h
end
theorem EvSl.at {w : World} {a : Option Addr} {n c : Nat} {l : List Ev} (h : EvSl w (.slice a n c) l) {i : Nat} {x : Ev} (hi : l[i]? = some x) :
    ∃ b o, a = some ⟨b, o, none⟩ ∧ w.rangeAt b (o + i * 8) [I x.kind, I x.node, I x.arg, I x.msg.node, I x.msg.handler, I x.msg.count, I x.msg.index, I x.msg.copy] := by
  obtain ⟨b, o, ha, hc⟩ := flat_at (f := fun a : Ev => iv a.ints) (fun _ => rfl) (by omega) h hi
  exact ⟨b, o, ha, fun j v hv => hc j v hv⟩

theorem encEvs_length : ∀ (l : List Ev), (∀ e ∈ l, e.ok) → (l.flatMap encEv).length ≤ l.length * 80
  | [], _ => by simp
  | e :: l, h => by
    have h1 : (encEv e).length ≤ 8 * 10 := encIs_length e.ints (h e (by simp))
    have h2 := encEvs_length l (fun x hx => h x (by simp [hx]))
    rw [List.flatMap_cons, List.length_append, List.length_cons]
    omega
theorem encAs_length : ∀ (l : List Ans), (∀ a ∈ l, a.ok) → (l.flatMap encAns).length ≤ l.length * 60
  | [], _ => by simp
  | e :: l, h => by
    have h1 : (encAns e).length ≤ 6 * 10 := encIs_length e.ints ((Ans.ok_iff e).1 (h e (by simp)))
    have h2 := encAs_length l (fun x hx => h x (by simp [hx]))
    rw [List.flatMap_cons, List.length_append, List.length_cons]
    omega
/-- ints, at a row of numbers that a literal has just laid. -/
theorem encInts (l : List Int) (p : Nat) (xs : List Int) (u : Value) (wr W : World) (hok : ∀ n ∈ l, InI64 n) (h : OutAt wr p p xs u) (hB : Below wr.heap.size wr W) (hp : p ≤ wr.heap.size) (hx : xs.length + l.length * 10 ≤ 10000000) :
    Calls Try.prog 44 #[.pointer (some ⟨p, 0, none⟩), .slice (some ⟨W.heap.size, 0, none⟩) l.length l.length] (W.alloc (.cells (iv l).toArray 3)) fun e w' => e = .returned (.tuple #[]) ∧ ∃ v', OutAt w' p p (xs ++ l.flatMap encI) v' ∧ Below p wr w' := by
  have hBa : Below wr.heap.size wr (W.alloc (.cells (iv l).toArray 3)) := hB.alloc hB.size _
  have ho := h.below hBa
  have hne : ∀ g, u.ownBlock = some g → p ≤ g ∧ g < wr.heap.size := fun g hg => h.own.lt g hg
  have hpl := h.blk.lt
  have hz := hB.size
  have hw : IntSl (W.alloc (.cells (iv l).toArray 3)) (.slice (some ⟨W.heap.size, 0, none⟩) l.length l.length) l := Flat.of_cells (by simp [iv]) (by omega) (fun j v hv => by
    rw [Nat.zero_add, (Blk.new W (iv l).toArray 3).cell]
    simpa using hv)
  refine (tapeInts l p p W.heap.size l.length xs u _ hok ho hw (by omega) (fun e => by have := hne _ e; omega) (by simp; omega) hx).mono ?_
  rintro e w' ⟨rfl, v', h1, h2⟩
  exact ⟨rfl, v', h1, (hBa.mono hp).trans (h2.below (Nat.le_refl _) (fun k hk => (hne k hk).1) (by simp; omega))⟩

set_option maxHeartbeats 4000000 in
set_option maxRecDepth 100000 in
theorem encodeF (evs : List Ev) (l : List Ans) (ve va : Value) (w : World) (he : EvSl w ve evs) (ha : AnsSl w va l) (hok : ∀ a ∈ l, a.ok) (hev : ∀ e ∈ evs, e.ok) (hle : evs.length ≤ 50000) (hl : l.length ≤ 50000) :
    Calls Try.prog 15 #[.agg #[ve, va]] w fun e w' => ∃ u, e = .returned u ∧ w'.ownsRow w.heap.size 5 1 u (encP evs (normA l)).length (bv (encP evs (normA l))) ∧ Below w.heap.size w w' := by
  have hb0 : Blk (w.alloc (.cells #[ve, va] 26)) w.heap.size #[ve, va] := Blk.new _ _ _
  have hB0 : Below w.heap.size w (w.alloc (.cells #[ve, va] 26)) := (by repeat (first | exact Below.refl _ _ | assumption | refine Below.drew ?_ | refine below_drewN ?_ _ | refine Below.alloc ?_ (by simp <;> omega) _ | refine Below.setCell ?_ (by simp <;> omega) _))
  have hz0 : (w.alloc (.cells #[ve, va] 26)).heap.size = w.heap.size + 1 := World.size_alloc _ _
  have HN := Lib.hid (normalF evs l ve va (w.alloc (.cells #[ve, va] 26)) (he.kept hB0 (Nat.le_refl _)) (ha.kept hB0 (Nat.le_refl _)) hok (by omega) (by omega))
  have hnl := normA_length l
  have Hok := Lib.hid (normA_ok hok)
  have Hev := Lib.hid hev
  clear he ha hok hev
  generalize normA l = r at HN hnl Hok ⊢
  go_enter Try.func15, Try.ntmps15
  go_upto_region 2 with (go_at_call 26; refine HN.out.mono ?_; rintro e w1 ⟨ue, ua, rfl, hue, hua, hB1⟩; obtain ⟨ke, ce, rfl, _⟩ := (Flat.of_owns hue).open; obtain ⟨ka, ca, rfl, _⟩ := (Flat.of_owns hua).open; have hb1 := hb0.kept hB1 (by rw [hz0]; omega); have c0 := hb1.cell 0; have c1 := hb1.cell 1; have f0 := hb1.frozen 0; have f1 := hb1.frozen 1)
  have hb2 : Blk ((w1.setCell ⟨w.heap.size, 0, none⟩ (.slice ke evs.length ce)).setCell ⟨w.heap.size, 1, none⟩ (.slice ka r.length ca)) w.heap.size #[.slice ke evs.length ce, .slice ka r.length ca] := (hb1.set 0 _).set 1 _
  have hgs : w1.grownBy ((w1.setCell ⟨w.heap.size, 0, none⟩ (.slice ke evs.length ce)).setCell ⟨w.heap.size, 1, none⟩ (.slice ka r.length ca)) (some w.heap.size) := (grown_set w1 ⟨w.heap.size, 0, none⟩ _).trans (grown_set _ ⟨w.heap.size, 1, none⟩ _)
  have hua2 := hua.kept hgs (by
    cases hv : (Value.slice ka r.length ca).ownBlock with
    | none => exact .inl rfl
    | some g => exact .inr (fun e => by have := (hua.lt g hv).1; simp at e; omega))
  have hue2 := hue.kept hgs (by
    cases hv : (Value.slice ke evs.length ce).ownBlock with
    | none => exact .inl rfl
    | some g => exact .inr (fun e => by have := (hue.lt g hv).1; simp at e; omega))
  have hB2 : Below w.heap.size w ((w1.setCell ⟨w.heap.size, 0, none⟩ (.slice ke evs.length ce)).setCell ⟨w.heap.size, 1, none⟩ (.slice ka r.length ca)) := (hB0.trans (hB1.mono (by omega))).grown hgs (by have := hB1.size; omega) (fun g hg => by cases hg; omega)
  generalize (w1.setCell ⟨w.heap.size, 0, none⟩ (.slice ke evs.length ce)).setCell ⟨w.heap.size, 1, none⟩ (.slice ka r.length ca) = w2 at hb2 hgs hua2 hue2 hB2 ⊢
  have Hb2 := Lib.hid hb2
  have Hua2 := Lib.hid (show AnsSl w2 (.slice ka r.length ca) r from Flat.of_owns hua2)
  have Hue2 := Lib.hid (show EvSl w2 (.slice ke evs.length ce) evs from Flat.of_owns hue2)
  have HB2 := Lib.hid hB2
  have hz2 := hB2.size
  have hlt2 := hb2.lt
  clear hb2 hgs hua2 hue2 hB2 hue hua hb1 c0 c1 f0 f1 HN hB1 hB0 hz0 hb0
  go_upto_region 3 with fail
  have hout3 : OutAt (w2.alloc (.cells #[.slice none 0 0] 43)) w2.heap.size w2.heap.size [] (.slice none 0 0) := ⟨Blk.new _ _ _, World.ownsRow_nil _ _ _ _, by simp [Value.ownBlock]⟩
  have hB23 : Below w2.heap.size w2 (w2.alloc (.cells #[.slice none 0 0] 43)) := (Below.refl _ _).alloc (Nat.le_refl _) _
  have hz3 : (w2.alloc (.cells #[.slice none 0 0] 43)).heap.size = w2.heap.size + 1 := World.size_alloc _ _
  generalize w2.alloc (.cells #[.slice none 0 0] 43) = w3 at hout3 hB23 hz3 ⊢
  have d0 := (Hb2.out.kept hB23 hlt2).cell 0
  have Hu := Lib.hid (outUint evs.length w2.heap.size w2.heap.size [] _ w3 (by omega) hout3 (by omega) (by simp))
  go_upto_region 4 with (go_at_call 23; refine Hu.out.mono ?_; rintro e w4 ⟨rfl, v4, hout4, hw4⟩)
  have Hout4 := Lib.hid hout4
  have Hw4 := Lib.hid hw4
  have hB24 : Below w2.heap.size w2 w4 := hB23.trans (hw4.below (Nat.le_refl _) (fun k hk => by simp [Value.ownBlock] at hk) (by omega))
  have HB24 := Lib.hid hB24
  have e0 := (Hb2.out.kept hB24 hlt2).cell 0
  have hz4 := hB24.size
  clear hout4 hw4 hB24 hout3 hB23 d0 Hu
  have hel : (encU evs.length).length ≤ 10 := encU_length _ 9 (by omega)
  go_wp2_with fail
  go_loopw [20] (fun i wr => ∃ (k : Nat) (u : Value), k ≤ evs.length ∧ i = .int .i64 k ∧ Hid (OutAt wr w2.heap.size w2.heap.size (encU evs.length ++ (evs.take k).flatMap encEv) u) ∧ Hid (Below w2.heap.size w2 wr)) (fun i _ => evs.length - (intOf i).toNat)
  case atStart => exact ⟨0, v4, by omega, rfl, Lib.hid (by simpa using Hout4.out), HB24⟩
  case round =>
    clear Hout4 Hw4 HB24 e0 hz4
    obtain ⟨k, u, hk, rfl, Ho, HB⟩ := hrel
    have hz := HB.out.size
    by_cases hlt : k < evs.length
    · obtain ⟨b, o, rfl, hr⟩ := (Hue2.out.kept HB.out (Nat.le_refl _)).at (i := k) (x := evs[k]) (by simp [hlt])
      have Hr := Lib.hid hr
      clear hr
      go_upto_region 7 with ((with_reducible refine wpList_load56 rfl _ rfl b (o + k * 8) [I evs[k].kind, I evs[k].node, I evs[k].arg, I evs[k].msg.node, I evs[k].msg.handler, I evs[k].msg.count, I evs[k].msg.index, I evs[k].msg.copy] rfl ?_ ?_ ?_); (rfl); (exact Hr.out))
      have hq : Blk (wr.alloc (.cells #[I evs[k].kind, I evs[k].node, I evs[k].arg, I evs[k].msg.node, I evs[k].msg.handler, I evs[k].msg.count, I evs[k].msg.index, I evs[k].msg.copy] 56)) wr.heap.size #[I evs[k].kind, I evs[k].node, I evs[k].arg, I evs[k].msg.node, I evs[k].msg.handler, I evs[k].msg.count, I evs[k].msg.index, I evs[k].msg.copy] := Blk.new _ _ _
      have hBq : Below wr.heap.size wr (wr.alloc (.cells #[I evs[k].kind, I evs[k].node, I evs[k].arg, I evs[k].msg.node, I evs[k].msg.handler, I evs[k].msg.count, I evs[k].msg.index, I evs[k].msg.copy] 56)) := (Below.refl _ _).alloc (Nat.le_refl _) _
      generalize wr.alloc (.cells #[I evs[k].kind, I evs[k].node, I evs[k].arg, I evs[k].msg.node, I evs[k].msg.handler, I evs[k].msg.count, I evs[k].msg.index, I evs[k].msg.copy] 56) = wq at hq hBq ⊢
      have q3 := hq.cell 3
      have q4 := hq.cell 4
      have q5 := hq.cell 5
      have Hq := Lib.hid hq
      have hltq := hq.lt
      clear hq
      go_upto_region 8 with fail
      have hc : Blk (wq.alloc (.cells #[I evs[k].msg.node, I evs[k].msg.handler, I evs[k].msg.count] 52)) wq.heap.size #[I evs[k].msg.node, I evs[k].msg.handler, I evs[k].msg.count] := Blk.new _ _ _
      have hBc : Below wq.heap.size wq (wq.alloc (.cells #[I evs[k].msg.node, I evs[k].msg.handler, I evs[k].msg.count] 52)) := (Below.refl _ _).alloc (Nat.le_refl _) _
      generalize wq.alloc (.cells #[I evs[k].msg.node, I evs[k].msg.handler, I evs[k].msg.count] 52) = wc at hc hBc ⊢
      have hqc := Hq.out.kept hBc hltq
      have q0 := hqc.cell 0
      have q1 := hqc.cell 1
      have q2 := hqc.cell 2
      have q6 := hqc.cell 6
      have q7 := hqc.cell 7
      have k0 := hc.cell 0
      have k1 := hc.cell 1
      have k2 := hc.cell 2
      have hBrc : Below wr.heap.size wr wc := hBq.trans (hBc.mono hBq.size)
      have hzc := hBrc.size
      have Hi := Lib.hid (encInts evs[k].ints w2.heap.size _ u wr wc (fun n hn => Hev.out _ (List.getElem_mem hlt) n hn) Ho.out hBrc (by omega) (by
        have h1 := encEvs_length (evs.take k) (fun e he => Hev.out e (List.mem_of_mem_take he))
        rw [List.length_take] at h1
        rw [List.length_append]
        simp only [Ev.ints, List.length_cons, List.length_nil]
        omega))
      clear hc hqc hBq hBc q3 q4 q5
      go_wp2_with (go_at_call 44; refine Hi.out.mono ?_; rintro e w5 ⟨rfl, u5, h5, hB5⟩)
      go_roundw
      case rel => exact ⟨k + 1, u5, by omega, by go_num, Lib.hid (by rw [List.take_succ_eq_append_getElem hlt, List.flatMap_append, ← List.append_assoc]; simpa [encEv] using h5), Lib.hid (HB.out.trans (hB5.mono (Nat.le_refl _)))⟩
      case measure => simp [intOf]; omega
    · obtain rfl : k = evs.length := by omega
      obtain ⟨wo, rfl⟩ : ∃ wo, wo = wr := ⟨_, rfl⟩
      have d1 := (Hb2.out.kept HB.out hlt2).cell 1
      have h1 := Ho.out
      rw [List.take_of_length_le (Nat.le_refl _)] at h1
      have hel2 := encEvs_length evs Hev.out
      have hne : ∀ g, u.ownBlock = some g → w2.heap.size ≤ g := fun g hg => (h1.own.lt g hg).1
      have Hu := Lib.hid (outUint r.length w2.heap.size w2.heap.size _ u wo (by omega) h1 (by omega) (by rw [List.length_append]; omega))
      have Hne := Lib.hid hne
      clear h1 Ho hne
      go_upto_region 11 with (go_at_call 23; refine Hu.out.mono ?_; rintro e w5 ⟨rfl, v5, hout5, hw5⟩)
      have Hout5 := Lib.hid hout5
      have hB25 : Below w2.heap.size w2 w5 := HB.out.trans (hw5.below (Nat.le_refl _) Hne.out (by omega))
      have HB25 := Lib.hid hB25
      have e1 := (Hb2.out.kept hB25 hlt2).cell 1
      have hz5 := hB25.size
      clear hout5 hw5 hB25 d1 Hu Hne
      have hrl : (encU r.length).length ≤ 10 := encU_length _ 9 (by omega)
      go_wp2_with fail
      go_loopw [56] (fun i wr => ∃ (k : Nat) (u : Value), k ≤ r.length ∧ i = .int .i64 k ∧ Hid (OutAt wr w2.heap.size w2.heap.size (encU evs.length ++ evs.flatMap encEv ++ encU r.length ++ (r.take k).flatMap encAns) u) ∧ Hid (Below w2.heap.size w2 wr)) (fun i _ => r.length - (intOf i).toNat)
      case atStart => exact ⟨0, v5, by omega, rfl, Lib.hid (by simpa using Hout5.out), HB25⟩
      case round =>
        clear Hout5 HB25 e1 hz5
        obtain ⟨k, u, hk, rfl, Ho, HB⟩ := hrel
        have hz := HB.out.size
        by_cases hlt : k < r.length
        · obtain ⟨b, o, rfl, hr⟩ := (Hua2.out.kept HB.out (Nat.le_refl _)).at (i := k) (x := r[k]) (by simp [hlt])
          have Hr := Lib.hid hr
          clear hr
          go_upto_region 14 with ((with_reducible refine wpList_load75 rfl _ rfl b (o + k * 6) [I r[k].q.node, I r[k].q.handler, I r[k].q.count, I r[k].q.kind, I r[k].q.index, I r[k].n] rfl ?_ ?_ ?_); (rfl); (exact Hr.out))
          have hq : Blk (wr.alloc (.cells #[I r[k].q.node, I r[k].q.handler, I r[k].q.count, I r[k].q.kind, I r[k].q.index, I r[k].n] 75)) wr.heap.size #[I r[k].q.node, I r[k].q.handler, I r[k].q.count, I r[k].q.kind, I r[k].q.index, I r[k].n] := Blk.new _ _ _
          have hBq : Below wr.heap.size wr (wr.alloc (.cells #[I r[k].q.node, I r[k].q.handler, I r[k].q.count, I r[k].q.kind, I r[k].q.index, I r[k].n] 75)) := (Below.refl _ _).alloc (Nat.le_refl _) _
          generalize wr.alloc (.cells #[I r[k].q.node, I r[k].q.handler, I r[k].q.count, I r[k].q.kind, I r[k].q.index, I r[k].n] 75) = wq at hq hBq ⊢
          have q0 := hq.cell 0
          have q1 := hq.cell 1
          have q2 := hq.cell 2
          have Hq := Lib.hid hq
          have hltq := hq.lt
          clear hq
          go_upto_region 15 with fail
          have hc : Blk (wq.alloc (.cells #[I r[k].q.node, I r[k].q.handler, I r[k].q.count] 52)) wq.heap.size #[I r[k].q.node, I r[k].q.handler, I r[k].q.count] := Blk.new _ _ _
          have hBc : Below wq.heap.size wq (wq.alloc (.cells #[I r[k].q.node, I r[k].q.handler, I r[k].q.count] 52)) := (Below.refl _ _).alloc (Nat.le_refl _) _
          generalize wq.alloc (.cells #[I r[k].q.node, I r[k].q.handler, I r[k].q.count] 52) = wc at hc hBc ⊢
          have hqc := Hq.out.kept hBc hltq
          have q3 := hqc.cell 3
          have q4 := hqc.cell 4
          have q5 := hqc.cell 5
          have k0 := hc.cell 0
          have k1 := hc.cell 1
          have k2 := hc.cell 2
          have hBrc : Below wr.heap.size wr wc := hBq.trans (hBc.mono hBq.size)
          have hzc := hBrc.size
          have Hi := Lib.hid (encInts r[k].ints w2.heap.size _ u wr wc ((Ans.ok_iff _).1 (Hok.out _ (List.getElem_mem hlt))) Ho.out hBrc (by omega) (by
            have h1 := encAs_length (r.take k) (fun e he => Hok.out e (List.mem_of_mem_take he))
            rw [List.length_take] at h1
            rw [List.length_append, List.length_append, List.length_append]
            simp only [Ans.ints, List.length_cons, List.length_nil]
            omega))
          clear hc hqc hBq hBc q0 q1 q2
          go_wp2_with (go_at_call 44; refine Hi.out.mono ?_; rintro e w5 ⟨rfl, u5, h5, hB5⟩)
          go_roundw
          case rel => exact ⟨k + 1, u5, by omega, by go_num, Lib.hid (by rw [List.take_succ_eq_append_getElem hlt, List.flatMap_append, ← List.append_assoc]; simpa [encAns] using h5), Lib.hid (HB.out.trans (hB5.mono (Nat.le_refl _)))⟩
          case measure => simp [intOf]; omega
        · obtain rfl : k = r.length := by omega
          have h1 := Ho.out
          rw [List.take_of_length_le (Nat.le_refl _)] at h1
          have har := encAs_length r Hok.out
          have He : encP evs r = encU evs.length ++ evs.flatMap encEv ++ encU r.length ++ r.flatMap encAns := by simp [encP]
          rw [← He] at h1
          have Hd := Lib.hid (outDone _ _ _ _ wr h1 (by
            rw [He, List.length_append, List.length_append, List.length_append]
            omega))
          clear h1 He Ho
          go_wp2_with (go_at_call 25; refine Hd.out.mono ?_; rintro e w6 ⟨u6, rfl, h6, hB6⟩)
          go_ret
          exact ⟨u6, rfl, owns_weaken h6 (by omega), HB2.out.trans ((HB.out.mono (by omega)).trans (hB6.mono (by omega)))⟩

end Go.Proofs.Ytjdhcdbjfbhogaa
