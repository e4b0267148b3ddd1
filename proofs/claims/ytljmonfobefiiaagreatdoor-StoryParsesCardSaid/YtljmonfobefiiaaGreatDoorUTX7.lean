import Derived.Test.YtljmonfobefiiaaGreatDoorUTX4
import Derived.Test.YtljmonfobefiiaaGreatDoorUTX3
import Derived.Test.YtljmonfobefiiaaGreatDoorUTQ3
import Derived.Test.YtljmonfobefiiaaGreatDoorUTF2
import Derived.Test.YtljmonfobefiiaaGreatDoorUBase
/- PLAIN LAW of TapeParts: parts left out one by one, from the greatest to the least. -/
namespace Go.Proofs.YtljmonfobefiiaaGreatDoor

/-- What is left when the parts of 'few' from k on are gone. -/
def goneP {α : Type} (few : List Int) (k s : Nat) (l : List α) : List α := dropP (fun j => decide ((j : Int) ∈ few) && decide (k ≤ j)) s l
/-- The numbers P - 1, .., k. -/
def downL (P k : Nat) : List Int := (List.range (P - k)).map fun x => ((P - 1 - x : Nat) : Int)
end Go.Proofs.YtljmonfobefiiaaGreatDoor

/- Without, its results opened. -/
namespace Go.Proofs.YtljmonfobefiiaaGreatDoor
open Go.RowKit

/-- The state of the loop that leaves parts out one by one: 'u' and 'all'. -/
structure PSt (few : List Int) (evs : List Ev) (r : List Ans) (gu : Nat) (wg wr : World) (kk : Nat) (v : Value) (k : Option Addr) (c : Nat) (k2 : Option Addr) (c2 : Nat) (E : List Ev) (A : List Ans) : Prop where
  own : wr.ownsRow (gu + 1) 3 1 v (downL (evs.length + r.length) kk).length (iv (downL (evs.length + r.length) kk))
  blk : Blk wr gu #[.slice k E.length c, .slice k2 A.length c2]
  sep : ∀ w', wr.grownBy w' v.ownBlock → TapeIn w' k c k2 c2 E A
  below : Below gu wg wr
  ev : E = goneP few kk 0 evs
  an : normA A = goneP few kk evs.length r
  ok : ∀ a ∈ A, a.ok
  len : A.length ≤ 100
  lenE : E.length ≤ 100
theorem PSt.same {few : List Int} {evs : List Ev} {r : List Ans} {gu : Nat} {wg wr : World} {kk : Nat} {v : Value} {k : Option Addr} {c : Nat} {k2 : Option Addr} {c2 : Nat} {E : List Ev} {A : List Ans} (h : PSt few evs r gu wg wr kk v k c k2 c2 E A) : TapeIn wr k c k2 c2 E A := h.sep wr (World.grownBy.refl _ _)
end Go.Proofs.YtljmonfobefiiaaGreatDoor

/- cut. -/
namespace Go.Proofs.YtljmonfobefiiaaGreatDoor
open Go.RowKit

end Go.Proofs.YtljmonfobefiiaaGreatDoor

/- Two tapes in a row; equal tapes compared. -/
namespace Go.Proofs.YtljmonfobefiiaaGreatDoor
open Go.RowKit

/-- One of two tapes in a row. -/
structure TapeEl (W : World) (ga i : Nat) (k : Option Addr) (c : Nat) (k2 : Option Addr) (c2 : Nat) (evs : List Ev) (l : List Ans) : Prop where
  cell : W.cell? ⟨ga, i * 2, none⟩ = some (.slice k evs.length c) ∧ W.cell? ⟨ga, i * 2 + 1, none⟩ = some (.slice k2 l.length c2)
  tape : TapeIn W k c k2 c2 evs l
  ok : (∀ e ∈ evs, e.ok) ∧ ∀ a ∈ l, a.ok
  len : evs.length ≤ 10 ∧ l.length ≤ 10
theorem TapeEl.kept {W W' : World} {ga i : Nat} {k : Option Addr} {c : Nat} {k2 : Option Addr} {c2 : Nat} {evs : List Ev} {l : List Ans} (h : TapeEl W ga i k c k2 c2 evs l) (hb : Below W.heap.size W W') : TapeEl W' ga i k c k2 c2 evs l := by
  have h0 := World.block_lt_of_cell? _ _ h.cell.1
  exact ⟨⟨by rw [hb.cell (by simpa using h0)]; exact h.cell.1, by rw [hb.cell (by simpa using h0)]; exact h.cell.2⟩, h.tape.kept hb, h.ok, h.len⟩

theorem sameB (e1 e2 : List Ev) (l1 l2 : List Ans) (k : Option Addr) (c : Nat) (k2 : Option Addr) (c2 : Nat) (k3 : Option Addr) (c3 : Nat) (k4 : Option Addr) (c4 : Nat) (w : World) (h1 : TapeIn w k c k2 c2 e1 l1) (h2 : TapeIn w k3 c3 k4 c4 e2 l2) (b : Bool) (hb : b = (decide (e1 = e2) && decide (l1 = l2))) :
    Calls Tryz.prog 11 #[tv k c k2 c2 e1 l1, tv k3 c3 k4 c4 e2 l2] w fun e w' => e = .returned (.bool b) ∧ Below w.heap.size w w' := by
  subst hb
  exact sameT e1 e2 l1 l2 k c k2 c2 k3 c3 k4 c4 w h1 h2
/-- One of two questions in a row. -/
structure QuEl (W : World) (gk i : Nat) (q : Qn) : Prop where
  c0 : W.cell? ⟨gk, i * 5, none⟩ = some (I q.node)
  c1 : W.cell? ⟨gk, i * 5 + 1, none⟩ = some (I q.handler)
  c2 : W.cell? ⟨gk, i * 5 + 2, none⟩ = some (I q.count)
  c3 : W.cell? ⟨gk, i * 5 + 3, none⟩ = some (I q.kind)
  c4 : W.cell? ⟨gk, i * 5 + 4, none⟩ = some (I q.index)
theorem QuEl.kept {W W' : World} {gk i : Nat} {q : Qn} (h : QuEl W gk i q) (hb : Below W.heap.size W W') : QuEl W' gk i q := by
  have h0 := World.block_lt_of_cell? _ _ h.c0
  have key : ∀ o, W'.cell? ⟨gk, o, none⟩ = W.cell? ⟨gk, o, none⟩ := fun o => hb.cell (by simpa using h0)
  exact ⟨(key _).trans h.c0, (key _).trans h.c1, (key _).trans h.c2, (key _).trans h.c3, (key _).trans h.c4⟩

end Go.Proofs.YtljmonfobefiiaaGreatDoor

/- The law StoryForms, walked; what lives gives is a premise here. -/
namespace Go.Proofs.YtljmonfobefiiaaGreatDoor
open Go.RowKit

/-- What is asked of lives. -/
def LivesOk (X : World) : Prop := Calls Tryz.prog 12 #[] X fun e w' => e = .returned (.bool true) ∧ Below X.heap.size X w'
def strOk (W : World) (g n m : Nat) : Prop := ∀ j, j < n → ∃ t : Str, t.length ≤ m ∧ W.cell? ⟨g, j, none⟩ = some (.string ⟨t.toArray⟩)
theorem strOk.kept {W X : World} {g n m : Nat} (h : strOk W g n m) (_hn : 0 < n) (hb : Below W.heap.size W X) : strOk X g n m := fun j hj => by
  obtain ⟨t, h1, h2⟩ := h j hj
  have hlt := World.block_lt_of_cell? _ _ h2
  exact ⟨t, h1, (hb.cell (p := ⟨g, j, none⟩) (by simpa using hlt)).trans h2⟩

set_option maxHeartbeats 8000000 in
set_option maxRecDepth 100000 in
theorem formsC (l : List Int) (v : Value) (w : World) (hv : IntSl w v l) (hr : ∀ x ∈ l, InI64 x) (hg : Gl w) (hlv : ∀ X, Gl X → LivesOk X) :
    Calls Tryz.prog 4 #[v] w fun e w' => e = .returned (.bool true) ∧ Below w.heap.size w w' := by
  obtain ⟨ka, c, rfl, hm⟩ := hv.open
  have Hv := Lib.hid hv
  have Hr := Lib.hid hr
  have Hg := Lib.hid hg
  have Hlv := Lib.hid hlv
  clear hv hr hg hlv
  go_enter Tryz.func4, Tryz.ntmps4
  go_upto_region 2 with fail
  generalize hP : w.alloc _ = P
  have hPb : Below w.heap.size w P := by rw [← hP]; exact (Below.refl _ _).alloc (Nat.le_refl _) _
  have hPr : strOk P w.heap.size 17 24 := by
    intro j hj
    rw [← hP]
    rcases (show j = 0 ∨ j = 1 ∨ j = 2 ∨ j = 3 ∨ j = 4 ∨ j = 5 ∨ j = 6 ∨ j = 7 ∨ j = 8 ∨ j = 9 ∨ j = 10 ∨ j = 11 ∨ j = 12 ∨ j = 13 ∨ j = 14 ∨ j = 15 ∨ j = 16 by omega) with rfl | rfl | rfl | rfl | rfl | rfl | rfl | rfl | rfl | rfl | rfl | rfl | rfl | rfl | rfl | rfl | rfl
    all_goals exact ⟨_, by decide, (Blk.new w _ _).cell _⟩
  clear hP
  have HPr := Lib.hid hPr
  have HPb := Lib.hid hPb
  clear hPr hPb
  go_upto_block 0 with fail
  go_cut [4] from 5 (fun v4 wc => ∃ s : Str, v4 = .string ⟨s.toArray⟩ ∧ s.length ≤ 144 ∧ P = wc)
  case first =>
    go_wp2_with fail
    go_loop [4, 5] (fun v4 v5 => ∃ (k : Nat) (s : Str), v4 = .string ⟨s.toArray⟩ ∧ v5 = .int .i64 k ∧ k ≤ l.length ∧ k ≤ 6 ∧ s.length ≤ 24 * k) (fun _ v5 => 6 - (intOf v5).toNat)
    case atStart => exact ⟨0, [], rfl, rfl, by omega, by omega, by simp⟩
    case round =>
      obtain ⟨k, s, rfl, rfl, hk, hk6, hs⟩ := hrel
      by_cases hlt : k < l.length
      · by_cases h6 : k < 6
        · obtain ⟨b, o, rfl, x0⟩ := IntSl.at (Hv.out.kept HPb.out (Nat.le_refl _)) (i := k) (x := l[k]) (by simp [hlt])
          have hx := Hr.out l[k] (List.getElem_mem hlt)
          have Har := Lib.hid (around_any l[k] 17 P (by omega) hx.1 hx.2)
          obtain ⟨h0, h1⟩ := around_range l[k] 17 (by omega)
          obtain ⟨j, hj⟩ : ∃ j : Nat, around l[k] 17 = j := ⟨(around l[k] 17).toNat, by omega⟩
          rw [hj] at Har h0 h1
          have hj17 : j < 17 := by omega
          obtain ⟨t, ht, hct⟩ := HPr.out j hj17
          clear hj hx
          generalize l[k] = x at x0 Har
          have hl1 : ¬ 9223372036854775807 < s.length + t.length := by omega
          have hl2 : s.length + t.length ≤ 24 * (k + 1) := by omega
          go_wp2_with (go_at_call 13; refine Har.out.mono ?_; rintro e w1 ⟨rfl, rfl⟩)
          go_round
          case rel => exact ⟨k + 1, s ++ t, congrArg Value.string (ba_app s t), by go_num, by omega, by omega, by simpa using hl2⟩
          case measure => simp [intOf]; omega
        · obtain rfl : k = 6 := by omega
          go_wp2_with fail
          go_meet
          exact ⟨s, rfl, by omega, rfl⟩
      · have hs' : s.length ≤ 144 := by omega
        go_wp2_with fail
        go_meet
        exact ⟨s, rfl, hs', rfl⟩
  case rest =>
    obtain ⟨s, rfl, hs, rfl⟩ := hcut
    have h1 : ¬ 9223372036854775807 < s.length + 1 := by omega
    have h2 : ¬ 9223372036854775807 < 13 + s.length := by omega
    have h3 : ¬ 9223372036854775807 < 13 + s.length + 1 := by omega
    have h4 : ¬ 9223372036854775807 < 25 + s.length := by omega
    have h5 : ¬ 9223372036854775807 < 25 + s.length + 1 := by omega
    go_upto_region 8 with fail
    rw [ba_app s [10], ba_app _ s, ba_app _ [10], ba_app _ s, ba_app _ [10]]
    generalize hQ : P.alloc _ = Q
    have hQs : strOk Q P.heap.size 4 300 := by
      intro j hj
      rw [← hQ]
      rcases (show j = 0 ∨ j = 1 ∨ j = 2 ∨ j = 3 by omega) with rfl | rfl | rfl | rfl
      all_goals exact ⟨_, by first | omega | (simp; omega), (Blk.new P _ _).cell _⟩
    have HQg := Lib.hid (show Gl Q by rw [← hQ]; exact (Hg.out.below HPb.out).alloc _)
    have HQs := Lib.hid hQs
    have HQb := Lib.hid (show Below w.heap.size w Q by rw [← hQ]; exact HPb.out.alloc HPb.out.size _)
    clear hQ hQs h1 h2 h3 h4 h5 HPr HPb Hv Hr Hg hs
    generalize P.heap.size = A at HQs ⊢
    generalize ([48, 58, 32, 115, 116, 97, 114, 116, 32, 48, 32, 48, 10] ++ s : Str) = q2
    generalize ([48, 58, 32, 115, 116, 97, 114, 116, 32, 48, 32, 48, 10, 49, 58, 32, 99, 114, 97, 115, 104, 32, 49, 49, 10] ++ s : Str) = q3
    generalize (q2 ++ [10] : Str) = q4
    generalize (q3 ++ [10] : Str) = q5
    generalize (s ++ [10] : Str) = q1
    go_wp2_with fail
    go_loopw [7] (fun v7 wr => ∃ k : Nat, v7 = .int .i64 k ∧ k ≤ 4 ∧ Hid (strOk wr A 4 300) ∧ Hid (Gl wr) ∧ Hid (Below w.heap.size w wr)) (fun v7 _ => 4 - (intOf v7).toNat)
    case atStart => exact ⟨0, rfl, by omega, HQs, HQg, HQb⟩
    case round =>
      obtain ⟨k, rfl, hk, Hs, HG, HW⟩ := hrel
      by_cases hlt : k < 4
      · obtain ⟨t, ht, hct⟩ := Hs.out k hlt
        have Hp1 := Lib.hid (parseC t wr HG.out (by omega))
        have Hp2 := Lib.hid (fun X => refParseC t X (by omega))
        have heq := refParse_story t
        rw [heq] at Hp2
        clear heq
        have Hcell := Lib.hid (show ∀ X, Below wr.heap.size wr X → X.cell? ⟨A, k, none⟩ = some (.string ⟨t.toArray⟩) from fun X hX => (hX.cell (p := ⟨A, k, none⟩) (by simpa using World.block_lt_of_cell? _ _ hct)).trans hct)
        generalize story t = r at Hp1 Hp2
        unfold ParseP at Hp1 Hp2
        unfold sv at Hp1 Hp2
        go_upto_region 12 with (go_at_call 9; refine Hp1.out.mono ?_; rintro e w1 ⟨⟨k1, c1, k2, c2, rfl, hT1⟩, D1⟩)
        have hB1 := Blk.new w1 #[.slice k1 r.evs.length c1, .slice k2 r.ans.length c2] 32
        have hD1 : Below wr.heap.size wr (w1.alloc (.cells #[.slice k1 r.evs.length c1, .slice k2 r.ans.length c2] 32)) := D1.alloc D1.size _
        have hT1' := hT1.kept ((Below.refl w1.heap.size w1).alloc (Nat.le_refl _) (.cells #[.slice k1 r.evs.length c1, .slice k2 r.ans.length c2] 32))
        generalize w1.alloc (.cells #[.slice k1 r.evs.length c1, .slice k2 r.ans.length c2] 32) = V1 at hB1 hD1 hT1' ⊢
        clear hT1 D1
        generalize w1.heap.size = T1 at hB1 ⊢
        have hct2 := Hcell.out V1 hD1
        have HB1 := Lib.hid hB1
        have HD1 := Lib.hid hD1
        have HT1 := Lib.hid hT1'
        clear hB1 hD1 hT1' hct
        go_upto_region 13 with (go_at_call 10; refine (Hp2.out V1).mono ?_; rintro e w2 ⟨⟨k3, c3, k4, c4, rfl, hT2⟩, D2⟩)
        have hB2 := Blk.new w2 #[.slice k3 r.evs.length c3, .slice k4 r.ans.length c4] 32
        have hD2 : Below V1.heap.size V1 (w2.alloc (.cells #[.slice k3 r.evs.length c3, .slice k4 r.ans.length c4] 32)) := D2.alloc D2.size _
        have hT2' := hT2.kept ((Below.refl w2.heap.size w2).alloc (Nat.le_refl _) (.cells #[.slice k3 r.evs.length c3, .slice k4 r.ans.length c4] 32))
        generalize w2.alloc (.cells #[.slice k3 r.evs.length c3, .slice k4 r.ans.length c4] 32) = V2 at hB2 hD2 hT2' ⊢
        clear hT2 D2 hct2
        generalize w2.heap.size = T2 at hB2 ⊢
        have hB12 := HB1.out.kept hD2 HB1.out.lt
        have hT12 := HT1.out.kept hD2
        have x0 := hB12.cell 0; have x1 := hB12.cell 1
        have y0 := hB2.cell 0; have y1 := hB2.cell 1
        have Hsame := Lib.hid (sameB r.evs r.evs r.ans r.ans k1 c1 k2 c2 k3 c3 k4 c4 V2 hT12 hT2' true (by simp))
        have hDD : Below wr.heap.size wr V2 := HD1.out.trans (hD2.mono HD1.out.size)
        have HDD := Lib.hid hDD
        have hbb : (r.code != r.code) = false := by simp
        generalize r.code = cd at hbb ⊢
        clear hB12 hT12 hB2 hT2' HB1 HT1 HD1 hD2 hDD Hp1 Hp2 Hcell
        go_wp2_with (go_at_call 11; refine Hsame.out.mono ?_; rintro e w3 ⟨rfl, D3⟩)
        have hD3 : Below wr.heap.size wr w3 := HDD.out.trans (D3.mono HDD.out.size)
        go_roundw
        case rel => exact ⟨k + 1, by go_num, by omega, Lib.hid (Hs.out.kept (by omega) hD3), Lib.hid (HG.out.below hD3), Lib.hid (HW.out.trans (hD3.mono HW.out.size))⟩
        case measure => simp [intOf]; omega
      · obtain rfl : k = 4 := by omega
        have Hl := Lib.hid (Hlv.out wr HG.out)
        unfold LivesOk at Hl
        go_wp2_with (go_at_call 12; refine Hl.out.mono ?_; rintro e w1 ⟨rfl, D1⟩)
        go_ret
        exact ⟨rfl, HW.out.trans (D1.mono HW.out.size)⟩

end Go.Proofs.YtljmonfobefiiaaGreatDoor

/- names.dotted, story.join: numbers joined. -/
namespace Go.Proofs.YtljmonfobefiiaaGreatDoor
open Go.RowKit

theorem info_string : (Tryz.prog.info? 9).map (fun i => (i.zero, i.size, i.bytes)) = some (some (.string ⟨#[]⟩), 1, 16) := by kernel_rfl
theorem join_joinC (c : UInt8) : ∀ l : List Str, Lib.join l [c] = joinC c l
  | [] => rfl
  | [a] => by simp [Lib.join, joinC, List.intercalate]
  | a :: b :: l => by
    have ih := join_joinC c (b :: l)
    rw [joinC_cons c a (by simp), ← ih]
    simp [Lib.join, List.intercalate]
/-- The decimal texts of some numbers, as values. -/
def decV (l : List Int) : List Value := l.map fun n => sv (Lib.itoa n)
theorem itoa_len (n : Int) (h : InI64 n) : (Lib.itoa n).length ≤ 20 := by
  obtain ⟨h1, h2⟩ := h
  by_cases h0 : 0 ≤ n
  · obtain ⟨m, rfl⟩ : ∃ m : Nat, n = m := ⟨n.toNat, by omega⟩
    rw [Lib.itoa_nonneg]
    have := decl_pow 18 m (by omega)
    omega
  · unfold Lib.itoa
    rw [if_pos (by omega)]
    have := decl_pow 18 n.natAbs (by omega)
    simp
    omega
theorem joinC_len (c : UInt8) (m : Nat) : ∀ l : List Str, (∀ a ∈ l, a.length ≤ m) → (joinC c l).length ≤ (m + 1) * l.length
  | [], _ => by simp [joinC]
  | [a], h => by
    have := h a (by simp)
    simp [joinC]; omega
  | a :: b :: l, h => by
    have h1 := h a (by simp)
    have h2 := joinC_len c m (b :: l) (fun x hx => h x (List.mem_cons_of_mem _ hx))
    rw [joinC_cons c a (by simp)]
    simp only [List.length_append, List.length_cons] at h2 ⊢
    have e : (m + 1) * (l.length + 1 + 1) = (m + 1) * (l.length + 1) + (m + 1) := Nat.mul_succ _ _
    rw [e]
    omega

theorem joinEnd (c : UInt8) (l : List Int) (h31 : ∀ n ∈ l, InI64 n) (hl : l.length ≤ 100000) (W : World) {B : Nat} {v : Value} (h : W.ownsRow B 9 1 v l.length (decV l)) :
    Calls Tryz.prog 107 #[v, .string ⟨#[c]⟩] W fun e w' => e = .returned (sv (joinC c (l.map Lib.itoa))) ∧ Below W.heap.size W w' := by
  obtain ⟨hlen, h0 | ⟨g, cap, cur, rfl, hb, hg, hn, hc, h1, h2⟩⟩ := id h
  · obtain ⟨rfl, hz⟩ := h0
    have hl0 : l = [] := List.length_eq_zero_iff.1 hz
    subst hl0
    refine (Tryz.strings_Join_none none 0 ⟨#[c]⟩ W).mono ?_
    rintro e w' ⟨rfl, rfl⟩
    exact ⟨rfl, Below.refl _ _⟩
  · have hlt := (h.lt g rfl).2
    have hcells := fun j u hu => h.cells (g := g) rfl j u hu
    have hx : (l.map fun n => (⟨(Lib.itoa n).toArray⟩ : ByteArray)).length = l.length := List.length_map _
    have hm : ((l.map fun n => (⟨(Lib.itoa n).toArray⟩ : ByteArray)).map (·.data.toList)) = l.map Lib.itoa := by simp [List.map_map, Function.comp_def]
    have hj := join_joinC c (l.map Lib.itoa)
    have hJ := Tryz.strings_Join g 0 cap (l.map fun n => (⟨(Lib.itoa n).toArray⟩ : ByteArray)) ⟨#[c]⟩ W (fun j x hxj => by
      have := hcells j (.string x) (by
        rw [List.getElem?_map] at hxj
        simp only [decV, List.getElem?_map]
        cases hq : l[j]? with
        | none => rw [hq] at hxj; cases hxj
        | some q =>
          rw [hq] at hxj
          simp only [Option.map_some, Option.some.injEq] at hxj ⊢
          rw [← hxj]
          rfl)
      have hadd : (⟨g, 0, none⟩ : Addr).add j = ⟨g, 0 + j, none⟩ := by unfold Addr.add; split <;> simp_all
      rw [hadd] at this
      exact this) hlt (by rw [hx]; omega) (by rw [hx]; exact hn) (by
      rw [hm]
      show (Lib.join (l.map Lib.itoa) [c]).length ≤ _
      rw [hj]
      have := joinC_len c 20 (l.map Lib.itoa) (fun a ha => by
        obtain ⟨n, hn, rfl⟩ := List.mem_map.1 ha
        exact itoa_len n (h31 n hn))
      rw [List.length_map] at this
      omega)
    rw [hx, hm] at hJ
    have e1 : Lib.join (l.map Lib.itoa) [c] = joinC c (l.map Lib.itoa) := hj
    have e2 : (⟨#[c]⟩ : ByteArray).data.toList = [c] := rfl
    rw [e2, e1] at hJ
    exact hJ

end Go.Proofs.YtljmonfobefiiaaGreatDoor

/- names.dotted, story.join: the walks. (Printed by mkS32.py.) -/
namespace Go.Proofs.YtljmonfobefiiaaGreatDoor
open Go.RowKit

set_option maxHeartbeats 4000000 in
set_option maxRecDepth 100000 in
theorem dottedC (l : List Int) (h31 : ∀ n ∈ l, InI64 n) (hl : l.length ≤ 100000) (v : Value) (w : World) (hg : Gl w) (hv : IntSl w v l) :
    Calls Tryz.prog 105 #[v] w fun e w' => e = .returned (sv (joinC 46 (l.map Lib.itoa))) ∧ Below w.heap.size w w' := by
  obtain ⟨ka, ca, rfl, hm⟩ := hv.open
  have Hv := Lib.hid hv
  have Hg := Lib.hid hg
  have H31 := Lib.hid h31
  clear hv hg h31
  unfold sv
  go_enter Tryz.func105, Tryz.ntmps105
  go_wp2_with fail
  go_loopw [3, 8] (fun vo vi wr => ∃ (k : Nat) (av : Option Addr) (ac' : Nat), vo = .slice av k ac' ∧ vi = .int .i64 k ∧ k ≤ l.length ∧ Hid (Below w.heap.size w wr) ∧ Hid (wr.ownsRow w.heap.size 9 1 (.slice av k ac') k (decV (l.take k)))) (fun _ vi _ => l.length - (intOf vi).toNat)
  case atStart => exact ⟨0, none, 0, rfl, rfl, by omega, Lib.hid (Below.refl _ _), Lib.hid (World.ownsRow_nil _ _ _ _)⟩
  case round =>
    obtain ⟨k, av, ac', rfl, rfl, hk, Hb, Hrow⟩ := hrel
    by_cases hlt : k < l.length
    · obtain ⟨b, o, rfl, x0⟩ := IntSl.at (Hv.out.kept Hb.out (Nat.le_refl _)) (i := k) (x := l[k]) (by simp [hlt])
      have hn := H31.out l[k] (List.getElem_mem hlt)
      have Hit := Lib.hid (itoaC l[k] hn wr (Hg.out.below (Hb.out.mono (Nat.le_refl _))))
      have htk : decV (l.take (k + 1)) = decV (l.take k) ++ [sv (Lib.itoa l[k])] := by
        unfold decV
        rw [List.take_succ_eq_append_getElem hlt, List.map_append]
        rfl
      have Htk := Lib.hid htk
      clear htk
      generalize l[k] = n at x0 hn Hit Htk
      generalize Lib.itoa n = t at Hit Htk
      unfold sv at Hit Htk
      have hwz := Hb.out.size
      go_wp2_with (first
        | (go_at_call 46; refine Hit.out.mono ?_; rintro e w1 ⟨rfl, D1⟩; have hz1 := D1.size)
        | (at_builtin; go_must (refine wpList_appB rfl _ _ 28 rfl 9 _ 1 16 Tryz.underlying28 info_string rfl (by omega) (by omega) w.heap.size (.slice av k ac') k (decV (l.take k)) rfl ((owns_below Hrow.out D1).alloc _) w1.heap.size 1 1 #[.string ⟨t.toArray⟩] 9 rfl (heap_alloc_new _ _) rfl rfl (by omega) (by omega) (by rw [World.size_alloc]; omega) ?_); intro g5 cap5 w5 hg1 hg2 hg3 ho5 hgr5 hB5))
      go_roundw
      case rel => exact ⟨k + 1, _, cap5, rfl, by go_num, by omega, Lib.hid (((Hb.out.trans (D1.mono hwz)).alloc (by omega) _).trans hB5), Lib.hid (by rw [Htk.out]; exact ho5)⟩
      case measure => simp [intOf]; omega
    · obtain rfl : k = l.length := by omega
      have hro := Hrow.out
      rw [List.take_length] at hro
      have Hj := Lib.hid (joinEnd 46 l H31.out hl wr hro)
      unfold sv at Hj
      have hwz := Hb.out.size
      go_wp2_with (go_at_call 107; refine Hj.out.mono ?_; rintro e w1 ⟨rfl, D1⟩)
      go_ret
      exact ⟨rfl, Hb.out.trans (D1.mono hwz)⟩

set_option maxHeartbeats 4000000 in
set_option maxRecDepth 100000 in
theorem joinIC (l : List Int) (h31 : ∀ n ∈ l, InI64 n) (hl : l.length ≤ 100000) (c : UInt8) (v : Value) (w : World) (hg : Gl w) (hv : IntSl w v l) :
    Calls Tryz.prog 69 #[sv [c], v] w fun e w' => e = .returned (sv (joinC c (l.map Lib.itoa))) ∧ Below w.heap.size w w' := by
  obtain ⟨ka, ca, rfl, hm⟩ := hv.open
  have Hv := Lib.hid hv
  have Hg := Lib.hid hg
  have H31 := Lib.hid h31
  clear hv hg h31
  unfold sv
  go_enter Tryz.func69, Tryz.ntmps69
  go_wp2_with fail
  go_loopw [5, 10] (fun vo vi wr => ∃ (k : Nat) (av : Option Addr) (ac' : Nat), vo = .slice av k ac' ∧ vi = .int .i64 k ∧ k ≤ l.length ∧ Hid (Below w.heap.size w wr) ∧ Hid (wr.ownsRow w.heap.size 9 1 (.slice av k ac') k (decV (l.take k)))) (fun _ vi _ => l.length - (intOf vi).toNat)
  case atStart => exact ⟨0, none, 0, rfl, rfl, by omega, Lib.hid (Below.refl _ _), Lib.hid (World.ownsRow_nil _ _ _ _)⟩
  case round =>
    obtain ⟨k, av, ac', rfl, rfl, hk, Hb, Hrow⟩ := hrel
    by_cases hlt : k < l.length
    · obtain ⟨b, o, rfl, x0⟩ := IntSl.at (Hv.out.kept Hb.out (Nat.le_refl _)) (i := k) (x := l[k]) (by simp [hlt])
      have hn := H31.out l[k] (List.getElem_mem hlt)
      have Hit := Lib.hid (itoaC l[k] hn wr (Hg.out.below (Hb.out.mono (Nat.le_refl _))))
      have htk : decV (l.take (k + 1)) = decV (l.take k) ++ [sv (Lib.itoa l[k])] := by
        unfold decV
        rw [List.take_succ_eq_append_getElem hlt, List.map_append]
        rfl
      have Htk := Lib.hid htk
      clear htk
      generalize l[k] = n at x0 hn Hit Htk
      generalize Lib.itoa n = t at Hit Htk
      unfold sv at Hit Htk
      have hwz := Hb.out.size
      go_wp2_with (first
        | (go_at_call 46; refine Hit.out.mono ?_; rintro e w1 ⟨rfl, D1⟩; have hz1 := D1.size)
        | (at_builtin; go_must (refine wpList_appB rfl _ _ 28 rfl 9 _ 1 16 Tryz.underlying28 info_string rfl (by omega) (by omega) w.heap.size (.slice av k ac') k (decV (l.take k)) rfl ((owns_below Hrow.out D1).alloc _) w1.heap.size 1 1 #[.string ⟨t.toArray⟩] 9 rfl (heap_alloc_new _ _) rfl rfl (by omega) (by omega) (by rw [World.size_alloc]; omega) ?_); intro g5 cap5 w5 hg1 hg2 hg3 ho5 hgr5 hB5))
      go_roundw
      case rel => exact ⟨k + 1, _, cap5, rfl, by go_num, by omega, Lib.hid (((Hb.out.trans (D1.mono hwz)).alloc (by omega) _).trans hB5), Lib.hid (by rw [Htk.out]; exact ho5)⟩
      case measure => simp [intOf]; omega
    · obtain rfl : k = l.length := by omega
      have hro := Hrow.out
      rw [List.take_length] at hro
      have Hj := Lib.hid (joinEnd c l H31.out hl wr hro)
      unfold sv at Hj
      have hwz := Hb.out.size
      go_wp2_with (go_at_call 107; refine Hj.out.mono ?_; rintro e w1 ⟨rfl, D1⟩)
      go_ret
      exact ⟨rfl, Hb.out.trans (D1.mono hwz)⟩

end Go.Proofs.YtljmonfobefiiaaGreatDoor

/- names.Event: what it computes. -/
namespace Go.Proofs.YtljmonfobefiiaaGreatDoor
open Go.RowKit

/-- The text that names.Event writes before it reads it back. -/
def evWrite (e : Ev) : Str :=
  let h := evWords.getD e.kind.toNat [] ++ [32] ++ Lib.itoa e.node
  if e.kind = 3 ∨ e.kind = 5 ∨ e.kind = 6 then h ++ ([32] ++ joinC 46 (e.msg.ints.map Lib.itoa))
  else if e.kind = 7 then h
  else h ++ ([32] ++ Lib.itoa e.arg)
theorem dotsS_itoa : ∀ (l : List Int), (∀ x ∈ l, 0 ≤ x) → dotsS l = joinC 46 (l.map Lib.itoa)
  | [], _ => rfl
  | [n], h => by
    have := h n (by simp)
    obtain ⟨m, rfl⟩ : ∃ m : Nat, n = m := ⟨n.toNat, by omega⟩
    simp [dotsS, joinC, Lib.itoa_nonneg]
  | n :: m :: l, h => by
    have h0 := h n (by simp)
    obtain ⟨k, rfl⟩ : ∃ m : Nat, n = m := ⟨n.toNat, by omega⟩
    have ih := dotsS_itoa (m :: l) (fun x hx => h x (List.mem_cons_of_mem _ hx))
    simp only [dotsS]
    rw [ih]
    simp [joinC, Lib.itoa_nonneg]
theorem itoa_dec {n : Int} (h : 0 ≤ n) : Lib.itoa n = Lib.decDigits n.toNat := by
  obtain ⟨k, rfl⟩ : ∃ m : Nat, n = m := ⟨n.toNat, by omega⟩
  rw [Lib.itoa_nonneg, Int.toNat_natCast]
theorem evWrite_ok {e : Ev} (h : EvOk e) : evWrite e = textEv e := by
  unfold textEv
  rw [if_pos ((wellEv_iff e).2 h)]
  unfold evWrite rawEv
  obtain ⟨h0, h1, h⟩ := h
  simp only []
  rw [itoa_dec h0]
  rcases h with ⟨hk, hr, _⟩ | ⟨hk, _, ⟨ha, hb, hc⟩, hd, hx⟩ | ⟨hk, _, _⟩
  · rw [if_neg (by omega), if_neg (by omega), if_pos hk, itoa_dec hr.1]
    simp
  · rw [if_pos hk, if_neg (by omega), if_neg (by omega), dotsS_itoa _ (by intro x hx; simp [Msg.ints] at hx; omega)]
    simp
  · rw [if_neg (by omega), if_pos hk, if_neg (by omega), if_pos hk]
theorem evWrite_back (e : Ev) : (if parseEv (evWrite e) = some e then evWrite e else []) = textEv e := by
  by_cases h : EvOk e
  · obtain ⟨s, hs⟩ := EvForm.of_ok h
    have h1 := evWrite_ok h
    have h2 := hs.parse
    rw [← hs.text, ← h1] at h2
    rw [if_pos h2, h1]
  · have h1 : textEv e = [] := by
      unfold textEv
      rw [if_neg (fun hw => h ((wellEv_iff e).1 hw))]
    rw [h1]
    split
    · rename_i hp
      have hf := parseEv_form hp
      have ht := hf.text
      rw [h1] at ht
      exact ht.symm
    · rfl

end Go.Proofs.YtljmonfobefiiaaGreatDoor

/- names.Event: the walk. -/
namespace Go.Proofs.YtljmonfobefiiaaGreatDoor
open Go.RowKit

set_option maxHeartbeats 8000000 in
set_option maxRecDepth 100000 in
theorem namesEventC (e : Ev) (hok : ∀ x ∈ e.ints, InI64 x) (w : World) (hg : Gl w) : Calls Tryz.prog 67 #[.agg (eva e)] w fun r w' => r = .returned (sv (textEv e)) ∧ Below w.heap.size w w' := by
  have Hg := Lib.hid hg
  have Hok := Lib.hid hok
  clear hg hok
  have HT := Lib.hid (evWrite_back e)
  obtain ⟨T, hT⟩ : ∃ T, T = textEv e := ⟨_, rfl⟩
  rw [← hT] at HT ⊢
  by_cases hk : e.kind < 1 ∨ 7 < e.kind
  · have HF := Lib.hid (show T = [] by
      rw [hT]
      unfold textEv
      rw [if_neg]
      intro hw
      obtain ⟨_, _, h⟩ := (wellEv_iff e).1 hw
      omega)
    clear hT HT Hok
    obtain ⟨kind, node, arg, ⟨m0, m1, m2, m3, m4⟩⟩ := e
    dsimp only at hk
    have HB := Lib.hid (show Below w.heap.size w (w.alloc (.cells #[I kind, I node, I arg, I m0, I m1, I m2, I m3, I m4] 49)) from (Below.refl _ _).alloc (Nat.le_refl _) _)
    unfold eva
    dsimp only
    by_cases h1 : kind < 1
    · clear hk
      go_enter Tryz.func67, Tryz.ntmps67
      go_wp2_with fail
      go_ret
      exact ⟨by rw [HF.out]; rfl, HB.out⟩
    · have h7 : 7 < kind := by omega
      clear hk
      go_enter Tryz.func67, Tryz.ntmps67
      go_wp2_with fail
      go_ret
      exact ⟨by rw [HF.out]; rfl, HB.out⟩
  · clear hT
    obtain ⟨kind, node, arg, ⟨m0, m1, m2, m3, m4⟩⟩ := e
    dsimp only at hk
    obtain ⟨k, rfl⟩ : ∃ k : Nat, kind = k := ⟨kind.toNat, by omega⟩
    have hk1 : 1 ≤ k := by omega
    have hk8 : k < 8 := by omega
    clear hk
    have hkI : (0 : Int) ≤ k := by omega
    have hkI8 : (k : Int) < 8 := by omega
    have hkI1 : ¬ (k : Int) < 1 := by omega
    have hkI7 : ¬ (7 : Int) < k := by omega
    obtain ⟨word, hword⟩ : ∃ x, x = evWords.getD k [] := ⟨_, rfl⟩
    have hwl : word.length ≤ 7 := by rw [hword]; exact evWord_len k
    have hnd := Hok.out node (by simp [Ev.ints])
    have hdl := itoa_len node hnd
    have Hit := Lib.hid (fun X (hX : Gl X) => itoaC node hnd X hX)
    have Hwd := Lib.hid hword
    clear hword hnd
    generalize hdn : Lib.itoa node = dn at hdl Hit
    have Hdn := Lib.hid hdn
    clear hdn
    have hR0 := Lib.hid (show Blk (w.alloc (.cells #[I k, I node, I arg, I m0, I m1, I m2, I m3, I m4] 49)) w.heap.size #[I k, I node, I arg, I m0, I m1, I m2, I m3, I m4] from Blk.new w _ _)
    unfold eva
    unfold sv at Hit
    dsimp only
    go_enter Tryz.func67, Tryz.ntmps67
    go_upto_region 4 with fail
    have E0 : Array Value := #[]
    obtain ⟨W, hW⟩ : ∃ W, W = (w.alloc (.cells #[I k, I node, I arg, I m0, I m1, I m2, I m3, I m4] 49)).alloc (.cells #[I m0, I m1, I m2, I m3, I m4] 47) := ⟨_, rfl⟩
    have hev : Blk W w.heap.size #[I k, I node, I arg, I m0, I m1, I m2, I m3, I m4] ∧ Blk W (w.heap.size + 1) #[I m0, I m1, I m2, I m3, I m4] := by
      rw [hW]
      refine ⟨hR0.out.alloc _, ?_⟩
      rw [← World.size_alloc w (.cells #[I k, I node, I arg, I m0, I m1, I m2, I m3, I m4] 49)]
      exact Blk.new _ _ _
    have hbb : Below w.heap.size w W := by rw [hW]; exact ((Below.refl _ _).alloc (Nat.le_refl _) _).alloc (by simp) _
    rw [← hW]
    clear hW hR0 E0
    have hl1 : ¬ 9223372036854775807 < word.length + 1 := by omega
    have hl2 : ¬ 9223372036854775807 < word.length + 1 + dn.length := by omega
    go_cut [4] from 17 to 27 (fun t wd => t = .string ⟨(word ++ [32] ++ dn).toArray⟩ ∧ Blk wd w.heap.size #[I k, I node, I arg, I m0, I m1, I m2, I m3, I m4] ∧ Blk wd (w.heap.size + 1) #[I m0, I m1, I m2, I m3, I m4] ∧ Hid (Below w.heap.size w wd))
    case first =>
      have hev2 : Blk W.drew w.heap.size #[I k, I node, I arg, I m0, I m1, I m2, I m3, I m4] ∧ Blk W.drew (w.heap.size + 1) #[I m0, I m1, I m2, I m3, I m4] := ⟨hev.1.drew, hev.2.drew⟩
      have hbb2 := hbb.drew
      clear hev hbb
      refine wp_region_T 9 (.take 1 (.take 2 (.take 6 (.take 7 (.move 0 (.take 3 (.fork 4 8 (.take 5 (.move 8 .nil)) (.move 4 (.take 5 .nil))))))))) (fun X => (∀ j, X.cell? ⟨w.heap.size, j, none⟩ = (#[I k, I node, I arg, I m0, I m1, I m2, I m3, I m4] : Array Value)[j]?)) (by kernel_rfl) rfl (by kernel_rfl) hev2.1.cell ?_
      iterate 4 (refine wpT_take rfl ?_ (by rfl) ?_ ?_; rotate_left; (intro w hSw; (try dsimp only at hSw); go_simp; try with_reducible rfl); (try simp only [Act.put, List.setIfInBounds_toArray, List.set_cons_zero, List.set_cons_succ]))
      generalize W.drew = w2 at hev2 hbb2 ⊢
      refine wpT_move rfl (fun K hK => ?_)
      go_simp
      go_at_call 85
      refine (evWordsC _).mono ?_
      rintro e w3 ⟨rfl, hrow, D3, _⟩
      have hev3 : Blk w3 w.heap.size #[I k, I node, I arg, I m0, I m1, I m2, I m3, I m4] ∧ Blk w3 (w.heap.size + 1) #[I m0, I m1, I m2, I m3, I m4] := ⟨hev2.1.kept D3 hev2.1.lt, hev2.2.kept D3 hev2.2.lt⟩
      have hbb3 := hbb2.trans (D3.mono hbb2.size)
      have hc : w3.cell? ⟨w2.heap.size, k, none⟩ = some (sv word) := by
        refine StrRow.cell hrow ?_
        rw [Hwd.out]
        have : k < evWords.length := hk8
        simp [List.getD, this]
      unfold sv at hc
      refine hK.out _ _ hev3.1.cell ?_
      clear hK K hev2 hbb2 D3 hrow
      generalize w2.heap.size = B at hc ⊢
      (try simp only [Act.put, List.setIfInBounds_toArray, List.set_cons_zero, List.set_cons_succ])
      (refine wpT_take rfl ?_ (by rfl) ?_ ?_; rotate_left; (intro w hSw; (try dsimp only at hSw); go_simp; try with_reducible rfl); (try simp only [Act.put, List.setIfInBounds_toArray, List.set_cons_zero, List.set_cons_succ]))
      refine wpT_fork ?_ ?_
      · refine wpT_move rfl (fun K hK => ?_)
        go_simp
        refine hK.out _ _ hev3.1.cell ?_
        clear hK K
        (try simp only [Act.put, List.setIfInBounds_toArray, List.set_cons_zero, List.set_cons_succ])
        (refine wpT_take rfl ?_ (by rfl) ?_ ?_; rotate_left; (intro w hSw; (try dsimp only at hSw); go_simp; try with_reducible rfl); (try simp only [Act.put, List.setIfInBounds_toArray, List.set_cons_zero, List.set_cons_succ]))
        refine wpT_move rfl (fun K hK => ?_)
        go_simp
        go_at_call 46
        refine (Hit.out _ (Hg.out.below hbb3)).mono ?_
        rintro e w4 ⟨rfl, D4⟩
        have hev4 : Blk w4 w.heap.size #[I k, I node, I arg, I m0, I m1, I m2, I m3, I m4] ∧ Blk w4 (w.heap.size + 1) #[I m0, I m1, I m2, I m3, I m4] := ⟨hev3.1.kept D4 hev3.1.lt, hev3.2.kept D4 hev3.2.lt⟩
        have hbb4 := hbb3.trans (D4.mono hbb3.size)
        refine hK.out _ _ hev4.1.cell ?_
        clear hK K
        (try simp only [Act.put, List.setIfInBounds_toArray, List.set_cons_zero, List.set_cons_succ])
        refine wpT_nil ?_
        go_wp2_with fail
        refine NoPanic.normal ?_
        go_wp2_with fail
        go_meet
        exact ⟨congrArg Value.string ((congrArg (· ++ _) (ba_app word [32])).trans (ba_app (word ++ [32]) dn)), hev4.1, hev4.2, Lib.hid hbb4⟩
      · refine wpT_move rfl (fun K hK => ?_)
        go_simp
        go_at_call 46
        refine (Hit.out _ (Hg.out.below hbb3)).mono ?_
        rintro e w4 ⟨rfl, D4⟩
        have hev4 : Blk w4 w.heap.size #[I k, I node, I arg, I m0, I m1, I m2, I m3, I m4] ∧ Blk w4 (w.heap.size + 1) #[I m0, I m1, I m2, I m3, I m4] := ⟨hev3.1.kept D4 hev3.1.lt, hev3.2.kept D4 hev3.2.lt⟩
        have hbb4 := hbb3.trans (D4.mono hbb3.size)
        have hc4 : w4.cell? ⟨B, k, none⟩ = some (.string ⟨word.toArray⟩) := (D4.cell (p := ⟨B, k, none⟩) (by simpa using World.block_lt_of_cell? _ _ hc)).trans hc
        refine hK.out _ _ hev4.1.cell ?_
        clear hK K hc
        (try simp only [Act.put, List.setIfInBounds_toArray, List.set_cons_zero, List.set_cons_succ])
        refine wpT_move rfl (fun K hK => ?_)
        go_simp
        refine hK.out _ _ hev4.1.cell ?_
        clear hK K
        (try simp only [Act.put, List.setIfInBounds_toArray, List.set_cons_zero, List.set_cons_succ])
        (refine wpT_take rfl ?_ (by rfl) ?_ ?_; rotate_left; (intro w hSw; (try dsimp only at hSw); go_simp; try with_reducible rfl); (try simp only [Act.put, List.setIfInBounds_toArray, List.set_cons_zero, List.set_cons_succ]))
        refine wpT_nil ?_
        go_wp2_with fail
        refine NoPanic.normal ?_
        go_wp2_with fail
        go_meet
        exact ⟨congrArg Value.string ((congrArg (· ++ _) (ba_app word [32])).trans (ba_app (word ++ [32]) dn)), hev4.1, hev4.2, Lib.hid hbb4⟩
    case rest =>
      obtain ⟨rfl, hev, hmb, HB⟩ := hcut
      have Hev := Lib.hid hev
      have Hmb := Lib.hid hmb
      have c0 := hev.cell 0; have c2 := hev.cell 2
      have n0 := hmb.cell 0; have n1 := hmb.cell 1; have n2 := hmb.cell 2; have n3 := hmb.cell 3; have n4 := hmb.cell 4
      clear hev hmb
      obtain ⟨x, hx⟩ : ∃ x, x = evWrite ⟨k, node, arg, ⟨m0, m1, m2, m3, m4⟩⟩ := ⟨_, rfl⟩
      have HX := Lib.hid (show x = (if k = 3 ∨ k = 5 ∨ k = 6 then (word ++ [32] ++ dn) ++ ([32] ++ joinC 46 ([m0, m1, m2, m3, m4].map Lib.itoa)) else if k = 7 then word ++ [32] ++ dn else (word ++ [32] ++ dn) ++ ([32] ++ Lib.itoa arg)) by
        rw [hx]
        unfold evWrite
        dsimp only
        rw [Int.toNat_natCast, ← Hwd.out, Hdn.out]
        have e1 : ((k : Int) = 3 ∨ (k : Int) = 5 ∨ (k : Int) = 6) = (k = 3 ∨ k = 5 ∨ k = 6) := by apply propext; omega
        have e2 : ((k : Int) = 7) = (k = 7) := by apply propext; omega
        simp only [e1, e2]
        rfl)
      rw [← hx] at HT
      clear hx
      have hhl : (word ++ [32] ++ dn).length ≤ 30 := by simp; omega
      clear hwl hdl Hit Hwd Hdn hl1 hl2
      generalize word ++ [32] ++ dn = hd at HX hhl ⊢
      go_upto_block 0 with fail
      go_cut [4] from 17 (fun t wd => t = .string ⟨x.toArray⟩ ∧ x.length ≤ 1000 ∧ Hid (Blk wd w.heap.size #[I k, I node, I arg, I m0, I m1, I m2, I m3, I m4]) ∧ Hid (Below w.heap.size w wd))
      case first =>
        have HG := Lib.hid (Hg.out.below HB.out)
        have hl1 : ¬ 9223372036854775807 < hd.length + 1 := by omega
        by_cases hA : k = 3 ∨ k = 5 ∨ k = 6
        · have hX := HX.out
          rw [if_pos hA] at hX
          have Hds := Lib.hid (fun v X (hX : Gl X) (hv : IntSl X v [m0, m1, m2, m3, m4]) => dottedC [m0, m1, m2, m3, m4] (fun n hn => Hok.out n (by simp [Ev.ints] at hn ⊢; omega)) (by simp) v X hX hv)
          have hjl : (joinC 46 ([m0, m1, m2, m3, m4].map Lib.itoa)).length ≤ 21 * 5 := joinC_len 46 20 _ (fun a ha => by
            obtain ⟨n, hn, rfl⟩ := List.mem_map.1 ha
            exact itoa_len n (Hok.out n (by simp [Ev.ints] at hn ⊢; omega)))
          generalize joinC 46 ([m0, m1, m2, m3, m4].map Lib.itoa) = j at hX Hds hjl
          subst hX
          unfold sv at Hds
          have hl3 : ¬ 9223372036854775807 < 1 + j.length := by omega
          have hl4 : ¬ 9223372036854775807 < hd.length + (1 + j.length) := by omega
          have hwz := HB.out.size
          have hsl := Lib.hid (show IntSl (wc.alloc (.cells #[I m0, I m1, I m2, I m3, I m4] 3)) (.slice (some ⟨wc.heap.size, 0, none⟩) 5 5) [m0, m1, m2, m3, m4] from
            Flat.of_cells rfl (by simp) (fun j u hu => by rw [Nat.zero_add, (Blk.new wc #[I m0, I m1, I m2, I m3, I m4] 3).cell j]; simpa [iv] using hu))
          have HGa := Lib.hid (HG.out.alloc (.cells #[I m0, I m1, I m2, I m3, I m4] 3))
          have hDa := Lib.hid (show Below wc.heap.size wc (wc.alloc (.cells #[I m0, I m1, I m2, I m3, I m4] 3)) from (Below.refl _ _).alloc (Nat.le_refl _) _)
          rcases hA with rfl | rfl | rfl
          all_goals (go_wp2_with (go_at_call 105; refine (Hds.out _ _ HGa.out hsl.out).mono ?_; rintro e w5 ⟨rfl, D5⟩; replace D5 := Lib.hid D5))
          all_goals go_meet
          all_goals exact ⟨congrArg Value.string ((congrArg (_ ++ ·) (ba_app [32] j)).trans (ba_app hd ([32] ++ j))), by simp; omega, Lib.hid (Hev.out.kept (hDa.out.trans (D5.out.mono hDa.out.size)) Hev.out.lt), Lib.hid (HB.out.trans ((hDa.out.trans (D5.out.mono hDa.out.size)).mono HB.out.size))⟩
        · by_cases h7 : k = 7
          · subst h7
            have hX := HX.out
            rw [if_neg (by omega), if_pos rfl] at hX
            subst hX
            clear hA
            go_wp2_with fail
            go_meet
            exact ⟨rfl, by omega, Hev, HB⟩
          · have hX := HX.out
            rw [if_neg hA, if_neg h7] at hX
            have hai := Hok.out arg (by simp [Ev.ints])
            have Hia := Lib.hid (itoaC arg hai _ HG.out)
            have hal := itoa_len arg hai
            generalize Lib.itoa arg = t at hX Hia hal
            subst hX
            unfold sv at Hia
            have hl3 : ¬ 9223372036854775807 < 1 + t.length := by omega
            have hl4 : ¬ 9223372036854775807 < hd.length + (1 + t.length) := by omega
            have hk3 : k = 1 ∨ k = 2 ∨ k = 4 := by omega
            have hwz := HB.out.size
            clear hA h7
            rcases hk3 with rfl | rfl | rfl
            all_goals (go_wp2_with (go_at_call 46; refine Hia.out.mono ?_; rintro e w5 ⟨rfl, D5⟩; replace D5 := Lib.hid D5))
            all_goals go_meet
            all_goals exact ⟨congrArg Value.string ((congrArg (_ ++ ·) (ba_app [32] t)).trans (ba_app hd ([32] ++ t))), by simp; omega, Lib.hid (Hev.out.kept D5.out Hev.out.lt), Lib.hid (HB.out.trans (D5.out.mono HB.out.size))⟩
      case rest =>
        obtain ⟨rfl, hxl, Hev2, HB2⟩ := hcut
        have Hp := Lib.hid (parseEvC x _ (Hg.out.below HB2.out) (by omega))
        unfold EvR at Hp
        cases hpe : parseEv x with
        | none =>
          rw [hpe] at Hp
          have HF := Lib.hid (show T = [] by rw [← HT.out, if_neg (by rw [hpe]; simp)])
          clear HT HX hpe
          unfold sv at Hp
          go_wp2_with (go_at_call 47; refine Hp.out.mono ?_; rintro e w5 ⟨rfl, D5⟩; unfold eva; replace D5 := Lib.hid D5)
          go_ret
          exact ⟨by rw [HF.out]; rfl, (HB2.out.trans (D5.out.mono HB2.out.size)).alloc (by have := HB2.out.size; have := D5.out.size; omega) _⟩
        | some e2 =>
          rw [hpe] at Hp
          have HF := Lib.hid (show T = if e2 = ⟨k, node, arg, ⟨m0, m1, m2, m3, m4⟩⟩ then x else [] by rw [← HT.out, hpe]; simp)
          clear HT HX hpe
          obtain ⟨a0, a1, a2, ⟨a3, a4, a5, a6, a7⟩⟩ := e2
          have hz := fun W => run_neq_Event a0 a1 a2 a3 a4 a5 a6 a7 k node arg m0 m1 m2 m3 m4 W
          obtain ⟨ee, hee⟩ : ∃ ee, ee = eqL [a0, a1, a2, a3, a4, a5, a6, a7] [(k : Int), node, arg, m0, m1, m2, m3, m4] := ⟨_, rfl⟩
          rw [← hee] at hz
          have HE := Lib.hid (show T = if ee = true then x else [] by
            rw [HF.out, hee]
            by_cases h : [a0, a1, a2, a3, a4, a5, a6, a7] = [(k : Int), node, arg, m0, m1, m2, m3, m4]
            · rw [eqL_true h, if_pos rfl, if_pos (by simp only [List.cons.injEq] at h; obtain ⟨e1, e2, e3, e4, e5, e6, e7, e8, _⟩ := h; rw [e1, e2, e3, e4, e5, e6, e7, e8])]
            · rw [eqL_false h, if_neg (fun e => h (by injection e with e1 e2 e3 e4; injection e4 with e4 e5 e6 e7 e8; rw [e1, e2, e3, e4, e5, e6, e7, e8]))]; rfl)
          clear hee HF
          unfold sv at Hp
          go_upto_region 13 with (go_at_call 47; refine Hp.out.mono ?_; rintro e w5 ⟨rfl, D5⟩; unfold eva; replace D5 := Lib.hid D5)
          have h5 := (Hev2.out.kept D5.out Hev2.out.lt).alloc (.cells #[I a0, I a1, I a2, I a3, I a4, I a5, I a6, I a7] 49)
          have h6 := Blk.new w5 #[I a0, I a1, I a2, I a3, I a4, I a5, I a6, I a7] 49
          have hBB := Lib.hid ((HB2.out.trans (D5.out.mono HB2.out.size)).alloc (by have := HB2.out.size; have := D5.out.size; omega) (.cells #[I a0, I a1, I a2, I a3, I a4, I a5, I a6, I a7] 49))
          obtain ⟨V, hV⟩ : ∃ V, V = w5.alloc (.cells #[I a0, I a1, I a2, I a3, I a4, I a5, I a6, I a7] 49) := ⟨_, rfl⟩
          obtain ⟨G, hG⟩ : ∃ G, G = w5.heap.size := ⟨_, rfl⟩
          rw [← hV] at h5 h6 hBB ⊢
          rw [← hG] at h6 ⊢
          clear hV hG c0 c2 n0 n1 n2 n3 n4
          have x0 := h5.cell 0; have x1 := h5.cell 1; have x2 := h5.cell 2; have x3 := h5.cell 3; have x4 := h5.cell 4; have x5 := h5.cell 5; have x6 := h5.cell 6; have x7 := h5.cell 7
          have y0 := h6.cell 0; have y1 := h6.cell 1; have y2 := h6.cell 2; have y3 := h6.cell 3; have y4 := h6.cell 4; have y5 := h6.cell 5; have y6 := h6.cell 6; have y7 := h6.cell 7
          cases ee with
          | true =>
            go_wp2_with fail
            go_ret
            exact ⟨by rw [HE.out]; rfl, hBB.out⟩
          | false =>
            go_wp2_with fail
            go_ret
            exact ⟨by rw [HE.out]; rfl, hBB.out⟩

end Go.Proofs.YtljmonfobefiiaaGreatDoor

/- names.Question: what it computes. -/
namespace Go.Proofs.YtljmonfobefiiaaGreatDoor
open Go.RowKit

/-- The text that names.Question writes before it reads it back. -/
def qnWrite (q : Qn) : Str := quWords.getD q.kind.toNat [] ++ [32] ++ joinC 46 ([q.node, q.handler, q.count].map Lib.itoa) ++ [32] ++ Lib.itoa q.index
theorem qnWrite_ok {q : Qn} (h : QnOk q) : qnWrite q = textQn q := by
  unfold textQn
  rw [if_pos ((wellQn_iff q).2 h)]
  unfold qnWrite rawQn
  obtain ⟨hk, ⟨ha, hb, hc⟩, hi⟩ := h
  rw [itoa_dec hi.1, dotsS_itoa _ (by intro x hx; simp at hx; omega)]
theorem qnWrite_back (q : Qn) : (if parseQn (qnWrite q) = some q then qnWrite q else []) = textQn q := by
  by_cases h : QnOk q
  · obtain ⟨s, hs⟩ := QnForm.of_ok h
    have h1 := qnWrite_ok h
    have h2 := hs.parse
    rw [← hs.text, ← h1] at h2
    rw [if_pos h2, h1]
  · have h1 : textQn q = [] := by
      unfold textQn
      rw [if_neg (fun hw => h ((wellQn_iff q).1 hw))]
    rw [h1]
    split
    · rename_i hp
      have ht := (parseQn_form hp).text
      rw [h1] at ht
      exact ht.symm
    · rfl

end Go.Proofs.YtljmonfobefiiaaGreatDoor
